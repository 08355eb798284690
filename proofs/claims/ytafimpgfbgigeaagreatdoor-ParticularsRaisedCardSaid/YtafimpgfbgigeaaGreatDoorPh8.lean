/- Part 9: lemmas for the particulars laws -/
import Derived.Test.YtafimpgfbgigeaaGreatDoorPh6
set_option linter.all false
namespace Go.Num
structure Est (U V W T P:Int):Prop where
 p:0<P
 v1:W*P<=V
 v2:V<(W+1)*P
 u1:T*P<=U
 u2:U<(T+1)*P
theorem Est.low {U V W T P q:Int}(h:Est U V W T P)(hq:0<=q)(hU:q*V<=U):q*W<=T:=by
 have a:q*(W*P)<=q*V:=Int.mul_le_mul_of_nonneg_left h.v1 hq
 rw[<-Int.mul_assoc]at a;have b:(q*W)*P<(T+1)*P:=by have:=h.u2;omega
 have:=Int.lt_of_mul_lt_mul_right b (by have:=h.p;omega)
 omega
theorem Est.high {U V W T P g:Int}(h:Est U V W T P)(hg:0<=g)(hgt:g*W<=T)(hgp:g*P<=V):(g - 1)*V<=U:=by
 have a:g*V<=g*((W+1)*P):=Int.mul_le_mul_of_nonneg_left (by have:=h.v2;omega) hg
 have b:(g*W)*P<=T*P:=Int.mul_le_mul_of_nonneg_right hgt (by have:=h.p;omega)
 have e1:g*((W+1)*P)=(g*W)*P+g*P:=by grind
 have e2:(g - 1)*V=g*V - V:=by grind
 have:=h.u1
 omega
structure Gs (v1 v2 top u2 q g rest:Int):Prop where
 e:g*v1+rest=top
 r:0<=rest
 q:q<=g
theorem aW6 {U V v1 v2 top u2 P q:Int}(h:Est U V (v1*1000000000+v2) (top*1000000000+u2) P)(hv1:0<v1)(hv2:0<=v2)(hu2:0<=u2/\u2<1000000000)(ht:0<=top)(hq:0<=q)(hU:q*V<=U):
  Gs v1 v2 top u2 q (top/v1) (top%v1):=by
 refine⟨by have:=Int.emod_add_mul_ediv top v1;rw[Int.mul_comm];omega,Int.emod_nonneg _ zW,?_⟩;have h1:=h.low hq hU;have h2:q*(v1*1000000000+v2)=(q*v1)*1000000000+q*v2:=by grind
 have h3:0<=q*v2:=Int.mul_nonneg hq hv2
 have h4:q*v1<=top:=zW
 exact(Int.le_ediv_iff_mul_le hv1).2 h4
theorem Gs.step {U V v1 v2 top u2 P q g rest : Int} (h : Est U V (v1 * 1000000000 + v2) (top * 1000000000 + u2) P) (hs : Gs v1 v2 top u2 q g rest) (hv1 : 0 < v1) (hU : q * V <= U) (hq : 0 <= q) (hqB : q < 1000000000)
    (hc : 1000000000 <= g \/ rest * 1000000000 + u2 < g * v2) : Gs v1 v2 top u2 q (g - 1) (rest + v1) := by
  refine ⟨by have := hs.e; have e : (g - 1) * v1 = g * v1 - v1 := by grind
             omega, by have := hs.r; omega, ?_⟩
  rcases hc with hc | hc
  · omega
  · apply Classical.byContradiction
    intro hlt;have hgq : g = q := by have := hs.q; omega
    subst hgq;have h1 := h.low hq hU
    have h2 : g * (v1 * 1000000000 + v2) = (g * v1) * 1000000000 + g * v2 := by grind
    have := hs.e
    omega
theorem Gs.done {U V v1 v2 top u2 P q g rest:Int}(h:Est U V (v1*1000000000+v2) (top*1000000000+u2) P)(hs:Gs v1 v2 top u2 q g rest)(hv1:500000000<=v1)(hv2:0<=v2/\v2<1000000000)(hu2:0<=u2)(hV:0<V)(hUV:U<1000000000*V)(hUq:U<(q+1)*V)(hq:0<=q)
  (hc:(g<1000000000/\g*v2<=rest*1000000000+u2)\/1000000000<=rest):q<=g/\g<=q+1/\g<1000000000:=by
 have hp:=h.p
 have hg0:0<=g:=by have:=hs.q;omega
 have hgB:g<1000000000:=by
  rcases hc with hc | hc
  ·exact hc.1
  ·apply Classical.byContradiction;intro hge;have h1:top*1000000000*P<=U:=by
    have:top*1000000000*P<=(top*1000000000+u2)*P:=Int.mul_le_mul_of_nonneg_right zW zW
    have:=h.u1;omega
   have h2:V<(v1+1)*1000000000*P:=by
    have:(v1*1000000000+v2+1)*P<=(v1+1)*1000000000*P:=Int.mul_le_mul_of_nonneg_right zW zW
    have:=h.v2;omega
   have h3:top*1000000000*P<((v1+1)*1000000000*1000000000)*P:=by
    have e:((v1+1)*1000000000*1000000000)*P=1000000000*((v1+1)*1000000000*P):=by grind
    rw[e];omega
   have h4:=Int.lt_of_mul_lt_mul_right h3 zW
   have h5:1000000000*v1<=g*v1:=Int.mul_le_mul_of_nonneg_right zW zW
   have:=hs.e
   omega
 have hgv:g*v2<=rest*1000000000+u2:=by
  rcases hc with hc | hc
  ·exact hc.2
  ·have:g*v2<=1000000000*1000000000:=Int.mul_le_mul zW zW hv2.1 zW
   omega
 have hgt:g*(v1*1000000000+v2)<=top*1000000000+u2:=by
  have e:g*(v1*1000000000+v2)=(g*v1)*1000000000+g*v2:=by grind
  have:=hs.e
  omega
 have hgp:g*P<=V:=by
  have h1:g*P<=(v1*1000000000+v2)*P:=Int.mul_le_mul_of_nonneg_right zW zW
  have:=h.v1;omega
 have hh:=h.high hg0 hgt hgp
 refine⟨hs.q,?_,hgB⟩;apply Classical.byContradiction;intro hlt;have h1:(q+1)*V<=(g - 1)*V:=Int.mul_le_mul_of_nonneg_right zW zW;omega
theorem iJ (u:List Int)(j i:Nat)(d:Int):((u.set (j+i) d).drop j).take i=(u.drop j).take i:=by
 apply List.ext_getElem?;intro t;rw[List.getElem?_take,List.getElem?_take];split
 ·rw[List.getElem?_drop,List.getElem?_drop,List.getElem?_set_ne zW]
 ·rfl
theorem getD_drop (u:List Int)(j i:Nat):(u.drop j).getD i 0=u.getD (j+i) 0:=by
 rw[List.getD_eq_getElem?_getD,List.getD_eq_getElem?_getD,List.getElem?_drop]
structure Sm (u0 u v:List Int)(j i:Nat)(g carry borrow:Int):Prop where
 wd:Wd u
 len:u.length=u0.length
 same:∀t,(t<j\/j+i<=t)->u.getD t 0=u0.getD t 0
 v:val ((u.drop j).take i)=val ((u0.drop j).take i) - g*val (v.take i)+1000000000^i*(carry+borrow)
 c:0<=carry/\carry<1000000000
 b:borrow=0\/borrow=1
theorem Sm.init {u v:List Int}(hu:Wd u)(j:Nat)(g:Int):Sm u u v j 0 g 0 0:=
 ⟨hu,rfl,λ_ _=>rfl,by simp[val],zW,.inl rfl⟩
theorem Sm.step {u0 u v:List Int}{j i:Nat}{g carry borrow p d:Int}(h:Sm u0 u v j i g carry borrow)(hv:Wd v)(hg:0<=g/\g<1000000000)(hi:j+i<u0.length)(hp:p=g*v.getD i 0+carry)(hd:d=u.getD (j+i) 0 - p%1000000000 - borrow):
  (0<=p/\p<=999999999999999999)/\(-1000000000<=d/\d<1000000000)/\(d<0->Sm u0 (u.set (j+i) (d+1000000000)) v j (i+1) g (p/1000000000) 1)/\(¬d<0->Sm u0 (u.set (j+i) d) v j (i+1) g (p/1000000000) 0):=by
 have h1:=bA hv i
 have h2:=bA h.wd (j+i)
 have hc:=h.c
 have hb:=h.b
 have hpb:0<=g*v.getD i 0/\g*v.getD i 0<=999999999*999999999:=⟨Int.mul_nonneg hg.1 h1.1,Int.mul_le_mul zW zW h1.1 zW⟩
 have hp1:0<=p/\p<=999999999*999999999+999999999:=zW
 have hlt:j+i<u.length:=by rw[h.len];exact hi
 have key:∀(d' b':Int),d'=d+1000000000*b'->0<=d'/\d'<1000000000->(b'=0\/b'=1)->Sm u0 (u.set (j+i) d') v j (i+1) g (p/1000000000) b':=by
  intro d' b' e1 e2 e3;refine⟨h.wd.set e2,by simp[h.len],λt ht=>?_,?_,zW,e3⟩
  ·rw[eJ _ zW];exact h.same t zW
  ·have t1:=bO (l:=(u.set (j+i) d').drop j) i
   rw[iJ,getD_drop,kJ _ hlt,h.v]at t1;have t2:=bO (l:=u0.drop j) i;rw[getD_drop,<-h.same (j+i) zW]at t2;have t3:=bO (l:=v) i;rw[t1,t2,t3,Int.pow_succ];have hdm:p%1000000000+1000000000*(p/1000000000)=p:=Int.emod_add_mul_ediv p 1000000000;generalize p/1000000000=y,p%1000000000=r,val (List.take i (List.drop j u0))=A,val (List.take i v)=C,v.getD i 0=a,u.getD (j+i) 0=b at *;grind
 refine⟨zW,zW,λbBn=>?_,λhge=>?_⟩
 ·exact key _ 1 zW zW (.inr rfl)
 ·exact key _ 0 zW zW (.inl rfl)
structure Ad (u0 u v:List Int)(j i:Nat)(up:Int):Prop where
 wd:Wd u
 len:u.length=u0.length
 same:∀t,(t<j\/j+i<=t)->u.getD t 0=u0.getD t 0
 v:val ((u.drop j).take i)+1000000000^i*up=val ((u0.drop j).take i)+val (v.take i)
 c:up=0\/up=1
theorem Ad.init {u v:List Int}(hu:Wd u)(j:Nat):Ad u u v j 0 0:=⟨hu,rfl,λ_ _=>rfl,by simp[val],.inl rfl⟩
theorem Ad.step {u0 u v:List Int}{j i:Nat}{up x:Int}(h:Ad u0 u v j i up)(hv:Wd v)(hi:j+i<u0.length)(hx:x=up+(u.getD (j+i) 0+v.getD i 0)):
  (0<=x/\x<=1999999999)/\Ad u0 (u.set (j+i) (x%1000000000)) v j (i+1) (x/1000000000):=by
 have h1:=bA hv i
 have h2:=bA h.wd (j+i)
 have hc:=h.c
 have hlt:j+i<u.length:=by rw[h.len];exact hi
 refine⟨zW,h.wd.set zW,by simp[h.len],λt ht=>?_,?_,zW⟩
 ·rw[eJ _ zW];exact h.same t zW
 ·have t1:=bO (l:=(u.set (j+i) (x%1000000000)).drop j) i
  rw[iJ,getD_drop,kJ _ hlt]at t1;have t2:=bO (l:=u0.drop j) i;rw[getD_drop,<-h.same (j+i) zW]at t2;have t3:=bO (l:=v) i;have hv0:=h.v;rw[t1,t2,t3,Int.pow_succ];have hdm:x%1000000000+1000000000*(x/1000000000)=x:=Int.emod_add_mul_ediv x 1000000000;generalize x/1000000000=y,x%1000000000=r,val (List.take i (List.drop j u))=A',val (List.take i (List.drop j u0))=A,val (List.take i v)=C,v.getD i 0=a,u.getD (j+i) 0=b at *;grind
theorem aQh {s last U V g q B:Int}(hs:0<=s/\s<B)(e:s+B*last=U - g*V)(hq:q*V<=U)(hq':U<(q+1)*V)(hV:V<=B)(hV0:0<V)(hg:q<=g)(hg':g<=q+1):(last=0/\g=q)\/(last=-1/\g=q+1):=by
 have h1:(q+1)*V=q*V+V:=by grind
 have hc:g=q\/g=q+1:=zW
 have hB:0<B:=zW
 rcases hc with hc | hc
 ·subst hc;left;refine⟨?_,rfl⟩;have h2:B*last<B*1:=zW;have h3:B*(-1)<B*last:=zW;have:=Int.lt_of_mul_lt_mul_left h2 zW;have:=Int.lt_of_mul_lt_mul_left h3 zW;omega
 ·subst hc;right;refine⟨?_,rfl⟩;have h2:B*last<B*0:=zW;have h3:B*(-2)<B*last:=zW;have:=Int.lt_of_mul_lt_mul_left h2 zW;have:=Int.lt_of_mul_lt_mul_left h3 zW;omega
theorem qN {u u':List Int}(hl:u'.length=u.length){t:Nat}(h:u'.getD t 0=u.getD t 0):u'[t]?=u[t]?:=by
 rcases Nat.lt_or_ge t u.length with hlt | hge
 ·rw[List.getElem?_eq_getElem hlt,List.getElem?_eq_getElem zW];rw[List.getD_eq_getElem?_getD,List.getD_eq_getElem?_getD,List.getElem?_eq_getElem hlt,List.getElem?_eq_getElem zW]at h;simpa using h
 ·rw[List.getElem?_eq_none hge,List.getElem?_eq_none zW]
theorem aBj {u u':List Int}(hl:u'.length=u.length){j:Nat}(h:∀t,t<j->u'.getD t 0=u.getD t 0):u'.take j=u.take j:=by
 apply List.ext_getElem?;intro t;rw[List.getElem?_take,List.getElem?_take];split
 ·rename_i ht;exact qN hl (h t ht)
 ·rfl
theorem aBf {u u':List Int}(hl:u'.length=u.length){j:Nat}(h:∀t,j<=t->u'.getD t 0=u.getD t 0):u'.drop j=u.drop j:=by
 apply List.ext_getElem?;intro t;rw[List.getElem?_drop,List.getElem?_drop];exact qN hl (h _ zW)
structure Kn (U0 V:Int)(k:Nat)(j:Nat)(u qs:List Int):Prop where
 wu:Wd u
 wq:Wd qs
 len:u.length=qs.length+k
 tot:val u+V*(1000000000^j*val (qs.drop j))=U0
 rem:val (u.drop j)<V
theorem Kn.seg {U0 V:Int}{k j:Nat}{u qs:List Int}(h:Kn U0 V k (j+1) u qs)(hV:V<=1000000000^k)(hj:j<qs.length):
  val (u.drop (j+k+1))=0/\val (u.drop j)=val ((u.drop j).take k)+1000000000^k*u.getD (j+k) 0/\val (u.drop j)<1000000000*V/\0<=val (u.drop j):=by
 have hlt:j<u.length:=by have:=h.len;omega
 have e1:u[j]?=some (u.getD j 0):=by rw[List.getD_eq_getElem?_getD,List.getElem?_eq_getElem hlt];rfl
 have h1:=bA h.wu j
 have h2:val (u.drop j)<1000000000*V:=by rw[oX e1];have:=h.rem;omega
 have h3:=cL (h.wu.drop j)
 have hlen:k+1<=(u.drop j).length:=by rw[List.length_drop,h.len];omega
 have e2:=kN (l:=u.drop j) (q:=k+1) hlen
 rw[List.drop_drop,bO,getD_drop,show j+(k+1)=j+k+1 from zW]at e2;have h4:=cL (h.wu.drop (j+k+1));have h5:=cL ((h.wu.drop j).take k);have h6:=bA h.wu (j+k);have hp:(0:Int)<1000000000^k:=Int.pow_pos zW;have h0:val (u.drop (j+k+1))=0:=by
  apply Classical.byContradiction;intro hne;have h7:(1000000000:Int)^(k+1)*1<=1000000000^(k+1)*val (u.drop (j+k+1)):=Int.mul_le_mul_of_nonneg_left zW (by rw[Int.pow_succ];omega);have h8:0<=1000000000^k*u.getD (j+k) 0:=Int.mul_nonneg zW h6.1;rw[Int.pow_succ]at h7 e2;omega
 rw[h0]at e2;exact⟨h0,zW,h2,h3⟩
theorem Kn.step {U0 V:Int}{k j:Nat}{u u' qs:List Int}{q:Int}(h:Kn U0 V k (j+1) u qs)(hV:V<=1000000000^k)(hj:j<qs.length)
  (hq:0<=q/\q<1000000000) (hqU:q*V<=val (u.drop j)) (hUq:val (u.drop j)<(q+1)*V) (wu:Wd u') (hl:u'.length=u.length) (mT:∀t,t<j->u'.getD t 0=u.getD t 0) (bEt:∀t,j+k<t->u'.getD t 0=u.getD t 0)
  (aT9:u'.getD (j+k) 0=0) (pB:val ((u'.drop j).take k)=val (u.drop j) - q*V):Kn U0 V k j u' (qs.set j q):=by
 obtain⟨h0,h1,h2,h3⟩:=h.seg hV hj;have hlt:j<u.length:=by have:=h.len;omega
 have lQ:k+1<=(u'.drop j).length:=by rw[List.length_drop,hl,h.len];omega
 have e2:=kN (l:=u'.drop j) (q:=k+1) lQ
 rw[List.drop_drop,bO,getD_drop,show j+(k+1)=j+k+1 from zW,aT9,aBf (j:=j+k+1) hl (λt ht=>bEt t zW),h0,pB]at e2;have e3:val (u'.drop j)=val (u.drop j) - q*V:=zW;have e4:=kN (l:=u') (q:=j) zW;have e5:=kN (l:=u) (q:=j) zW;rw[aBj hl mT,e3]at e4;have e6:(qs.set j q)[j]?=some q:=by simp[hj]
 have e7:val ((qs.set j q).drop j)=q+1000000000*val (qs.drop (j+1)):=by rw[oX e6,List.drop_set_of_lt zW]
 have ex:(q+1)*V=q*V+V:=by grind
 refine⟨wu,h.wq.set hq,by rw[hl,h.len];simp,?_,by rw[e3];omega⟩;have ht:=h.tot;rw[e7,e4,<-ht,e5,Int.pow_succ];grind
theorem Kn.done {U0 V:Int}{k:Nat}{u qs:List Int}(h:Kn U0 V k 0 u qs)(hV:0<V):val qs=U0/V/\val u=U0%V:=by
 have ht:=h.tot
 have hr:=h.rem
 rw[List.drop_zero]at ht hr;have h0:=cL h.wu;have e:U0=val u+V*val qs:=by rw[<-ht];simp
 constructor
 ·rw[e,Int.add_mul_ediv_left _ _ zW,Int.ediv_eq_zero_of_lt h0 hr];omega
 ·rw[e,Int.add_mul_emod_self_left,Int.emod_eq_of_lt h0 hr]
theorem aFw {t f:Int}(ht:1<=t/\t<1000000000)(hf:f=1000000000/(t+1)):1<=f/\f<1000000000/\f*(t+1)<=1000000000/\500000000<=f*t:=by
 have hp:(0:Int)<t+1:=zW
 have h1:1<=f:=by rw[hf];exact(Int.le_ediv_iff_mul_le hp).2 zW
 have h2:f*(t+1)<=1000000000:=by rw[hf];exact Int.ediv_mul_le _ zW
 have h3:f*(t+1)=f*t+f:=by grind
 have h4:1000000000<(f+1)*(t+1):=by rw[hf];exact Int.lt_ediv_add_one_mul_self _ hp
 have h5:(f+1)*(t+1)=f*t+f+t+1:=by grind
 have h6:f*1<=f*t:=Int.mul_le_mul_of_nonneg_left ht.1 zW
 refine⟨h1,zW,h2,?_⟩;have h7:0<=(f - 1)*(t - 1):=Int.mul_nonneg zW zW;have h8:(f - 1)*(t - 1)=f*t - f - t+1:=by grind
 omega
theorem yW {m k:Nat}(hk:(aC m).length=k+1):(m:Int)=val ((aC m).take k)+1000000000^k*(aC m).getD k 0/\0<=val ((aC m).take k)/\val ((aC m).take k)<1000000000^k:=by
 have h1:=bO (l:=aC m) k
 rw[List.take_of_length_le zW,cS]at h1;have h2:=kG ((bG m).take k);rw[List.length_take,hk,Nat.min_eq_left zW]at h2;exact⟨h1,cL ((bG m).take k),h2⟩
theorem yV {m k:Nat}(hk:(aC m).length=k+1):1<=(aC m).getD k 0:=by
 obtain⟨h1,h2,h3⟩:=yW hk;have h4:=bA (bG m) k;apply Classical.byContradiction;intro hne;have h0:(aC m).getD k 0=0:=zW;rw[h0,Int.mul_zero,Int.add_zero]at h1;have h5:((1000000000^k:Nat):Int)=(1000000000:Int)^k:=zA;have:=bP (n:=m) (k:=k) zW;omega
theorem aXn {m k:Nat}{f:Nat}(hk:(aC m).length=k+1)(hf:(f:Int)=1000000000/((aC m).getD k 0+1)):
  (aC (m*f)).length=k+1/\500000000<=(aC (m*f)).getD k 0/\1<=f/\f<1000000000:=by
 obtain⟨h1,h2,h3⟩:=yW hk;have ht:=yV hk;have ht':=bA (bG m) k;obtain⟨f1,f2,f3,f4⟩:=aFw ⟨ht,ht'.2⟩ hf;generalize (aC m).getD k 0=t,val ((aC m).take k)=low at *;have hB:(0:Int)<1000000000^k:=Int.pow_pos zW;have hc:((1000000000^k:Nat):Int)=(1000000000:Int)^k:=zA;have hc1:((1000000000^(k+1):Nat):Int)=(1000000000:Int)^k*1000000000:=by simp[Int.pow_succ]
 have e:((m*f:Nat):Int)=low*f+1000000000^k*(f*t):=by
  rw[Int.natCast_mul,h1];grind
 have g1:low*f<=1000000000^k*f - f:=by
  have:(low+1)*f<=1000000000^k*f:=Int.mul_le_mul_of_nonneg_right zW zW
  have e2:(low+1)*f=low*f+f:=by grind
  omega
 have g0:0<=low*f:=Int.mul_nonneg h2 zW
 have g2:(1000000000:Int)^k*(f*t+f)<=1000000000^k*1000000000:=by
  have e3:(f:Int)*(t+1)=f*t+f:=by grind
  exact Int.mul_le_mul_of_nonneg_left zW zW
 have e4:(1000000000:Int)^k*(f*t+f)=1000000000^k*(f*t)+1000000000^k*f:=by grind
 have g3:1000000000^k*500000000<=1000000000^k*(f*t):=Int.mul_le_mul_of_nonneg_left f4 zW
 have hup:(aC (m*f)).length<=k+1:=bP zW
 have hlo:k+1<=(aC (m*f)).length:=by
  apply Classical.byContradiction;intro hlt;have:=aT (n:=m*f) (k:=k) zW;omega
 have hlen:(aC (m*f)).length=k+1:=zW
 refine⟨hlen,?_,zW,zW⟩;obtain⟨q1,q2,q3⟩:=yW hlen;have q4:1000000000^k*500000000<1000000000^k*((aC (m*f)).getD k 0+1):=by
  have e5:(1000000000:Int)^k*((aC (m*f)).getD k 0+1)=1000000000^k*(aC (m*f)).getD k 0+1000000000^k:=by grind
  omega
 have:=Int.lt_of_mul_lt_mul_left q4 zW
 omega
end Go.Num
namespace Go.Num
theorem aDz (k:Nat):(0:Int)<1000000000^k:=Int.pow_pos zW
theorem sE (l:List Int):val (l++[0])=val l:=by rw[val_append];simp[val]
theorem Kn.init {n m k T:Nat}{U z:List Int}(hU:U=aC n++[0])(hz:z=List.replicate T 0)(hk:(aC m).length=k)(h1:1<=k)(ht:500000000<=(aC m).getD (k - 1) 0)(hT:T+k=U.length):Kn n m k T U z:=by
 have wU:Wd U:=by rw[hU];exact(bG n).append (λx hx=>by simp at hx;omega)
 obtain⟨j,rfl⟩:∃j,k=j+1:=⟨k - 1,zW⟩;refine⟨wU,by rw[hz];exact nP T,by rw[hz,List.length_replicate];omega,?_,?_⟩
 ·rw[hz,List.drop_of_length_le zA,hU,sE,cS];simp[val]
 ·have hl:T+j=(aC n).length:=by rw[hU,List.length_append,List.length_singleton]at hT;omega
  have e:U.drop T=(aC n).drop T++[0]:=by rw[hU,List.drop_append_of_le_length zW]
  rw[e,sE];have h2:=kG ((bG n).drop T);rw[List.length_drop,show(aC n).length - T=j by omega]at h2;obtain⟨q1,q2,q3⟩:=yW hk;rw[Nat.add_sub_cancel]at ht;have h3:(1000000000:Int)^j*1<=1000000000^j*(aC m).getD j 0:=Int.mul_le_mul_of_nonneg_left zW (by have:=aDz j;omega);omega
theorem Kn.qlen {U0 V:Int}{k j T:Nat}{u qs:List Int}(h:Kn U0 V k j u qs)(hT:T+k=u.length):qs.length=T:=by have:=h.len;omega
theorem aV3 {v:List Int}{i:Nat}:val (v.take (i+2))=val (v.take i)+1000000000^i*(v.getD (i+1) 0*1000000000+v.getD i 0):=by
 rw[bO,bO,Int.pow_succ];grind
theorem aV4 {v:List Int}{i:Nat}:val (v.take (i+3))=val (v.take i)+1000000000^i*((v.getD (i+2) 0*1000000000+v.getD (i+1) 0)*1000000000+v.getD i 0):=by
 rw[bO,bO,bO,Int.pow_succ,Int.pow_succ];grind
structure Rd (U0:Int)(m k j:Nat)(u qs v:List Int)(v1 v2 top u0 u2 q P:Int):Prop where
 kn:Kn U0 m k (j+1) u qs
 hj:j<qs.length
 hv:v=aC m
 hk:v.length=k
 e1:v1=v.getD (k - 1) 0
 e2:v2=v.getD (k - 2) 0
 e3:top=u.getD (j+k) 0*1000000000+u.getD (j+k - 1) 0
 e0:u0=u.getD (j+k) 0
 e4:u2=u.getD (j+k - 2) 0
 b1:500000000<=v1/\v1<1000000000
 b2:0<=v2/\v2<1000000000
 b3:0<=top/\top<1000000000000000000
 b4:0<=u2/\u2<1000000000
 q0:0<=q/\q<1000000000
 qv:q*m<=val (u.drop j)/\val (u.drop j)<(q+1)*m
 est:Est (val (u.drop j)) m (v1*1000000000+v2) (top*1000000000+u2) P
 vB:(m:Int)<=1000000000^k
 v0:(0:Int)<m
 uB:val (u.drop j)<1000000000*m
 seg:val (u.drop j)=val ((u.drop j).take k)+1000000000^k*u.getD (j+k) 0
theorem Rd.mk' {U0:Int}{m k j:Nat}{u qs v:List Int}(h:Kn U0 m k (j+1) u qs)(hj:j<qs.length)(hv:v=aC m)(hk:v.length=k)(h2:2<=k)(ht:500000000<=v.getD (k - 1) 0):
  ∃v1 v2 top u0 u2 q P,Rd U0 m k j u qs v v1 v2 top u0 u2 q P:=by
 obtain⟨i,rfl⟩:∃i,k=i+2:=⟨k - 2,zW⟩;rw[show i+2 - 1=i+1 by omega]at ht;have wv:Wd v:=by rw[hv];exact bG m
 have hVB:(m:Int)<=1000000000^(i+2):=by
  have:=kG (bG m);rw[cS,<-hv,hk]at this;omega
 obtain⟨s0,s1,s2,s3⟩:=h.seg hVB hj;have em:(m:Int)=val (v.take i)+1000000000^i*(v.getD (i+1) 0*1000000000+v.getD i 0):=by
  rw[<-aV3,List.take_of_length_le zW,hv,cS]
 have eu:val (u.drop j)=val ((u.drop j).take i)+1000000000^i*((u.getD (j+(i+2)) 0*1000000000+u.getD (j+(i+2) - 1) 0)*1000000000+u.getD (j+(i+2) - 2) 0):=by
  have:=aV4 (v:=u.drop j) (i:=i)
  rw[getD_drop,getD_drop,getD_drop,bO,getD_drop,<-s1]at this;rw[this,show j+(i+2) - 1=j+(i+1) by omega,show j+(i+2) - 2=j+i by omega]
 have w1:=bA wv (i+1)
 have w2:=bA wv i
 have w3:=bA h.wu (j+(i+2))
 have w4:=bA h.wu (j+(i+2) - 1)
 have w5:=bA h.wu (j+(i+2) - 2)
 have l1:=kG (wv.take i)
 have l2:=kG ((h.wu.drop j).take i)
 have n1:=cL (wv.take i)
 have n2:=cL ((h.wu.drop j).take i)
 have hlu:i<=(u.drop j).length:=by rw[List.length_drop,h.len];omega
 rw[List.length_take,Nat.min_eq_left zW]at l1 l2;have hP:=aDz i;have em':(m:Int)≥1:=by
  have:(1000000000:Int)^i*1<=1000000000^i*(v.getD (i+1) 0*1000000000+v.getD i 0):=Int.mul_le_mul_of_nonneg_left zW zW
  omega
 have hm0:(0:Int)<m:=zW
 refine⟨v.getD (i+1) 0,v.getD i 0,_,_,u.getD (j+(i+2) - 2) 0,val (u.drop j)/m,1000000000^i,h,hj,hv,hk,rfl,rfl,rfl,rfl,rfl,⟨ht,w1.2⟩,w2,zW,w5,?_,?_,?_,hVB,hm0,s2,s1⟩
 ·refine⟨Int.ediv_nonneg s3 zW,?_⟩;exact Int.ediv_lt_of_lt_mul hm0 zW
 ·refine⟨Int.ediv_mul_le _ zW,Int.lt_ediv_add_one_mul_self _ hm0⟩
 ·refine⟨hP,?_,?_,?_,?_⟩
  ·rw[em];rw[Int.mul_comm];omega
  ·rw[em];rw[show(v.getD (i+1) 0*1000000000+v.getD i 0+1)*1000000000^i=1000000000^i*(v.getD (i+1) 0*1000000000+v.getD i 0)+1000000000^i by grind];omega
  ·rw[eu];rw[Int.mul_comm];omega
  ·rw[eu];generalize (u.getD (j+(i+2)) 0*1000000000+u.getD (j+(i+2) - 1) 0)*1000000000+u.getD (j+(i+2) - 2) 0=T;rw[show(T+1)*1000000000^i=1000000000^i*T+1000000000^i by grind];omega
section
variable {U0:Int}{m k j:Nat}{u qs v:List Int}{v1 v2 top u0 u2 q P:Int}
theorem Rd.gs (h:Rd U0 m k j u qs v v1 v2 top u0 u2 q P):Gs v1 v2 top u2 q (top/v1) (top%v1):=
 aW6 h.est (by have:=h.b1;omega) h.b2.1 h.b4 h.b3.1 h.q0.1 h.qv.1
theorem Rd.gbd (h:Rd U0 m k j u qs v v1 v2 top u0 u2 q P){g rest:Int}(hg:Gs v1 v2 top u2 q g rest):0<=g/\g<=2000000000/\0<=g*v2/\g*v2<=2000000000000000000/\0<=rest/\rest<=1000000000000000000:=by
 have h1:=h.b1
 have h2:=h.b2
 have h3:=h.b3
 have hq:=h.q0
 have e:=hg.e
 have r:=hg.r
 have g0:0<=g:=by have:=hg.q;omega
 have gv:0<=g*v1:=Int.mul_nonneg g0 zW
 have g1:g<=2000000000:=by
  apply Classical.byContradiction;intro hc;have:2000000001*500000000<=g*v1:=Int.mul_le_mul zW h1.1 zW g0;omega
 have g2:g*v2<=2000000000*1000000000:=Int.mul_le_mul g1 zW h2.1 zW
 have g3:0<=g*v2:=Int.mul_nonneg g0 h2.1
 omega
theorem Rd.gdone (h:Rd U0 m k j u qs v v1 v2 top u0 u2 q P){g rest:Int}(hg:Gs v1 v2 top u2 q g rest)(hc:(g<1000000000/\g*v2<=rest*1000000000+u2)\/1000000000<=rest):q<=g/\g<=q+1/\0<=g/\g<1000000000:=by
 have:=hg.done h.est h.b1.1 h.b2 h.b4.1 h.v0 h.uB h.qv.2 h.q0.1 hc
 have:=h.q0
 omega
theorem Rd.gstep (h:Rd U0 m k j u qs v v1 v2 top u0 u2 q P){g rest:Int}(hg:Gs v1 v2 top u2 q g rest)(hc:1000000000<=g\/rest*1000000000+u2<g*v2):Gs v1 v2 top u2 q (g - 1) (rest+v1)/\1<=g:=by
 refine⟨hg.step h.est (by have:=h.b1;omega) h.qv.1 h.q0.1 h.q0.2 hc,?_⟩;rcases hc with hc | hc
 ·omega
 ·apply Classical.byContradiction;intro h0;have g0:g=0:=by have:=(h.gbd hg).1;omega
  subst g0;have:=hg.r;have:=h.b4;omega
theorem Rd.last (h:Rd U0 m k j u qs v v1 v2 top u0 u2 q P){u':List Int}{g carry borrow last:Int}(hs:Sm u u' v j k g carry borrow)(hg:q<=g/\g<=q+1)(hl:last=u'.getD (j+k) 0 - carry - borrow):
  (last=0/\g=q/\Kn U0 m k j (u'.set (j+k) 0) (qs.set j g))\/(last=-1/\g=q+1/\val ((u'.drop j).take k)=1000000000^k+(val (u.drop j) - q*m) - m):=by
 have hj:=h.hj
 have hlen:=h.kn.len
 have hsv:=hs.v
 have htk:v.take k=v:=List.take_of_length_le (by rw[h.hk];exact lRf _)
 have hvv:val v=m:=by rw[h.hv,cS]
 rw[htk,hvv]at hsv;have aDk:=hs.same (j+k) (.inr (lRf _));have hs0:=cL ((hs.wd.drop j).take k);have hs1:=kG ((hs.wd.drop j).take k);rw[List.length_take,List.length_drop,hs.len,Nat.min_eq_left zW]at hs1;have aHt:=h.seg;have e:val ((u'.drop j).take k)+1000000000^k*last=val (u.drop j) - g*m:=by
  rw[hl,aDk];rw[hsv,aHt];generalize (1000000000:Int)^k=B,val ((u.drop j).take k)=A,u.getD (j+k) 0=t;grind
 have key:=aQh ⟨hs0,hs1⟩ e h.qv.1 h.qv.2 h.vB h.v0 hg.1 hg.2
 rcases key with⟨k1,k2⟩ | ⟨k1,k2⟩
 ·left
  refine⟨k1,k2,?_⟩;subst k2;rw[k1]at e;refine h.kn.step h.vB hj h.q0 h.qv.1 h.qv.2 (hs.wd.set zW) (by rw[List.length_set,hs.len]) (λt ht=>?_) (λt ht=>?_) (kJ _ (by rw[hs.len];omega)) ?_
  ·rw[eJ _ zW];exact hs.same t (.inl ht)
  ·rw[eJ _ zW];exact hs.same t (.inr zW)
  ·rw[iJ];omega
 ·right
  refine⟨k1,k2,?_⟩;rw[k1,k2]at e;have:(q+1)*(m:Int)=q*m+m:=by grind
  omega
theorem Rd.back (h:Rd U0 m k j u qs v v1 v2 top u0 u2 q P){u1 u':List Int}{carry borrow up:Int}(hs:Sm u u1 v j k (q+1) carry borrow)(hv':val ((u1.drop j).take k)=1000000000^k+(val (u.drop j) - q*m) - m)(ha:Ad u1 u' v j k up):
  up=1/\Kn U0 m k j (u'.set (j+k) 0) (qs.set j q):=by
 have hj:=h.hj
 have hlen:=h.kn.len
 have hav:=ha.v
 have htk:v.take k=v:=List.take_of_length_le (by rw[h.hk];exact lRf _)
 have hvv:val v=m:=by rw[h.hv,cS]
 rw[htk,hvv,hv']at hav;have hs0:=cL ((ha.wd.drop j).take k);have hs1:=kG ((ha.wd.drop j).take k);rw[List.length_take,List.length_drop,ha.len,hs.len,Nat.min_eq_left zW]at hs1;have hq:=h.qv;have hq1:(q+1)*(m:Int)=q*m+m:=by grind
 have hB:=h.vB
 have hu:up=1:=by
  rcases ha.c with e | e
  ·subst e;rw[Int.mul_zero]at hav;omega
  ·exact e
 refine⟨hu,?_⟩;subst hu;rw[Int.mul_one]at hav;refine h.kn.step h.vB hj h.q0 h.qv.1 h.qv.2 (ha.wd.set zW) (by rw[List.length_set,ha.len,hs.len]) (λt ht=>?_) (λt ht=>?_) (kJ _ (by rw[ha.len,hs.len];omega)) ?_
 ·rw[eJ _ zW,ha.same t (.inl ht)];exact hs.same t (.inl ht)
 ·rw[eJ _ zW,ha.same t (.inr zW)];exact hs.same t (.inr zW)
 ·rw[iJ];omega
end
end Go.Num
