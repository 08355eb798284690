/- Part 16: lemmas for garboardlaw17.FloatDivides -/
import Derived.MapKept
import Derived.Carry
import Derived.Test.YtmnancfboococaaGreatDoorPd14
set_option linter.all false
namespace Go.Num
open Go.Lib
theorem aKm:∀(l:List UInt8),(index l [47]=-1/\dB l=(l,none))\/(0<=index l [47]/\dB l=(l.take (index l [47]).toNat,some (l.drop ((index l [47]).toNat+1))))
 | []=>.inl ⟨rfl,rfl⟩
 | b::l=>by
  unfold index dB;by_cases hb:b=47
  ·subst hb;right;rw[if_pos zA,if_pos rfl];exact⟨Int.le_refl _,rfl⟩
  ·rw[if_neg (by simp;exact λh=>hb (Eq.symm h)),if_neg hb];rcases aKm l with⟨h1,h2⟩ | ⟨h1,h2⟩
   ·left;rw[h1,h2];exact⟨rfl,rfl⟩
   ·right
    have hne:(index l [47]==-1)=false:=by simp;omega
    rw[hne,h2];obtain⟨k,hk⟩:∃k:Nat,index l [47]=k:=⟨(index l [47]).toNat,zW⟩;rw[hk];refine⟨by simp;omega,?_⟩;simp only[Bool.false_eq_true,if_false,Int.toNat_natCast];rw[show((k:Int)+1).toNat=k+1 by omega];simp
theorem aRh (l:List UInt8):cut l [47]=((dB l).1,(dB l).2.getD [],(dB l).2.isSome):=by
 unfold cut;rcases aKm l with⟨h1,h2⟩ | ⟨h1,h2⟩
 ·rw[if_neg zW,h2];rfl
 ·rw[if_pos h1,h2];rfl
end Go.Num
namespace Go.Ai
open Go Go.Proofs Go.Num
theorem aFr:aB PP 174:=zK
theorem vW:aB PP 169:=zK
theorem cC:aB PP 136:=zK
theorem aHb:aB PP 203:=zK
theorem aIs {w:World}(h:Glob PP w):∃m,w.cell? ⟨0,0,none⟩=some (.int .i64 m):=by
 obtain⟨m,hm⟩:=h.maxLen;refine⟨m,?_⟩;unfold World.var? at hm;rw[show PP.globalNamed "internal/bytealg.MaxLen"=some 0 by kernel_rfl]at hm;simp only[Option.bind_some]at hm;split at hm
 ·rename_i cs t fz hh;injection hm with hm
  subst hm;simp[World.cell?,hh]
 ·cases hm
theorem aH3 (n:Nat)(w:World):RowKit.Below w.heap.size w (w.drewN n):=⟨rfl,rfl,rfl,lRf _,λ_ _=>rfl⟩
theorem bEu (s:ByteArray)(hs:s.size<=2^31):Pure PP 203 [.string s,.string ⟨#[47]⟩] (.tuple #[.string ⟨(dB s.data.toList).1.toArray⟩,.string ⟨((dB s.data.toList).2.getD []).toArray⟩,.bool (dB s.data.toList).2.isSome]):=by
 intro w hgl;obtain⟨m,hm⟩:=aIs hgl;have hs':s.size<4294967281:=Nat.lt_of_le_of_lt hs zV;refine Calls.mono (Tryz.strings_Cut s ⟨#[47]⟩ m w hs' hm) ?_;rintro e w' ⟨rfl,n,rfl⟩;rw[show(⟨#[47]⟩:ByteArray).data.toList=[47] from rfl,aRh];exact⟨rfl,aH3 n w⟩
def rp (l:List UInt8):ByteArray:=⟨(dB l).1.toArray⟩
def rq (l:List UInt8):ByteArray:=match (dB l).2 with | some r=>⟨r.toArray⟩ | none=>⟨#[49]⟩
theorem bEj {s:ByteArray}{z:Int}(hs:s=aY z):(BE.not (BE.seq (.v s) (.v ⟨#[48]⟩))).den=decide (z≠0):=by
 show(!(BE.seq (.v s) (.v ⟨#[48]⟩)).den)=_
 rw[aLs,hs,cW];have e0:([48]:List UInt8)=Lib.itoa 0:=by unfold Lib.itoa;rw[if_neg zV];exact aKn.symm
 show(!decide (Lib.itoa z=[48]))=_
 rw[e0];by_cases h:z=0
 ·subst h;simp
 ·rw[decide_eq_false (λe=>h (aSz e)),decide_eq_true h];rfl
theorem bD3 {s:ByteArray}{a:Nat}(hs:s=aL a):(BE.not (BE.seq (.v s) (.v ⟨#[49]⟩))).den=decide (a≠1):=by
 show(!(BE.seq (.v s) (.v ⟨#[49]⟩)).den)=_
 rw[aTz hs aJs.symm];simp
theorem aTe {l:List UInt8}(h:(dB l).2=none):(pM l).isSome=(wT (dB l).1).isSome:=by
 unfold pM;rw[h,tE h];cases wT l<;>rfl
def aLk (a:Option Int)(b:Option Nat):Option Rat:=match a,b with
 | some z,some n=>if h:z≠0/\n≠0/\n≠1/\z.natAbs.gcd n=1 then some ⟨z,n,h.2.1,h.2.2.2⟩else none
 | _,_=>none
theorem bA9 {l r:List UInt8}(h:(dB l).2=some r):pM l=aLk (wT (dB l).1) (rdN r):=by
 unfold pM aLk;rw[h];dsimp only;generalize wT (dB l).1=a,rdN r=b;cases a<;>cases b<;>rfl
theorem bA8 (b:Option Nat):aLk (some 0) b=none:=by
 cases b with
 | none=>rfl
 | some n=>simp only[aLk];rw[dif_neg (λhh=>hh.1 rfl)]
theorem bA7 (a:Option Int):aLk a none=none:=by cases a<;>rfl
theorem aPh {z:Int}(h0:z≠0)(n:Nat):(aLk (some z) (some n)).isSome=(decide (n≠0)&&(decide (n≠1)&&decide (z.natAbs.gcd n=1))):=by
 simp only[aLk];by_cases hh:z≠0/\n≠0/\n≠1/\z.natAbs.gcd n=1
 ·rw[dif_pos hh,decide_eq_true hh.2.1,decide_eq_true hh.2.2.1,decide_eq_true hh.2.2.2];rfl
 ·rw[dif_neg hh];by_cases a:n=0
  ·rw[decide_eq_false (by simpa using a)];rfl
  ·by_cases b:n=1
   ·rw[decide_eq_false (p:=n≠1) (by simpa using b),Bool.false_and,Bool.and_false];rfl
   ·rw[decide_eq_false (p:=z.natAbs.gcd n=1) (λk=>hh ⟨h0,a,b,k⟩),Bool.and_false,Bool.and_false];rfl
theorem aPi {l r:List UInt8}(h:(dB l).2=some r):
  (wT (dB l).1=none/\(pM l).isSome=false)\/∃z,wT (dB l).1=some z/\((z=0/\(pM l).isSome=false)\/(z≠0/\((isNat r=false/\(pM l).isSome=false)\/∃n,isNat r=true/\r=Lib.decDigits n/\
   (pM l).isSome=(decide (n≠0)&&(decide (n≠1)&&decide (z.natAbs.gcd n=1)))))):=by
 rw[bA9 h];cases hz:wT (dB l).1 with
 | none=>exact .inl ⟨rfl,rfl⟩
 | some z=>
  refine .inr ⟨z,rfl,?_⟩;by_cases h0:z=0
  ·exact .inl ⟨h0,by rw[h0,bA8];rfl⟩
  ·refine .inr ⟨h0,?_⟩;cases hn:isNat r with
   | false=>exact .inl ⟨rfl,by rw[show rdN r=none by simp[rdN,hn],bA7];rfl⟩
   | true=>
    have hr:rdN r=some (dZ 0 r):=by simp[rdN,hn]
    exact .inr ⟨dZ 0 r,rfl,aCo hr,by rw[hr];exact aPh h0 _⟩
theorem aX5 (s:ByteArray)(hs:s.size<=2^31):Pure PP 174 [.string s] (.tuple #[frV (rp s.data.toList) (rq s.data.toList),.bool (pM s.data.toList).isSome]):=by
 have hl:s.data.toList.length=s.size:=rfl
 have h1:=bEu s hs
 obtain⟨l,hll⟩:=nm (s.data.toList);rw[<-hll]at h1 hl |-;have hpl:(dB l).1.length<=l.length:=by
  rcases aKm l with⟨_,h⟩ | ⟨_,h⟩<;>rw[h]<;>simp;omega
 have hps:(rp l).size<=2^31:=by show(dB l).1.toArray.size<=_;rw[List.size_toArray];omega
 have v1:=bAo (rp l) (lTr hps zV)
 rw[show(rp l).data.toList=(dB l).1 from rfl]at v1;obtain⟨ok,hok⟩:=nm ((pM l).isSome);rw[<-hok];cases hc2:(dB l).2 with
 | none=>
  rw[<-aTe hc2,<-hok]at v1;rw[hc2]at h1;rw[show rq l=⟨#[49]⟩ by unfold rq;rw[hc2]];change Pure PP _ _ (.tuple #[.string (rp l),.string ⟨#[]⟩,.bool false])at h1;generalize rp l=p at h1 v1 |-;refine aH mixed tok [.s (.v s)] Tryz.func174 rfl rfl rfl λc hc hR=>?_;apply zN hc;cbv;refine zC (.t [.s (.v p),.s (.v ⟨#[]⟩),.b (.l false)]) h1 aHb ?_;cbv;refine zC (.b (.v ok)) v1 rO ?_;cbv;exact zR
 | some r=>
  have hcs:=aPi hc2
  rw[hc2]at h1;have hrq:rq l=⟨r.toArray⟩:=by unfold rq;rw[hc2]
  have hrl:r.length<=l.length:=by
   have:=tF hc2
   have:=congrArg List.length this
   simp at this;omega
  have hqs:(rq l).size<=2^31:=by rw[hrq];show r.toArray.size<=_;rw[List.size_toArray];omega
  have v2:=aLa (rq l) (lTr hqs zV)
  rw[show(rq l).data.toList=r by rw[hrq]]at v2;change Pure PP _ _ (.tuple #[.string (rp l),.string ⟨r.toArray⟩,.bool true])at h1;rw[<-hrq]at h1;rcases hcs with⟨z0,k0⟩ | ⟨z,z1,hcs⟩
  ·rw[<-hok]at k0;rw[z0]at v1;change Pure PP _ _ (.bool false)at v1;subst k0;generalize rp l=p at h1 v1 |-;generalize rq l=q at h1 v2 |-;refine aH mixed tok [.s (.v s)] Tryz.func174 rfl rfl rfl λc hc hR=>?_;apply zN hc;cbv;refine zC (.t [.s (.v p),.s (.v q),.b (.l true)]) h1 aHb ?_;cbv;refine zC (.b (.l false)) v1 rO ?_;cbv;exact zR
  ·rw[z1]at v1;change Pure PP _ _ (.bool true)at v1;have hp:rp l=aY z:=jQ (by rw[show(rp l).data.toList=(dB l).1 from rfl,cW];exact wW z1);have sz1:=bEj hp;rcases hcs with⟨z2,k0⟩ | ⟨z2,hcs⟩
   ·rw[<-hok]at k0;subst k0;generalize rp l=p at h1 v1 sz1 |-;generalize rq l=q at h1 v2 |-;refine aH mixed tok [.s (.v s)] Tryz.func174 rfl rfl rfl λc hc hR=>?_;apply zN hc;cbv;refine zC (.t [.s (.v p),.s (.v q),.b (.l true)]) h1 aHb ?_;cbv;refine zC (.b (.l true)) v1 rO ?_;cbv;refine bV 26 rfl rfl 100 (λh=>absurd z2 (of_decide_eq_true (sz1.symm.trans h))) (λh=>?_);cbv;exact zR
   ·rcases hcs with⟨n0,k0⟩ | ⟨n,n0,n1,k0⟩
    ·rw[<-hok]at k0;rw[n0]at v2;subst k0;generalize rp l=p at h1 v1 sz1 |-;generalize rq l=q at h1 v2 |-;refine aH mixed tok [.s (.v s)] Tryz.func174 rfl rfl rfl λc hc hR=>?_;apply zN hc;cbv;refine zC (.t [.s (.v p),.s (.v q),.b (.l true)]) h1 aHb ?_;cbv;refine zC (.b (.l true)) v1 rO ?_;cbv;refine bV 26 rfl rfl 100 (λh=>?_) (λh=>absurd z2 (of_decide_eq_false (sz1.symm.trans h)));cbv;refine zC (.b (.l false)) v2 rR ?_;cbv;exact zR
    ·rw[n0]at v2;have hq:rq l=aL n:=jQ (by rw[hrq,cT];exact n1);have sn0:=aS4 hq;have sn1:=bD3 hq;have dz:dl z.natAbs<=2^37:=by
      have h2:(Lib.itoa z).length=(rp l).size:=by rw[hp];show _=(Lib.itoa z).toArray.size;rw[List.size_toArray]
      have h3:dl z.natAbs<=(Lib.itoa z).length:=by
       unfold Lib.itoa dl;split
       ·simp
       ·rw[show z.toNat=z.natAbs by omega];exact lRf _
      omega
     have dn:dl n<=2^37:=by have:=hqs;rw[hq,fK]at this;omega
     have g1:=aI3 (p:=z) (d:=n) dz dn
     rw[<-hp,<-hq]at g1;have sg:=aTz (s:=aL (z.natAbs.gcd n)) rfl aJs.symm;generalize aL (z.natAbs.gcd n)=g at g1 sg;rw[<-hok]at k0;generalize rp l=p at h1 v1 sz1 g1 |-;generalize rq l=q at h1 v2 sn0 sn1 g1 |-;clear hok hc2 hpl hps hll;refine aH mixed tok [.s (.v s)] Tryz.func174 rfl rfl rfl λc hc hR=>?_;apply zN hc;cbv;refine zC (.t [.s (.v p),.s (.v q),.b (.l true)]) h1 aHb ?_;cbv;refine zC (.b (.l true)) v1 rO ?_;cbv;refine bV 26 rfl rfl 100 (λh=>?_) (λh=>absurd z2 (of_decide_eq_false (sz1.symm.trans h)));cbv;refine zC (.b (.l true)) v2 rR ?_;cbv;refine bV 34 rfl rfl 100 (λh=>?_) (λh=>?_)
     ·have a1:=sn0.symm.trans h
      rw[a1]at k0;cbv;refine bV 38 rfl rfl 100 (λh=>?_) (λh=>?_)
      ·have a2:=sn1.symm.trans h
       rw[a2]at k0;cbv;refine zC (.s (.v g)) g1 aQy ?_;cbv;exact bR hc hR rfl (by rw[k0,Bool.true_and,Bool.true_and,<-sg];rfl)
      ·have a2:=sn1.symm.trans h
       rw[a2]at k0;subst k0;cbv;exact zR
     ·have a1:=sn0.symm.trans h
      rw[a1]at k0;subst k0;cbv;exact zR
theorem aTg (q:Rat):rp (aA q).data.toList=aY q.num/\rq (aA q).data.toList=aL q.den:=by
 rw[nB];split
 ·rename_i hd;have e:=aAs (tM q.num);exact⟨by unfold rp;rw[e];rfl,by unfold rq;rw[e,hd,aJs]⟩
 ·rename_i hd;have e:=aAr (r:=Lib.decDigits q.den) (tM q.num);exact⟨by unfold rp;rw[e];rfl,by unfold rq;rw[e];rfl⟩
theorem bP (q:Rat):(aA q).size<=2*sz q+2:=by
 have h1:=lG q.num
 have h2:=fK q.den
 have h3:=oZ q
 have h4:=qW q
 unfold aA;split
 ·omega
 ·rw[ByteArray.size_append,ByteArray.size_append,show(⟨#[47]⟩:ByteArray).size=1 from rfl];omega
theorem aEy {q:Rat}(hq:sz q<=2^29):Pure PP 174 [.string (aA q)] (.tuple #[cG q,.bool true]):=by
 have h:=aX5 (aA q) (lTr (bP q) zW)
 rw[(aTg q).1,(aTg q).2,dA]at h;exact h
theorem aI2 {x y:Rat}(hx:sz x<=2^29)(hy:sz y<=2^29):Pure PP 169 [.string (aA x),.string (aA y)] (.tuple #[cG x,cG y,.int .i64 0]):=by
 have h1:=aEy hx
 have h2:=aEy hy
 unfold cG at h1 h2 |-;generalize aA x=sx at h1 |-;generalize aA y=sy at h2 |-;generalize aY x.num=a,aL x.den=b at h1 |-;generalize aY y.num=a',aL y.den=b' at h2 |-;refine aH mixed tok [.s (.v sx),.s (.v sy)] Tryz.func169 rfl rfl rfl λc hc hR=>?_;apply zN hc;cbv;refine zC (.t [.g [.s (.v a),.s (.v b)],.b (.l true)]) h1 aFr ?_;cbv;refine gJ hc (.t [.g [.s (.v a'),.s (.v b')],.b (.l true)]) h2 aFr rfl rfl 1 ?_;cbv;refine aX7 hc 100 ?_;cbv;obtain⟨G,hG⟩:∃G:Nat->List AV->OF,∀b l,G b l=OF.cells b 234 l:=⟨λb l=>OF.cells b _ l,λ_ _=>rfl⟩;refine aTo 4 0 hG (l:=[(5,.p 1 0),(7,.p 2 0),(9,.p 3 0)]) (K':=[]) rfl rfl rfl ⟨⟨_,rfl,rfl,λ_=>rfl⟩,⟨_,rfl,rfl,λ_=>rfl⟩,⟨_,rfl,rfl,λ_=>rfl⟩,trivial⟩ rfl rfl trivial trivial (λbk=>?_);apply zN hc;cbv;refine tQ hc _ hG [] rfl rfl rfl rfl rfl rfl rfl rfl rfl rfl rfl rfl 100 ?_;cbv;refine zE ?_;cbv;refine aA7 4 hG rfl rfl rfl ?_;cbv;exact zR
theorem fP (s:ByteArray)(hs:s.size<=2^31):Pure PP 136 [.string s] (.bool (pM s.data.toList).isSome):=by
 have h:=aX5 s hs
 generalize (pM s.data.toList).isSome=ok at h |-;generalize rp s.data.toList=p,rq s.data.toList=q at h;refine aH mixed tok [.s (.v s)] Tryz.func136 rfl rfl rfl λc hc hR=>?_;apply zN hc;cbv;refine zC (.t [.g [.s (.v p),.s (.v q)],.b (.v ok)]) h aFr ?_;cbv;exact zR
end Go.Ai
namespace Go.Ai
open Go Go.Proofs Go.Num
theorem uM:aB PP 167:=zK
def kU (x y:Rat):Int:=if x<y then -1 else if y<x then 1 else 0
theorem aMv (x y:Rat):bW (x.num*(y.den:Int)) (y.num*(x.den:Int))=kU x y:=by
 unfold bW kU;simp only[Rat.lt_iff]
theorem aOl (x:Rat):kU x x=0:=by unfold kU;rw[if_neg (Rat.lt_irrefl),if_neg (Rat.lt_irrefl)]
theorem aVj (z:Int):(bW z 0=-1/\z<0)\/(bW z 0=0/\z=0)\/(bW z 0=1/\0<z):=by
 unfold bW;split
 ·left;omega
 ·split
  ·right;right;omega
  ·right;left;omega
theorem aN0 {z d:Int}(hd:0<d):(z<0->z*d<0)/\(z=0->z*d=0)/\(0<z->0<z*d):=
 ⟨λh=>Int.mul_neg_of_neg_of_pos h hd,λh=>by rw[h,Int.zero_mul],λh=>Int.mul_pos h hd⟩
theorem aKj {p q z w:Int}{s t:Int}(hs:s=bW p 0)(ht:t=bW q 0)(h:s≠t)(hz:(p<0->z<0)/\(p=0->z=0)/\(0<p->0<z))(hw:(q<0->w<0)/\(q=0->w=0)/\(0<q->0<w))
  {e:IE} (he:e=IE.max (.l (-1)) (.sub (.l 0) (.max (.sub (.l 0) (.sub (.v s) (.v t))) (.sub (.l 0) (.l 1))))):e.den=bW z w:=by
 obtain⟨z1,z2,z3⟩:=hz;obtain⟨w1,w2,w3⟩:=hw;rcases aVj p with⟨a,ha⟩ | ⟨a,ha⟩ | ⟨a,ha⟩<;>rcases aVj q with⟨b,hb⟩ | ⟨b,hb⟩ | ⟨b,hb⟩<;>rw[<-hs]at a<;>rw[<-ht]at b<;>subst a<;>subst b
 ·exact absurd rfl h
 ·have e1:e.den=-1:=by rw[he];decide
  rw[e1];unfold bW;rw[if_pos zW]
 ·have e1:e.den=-1:=by rw[he];decide
  rw[e1];unfold bW;rw[if_pos zW]
 ·have e1:e.den=1:=by rw[he];decide
  rw[e1];unfold bW;rw[if_neg zW,if_pos zW]
 ·exact absurd rfl h
 ·have e1:e.den=-1:=by rw[he];decide
  rw[e1];unfold bW;rw[if_pos zW]
 ·have e1:e.den=1:=by rw[he];decide
  rw[e1];unfold bW;rw[if_neg zW,if_pos zW]
 ·have e1:e.den=1:=by rw[he];decide
  rw[e1];unfold bW;rw[if_neg zW,if_pos zW]
 ·exact absurd rfl h
theorem aKk {x y:Rat}{s t:Int}(hs:s=bW x.num 0)(ht:t=bW y.num 0)(h:s≠t){e:IE}(he:e=IE.max (.l (-1)) (.sub (.l 0) (.max (.sub (.l 0) (.sub (.v s) (.v t))) (.sub (.l 0) (.l 1))))):e.den=kU x y:=by
 rw[<-aMv];exact aKj hs ht h (aN0 (by have:=y.den_pos;omega)) (aN0 (by have:=x.den_pos;omega)) he
theorem aT0 {s t:ByteArray}{x y:Rat}(hs:s=aA x)(ht:t=aA y):(BE.seq (.v s) (.v t)).den=decide (x=y):=by
 rw[aLs,hs,ht];exact decide_eq_decide.2 ⟨λe=>aUl (jQ e),λe=>by rw[e]⟩
theorem aCn {x y:Rat}(hx:sz x<=2^29)(hy:sz y<=2^29):Pure PP 167 [.string (aA x),.string (aA y)] (.tuple #[.int .i64 (kU x y),.int .i64 0]):=by
 have h1:=aI2 hx hy
 have g1:=aX6 (q:=x) (lTr hx zV)
 have g2:=aX6 (q:=y) (lTr hy zV)
 have nx:=lTr (oZ x) hx
 have dx:=lTr (qW x) hx
 have ny:=lTr (oZ y) hy
 have dy:=lTr (qW y) hy
 have m1:=aSv (z:=x.num) (y:=(y.den:Int)) (lTr nx zV) (by rw[Int.natAbs_natCast];exact lTr dy zV)
 have m2:=aSv (z:=y.num) (y:=(x.den:Int)) (lTr ny zV) (by rw[Int.natAbs_natCast];exact lTr dx zV)
 have b1:dl (x.num*(y.den:Int)).natAbs<=2^30:=by rw[Int.natAbs_mul,Int.natAbs_natCast];exact lTr (qE _ _) zW
 have b2:dl (y.num*(x.den:Int)).natAbs<=2^30:=by rw[Int.natAbs_mul,Int.natAbs_natCast];exact lTr (qE _ _) zW
 have m3:=aSu (z:=x.num*(y.den:Int)) (y:=y.num*(x.den:Int)) (lTr b1 zV) (lTr b2 zV)
 rw[aMv]at m3;rw[kG]at m1 m2;have es:=aT0 (s:=aA x) (t:=aA y) rfl rfl;have r0:x=y->kU x y=0:=λe=>by rw[e,aOl]
 obtain⟨s,hs⟩:=nm (bW x.num 0);obtain⟨t,ht⟩:∃s,s=bW y.num 0:=⟨_,rfl⟩;have sb:(Obl.inR .i64 (.sub (.v s) (.v t))).ok:=by
  show lo _<=s - t/\s - t<=hi _
  rcases aVj x.num with⟨a,_⟩ | ⟨a,_⟩ | ⟨a,_⟩<;>rcases aVj y.num with⟨b,_⟩ | ⟨b,_⟩ | ⟨b,_⟩<;>(rw[hs,ht,a,b];decide)
 have r1:=λh:s≠t=>aKk hs ht h rfl
 rw[<-hs]at g1;rw[<-ht]at g2;clear hs ht b1 b2;unfold cG at h1 g1 g2;generalize kU x y=r at m3 r0 r1 |-;generalize aY (x.num*(y.den:Int))=t1 at m1 m3;generalize aY (y.num*(x.den:Int))=t2 at m2 m3;generalize aA x=sx,aA y=sy at h1 es |-;generalize aY x.num=a at h1 g1 m1;generalize aL x.den=b at h1 g1 m2;generalize aY y.num=a' at h1 g2 m2;generalize aL y.den=b' at h1 g2 m1;refine aH mixed tok [.s (.v sx),.s (.v sy)] Tryz.func167 rfl rfl rfl λc hc hR=>?_;apply zN hc;cbv;refine zC (.t [.g [.s (.v a),.s (.v b)],.g [.s (.v a'),.s (.v b')],.i .i64 (.l 0)]) h1 vW ?_;cbv;refine aE rfl 100 (λh=>?_) (λh=>?_)
 ·have hr:=r0 (of_decide_eq_true (es.symm.trans h))
  subst hr;cbv;exact zR
 cbv;refine zD (.i .i64 (.v s)) g1 aMm ?_;cbv;refine zD (.i .i64 (.v t)) g2 aMm ?_;cbv;refine zE ?_;cbv;refine aE rfl 100 (λh=>?_) (λh=>?_)
 ·have hne:s≠t:=λe=>BE.eq_f (BE.not_t h) e
  have hr:=r1 hne
  cbv;refine aP hc ⟨sb,trivial⟩ ?_;exact bR hc hR rfl (by rw[<-hr];rfl)
 ·cbv;refine zC (.t [.s (.v t1),.i .i64 (.l 0)]) m1 nE ?_;cbv;refine zC (.t [.s (.v t2),.i .i64 (.l 0)]) m2 nE ?_;cbv;refine zC (.t [.i .i64 (.v r),.i .i64 (.l 0)]) m3 aJ5 ?_;cbv;exact zR
end Go.Ai
namespace Go.Ai
open Go Go.Proofs Go.Num Go.RowKit Go.MapKept
theorem aWy {P:Program}{mty kt et r clock:Nat}{d:TypeDesc}{es:Array MapEntry}{key value:Value}{w:World}(hm:P.underlying mty=some (.map kt et))(hd:P.underlying kt=some d)(hb:w.heap[r]?=some (.map es clock))(hk:IsKey d key)
  (hf:Instr.findNow d key es.toList 0=some none):(Instr.mapUpdate mty (.map (some r)) key value).run P w=.ok () {w with heap:=w.heap.setIfInBounds r (.map (es.push {key,val:=value,born:=clock}) (clock+1))}:=by
 simp[Instr.mapUpdate,run_underlying hm,MapKept.run_getObj_map hb,MapKept.run_checkKey hd hk,MapKept.run_findKey hd hf,MapKept.run_setObj_map _ hb,Result.andThen]
def fnV (g:Nat):Value:=.func (.func g) #[] #[]
def E1:Array MapEntry:=#[⟨.int .u8 43,fnV 219,0⟩]
def E2:Array MapEntry:=E1.push ⟨.int .u8 42,fnV 220,1⟩
def E3:Array MapEntry:=E2.push ⟨.int .u8 45,fnV 221,2⟩
def E4:Array MapEntry:=E3.push ⟨.int .u8 47,fnV 223,3⟩
def vC (w:World)(es:Array MapEntry)(n:Nat):World:=w.alloc (.map es n)
theorem aNe (w:World)(es:Array MapEntry)(n:Nat):(vC w es n).heap[w.heap.size]?=some (.map es n):=(heap_alloc w _).1
theorem wX {P:Program}{mty kt et clock:Nat}{d:TypeDesc}{es:Array MapEntry}{key value:Value}{w:World}(hm:P.underlying mty=some (.map kt et))(hd:P.underlying kt=some d)(hk:IsKey d key)
  (hf:Instr.findNow d key es.toList 0=some none):(Instr.mapUpdate mty (.map (some w.heap.size)) key value).run P (vC w es clock)=.ok () (vC w (es.push {key,val:=value,born:=clock}) (clock+1)):=by
 rw[aWy hm hd (aNe w es clock) hk hf];unfold vC World.alloc;simp[Array.setIfInBounds,-World.alloc_eq,Array.set_push]
set_option maxHeartbeats 1000000 in
set_option maxRecDepth 100000 in
theorem aO9 (w:World):Calls PP 202 #[] w λe w'=>e=.returned (.map (some w.heap.size))/\w'=vC w E4 4:=by
 have hmm:∀w,(Instr.makeMap 238 none).run PP w=.ok (.map (some w.heap.size)) (vC w #[] 0):=λw=>run_makeMap _ w
 have m1:(Instr.mapUpdate 238 (.map (some w.heap.size)) (.int .u8 43) (.func (.func 219) #[] #[])).run PP (vC w #[] 0)=.ok () (vC w E1 1):=wX Tryz.underlying238 Tryz.underlying5 (by trivial) rfl
 have m2:(Instr.mapUpdate 238 (.map (some w.heap.size)) (.int .u8 42) (.func (.func 220) #[] #[])).run PP (vC w E1 1)=.ok () (vC w E2 2):=wX Tryz.underlying238 Tryz.underlying5 (by trivial) rfl
 have m3:(Instr.mapUpdate 238 (.map (some w.heap.size)) (.int .u8 45) (.func (.func 221) #[] #[])).run PP (vC w E2 2)=.ok () (vC w E3 3):=wX Tryz.underlying238 Tryz.underlying5 (by trivial) rfl
 have m4:(Instr.mapUpdate 238 (.map (some w.heap.size)) (.int .u8 47) (.func (.func 223) #[] #[])).run PP (vC w E3 3)=.ok () (vC w E4 4):=wX Tryz.underlying238 Tryz.underlying5 (by trivial) rfl
 go_enter Tryz.func202,Tryz.ntmps202
 go_wp2
 go_ret
 exact⟨rfl,rfl⟩
def aIr (es:Array MapEntry):VF where
 p v X w:=∃r n,v=.map (some r)/\X r/\w.heap[r]?=some (.map es n)
 st v X X' w w' hs hw h:=by
  obtain⟨r,n,h1,h2,h3⟩:=h;exact⟨r,n,h1,hs _ h2,by rw[hw _ h2];exact h3⟩
theorem aFp:aB PP 202:=zK
theorem aMe:aB PP 170:=zK
theorem aDm {X:Nat->Prop}{w:World}:Fn PP 202 [] X w (aIr E4):=by
 intro hgl;refine Calls.mono (aO9 w) ?_;rintro e w' ⟨rfl,rfl⟩;refine⟨_,λb=>X b\/b=w.heap.size,rfl,(Below.refl _ _).alloc (lRf _) _,λb hb=>.inl hb,λb hb=>?_,w.heap.size,4,rfl,.inr rfl,aNe w E4 4⟩;rcases hb with hb | rfl
 ·exact .inl hb
 ·exact .inr ⟨lRf _,by simp[vC]⟩
theorem aFi {X:Nat->Prop}{w:World}(hX:∀b,X b->b<w.heap.size):Fn PP 170 [] X w (aIr E4):=by
 obtain⟨R,hRR⟩:=nm (aIr E4);rw[<-hRR];refine bE mixed tok [] (K:=[]) Tryz.func170 rfl rfl (lbl rfl) rfl hX zA λc hc hR=>?_;apply zN hc;cbv;refine dO hc (R:=R) aFp (λn0 D X μ a w aK H aI=>?_) 100 ?_
 ·simp only[aF]at aI;injection aI with aI;subst aI
  rw[hRR];exact aDm
 cbv;refine aR hc hR rfl (λX μ a w v' H hv'=>?_);exact H.toP.val (R:=R) (.head _) hv'
theorem wY {c:Cx}{P:Program}{ty:Nat->Option TyI}{nt:Nat}{K:List KF}(hc:Ctx c P ty nt){all:Array Oper}{i n0:Nat}{K0:List KF}{k:List KI}{S:St}(o:Oper)(ho:all[i]?=some o)(hg:guardOf all S.sl o=some true)(hic:bU o=true)(hd:cA nt o.dst=true)
  {av:AV} {nb:Option Blk} {Kn:List KF} {ow:List OF} (bC1:∀D:Nat->Prop,(∀t,Operand.tmp t∈o.op.operands->D t)->Cert c K n0 D S o av nb Kn ow) (n:Nat)
  (h:Goal c (Kn++K) (run ty nt (Kn++K) n (.dops all (i+1) n0 K0::k) (S.putO o.dst av nb ow) [])):Goal c K ⟨.dops all i n0 K0::k,S,[]⟩:=by
 have hs:=dX hc n h
 refine .mk0 (show DPath c all n0 K0 k i S K from ?_);refine DPath.op ho hg (by rw[hc.hnt];exact hd) (by
  rw[hic];simp only[if_true,fl,hic];exact bC1 _ (λt ht=>by simp only[vN,dQ,List.mem_append];exact .inl (eV (by simpa using ht)))) (λhf=>by rw[hic]at hf;cases hf) ?_ hs
 rw[hic];exact Wk.refl _
theorem aTi {P:Program}{mty kt et r n j:Nat}{d:TypeDesc}{es:Array MapEntry}{key v:Value}{w:World}(hm:P.underlying mty=some (.map kt et))(hd:P.underlying kt=some d)(hb:w.heap[r]?=some (.map es n))(hk:IsKey d key)
  (hf:Instr.findNow d key es.toList 0=some (some (j,v))):(Instr.lookup mty (.map (some r)) key false).run P w=.ok v w:=by
 simp[Instr.lookup,run_underlying hm,MapKept.run_getObj_map hb,MapKept.run_checkKey hd hk,MapKept.run_findKey hd hf,Result.andThen]
theorem tD {c:Cx}{K:List KF}{n0:Nat}{D:Nat->Prop}{S:St}{o:Oper}{m x:Operand}{mty kt et b j:Nat}{d:TypeDesc}{es:Array MapEntry}{key v:Value}{F:VF}{av kv:AV}(hm:c.P.underlying mty=some (.map kt et))(hd:c.P.underlying kt=some d)(hk:IsKey d key)
  (hf:Instr.findNow d key es.toList 0=some (some (j,v))) (hop:o.op=Op.lookup mty m x false) (hF:KF.at b F∈K) (e:F=aIr es) (h1:fE S.sl m=some (.e b)) (h2:fE S.sl x=some kv) (hkv:aD iN kv=some key) (hv:aD iN av=some v)
  (hD:∀t,Operand.tmp t∈o.op.operands->D t):Cert c K n0 D S o av none [] S.ow:=by
 intro X μ a w next Q H hfr hn
 rw[hop]at hD;have a1:=aG H h1 (λt e=>hD t (by simp[Op.operands,e]));have a2:=aG H h2 (λt e=>hD t (by simp[Op.operands,e]));have a3:=H.val hF a1;rw[e]at a3;obtain⟨r,n,e1,_,e2⟩:=a3;rw[eK hkv]at a2;injection a2 with a2
 have hr:(execOp a.eval o).run c.P w=.ok (.value v) w:=by
  simp[execOp,hop,e1,<-a2,aTi hm hd e2 hk hf,Result.andThen]
 exact xL hr (hn X μ v w (cN.same H.own (eK hv)) (λf hf=>(by cases hf)))
theorem vV:aB PP 131:=zK
theorem aLf {x y:Rat}(hx:sz x<=2^29)(hy:sz y<=2^29):Pure PP 131 [.int .u8 43,.string (aA x),.string (aA y)] (.tuple #[.string (aA (x+y)),.int .i64 0]):=by
 have hb:=aI2 hx hy
 have aKy:=lTr hx (show 2^29<=2^34 by decide)
 have aK0:=lTr hy (show 2^29<=2^34 by decide)
 have h1:=aX4 aKy aK0
 have h2:=aNs (q:=x+y) (lTr (yP x y) zW)
 obtain⟨R,hRR⟩:=nm (aIr E4);unfold cG at hb h1 h2;generalize aA (x+y)=r at h2 |-;generalize aY (x+y).num=r1,aL (x+y).den=r2 at h1 h2;generalize aA x=sx,aA y=sy at hb |-;generalize aY x.num=a,aL x.den=b,aY y.num=a',aL y.den=b' at hb h1;refine aH mixed tok [.i .u8 (.l 43),.s (.v sx),.s (.v sy)] Tryz.func131 rfl rfl rfl λc hc hR=>?_;apply zN hc;cbv;refine zC (.t [.g [.s (.v a),.s (.v b)],.g [.s (.v a'),.s (.v b')],.i .i64 (.l 0)]) hb vW ?_;cbv;refine iK hc (R:=R) aMe (λD X μ a w aK H aI=>?_) 100 ?_
 ·simp only[aF]at aI;injection aI with aI;subst aI
  rw[hRR];exact aFi H.xlt
 cbv;refine wY hc (av:=.f (.func 219) [] []) (Kn:=[]) _ rfl rfl rfl rfl (λD hD=>tD (by rw[hc.hP];exact Tryz.underlying238) (by rw[hc.hP];exact Tryz.underlying5) (by trivial) (key:=.int .u8 43) rfl rfl (.head _) hRR rfl rfl rfl rfl hD) 100 ?_;cbv;refine zD (.g [.s (.v r1),.s (.v r2)]) h1 aMl ?_;cbv;refine zD (.s (.v r)) h2 aAp ?_;cbv;refine zE ?_;cbv;exact zR
theorem nH:aB PP 146:=zK
theorem aCm {x y:Rat}(hx:sz x<=2^29)(hy:sz y<=2^29):Pure PP 146 [.string (aA x),.string (aA y)] (.tuple #[.string (aA (x+y)),.int .i64 0]):=by
 have h1:=aLf hx hy
 generalize aA (x+y)=r,aA x=sx,aA y=sy at h1 |-;refine aH mixed tok [.s (.v sx),.s (.v sy)] Tryz.func146 rfl rfl rfl λc hc hR=>?_;apply zN hc;cbv;refine zC (.t [.s (.v r),.i .i64 (.l 0)]) h1 vV ?_;cbv;exact zR
theorem aLh {x y:Rat}(hx:sz x<=2^29)(hy:sz y<=2^29):Pure PP 131 [.int .u8 42,.string (aA x),.string (aA y)] (.tuple #[.string (aA (x*y)),.int .i64 0]):=by
 have hb:=aI2 hx hy
 have aKy:=lTr hx (show 2^29<=2^34 by decide)
 have aK0:=lTr hy (show 2^29<=2^34 by decide)
 have h1:=aTh aKy aK0
 have h2:=aNs (q:=x*y) (lTr (yR x y) zW)
 obtain⟨R,hRR⟩:=nm (aIr E4);unfold cG at hb h1 h2;generalize aA (x*y)=r at h2 |-;generalize aY (x*y).num=r1,aL (x*y).den=r2 at h1 h2;generalize aA x=sx,aA y=sy at hb |-;generalize aY x.num=a,aL x.den=b,aY y.num=a',aL y.den=b' at hb h1;refine aH mixed tok [.i .u8 (.l 42),.s (.v sx),.s (.v sy)] Tryz.func131 rfl rfl rfl λc hc hR=>?_;apply zN hc;cbv;refine zC (.t [.g [.s (.v a),.s (.v b)],.g [.s (.v a'),.s (.v b')],.i .i64 (.l 0)]) hb vW ?_;cbv;refine iK hc (R:=R) aMe (λD X μ a w aK H aI=>?_) 100 ?_
 ·simp only[aF]at aI;injection aI with aI;subst aI
  rw[hRR];exact aFi H.xlt
 cbv;refine wY hc (av:=.f (.func 220) [] []) (Kn:=[]) _ rfl rfl rfl rfl (λD hD=>tD (by rw[hc.hP];exact Tryz.underlying238) (by rw[hc.hP];exact Tryz.underlying5) (by trivial) (key:=.int .u8 42) rfl rfl (.head _) hRR rfl rfl rfl rfl hD) 100 ?_;cbv;refine zD (.g [.s (.v r1),.s (.v r2)]) h1 aHi ?_;cbv;refine zD (.s (.v r)) h2 aAp ?_;cbv;refine zE ?_;cbv;exact zR
theorem rS:aB PP 145:=zK
theorem aI1 {x y:Rat}(hx:sz x<=2^29)(hy:sz y<=2^29):Pure PP 145 [.string (aA x),.string (aA y)] (.tuple #[.string (aA (x*y)),.int .i64 0]):=by
 have h1:=aLh hx hy
 generalize aA (x*y)=r,aA x=sx,aA y=sy at h1 |-;refine aH mixed tok [.s (.v sx),.s (.v sy)] Tryz.func145 rfl rfl rfl λc hc hR=>?_;apply zN hc;cbv;refine zC (.t [.s (.v r),.i .i64 (.l 0)]) h1 vV ?_;cbv;exact zR
theorem aLi {x y:Rat}(hx:sz x<=2^29)(hy:sz y<=2^29):Pure PP 131 [.int .u8 45,.string (aA x),.string (aA y)] (.tuple #[.string (aA (x - y)),.int .i64 0]):=by
 have hb:=aI2 hx hy
 have aKy:=lTr hx (show 2^29<=2^34 by decide)
 have aK0:=lTr hy (show 2^29<=2^34 by decide)
 have h1:=bBa aKy aK0
 have h2:=aNs (q:=x - y) (lTr (aC2 x y) zW)
 obtain⟨R,hRR⟩:=nm (aIr E4);unfold cG at hb h1 h2;generalize aA (x - y)=r at h2 |-;generalize aY (x - y).num=r1,aL (x - y).den=r2 at h1 h2;generalize aA x=sx,aA y=sy at hb |-;generalize aY x.num=a,aL x.den=b,aY y.num=a',aL y.den=b' at hb h1;refine aH mixed tok [.i .u8 (.l 45),.s (.v sx),.s (.v sy)] Tryz.func131 rfl rfl rfl λc hc hR=>?_;apply zN hc;cbv;refine zC (.t [.g [.s (.v a),.s (.v b)],.g [.s (.v a'),.s (.v b')],.i .i64 (.l 0)]) hb vW ?_;cbv;refine iK hc (R:=R) aMe (λD X μ a w aK H aI=>?_) 100 ?_
 ·simp only[aF]at aI;injection aI with aI;subst aI
  rw[hRR];exact aFi H.xlt
 cbv;refine wY hc (av:=.f (.func 221) [] []) (Kn:=[]) _ rfl rfl rfl rfl (λD hD=>tD (by rw[hc.hP];exact Tryz.underlying238) (by rw[hc.hP];exact Tryz.underlying5) (by trivial) (key:=.int .u8 45) rfl rfl (.head _) hRR rfl rfl rfl rfl hD) 100 ?_;cbv;refine zD (.g [.s (.v r1),.s (.v r2)]) h1 aQ0 ?_;cbv;refine zD (.s (.v r)) h2 aAp ?_;cbv;refine zE ?_;cbv;exact zR
theorem aQx:aB PP 85:=zK
theorem bEb {x y:Rat}(hx:sz x<=2^29)(hy:sz y<=2^29):Pure PP 85 [.string (aA x),.string (aA y)] (.tuple #[.string (aA (x - y)),.int .i64 0]):=by
 have h1:=aLi hx hy
 generalize aA (x - y)=r,aA x=sx,aA y=sy at h1 |-;refine aH mixed tok [.s (.v sx),.s (.v sy)] Tryz.func85 rfl rfl rfl λc hc hR=>?_;apply zN hc;cbv;refine zC (.t [.s (.v r),.i .i64 (.l 0)]) h1 vV ?_;cbv;exact zR
theorem aLg {x y:Rat}(h0:y≠0)(hx:sz x<=2^29)(hy:sz y<=2^29):Pure PP 131 [.int .u8 47,.string (aA x),.string (aA y)] (.tuple #[.string (aA (x/y)),.int .i64 0]):=by
 have hb:=aI2 hx hy
 have aKy:=lTr hx (show 2^29<=2^34 by decide)
 have aK0:=lTr hy (show 2^29<=2^34 by decide)
 have h1:=bEe h0 aKy aK0
 have h2:=aNs (q:=x/y) (lTr (yQ x y) zW)
 have z0:(BE.seq (.v (aY y.num)) (.v ⟨#[48]⟩)).den=true->False:=λh=>by
  have e:=bEj (s:=aY y.num) (z:=y.num) rfl
  have e2:(BE.not (BE.seq (.v (aY y.num)) (.v ⟨#[48]⟩))).den=false:=by show(! _)=false;rw[h];rfl
  rw[e2]at e;exact absurd e (by simp;exact h0)
 obtain⟨R,hRR⟩:=nm (aIr E4);unfold cG at hb h1 h2;generalize aA (x/y)=r at h2 |-;generalize aY (x/y).num=r1,aL (x/y).den=r2 at h1 h2;generalize aA x=sx,aA y=sy at hb |-;generalize aY x.num=a,aL x.den=b at hb h1;generalize aY y.num=a' at hb h1 z0;generalize aL y.den=b' at hb h1;refine aH mixed tok [.i .u8 (.l 47),.s (.v sx),.s (.v sy)] Tryz.func131 rfl rfl rfl λc hc hR=>?_;apply zN hc;cbv;refine zC (.t [.g [.s (.v a),.s (.v b)],.g [.s (.v a'),.s (.v b')],.i .i64 (.l 0)]) hb vW ?_;cbv;refine aE rfl 100 (λh=>(z0 h).elim) (λh=>?_);cbv;refine iK hc (R:=R) aMe (λD X μ a w aK H aI=>?_) 100 ?_
 ·simp only[aF]at aI;injection aI with aI;subst aI
  rw[hRR];exact aFi H.xlt
 cbv;refine wY hc (av:=.f (.func 223) [] []) (Kn:=[]) _ rfl rfl rfl rfl (λD hD=>tD (by rw[hc.hP];exact Tryz.underlying238) (by rw[hc.hP];exact Tryz.underlying5) (by trivial) (key:=.int .u8 47) rfl rfl (.head _) hRR rfl rfl rfl rfl hD) 100 ?_;cbv;refine zD (.g [.s (.v r1),.s (.v r2)]) h1 aVd ?_;cbv;refine zD (.s (.v r)) h2 aAp ?_;cbv;refine zE ?_;cbv;exact zR
theorem aKb:aB PP 123:=zK
theorem bA2 {x y:Rat}(h0:y≠0)(hx:sz x<=2^29)(hy:sz y<=2^29):Pure PP 123 [.string (aA x),.string (aA y)] (.tuple #[.string (aA (x/y)),.int .i64 0]):=by
 have h1:=aLg h0 hx hy
 generalize aA (x/y)=r,aA x=sx,aA y=sy at h1 |-;refine aH mixed tok [.s (.v sx),.s (.v sy)] Tryz.func123 rfl rfl rfl λc hc hR=>?_;apply zN hc;cbv;refine zC (.t [.s (.v r),.i .i64 (.l 0)]) h1 vV ?_;cbv;exact zR
end Go.Ai
namespace Go.Ai
open Go Go.Proofs Go.Num
theorem aKd:aB PP 179:=zK
theorem aUq {x y:Rat}(hx:sz x<=2^29)(hy:sz y<=2^29):Pure PP 179 [.string (aA x),.string (aA y)] (.string (aA (x+y))):=by
 have h1:=aCm hx hy
 generalize aA (x+y)=r,aA x=sx,aA y=sy at h1 |-;refine aH mixed tok [.s (.v sx),.s (.v sy)] Tryz.func179 rfl rfl rfl λc hc hR=>?_;apply zN hc;cbv;refine zC (.t [.s (.v r),.i .i64 (.l 0)]) h1 nH ?_;cbv;exact zR
theorem xV:aB PP 141:=zK
theorem aJv {x y:Rat}(hx:sz x<=2^29)(hy:sz y<=2^29):Pure PP 141 [.string (aA x),.string (aA y)] (.string (aA (x - y))):=by
 have h1:=bEb hx hy
 generalize aA (x - y)=r,aA x=sx,aA y=sy at h1 |-;refine aH mixed tok [.s (.v sx),.s (.v sy)] Tryz.func141 rfl rfl rfl λc hc hR=>?_;apply zN hc;cbv;refine zC (.t [.s (.v r),.i .i64 (.l 0)]) h1 aQx ?_;cbv;exact zR
theorem uN:aB PP 178:=zK
theorem aGz {x y:Rat}(hx:sz x<=2^29)(hy:sz y<=2^29):Pure PP 178 [.string (aA x),.string (aA y)] (.string (aA (x*y))):=by
 have h1:=aI1 hx hy
 generalize aA (x*y)=r,aA x=sx,aA y=sy at h1 |-;refine aH mixed tok [.s (.v sx),.s (.v sy)] Tryz.func178 rfl rfl rfl λc hc hR=>?_;apply zN hc;cbv;refine zC (.t [.s (.v r),.i .i64 (.l 0)]) h1 rS ?_;cbv;exact zR
theorem aY7:aB PP 194:=zK
theorem bGy {x y:Rat}(h0:y≠0)(hx:sz x<=2^29)(hy:sz y<=2^29):Pure PP 194 [.string (aA x),.string (aA y)] (.string (aA (x/y))):=by
 have h1:=bA2 h0 hx hy
 generalize aA (x/y)=r,aA x=sx,aA y=sy at h1 |-;refine aH mixed tok [.s (.v sx),.s (.v sy)] Tryz.func194 rfl rfl rfl λc hc hR=>?_;apply zN hc;cbv;refine zC (.t [.s (.v r),.i .i64 (.l 0)]) h1 aKb ?_;cbv;exact zR
theorem gC:aA 0=⟨#[48]⟩:=by
 have:aA 0=aY 0:=rfl
 rw[this,show(0:Int)=((0:Nat):Int) from rfl,kG,bBr]
theorem sz0:sz 0<=2^29:=lTr (iY 0) (by rw[gC];decide)
theorem aFt:aB PP 140:=zK
theorem aUw {x:Rat}(hx:sz x<=2^29):Pure PP 140 [.string (aA x)] (.int .i64 (kU x 0)):=by
 have h1:=aCn (y:=0) hx sz0
 rw[gC]at h1;generalize kU x 0=r,aA x=sx at h1 |-;refine aH mixed tok [.s (.v sx)] Tryz.func140 rfl rfl rfl λc hc hR=>?_;apply zN hc;cbv;refine zC (.t [.i .i64 (.v r),.i .i64 (.l 0)]) h1 uM ?_;cbv;exact zR
def lE (a b c:ByteArray):Value:=.agg #[.string a,.string b,.string c]
abbrev iU (a b c:ByteArray):AV:=.g [.s (.v a),.s (.v b),.s (.v c)]
theorem aMo:aB PP 195:=zK
theorem vof (a b d:ByteArray):Pure PP 195 [lE a b d] (lE a b d):=by
 unfold lE;refine aH mixed tok [.g [.s (.v a),.s (.v b),.s (.v d)]] Tryz.func195 rfl rfl rfl λc hc hR=>?_;apply zN hc;cbv;exact zR
theorem rW:aB PP 144:=zK
theorem aC7 (a b d:ByteArray):Pure PP 144 [lE a b d] (lE a b d):=by
 unfold lE;refine aH mixed tok [.g [.s (.v a),.s (.v b),.s (.v d)]] Tryz.func144 rfl rfl rfl λc hc hR=>?_;apply zN hc;cbv;exact zR
theorem aFu:aB PP 177:=zK
theorem bBw {g:Nat}(cg:aB PP g){a b d a' b' d' r1 r2 r3:ByteArray}(h1:Pure PP g [.string a,.string a'] (.string r1))(h2:Pure PP g [.string b,.string b'] (.string r2))(h3:Pure PP g [.string d,.string d'] (.string r3)):
  Pure PP 177 [.func (.func g) #[] #[],lE a b d,lE a' b' d'] (lE r1 r2 r3):=by
 have k1:=aC7 a b d
 have k2:=aC7 a' b' d'
 have k3:=vof r1 r2 r3
 unfold lE at k1 k2 k3 |-;refine aH mixed tok [.f (.func g) [] [],.g [.s (.v a),.s (.v b),.s (.v d)],.g [.s (.v a'),.s (.v b'),.s (.v d')]] Tryz.func177 rfl rfl rfl λc hc hR=>?_;apply zN hc;cbv;refine zD (iU a b d) k1 rW ?_;cbv;refine zD (iU a' b' d') k2 rW ?_;cbv;refine zE ?_;cbv;refine aZ 4 (λp hp=>?_);refine hp _ _ _ ?_;apply zN hc;cbv;refine zD (.s (.v r1)) h1 cg ?_;cbv;refine zE ?_;cbv;refine hp _ _ _ ?_;apply zN hc;cbv;refine zD (.s (.v r2)) h2 cg ?_;cbv;refine zE ?_;cbv;refine hp _ _ _ ?_;apply zN hc;cbv;refine zD (.s (.v r3)) h3 cg ?_;cbv;refine zE ?_;cbv;refine hp _ _ _ ?_;apply zN hc;cbv;refine zC (iU r1 r2 r3) k3 aMo ?_;cbv;exact zR
structure V3 where
 x:Rat
 y:Rat
 z:Rat
deriving DecidableEq
namespace V3
def add (u v:V3):V3:=⟨u.x+v.x,u.y+v.y,u.z+v.z⟩
def sub (u v:V3):V3:=⟨u.x - v.x,u.y - v.y,u.z - v.z⟩
def scale (u:V3)(s:Rat):V3:=⟨u.x*s,u.y*s,u.z*s⟩
def dot (u v:V3):Rat:=u.x*v.x+u.y*v.y+u.z*v.z
def cross (u v:V3):V3:=⟨u.y*v.z - u.z*v.y,u.z*v.x - u.x*v.z,u.x*v.y - u.y*v.x⟩
def le (u:V3)(k:Nat):Prop:=sz u.x<=k/\sz u.y<=k/\sz u.z<=k
theorem le.mono {u:V3}{k m:Nat}(h:u.le k)(hm:k<=m):u.le m:=⟨lTr h.1 hm,lTr h.2.1 hm,lTr h.2.2 hm⟩
theorem le_add {u v:V3}{k m:Nat}(h:u.le k)(h':v.le m):(u.add v).le (k+m+1):=by
 obtain⟨a,b,c⟩:=h;obtain⟨a',b',c'⟩:=h';exact⟨lTr (yP _ _) zW,lTr (yP _ _) zW,lTr (yP _ _) zW⟩
theorem le_sub {u v:V3}{k m:Nat}(h:u.le k)(h':v.le m):(u.sub v).le (k+m+1):=by
 obtain⟨a,b,c⟩:=h;obtain⟨a',b',c'⟩:=h';exact⟨lTr (aC2 _ _) zW,lTr (aC2 _ _) zW,lTr (aC2 _ _) zW⟩
theorem le_scale {u:V3}{k m:Nat}{s:Rat}(h:u.le k)(h':sz s<=m):(u.scale s).le (k+m):=by
 obtain⟨a,b,c⟩:=h;exact⟨lTr (yR _ _) zW,lTr (yR _ _) zW,lTr (yR _ _) zW⟩
theorem sz_mm {a b:Rat}{k m:Nat}(h:sz a<=k)(h':sz b<=m):sz (a*b)<=k+m:=lTr (yR _ _) zW
theorem sz_aa {a b:Rat}{k m:Nat}(h:sz a<=k)(h':sz b<=m):sz (a+b)<=k+m+1:=lTr (yP _ _) zW
theorem sz_ss {a b:Rat}{k m:Nat}(h:sz a<=k)(h':sz b<=m):sz (a - b)<=k+m+1:=lTr (aC2 _ _) zW
theorem sz_dot {u v:V3}{k m:Nat}(h:u.le k)(h':v.le m):sz (u.dot v)<=3*(k+m)+2:=by
 have:=sz_aa (sz_aa (sz_mm h.1 h'.1) (sz_mm h.2.1 h'.2.1)) (sz_mm h.2.2 h'.2.2)
 exact lTr this zW
theorem le_cross {u v:V3}{k m:Nat}(h:u.le k)(h':v.le m):(u.cross v).le (2*(k+m)+1):=
 ⟨lTr (sz_ss (sz_mm h.2.1 h'.2.2) (sz_mm h.2.2 h'.2.1)) zW,lTr (sz_ss (sz_mm h.2.2 h'.1) (sz_mm h.1 h'.2.2)) zW,lTr (sz_ss (sz_mm h.1 h'.2.1) (sz_mm h.2.1 h'.1)) zW⟩
end V3
def gE (u:V3):Value:=lE (aA u.x) (aA u.y) (aA u.z)
theorem aJw {u v:V3}(hu:u.le (2^29))(hv:v.le (2^29)):Pure PP 177 [.func (.func 178) #[] #[],gE u,gE v] (lE (aA (u.x*v.x)) (aA (u.y*v.y)) (aA (u.z*v.z))):=
 bBw uN (aGz hu.1 hv.1) (aGz hu.2.1 hv.2.1) (aGz hu.2.2 hv.2.2)
theorem aUx {u v:V3}(hu:u.le (2^29))(hv:v.le (2^29)):Pure PP 177 [.func (.func 179) #[] #[],gE u,gE v] (gE (u.add v)):=
 bBw aKd (aUq hu.1 hv.1) (aUq hu.2.1 hv.2.1) (aUq hu.2.2 hv.2.2)
theorem aUy {u v:V3}(hu:u.le (2^29))(hv:v.le (2^29)):Pure PP 177 [.func (.func 141) #[] #[],gE u,gE v] (gE (u.sub v)):=
 bBw xV (aJv hu.1 hv.1) (aJv hu.2.1 hv.2.1) (aJv hu.2.2 hv.2.2)
theorem aHk:aB PP 165:=zK
theorem aUv {u:V3}{s:Rat}(hu:u.le (2^29))(hs:sz s<=2^29):Pure PP 165 [gE u,.string (aA s)] (gE (u.scale s)):=by
 have h1:=vof (aA s) (aA s) (aA s)
 have h2:=aJw (v:=⟨s,s,s⟩) hu ⟨hs,hs,hs⟩
 unfold V3.scale gE lE at *;dsimp only at h2 |-;generalize aA (u.x*s)=r1,aA (u.y*s)=r2,aA (u.z*s)=r3,aA u.x=a,aA u.y=b,aA u.z=d at h2 |-;generalize aA s=t at h1 h2 |-;refine aH mixed tok [iU a b d,.s (.v t)] Tryz.func165 rfl rfl rfl λc hc hR=>?_;apply zN hc;cbv;refine zD (iU t t t) h1 aMo ?_;cbv;refine zD (iU r1 r2 r3) h2 aFu ?_;cbv;refine zE ?_;cbv;exact zR
theorem aKe:aB PP 139:=zK
theorem bBv {u v:V3}(hu:u.le (2^26))(hv:v.le (2^26)):Pure PP 139 [gE u,gE v] (.string (aA (u.dot v))):=by
 have h1:=aJw (hu.mono zV) (hv.mono zV)
 have m1:=V3.sz_mm hu.1 hv.1
 have m2:=V3.sz_mm hu.2.1 hv.2.1
 have m3:=V3.sz_mm hu.2.2 hv.2.2
 have h2:=aUq (lTr m1 zV) (lTr m2 zV)
 have h3:=aUq (lTr (V3.sz_aa m1 m2) zV) (lTr m3 zV)
 unfold V3.dot gE lE at *;generalize aA (u.x*v.x+u.y*v.y+u.z*v.z)=r at h3 |-;generalize aA (u.x*v.x+u.y*v.y)=q at h2 h3;generalize aA (u.x*v.x)=r1,aA (u.y*v.y)=r2 at h1 h2;generalize aA (u.z*v.z)=r3 at h1 h3;generalize aA u.x=a,aA u.y=b,aA u.z=d,aA v.x=a',aA v.y=b',aA v.z=d' at h1 |-;refine aH mixed tok [iU a b d,iU a' b' d'] Tryz.func139 rfl rfl rfl λc hc hR=>?_;apply zN hc;cbv;refine zC (iU r1 r2 r3) h1 aFu ?_;cbv;refine zD (.s (.v q)) h2 aKd ?_;cbv;refine zD (.s (.v r)) h3 aKd ?_;cbv;refine zE ?_;cbv;exact zR
theorem qL:(Obl.nz (.l 3)).ok:=by show(3:Int)≠0;decide
theorem aQ2:aB PP 201:=zK
theorem bBu {u v:V3}(hu:u.le (2^27))(hv:v.le (2^27)):Pure PP 201 [gE u,gE v] (gE (u.cross v)):=by
 have k1:=aC7 (aA u.x) (aA u.y) (aA u.z)
 have k2:=aC7 (aA v.x) (aA v.y) (aA v.z)
 have k3:=vof (aA (u.y*v.z - u.z*v.y)) (aA (u.z*v.x - u.x*v.z)) (aA (u.x*v.y - u.y*v.x))
 have big:2^27<=2^29:=zV
 have hu':=hu.mono big
 have hv':=hv.mono big
 have h1:=aGz hu'.2.1 hv'.2.2
 have h2:=aGz hu'.2.2 hv'.2.1
 have h3:=aJv (lTr (V3.sz_mm hu.2.1 hv.2.2) zV) (lTr (V3.sz_mm hu.2.2 hv.2.1) zV)
 have h4:=aGz hu'.2.2 hv'.1
 have h5:=aGz hu'.1 hv'.2.2
 have h6:=aJv (lTr (V3.sz_mm hu.2.2 hv.1) zV) (lTr (V3.sz_mm hu.1 hv.2.2) zV)
 have h7:=aGz hu'.1 hv'.2.1
 have h8:=aGz hu'.2.1 hv'.1
 have h9:=aJv (lTr (V3.sz_mm hu.1 hv.2.1) zV) (lTr (V3.sz_mm hu.2.1 hv.1) zV)
 unfold V3.cross gE lE at *;dsimp only at k3 |-;generalize aA (u.y*v.z - u.z*v.y)=r1 at h3 k3 |-;generalize aA (u.z*v.x - u.x*v.z)=r2 at h6 k3 |-;generalize aA (u.x*v.y - u.y*v.x)=r3 at h9 k3 |-;generalize aA (u.y*v.z)=p1 at h1 h3;generalize aA (u.z*v.y)=p2 at h2 h3;generalize aA (u.z*v.x)=p3 at h4 h6;generalize aA (u.x*v.z)=p4 at h5 h6;generalize aA (u.x*v.y)=p5 at h7 h9;generalize aA (u.y*v.x)=p6 at h8 h9;generalize aA u.x=a,aA u.y=b,aA u.z=d,aA v.x=a',aA v.y=b',aA v.z=d' at *;refine aH mixed tok [iU a b d,iU a' b' d'] Tryz.func201 rfl rfl rfl λc hc hR=>?_;apply zN hc;cbv;refine zD (iU a b d) k1 rW ?_;cbv;refine zD (iU a' b' d') k2 rW ?_;cbv;refine zE ?_;cbv;refine aZ 4 (λp hp=>?_);refine hp _ _ _ ?_;apply zN hc;cbv;refine aP hc ⟨qL,qL,trivial⟩ ?_;refine zD (.s (.v p1)) h1 uN ?_;cbv;refine zD (.s (.v p2)) h2 uN ?_;cbv;refine zD (.s (.v r1)) h3 xV ?_;cbv;refine zE ?_;cbv;refine hp _ _ _ ?_;apply zN hc;cbv;refine aP hc ⟨qL,qL,trivial⟩ ?_;refine zD (.s (.v p3)) h4 uN ?_;cbv;refine zD (.s (.v p4)) h5 uN ?_;cbv;refine zD (.s (.v r2)) h6 xV ?_;cbv;refine zE ?_;cbv;refine hp _ _ _ ?_;apply zN hc;cbv;refine aP hc ⟨qL,qL,trivial⟩ ?_;refine zD (.s (.v p5)) h7 uN ?_;cbv;refine zD (.s (.v p6)) h8 uN ?_;cbv;refine zD (.s (.v r3)) h9 xV ?_;cbv;refine zE ?_;cbv;refine hp _ _ _ ?_;apply zN hc;cbv;refine zC (iU r1 r2 r3) k3 aMo ?_;cbv;exact zR
structure Pl where
 n:V3
 a:Rat
def nZ (p:Pl):Value:=.agg #[.string (aA p.n.x),.string (aA p.n.y),.string (aA p.n.z),.string (aA p.a)]
def Pl.height (p:Pl)(v:V3):Rat:=p.n.dot v - p.a
theorem pQ {p:Pl}{v:V3}{k m l:Nat}(h:p.n.le k)(h':v.le m)(hl:sz p.a<=l):sz (p.height v)<=3*(k+m)+l+3:=lTr (V3.sz_ss (V3.sz_dot h h') hl) zW
theorem xU:aB PP 193:=zK
theorem aGy {p:Pl}{v:V3}(hn:p.n.le (2^26))(hv:v.le (2^26))(ha:sz p.a<=2^29):Pure PP 193 [nZ p,gE v] (.string (aA (p.height v))):=by
 have h1:=bBv hn hv
 have h2:=aJv (lTr (V3.sz_dot hn hv) zV) ha
 unfold Pl.height nZ gE lE at *;generalize aA (p.n.dot v - p.a)=r at h2 |-;generalize aA (p.n.dot v)=q at h1 h2;generalize aA p.a=t at h2 |-;generalize aA p.n.x=a,aA p.n.y=b,aA p.n.z=d,aA v.x=a',aA v.y=b',aA v.z=d' at h1 |-;refine aH mixed tok [.g [.s (.v a),.s (.v b),.s (.v d),.s (.v t)],iU a' b' d'] Tryz.func193 rfl rfl rfl λc hc hR=>?_;apply zN hc;cbv;refine zD (.s (.v q)) h1 aKe ?_;cbv;refine zD (.s (.v r)) h2 xV ?_;cbv;refine zE ?_;cbv;exact zR
def gQ (s:ByteArray):Bool:=(pM s.data.toList).isSome
theorem aA0 (q:Rat):gQ (aA q)=true:=by unfold gQ;rw[dA];rfl
theorem eR:aB PP 101:=zK
theorem aUp {a b d:ByteArray}(ha:a.size<=2^31)(hb:b.size<=2^31)(hd:d.size<=2^31):Pure PP 101 [lE a b d] (.bool (gQ a&&gQ b&&gQ d)):=by
 have k0:=aC7 a b d
 have k1:=fP a ha
 have k2:=fP b hb
 have k3:=fP d hd
 change Pure _ _ _ (.bool (gQ a))at k1
 change Pure _ _ _ (.bool (gQ b))at k2
 change Pure _ _ _ (.bool (gQ d))at k3
 unfold lE at *;generalize gQ a=x at k1 |-;generalize gQ b=y at k2 |-;generalize gQ d=z at k3 |-;refine aH mixed tok [iU a b d] Tryz.func101 rfl rfl rfl λc hc hR=>?_;apply zN hc;cbv;refine zC (iU a b d) k0 rW ?_;cbv;refine aZ 4 (λp hp=>?_);refine hp _ _ _ ?_;apply zN hc;cbv;cases x with
 | false=>
  refine zC (.b (.l false)) k1 cC ?_;cbv;exact zR
 | true=>
 refine zC (.b (.l true)) k1 cC ?_;cbv;refine hp _ _ _ ?_;apply zN hc;cbv;cases y with
 | false=>
  refine zC (.b (.l false)) k2 cC ?_;cbv;exact zR
 | true=>
 refine zC (.b (.l true)) k2 cC ?_;cbv;refine hp _ _ _ ?_;apply zN hc;cbv;cases z with
 | false=>
  refine zC (.b (.l false)) k3 cC ?_;cbv;exact zR
 | true=>
 refine zC (.b (.l true)) k3 cC ?_;cbv;refine hp _ _ _ ?_;apply zN hc;cbv;exact zR
theorem dK {u:V3}(hu:u.le (2^29)):Pure PP 101 [gE u] (.bool true):=by
 have:=aUp (lTr (bP u.x) (by have:=hu.1;omega)) (lTr (bP u.y) (by have:=hu.2.1;omega)) (lTr (bP u.z) (by have:=hu.2.2;omega))
 rw[aA0,aA0,aA0]at this;exact this
theorem aBg:aB PP 138:=zK
theorem aY6:aB PP 94:=zK
theorem bGx {u v:V3}(hu:u.le (2^26))(hv:v.le (2^26)):Pure PP 94 [gE u,gE v] (.tuple #[.string (aA (u.dot v)),.int .i64 0]):=by
 have h1:=bBv hu hv
 have k1:=dK (hu.mono zV)
 have k2:=dK (hv.mono zV)
 unfold gE lE at *;generalize aA (u.dot v)=r at h1 |-;generalize aA u.x=a,aA u.y=b,aA u.z=d,aA v.x=a',aA v.y=b',aA v.z=d' at *;refine aH mixed tok [iU a b d,iU a' b' d'] Tryz.func94 rfl rfl rfl λc hc hR=>?_;apply zN hc;cbv;refine cP hc Tryz.func138 aBg (λc' tm FR hFR hc' L=>?_);apply zN hc';cbv;refine aZ 3 (λp hp=>?_);refine hp _ _ _ ?_;apply zN hc';cbv;refine zC (hc:=hc') (.b (.l true)) k1 eR ?_;cbv;refine hp _ _ _ ?_;apply zN hc';cbv;refine zC (hc:=hc') (.b (.l true)) k2 eR ?_;cbv;refine hp _ _ _ ?_;apply zN hc';cbv;refine cK hc' L hFR (.head _) ?_;apply zN hc;cbv;refine zC (.s (.v r)) h1 aKe ?_;cbv;exact zR
theorem aY5:aB PP 168:=zK
theorem bGw {u v z:V3}(hu:u.le (2^26))(hv:v.le (2^23))(hz:z.le (2^23)):Pure PP 168 [gE u,gE v,gE z] (.tuple #[.string (aA (u.dot (v.cross z))),.int .i64 0]):=by
 have h1:=bBu (hv.mono zV) (hz.mono zV)
 have h2:=bBv hu ((V3.le_cross hv hz).mono zV)
 have k1:=dK (hu.mono zV)
 have k2:=dK (hv.mono zV)
 have k3:=dK (hz.mono zV)
 unfold gE lE at *;generalize aA (u.dot (v.cross z))=r at h2 |-;generalize aA (v.cross z).x=p1,aA (v.cross z).y=p2,aA (v.cross z).z=p3,aA u.x=a,aA u.y=b,aA u.z=d,aA v.x=a',aA v.y=b',aA v.z=d',aA z.x=a2,aA z.y=b2,aA z.z=d2 at *;refine aH mixed tok [iU a b d,iU a' b' d',iU a2 b2 d2] Tryz.func168 rfl rfl rfl λc hc hR=>?_;apply zN hc;cbv;refine cP hc Tryz.func138 aBg (λc' tm FR hFR hc' L=>?_);apply zN hc';cbv;refine aZ 4 (λp hp=>?_);refine hp _ _ _ ?_;apply zN hc';cbv;refine zC (hc:=hc') (.b (.l true)) k1 eR ?_;cbv;refine hp _ _ _ ?_;apply zN hc';cbv;refine zC (hc:=hc') (.b (.l true)) k2 eR ?_;cbv;refine hp _ _ _ ?_;apply zN hc';cbv;refine zC (hc:=hc') (.b (.l true)) k3 eR ?_;cbv;refine hp _ _ _ ?_;apply zN hc';cbv;refine cK hc' L hFR (.head _) ?_;apply zN hc;cbv;refine zD (iU p1 p2 p3) h1 aQ2 ?_;cbv;refine zD (.s (.v r)) h2 aKe ?_;cbv;refine zE ?_;cbv;exact zR
theorem aQ1:aB PP 124:=zK
theorem bBt {u:V3}{q:Rat}(hu:u.le (2^29))(hq:sz q<=2^29):Pure PP 124 [gE u,.string (aA q)] (.tuple #[gE (u.scale q),.int .i64 0]):=by
 have h1:=aUv hu hq
 have k1:=dK hu
 have k2:=fP (aA q) (lTr (bP q) zW)
 rw[dA]at k2;change Pure _ _ _ (.bool true)at k2;unfold gE lE at *;generalize aA (u.scale q).x=r1,aA (u.scale q).y=r2,aA (u.scale q).z=r3,aA u.x=a,aA u.y=b,aA u.z=d,aA q=t at *;refine aH mixed tok [iU a b d,.s (.v t)] Tryz.func124 rfl rfl rfl λc hc hR=>?_;apply zN hc;cbv;refine zC (.b (.l true)) k1 eR ?_;cbv;refine zC (.b (.l true)) k2 cC ?_;cbv;refine zC (iU r1 r2 r3) h1 aHk ?_;cbv;exact zR
def V3.zero:V3:=⟨0,0,0⟩
theorem BE.and_tt {a b:BE}(h:(a.and b).den=true):a.den=true/\b.den=true:=by
 have h:(a.den&&b.den)=true:=h
 exact Bool.and_eq_true_iff.1 h
theorem is0 {q:Rat}(h:(BE.seq (.v (aA q)) (.v ⟨#[48]⟩)).den=true):q=0:=by
 rw[aT0 rfl gC.symm]at h;exact of_decide_eq_true h
theorem aHj:aB PP 192:=zK
theorem aUu {p:Pl}(h0:p.n≠V3.zero)(hn:p.n.le (2^29))(ha:sz p.a<=2^29):Pure PP 192 [nZ p] (.int .i64 0):=by
 have k1:=dK hn
 have k2:=fP (aA p.a) (lTr (bP p.a) zW)
 rw[dA]at k2;change Pure _ _ _ (.bool true)at k2;have k3:=vof ⟨#[48]⟩ ⟨#[48]⟩ ⟨#[48]⟩;have z0:((BE.seq (.v (aA p.n.x)) (.v ⟨#[48]⟩)).and ((BE.seq (.v (aA p.n.y)) (.v ⟨#[48]⟩)).and (BE.seq (.v (aA p.n.z)) (.v ⟨#[48]⟩)))).den=true->False:=λh=>by
  obtain⟨e1,h⟩:=BE.and_tt h;obtain⟨e2,e3⟩:=BE.and_tt h;refine h0 ?_;obtain⟨⟨x,y,z⟩,q⟩:=p;have e1:x=0:=is0 e1;have e2:y=0:=is0 e2;have e3:z=0:=is0 e3;rw[e1,e2,e3];rfl
 clear h0;unfold nZ gE lE at *;generalize aA p.n.x=a,aA p.n.y=b,aA p.n.z=d at *;generalize aA p.a=t at *;refine aH mixed tok [.g [.s (.v a),.s (.v b),.s (.v d),.s (.v t)]] Tryz.func192 rfl rfl rfl λc hc hR=>?_;apply zN hc;cbv;refine zD (.b (.l true)) k1 eR ?_;cbv;refine zD (.b (.l true)) k2 cC ?_;cbv;refine zD (iU ⟨#[48]⟩ ⟨#[48]⟩ ⟨#[48]⟩) k3 aMo ?_;cbv;refine zE ?_;cbv;refine aE rfl 100 (λh=>(z0 h).elim) (λh=>?_);cbv;exact zR
theorem mD:aB PP 180:=zK
theorem aJu {p:Pl}{v:V3}(h0:p.n≠V3.zero)(hn:p.n.le (2^26))(ha:sz p.a<=2^26)(hv:v.le (2^26)):Pure PP 180 [nZ p,gE v] (.tuple #[.int .i64 (kU (p.height v) 0),.int .i64 0]):=by
 have k1:=aUu h0 (hn.mono zV) (lTr ha zV)
 have k2:=dK (hv.mono zV)
 have k3:=aGy hn hv (lTr ha zV)
 have k4:=aUw (lTr (pQ hn hv ha) zV)
 unfold nZ gE lE at *;generalize kU (p.height v) 0=s,aA (p.height v)=r,aA p.n.x=a,aA p.n.y=b,aA p.n.z=d at *;generalize aA p.a=t,aA v.x=a',aA v.y=b',aA v.z=d' at *;refine aH mixed tok [.g [.s (.v a),.s (.v b),.s (.v d),.s (.v t)],iU a' b' d'] Tryz.func180 rfl rfl rfl λc hc hR=>?_;apply zN hc;cbv;refine zC (.i .i64 (.l 0)) k1 aHj ?_;cbv;refine zC (.b (.l true)) k2 eR ?_;cbv;refine zC (.s (.v r)) k3 xU ?_;cbv;refine zC (.i .i64 (.v s)) k4 aFt ?_;cbv;exact zR
def Pl.cut (p:Pl)(u v:V3):V3:=u.add ((v.sub u).scale (p.height u/(p.height u - p.height v)))
theorem aGe {p:Pl}{u v:V3}{k:Nat}(hn:p.n.le k)(ha:sz p.a<=k)(hu:u.le k)(hv:v.le k):(p.cut u v).le (25*k+14):=by
 have e1:=pQ hn hu ha
 have e2:=pQ hn hv ha
 have e3:=V3.sz_ss e1 e2
 have e4:sz (p.height u/(p.height u - p.height v))<=_:=lTr (yQ _ _) (Nat.add_le_add e1 e3)
 exact(V3.le_add hu (V3.le_scale (V3.le_sub hv hu) e4)).mono zW
theorem aRi {x y:Rat}(hd:(0<x/\¬0<y)\/(¬0<x/\0<y)):x - y≠0:=by
 intro e;have e:x=y:=by grind
 subst e;rcases hd with⟨a,b⟩ | ⟨a,b⟩
 ·exact b a
 ·exact a b
theorem pE (x:Rat):decide (0<kU x 0)=decide (0<x):=by
 unfold kU;split
 ·rename_i h;rw[decide_eq_false (Rat.not_lt.2 (Rat.le_of_lt h))];rfl
 ·split
  ·rename_i h;rw[decide_eq_true h];rfl
  ·rename_i h;rw[decide_eq_false h];rfl
theorem aZg {x y:Rat}(hd:(0<x/\¬0<y)\/(¬0<x/\0<y)):decide (0<kU x 0)=decide (0<kU y 0)->False:=by
 rw[pE,pE];rcases hd with⟨a,b⟩ | ⟨a,b⟩<;>simp[a,b]
theorem dE:aB PP 159:=zK
theorem aFb {p:Pl}{u v:V3}(h0:p.n≠V3.zero)(hn:p.n.le (2^24))(ha:sz p.a<=2^24)(hu:u.le (2^24))(hv:v.le (2^24))(hd:(0<p.height u/\¬0<p.height v)\/(¬0<p.height u/\0<p.height v)):
  Pure PP 159 [nZ p,gE u,gE v] (.tuple #[gE (p.cut u v),.int .i64 0]):=by
 have k1:=aUu h0 (hn.mono zV) (lTr ha zV)
 have k2:=dK (hu.mono zV)
 have k3:=dK (hv.mono zV)
 have k4:=aGy (hn.mono zV) (hu.mono zV) (lTr ha zV)
 have k5:=aGy (hn.mono zV) (hv.mono zV) (lTr ha zV)
 have e1:=pQ hn hu ha
 have e2:=pQ hn hv ha
 have e3:=V3.sz_ss e1 e2
 have k6:=aUw (lTr e1 zV)
 have k7:=aUw (lTr e2 zV)
 have k8:=aUy (u:=v) (v:=u) (hv.mono zV) (hu.mono zV)
 have k9:=aJv (lTr e1 zV) (lTr e2 zV)
 have k10:=bGy (x:=p.height u) (y:=p.height u - p.height v) (aRi hd) (lTr e1 zV) (lTr e3 zV)
 have e4:sz (p.height u/(p.height u - p.height v))<=_:=lTr (yQ _ _) (Nat.add_le_add e1 e3)
 have e5:=V3.le_sub hv hu
 have k11:=aUv (s:=p.height u/(p.height u - p.height v)) (e5.mono zV) (lTr e4 zV)
 have k12:=aUx (hu.mono zV) ((V3.le_scale e5 e4).mono zV)
 change Pure _ _ _ (gE (p.cut u v))at k12
 have z0:=aZg hd
 clear e1 e2 e3 e4 e5 hd;generalize (v.sub u).scale (p.height u/(p.height u - p.height v))=X at *;generalize v.sub u=Y at *;unfold nZ gE lE at *;generalize aA p.n.x=a,aA p.n.y=b,aA p.n.z=d at *;generalize aA p.a=t,aA u.x=a',aA u.y=b',aA u.z=d',aA v.x=a2,aA v.y=b2,aA v.z=d2,kU (p.height u) 0=s1,kU (p.height v) 0=s2,aA (p.height u/(p.height u - p.height v))=f,aA (p.height u - p.height v)=g,aA (p.height u)=q1,aA (p.height v)=q2,aA X.x=x1,aA X.y=x2,aA X.z=x3,aA Y.x=w1,aA Y.y=w2,aA Y.z=w3,aA (p.cut u v).x=y1,aA (p.cut u v).y=y2,aA (p.cut u v).z=y3 at *;refine aH mixed tok [.g [.s (.v a),.s (.v b),.s (.v d),.s (.v t)],iU a' b' d',iU a2 b2 d2] Tryz.func159 rfl rfl rfl λc hc hR=>?_;apply zN hc;cbv;refine zC (.i .i64 (.l 0)) k1 aHj ?_;cbv;refine cP hc Tryz.func138 aBg (λc' tm FR hFR hc' L=>?_);apply zN hc';cbv;refine aZ 3 (λp hp=>?_);refine hp _ _ _ ?_;apply zN hc';cbv;refine zC (hc:=hc') (.b (.l true)) k2 eR ?_;cbv;refine hp _ _ _ ?_;apply zN hc';cbv;refine zC (hc:=hc') (.b (.l true)) k3 eR ?_;cbv;refine hp _ _ _ ?_;apply zN hc';cbv;refine cK hc' L hFR (.head _) ?_;apply zN hc;cbv;refine zD (.s (.v q1)) k4 xU ?_;cbv;refine zD (.s (.v q2)) k5 xU ?_;cbv;refine zE ?_;cbv;refine zC (.i .i64 (.v s1)) k6 aFt ?_;cbv;refine zC (.i .i64 (.v s2)) k7 aFt ?_;cbv;refine aE rfl 100 (λh=>?_) (λh=>?_)
 ·have h:(decide ((0:Int)<s1)==decide ((0:Int)<s2))=true:=h
  exact(z0 (eq_of_beq h)).elim
 cbv;refine zD (iU w1 w2 w3) k8 aFu ?_;cbv;refine zD (.s (.v g)) k9 xV ?_;cbv;refine zD (.s (.v f)) k10 aY7 ?_;cbv;refine zD (iU x1 x2 x3) k11 aHk ?_;cbv;refine zD (iU y1 y2 y3) k12 aFu ?_;cbv;refine zE ?_;cbv;exact zR
theorem rF:aA 1=⟨#[49]⟩:=by
 have:aA 1=aY 1:=rfl
 rw[this,show(1:Int)=((1:Nat):Int) from rfl,kG,aJs]
theorem sz1:sz 1<=2^29:=lTr (iY 1) (by rw[rF];decide)
theorem kJ {off sz inner size n:Nat}{i:IE}(h:Nat.ble (aV off i.den sz inner+size) n=true:=by exact rfl):(Obl.ix off i sz inner size n).ok:=lbl h
theorem iC:aB PP 105:=zK
theorem eC:aB PP 104:=zK
theorem uF {x y:Rat}(hx:sz x<=2^29)(hy:sz y<=2^29):lK PP 105 [aA x,aA y] (.string (aA (x+y))):=by
 have t0:=aCm (x:=0) (y:=x) sz0 hx
 rw[Rat.zero_add,gC]at t0;have t1:=aCm hx hy;obtain⟨a1,ha1⟩:∃s,s=aA (x+y):=⟨_,rfl⟩;rw[<-ha1]at t1 |-;generalize aA x=s0 at t0 t1 |-;generalize aA y=s1 at t1 |-;refine lK.of_fn (λX w v hX hv=>?_);obtain⟨R,hRR⟩:=nm (dN (.string a1));obtain⟨K,hK⟩:=nm ([KF.cst v (rowT [s0,s1])]);rw[<-hRR];refine bE mixed tok [.q v] (K:=K) Tryz.func105 rfl rfl (lbl rfl) rfl hX (by rw[hK];simp;exact hv) λc hc hR=>?_;refine yM 0 [s0,s1] 2 rfl rfl rfl (λX μ a w v' H hv'=>bZ H (by rw[hK];exact .head _) hv') (λf hf=>?_);have e0:f 0=s0:=hf 0 _ rfl;have e1:f 1=s1:=hf 1 _ rfl;clear hf;subst e0;subst e1;apply zN hc;cbv;refine aZ 3 (λp hp=>?_);refine hp _ _ _ ?_;apply zN hc;cbv;refine aP hc ⟨kJ,trivial⟩ ?_;refine zC (.t [.s (.v (f 0)),.i .i64 (.l 0)]) t0 nH ?_;cbv;refine hp _ _ _ ?_;apply zN hc;cbv;refine aP hc ⟨kJ,trivial⟩ ?_;refine zC (.t [.s (.v (a1)),.i .i64 (.l 0)]) t1 nH ?_;cbv;refine hp _ _ _ ?_;apply zN hc;cbv;refine aR hc hR rfl (λX μ a w v' H hv'=>?_);rw[hRR,dP hv'];rfl
theorem aIq {x y z:Rat}(hx:sz x<=2^29)(hy:sz y<=2^29)(hz:sz z<=2^29)(b1:sz (x+y)<=2^29):lK PP 105 [aA x,aA y,aA z] (.string (aA ((x+y)+z))):=by
 have t0:=aCm (x:=0) (y:=x) sz0 hx
 rw[Rat.zero_add,gC]at t0;have t1:=aCm hx hy;have t2:=aCm b1 hz;obtain⟨a2,ha2⟩:∃s,s=aA ((x+y)+z):=⟨_,rfl⟩;rw[<-ha2]at t2 |-;obtain⟨a1,ha1⟩:∃s,s=aA (x+y):=⟨_,rfl⟩;rw[<-ha1]at t1 t2;generalize aA x=s0 at t0 t1 |-;generalize aA y=s1 at t1 |-;generalize aA z=s2 at t2 |-;refine lK.of_fn (λX w v hX hv=>?_);obtain⟨R,hRR⟩:=nm (dN (.string a2));obtain⟨K,hK⟩:=nm ([KF.cst v (rowT [s0,s1,s2])]);rw[<-hRR];refine bE mixed tok [.q v] (K:=K) Tryz.func105 rfl rfl (lbl rfl) rfl hX (by rw[hK];simp;exact hv) λc hc hR=>?_;refine yM 0 [s0,s1,s2] 3 rfl rfl rfl (λX μ a w v' H hv'=>bZ H (by rw[hK];exact .head _) hv') (λf hf=>?_);have e0:f 0=s0:=hf 0 _ rfl;have e1:f 1=s1:=hf 1 _ rfl;have e2:f 2=s2:=hf 2 _ rfl;clear hf;subst e0;subst e1;subst e2;apply zN hc;cbv;refine aZ 4 (λp hp=>?_);refine hp _ _ _ ?_;apply zN hc;cbv;refine aP hc ⟨kJ,trivial⟩ ?_;refine zC (.t [.s (.v (f 0)),.i .i64 (.l 0)]) t0 nH ?_;cbv;refine hp _ _ _ ?_;apply zN hc;cbv;refine aP hc ⟨kJ,trivial⟩ ?_;refine zC (.t [.s (.v (a1)),.i .i64 (.l 0)]) t1 nH ?_;cbv;refine hp _ _ _ ?_;apply zN hc;cbv;refine aP hc ⟨kJ,trivial⟩ ?_;refine zC (.t [.s (.v (a2)),.i .i64 (.l 0)]) t2 nH ?_;cbv;refine hp _ _ _ ?_;apply zN hc;cbv;refine aR hc hR rfl (λX μ a w v' H hv'=>?_);rw[hRR,dP hv'];rfl
theorem aXz {x y z u:Rat}(hx:sz x<=2^29)(hy:sz y<=2^29)(hz:sz z<=2^29)(hu:sz u<=2^29)(b1:sz (x+y)<=2^29)(b2:sz ((x+y)+z)<=2^29):lK PP 105 [aA x,aA y,aA z,aA u] (.string (aA (((x+y)+z)+u))):=by
 have t0:=aCm (x:=0) (y:=x) sz0 hx
 rw[Rat.zero_add,gC]at t0;have t1:=aCm hx hy;have t2:=aCm b1 hz;have t3:=aCm b2 hu;obtain⟨a3,ha3⟩:∃s,s=aA (((x+y)+z)+u):=⟨_,rfl⟩;rw[<-ha3]at t3 |-;obtain⟨a2,ha2⟩:∃s,s=aA ((x+y)+z):=⟨_,rfl⟩;rw[<-ha2]at t2 t3;obtain⟨a1,ha1⟩:∃s,s=aA (x+y):=⟨_,rfl⟩;rw[<-ha1]at t1 t2;generalize aA x=s0 at t0 t1 |-;generalize aA y=s1 at t1 |-;generalize aA z=s2 at t2 |-;generalize aA u=s3 at t3 |-;refine lK.of_fn (λX w v hX hv=>?_);obtain⟨R,hRR⟩:=nm (dN (.string a3));obtain⟨K,hK⟩:=nm ([KF.cst v (rowT [s0,s1,s2,s3])]);rw[<-hRR];refine bE mixed tok [.q v] (K:=K) Tryz.func105 rfl rfl (lbl rfl) rfl hX (by rw[hK];simp;exact hv) λc hc hR=>?_;refine yM 0 [s0,s1,s2,s3] 4 rfl rfl rfl (λX μ a w v' H hv'=>bZ H (by rw[hK];exact .head _) hv') (λf hf=>?_);have e0:f 0=s0:=hf 0 _ rfl;have e1:f 1=s1:=hf 1 _ rfl;have e2:f 2=s2:=hf 2 _ rfl;have e3:f 3=s3:=hf 3 _ rfl;clear hf;subst e0;subst e1;subst e2;subst e3;apply zN hc;cbv;refine aZ 5 (λp hp=>?_);refine hp _ _ _ ?_;apply zN hc;cbv;refine aP hc ⟨kJ,trivial⟩ ?_;refine zC (.t [.s (.v (f 0)),.i .i64 (.l 0)]) t0 nH ?_;cbv;refine hp _ _ _ ?_;apply zN hc;cbv;refine aP hc ⟨kJ,trivial⟩ ?_;refine zC (.t [.s (.v (a1)),.i .i64 (.l 0)]) t1 nH ?_;cbv;refine hp _ _ _ ?_;apply zN hc;cbv;refine aP hc ⟨kJ,trivial⟩ ?_;refine zC (.t [.s (.v (a2)),.i .i64 (.l 0)]) t2 nH ?_;cbv;refine hp _ _ _ ?_;apply zN hc;cbv;refine aP hc ⟨kJ,trivial⟩ ?_;refine zC (.t [.s (.v (a3)),.i .i64 (.l 0)]) t3 nH ?_;cbv;refine hp _ _ _ ?_;apply zN hc;cbv;refine aR hc hR rfl (λX μ a w v' H hv'=>?_);rw[hRR,dP hv'];rfl
theorem nN {x y:Rat}(hx:sz x<=2^29)(hy:sz y<=2^29):lK PP 104 [aA x,aA y] (.string (aA (x*y))):=by
 have t0:=aI1 (x:=1) (y:=x) sz1 hx
 rw[Rat.one_mul,rF]at t0;have t1:=aI1 hx hy;obtain⟨a1,ha1⟩:∃s,s=aA (x*y):=⟨_,rfl⟩;rw[<-ha1]at t1 |-;generalize aA x=s0 at t0 t1 |-;generalize aA y=s1 at t1 |-;refine lK.of_fn (λX w v hX hv=>?_);obtain⟨R,hRR⟩:=nm (dN (.string a1));obtain⟨K,hK⟩:=nm ([KF.cst v (rowT [s0,s1])]);rw[<-hRR];refine bE mixed tok [.q v] (K:=K) Tryz.func104 rfl rfl (lbl rfl) rfl hX (by rw[hK];simp;exact hv) λc hc hR=>?_;refine yM 0 [s0,s1] 2 rfl rfl rfl (λX μ a w v' H hv'=>bZ H (by rw[hK];exact .head _) hv') (λf hf=>?_);have e0:f 0=s0:=hf 0 _ rfl;have e1:f 1=s1:=hf 1 _ rfl;clear hf;subst e0;subst e1;apply zN hc;cbv;refine aZ 3 (λp hp=>?_);refine hp _ _ _ ?_;apply zN hc;cbv;refine aP hc ⟨kJ,trivial⟩ ?_;refine zC (.t [.s (.v (f 0)),.i .i64 (.l 0)]) t0 rS ?_;cbv;refine hp _ _ _ ?_;apply zN hc;cbv;refine aP hc ⟨kJ,trivial⟩ ?_;refine zC (.t [.s (.v (a1)),.i .i64 (.l 0)]) t1 rS ?_;cbv;refine hp _ _ _ ?_;apply zN hc;cbv;refine aR hc hR rfl (λX μ a w v' H hv'=>?_);rw[hRR,dP hv'];rfl
theorem wO {x y z:Rat}(hx:sz x<=2^29)(hy:sz y<=2^29)(hz:sz z<=2^29)(b1:sz (x*y)<=2^29):lK PP 104 [aA x,aA y,aA z] (.string (aA ((x*y)*z))):=by
 have t0:=aI1 (x:=1) (y:=x) sz1 hx
 rw[Rat.one_mul,rF]at t0;have t1:=aI1 hx hy;have t2:=aI1 b1 hz;obtain⟨a2,ha2⟩:∃s,s=aA ((x*y)*z):=⟨_,rfl⟩;rw[<-ha2]at t2 |-;obtain⟨a1,ha1⟩:∃s,s=aA (x*y):=⟨_,rfl⟩;rw[<-ha1]at t1 t2;generalize aA x=s0 at t0 t1 |-;generalize aA y=s1 at t1 |-;generalize aA z=s2 at t2 |-;refine lK.of_fn (λX w v hX hv=>?_);obtain⟨R,hRR⟩:=nm (dN (.string a2));obtain⟨K,hK⟩:=nm ([KF.cst v (rowT [s0,s1,s2])]);rw[<-hRR];refine bE mixed tok [.q v] (K:=K) Tryz.func104 rfl rfl (lbl rfl) rfl hX (by rw[hK];simp;exact hv) λc hc hR=>?_;refine yM 0 [s0,s1,s2] 3 rfl rfl rfl (λX μ a w v' H hv'=>bZ H (by rw[hK];exact .head _) hv') (λf hf=>?_);have e0:f 0=s0:=hf 0 _ rfl;have e1:f 1=s1:=hf 1 _ rfl;have e2:f 2=s2:=hf 2 _ rfl;clear hf;subst e0;subst e1;subst e2;apply zN hc;cbv;refine aZ 4 (λp hp=>?_);refine hp _ _ _ ?_;apply zN hc;cbv;refine aP hc ⟨kJ,trivial⟩ ?_;refine zC (.t [.s (.v (f 0)),.i .i64 (.l 0)]) t0 rS ?_;cbv;refine hp _ _ _ ?_;apply zN hc;cbv;refine aP hc ⟨kJ,trivial⟩ ?_;refine zC (.t [.s (.v (a1)),.i .i64 (.l 0)]) t1 rS ?_;cbv;refine hp _ _ _ ?_;apply zN hc;cbv;refine aP hc ⟨kJ,trivial⟩ ?_;refine zC (.t [.s (.v (a2)),.i .i64 (.l 0)]) t2 rS ?_;cbv;refine hp _ _ _ ?_;apply zN hc;cbv;refine aR hc hR rfl (λX μ a w v' H hv'=>?_);rw[hRR,dP hv'];rfl
end Go.Ai
