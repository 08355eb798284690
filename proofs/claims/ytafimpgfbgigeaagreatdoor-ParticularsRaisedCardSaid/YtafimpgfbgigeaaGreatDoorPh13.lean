/- Part 14: lemmas for the particulars laws -/
import Derived.MapKept
import Derived.Carry
import Derived.Test.YtafimpgfbgigeaaGreatDoorPh12
set_option linter.all false
namespace Go.Num
open Go.Lib
theorem aDx {M:Nat}:∀(l:List UInt8) (acc:Nat),l.all nI=true->eI acc l<=M->eI acc l<1844674407370955162->parseUintM M acc l=.ok (eI acc l)
 | [],acc,_,_,_=>rfl
 | c::r,acc,hd,hM,hb=>by
  simp only[List.all_cons,Bool.and_eq_true]at hd;have hc:=hd.1;simp only[nI,Bool.and_eq_true,decide_eq_true_eq]at hc;rw[gG]at hM hb |-;have h1:=aHk r (10*acc+(c.toNat - 48));rw[parseUintM,if_pos hc,if_neg zW,if_neg zW,show acc*10+(c.toNat - 48)=10*acc+(c.toNat - 48) by omega];exact aDx r _ hd.2 hM hb
theorem aQq {n:Nat}(h:n<1000000000000000000):parseUintB 64 (decDigits n)=.ok n:=by
 unfold parseUintB;rw[if_neg (gO n)];have:=aDx (M:=2^64 - 1) (decDigits n) 0 (iG n) (by rw[dG];omega) (by rw[dG];omega);rwa [dG]at this
theorem aF8 {z:Int}(h:z.natAbs<1000000000000000000):parseIntB 64 (itoa z)=.ok z:=by
 have hp:=aQq h
 unfold itoa;split
 ·rename_i hz;rw[parseIntB_minus,hp];simp only[signedC];rw[if_neg zW];congr 1;omega
 ·rename_i hz;rw[show z.toNat=z.natAbs by omega];obtain⟨c,t,h1,h2⟩:=aC1 z.natAbs;rw[h1]at hp |-;simp only[nI,Bool.and_eq_true,decide_eq_true_eq]at h2;rw[parseIntB_plain _ _ _ zW zW,hp];simp only[signlessC];rw[if_neg zW];congr 1;omega
end Go.Num
namespace Go.Ai
open Go Go.Proofs Go.Num
theorem dU:aB PP 260:=zK
theorem aYs:aB PP 261:=zK
theorem aI4:aB PP 274:=zK
theorem aRx:aB PP 275:=zK
theorem aUv {s:ByteArray}{v:Int}(hs:s.size<=2^60)(h:Lib.parseIntB 64 s.data.toList=.ok v):Pure PP 274 [.string s,.int .i64 10,.int .i64 64] (.tuple #[.int .i64 v,.nilIface]):=by
 intro w hgl;have hs':s.size<=9223372036854775806:=lTr hs zV;refine Calls.mono (Tryz.strconv_ParseInt_10_at64_ok s hs' v h w) ?_;rintro e w' ⟨rfl,rfl | ⟨t,rfl⟩⟩
 ·exact⟨rfl,RowKit.Below.refl _ _⟩
 ·exact⟨rfl,Lib.bytesWorld_below w 5 t⟩
theorem bD2 {n:Int}(h0:-9223372036854775808<=n)(h1:n<=9223372036854775807):Pure PP 275 [.int .i64 n,.int .i64 10] (.string (aW n)):=by
 intro w hgl;refine Calls.mono (Tryz.strconv_FormatInt_10 n h0 h1 w hgl.pow10) ?_;rintro e w' ⟨rfl,k,os,rfl⟩;exact⟨rfl,Lib.below_grow _ _ (lRf _) _ _⟩
def qP (q:Rat):Bool:= !(decide (9<(aW q.num).size)||decide (9<(aJ q.den).size))
def aF4 (q:Rat):Value:=if qP q then .tuple #[.int .i64 q.num,.int .i64 q.den,.bool true]else .tuple #[.int .i64 0,.int .i64 0,.bool false]
theorem nJ {q:Rat}(h:qP q=true):q.num.natAbs<1000000000/\q.den<1000000000:=by
 unfold qP at h;simp only[Bool.not_eq_true',Bool.or_eq_false_iff,decide_eq_false_iff_not]at h;obtain⟨h1,h2⟩:=h;constructor
 ·have e:dl q.num.natAbs<=(aW q.num).size:=by
   show _<=(Lib.itoa q.num).toArray.size
   rw[List.size_toArray];unfold Lib.itoa dl;split
   ·simp
   ·rw[show q.num.toNat=q.num.natAbs by omega];exact lRf _
  have:=vJ q.num.natAbs
  exact Nat.lt_of_lt_of_le this (Nat.pow_le_pow_right zV zW:_<=10^9)
 ·have e:dl q.den=(aJ q.den).size:=(fS _).symm
  have:=vJ q.den
  exact Nat.lt_of_lt_of_le this (Nat.pow_le_pow_right zV zW:_<=10^9)
theorem aB4 (q:Rat):Pure PP 260 [cK q] (aF4 q):=by
 have hb:=nJ (q:=q)
 have p1:qP q=true->Pure PP 274 [.string (aW q.num),.int .i64 10,.int .i64 64] (.tuple #[.int .i64 q.num,.nilIface]):=λh=>
  aUv (lTr (mE _) (by have:=tE (k:=9) zV (Nat.lt_of_lt_of_le (hb h).1 zV);omega)) (by rw[dF];exact aF8 (Nat.lt_trans (hb h).1 zV))
 have p2:qP q=true->Pure PP 274 [.string (aJ q.den),.int .i64 10,.int .i64 64] (.tuple #[.int .i64 (q.den:Int),.nilIface]):=λh=>
  aUv (by rw[fS];have:=tE (k:=9) zV (Nat.lt_of_lt_of_le (hb h).2 zV);omega) (by rw[<-lM,dF];exact aF8 (by rw[Int.natAbs_natCast];exact Nat.lt_trans (hb h).2 zV))
 obtain⟨r,hr⟩:=nm (aF4 q);obtain⟨ok,hok⟩:=nm (qP q);have ht:ok=true->r=.tuple #[.int .i64 q.num,.int .i64 q.den,.bool true]:=λh=>by rw[hr];unfold aF4;rw[<-hok,h];rfl
 have hf:ok=false->r=.tuple #[.int .i64 0,.int .i64 0,.bool false]:=λh=>by rw[hr];unfold aF4;rw[<-hok,h];rfl
 unfold qP at hok;rw[<-show ok=qP q from hok]at p1 p2;rw[<-hr];clear hr hb;unfold cK;generalize aW q.num=s at p1 hok |-;generalize aJ q.den=t at p2 hok |-;generalize (q.den:Int)=dn at p2 ht;generalize q.num=nm at p1 ht;refine aOt mixed tok [.g [.s (.v s),.s (.v t)]] Tryz.func260 rfl rfl (lbl rfl) rfl λc hc hR=>?_;have c1:(BE.lt (.l 9) (.len (.v s))).den=decide (9<s.size):=by show decide ((9:Int)<(s.size:Int))=_;exact decide_eq_decide.2 zW
 have c2:(BE.lt (.l 9) (.len (.v t))).den=decide (9<t.size):=by show decide ((9:Int)<(t.size:Int))=_;exact decide_eq_decide.2 zW
 apply zN hc;cbv;refine cG 13 rfl rfl 100 (λh=>?_) (λh=>?_)
 ·have h1:=c1.symm.trans h
  have hok:ok=false:=by rw[hok,h1];rfl
  have hr:=hf hok
  cbv;exact bR hc hR rfl (by rw[hr];rfl)
 ·have h1:=c1.symm.trans h
  cbv;refine aE rfl 100 (λh=>?_) (λh=>?_)
  ·have h2:=c2.symm.trans h
   have hok:ok=false:=by rw[hok,h1,h2];rfl
   have hr:=hf hok
   cbv;exact bR hc hR rfl (by rw[hr];rfl)
  ·have h2:=c2.symm.trans h
   have hok:ok=true:=by rw[hok,h1,h2];rfl
   have hr:=ht hok
   have p1:=p1 hok
   have p2:=p2 hok
   cbv;refine zC (.t [.i .i64 (.v nm),.o .nilIface]) p1 aI4 ?_;cbv;refine zC (.t [.i .i64 (.v dn),.o .nilIface]) p2 aI4 ?_;cbv;exact bR hc hR rfl (by rw[hr];rfl)
theorem bCq {a b:Int}(ha:a.natAbs<=4000000000000000000)(hb:b.natAbs<=4000000000000000000)(h0:b≠0):(Obl.nz (.v b)).ok/\((IE.v a).rem (.v b)).den=(IE.v (a.tmod b)).den/\(a.tmod b).natAbs<=4000000000000000000/\(a.tmod b).natAbs<b.natAbs/\b.natAbs.gcd (a.tmod b).natAbs=a.natAbs.gcd b.natAbs:=by
 have e:(a.tmod b).natAbs=a.natAbs%b.natAbs:=Int.natAbs_tmod a b
 have hp:0<b.natAbs:=Int.natAbs_pos.2 h0
 have hl:=Nat.mod_lt a.natAbs hp
 refine⟨by show _≠_;simpa[IE.den]using h0,rfl,zW,zW,?_⟩;rw[e];exact lE hp
theorem aX5 {a p:Int}{d g:Nat}(hg:g=p.natAbs.gcd d)(hd0:0<d)(ha:a.natAbs=g)(hp:p.natAbs<=4000000000000000000)(hd:d<=4000000000000000000){e:IE}(he:e=IE.max (.v a) (.sub (.l 0) (.v a))):
  (Obl.inR .i64 (.sub (.l 0) (.v a))).ok/\(Obl.nz e).ok/\(Obl.inR .i64 (.quo (.v p) e)).ok/\(Obl.inR .i64 (.quo (.n d) e)).ok/\(IE.quo (.v p) e).den=(mkRat p d).num/\(IE.quo (.n d) e).den=((mkRat p d).den:Int):=by
 have hg0:0<g:=by rw[hg];exact Nat.gcd_pos_of_pos_right _ hd0
 have hgd:g<=d:=by rw[hg];exact Nat.le_of_dvd hd0 (Nat.gcd_dvd_right _ _)
 have bBf:e.den=(g:Int):=by
  rw[he];show(if a<0 - a then 0 - a else a)=_
  split<;>omega
 obtain⟨m1,m2⟩:=tO p hd0;rw[<-hg]at m1 m2;have e1:(IE.quo (.v p) e).den=p/(g:Int):=by
  show p.tdiv e.den=_
  rw[bBf];exact Int.tdiv_eq_ediv_of_dvd (Int.ofNat_dvd_left.2 (by rw[hg];exact Nat.gcd_dvd_left _ _))
 have e2:(IE.quo (.n d) e).den=((d/g:Nat):Int):=by
  show((d:Nat):Int).tdiv e.den=_
  rw[bBf];exact(Int.ofNat_tdiv d g).symm
 have b1:(p/(g:Int)).natAbs<=p.natAbs:=Int.natAbs_ediv_le_natAbs p g
 have b2:d/g<=d:=Nat.div_le_self d g
 refine⟨?_,?_,?_,?_,by rw[e1,m1],by rw[e2,m2]⟩
 ·show lo _<=0 - a/\0 - a<=hi _;simp only[lo,hi];omega
 ·show e.den≠0;rw[bBf];omega
 ·show lo _<=_/\_<=hi _;rw[e1];simp only[lo,hi];omega
 ·show lo _<=_/\_<=hi _;rw[e2];simp only[lo,hi];omega
theorem rof {p:Int}{d:Nat}(hd0:0<d)(hp:p.natAbs<=4000000000000000000)(hd:d<=4000000000000000000):Pure PP 261 [.int .i64 p,.int .i64 (d:Int)] (cK (mkRat p d)):=by
 obtain⟨g,hg⟩:=nm (p.natAbs.gcd d);have b1:(mkRat p d).num.natAbs<=4000000000000000000:=by
  have h:=(tO p hd0).1
  have:=Int.natAbs_ediv_le_natAbs p (p.natAbs.gcd d:Nat)
  rw[<-h]at this;omega
 have b2:(mkRat p d).den<=4000000000000000000:=by
  have h:=(tO p hd0).2
  have:=Nat.div_le_self d (p.natAbs.gcd d)
  rw[<-h]at this;omega
 have f1:=bD2 (n:=(mkRat p d).num) zW zW
 have f2:=bD2 (n:=((mkRat p d).den:Int)) zW zW
 rw[lM]at f2;have lO:=λa ha=>aX5 (a:=a) hg hd0 ha hp hd rfl;unfold cK;generalize (mkRat p d).num=nm at f1 lO |-;generalize ((mkRat p d).den:Int)=dn at f2 lO;generalize aW nm=s at f1 |-;generalize aJ (mkRat p d).den=t at f2 |-;refine zF [.i .i64 (.v p),.i .i64 (.n d)] Tryz.func261 λc hc hR=>?_;cbv;let BB:List (Nat × AV):=[(4,.p 0 0),(0,.i .i64 (.v p)),(1,.i .i64 (.n d))];let HH:List Blk:=[.c 223 [.s (.v ⟨#[]⟩),.s (.v ⟨#[]⟩)]];let ι:={x:Int × Int//x.1.natAbs.gcd x.2.natAbs=g/\x.1.natAbs<=4000000000000000000/\x.2.natAbs<=4000000000000000000};let I:ι->St:=λx=>⟨(5,.i .i64 (.v x.1.1))::(6,.i .i64 (.v x.1.2))::BB,HH,[]⟩
 let x0:ι:=⟨(p,(d:Int)),hg.symm,hp,hd⟩
 refine zU 1 (S':=I x0) (K':=[]) zL trivial trivial ?_;refine aD4 (λa:Int=>a.natAbs=g) (λa=>⟨(5,.i .i64 (.v a))::BB,HH,[]⟩) rfl (λr hr=>?_) (λa ha=>?_)
 ·refine bW hc I (λx=>x.1.2.natAbs) x0 100 ?_;rintro p' ⟨⟨a,b⟩,hab,ha,hb⟩ hy;simp only at hab ha hb;cbv;refine aE rfl 100 (λh=>?_) (λh=>?_)
  ·have hb0:b≠0:=λe=>by have h:=BE.not_t h;exact BE.eq_f h (by simp[IE.den,e])
   obtain⟨o1,e1,l1,l2,l3⟩:=bCq ha hb hb0;cbv;refine aP hc ⟨o1,trivial⟩ ?_;refine dH hc _ 0 ?_;refine dH hc _ 0 ?_;refine zE ?_;cbv;exact zU 1 (S':=I ⟨(b,a.tmod b),l3.trans hab,hb,l1⟩) (K':=[]) ⟨zS,zI rfl rfl e1,zL⟩ trivial trivial (hy _ l2)
  ·have hb0:b=0:=by have h:=BE.not_f h;exact(BE.eq_t h)
   have hag:a.natAbs=g:=by rw[<-hab,hb0];exact(Nat.gcd_zero_right _).symm
   cbv;exact zU 1 (S':=⟨(5,.i .i64 (.v a))::BB,HH,[]⟩) (K':=[]) zL trivial trivial (hr a hag)
 ·obtain⟨o1,o2,o3,o4,e1,e2⟩:=lO a ha;have f1:Pure PP 275 [.int .i64 (IE.quo (.v p) (IE.max (.v a) (.sub (.l 0) (.v a)))).den,.int .i64 10] (.string s):=by rw[e1];exact f1
  have f2:Pure PP 275 [.int .i64 (IE.quo (.n d) (IE.max (.v a) (.sub (.l 0) (.v a)))).den,.int .i64 10] (.string t):=by rw[e2];exact f2
  apply zN hc;cbv;refine aP hc ⟨o1,o2,o3,trivial⟩ ?_;refine zD (.s (.v s)) f1 aRx ?_;cbv;refine aP hc ⟨o2,o4,trivial⟩ ?_;refine zD (.s (.v t)) f2 aRx ?_;cbv;refine zE ?_;cbv;exact zR
end Go.Ai
namespace Go.Ai
open Go Go.Proofs Go.Num
theorem aOd:aB PP 241:=zK
theorem aI6:aB PP 242:=zK
theorem aRk (x y:Rat):mkRat (x.num*y.den+y.num*x.den) (x.den*y.den)=x+y:=(Rat.add_def' x y).symm
theorem aMz (x y:Rat):mkRat (x.num*y.num) (x.den*y.den)=x*y:=(Rat.mul_def' x y).symm
theorem iH {a b:Int}(ha:a.natAbs<1000000000)(hb:b.natAbs<1000000000):(a*b).natAbs<=1000000000000000000:=by
 rw[Int.natAbs_mul];exact Nat.mul_le_mul (Nat.le_of_lt ha) (Nat.le_of_lt hb)
theorem aZd {x y:Rat}(hx:sz x<=2^34)(hy:sz y<=2^34):Pure PP 241 [cK x,cK y] (cK (x+y)):=by
 have hxd:=x.den_pos
 have hyd:=y.den_pos
 have l1:=aB4 x
 have l2:=aB4 y
 have nx:=lTr (qD x) hx
 have dx:=lTr (sC x) hx
 have ny:=lTr (qD y) hy
 have dy:=lTr (sC y) hy
 have m1:=aUc (z:=x.num) (y:=(y.den:Int)) (lTr nx zV) (by rw[Int.natAbs_natCast];exact lTr dy zV)
 have m2:=aUc (z:=y.num) (y:=(x.den:Int)) (lTr ny zV) (by rw[Int.natAbs_natCast];exact lTr dx zV)
 have b1:dl (x.num*(y.den:Int)).natAbs<=2^35:=by rw[Int.natAbs_mul,Int.natAbs_natCast];exact lTr (rL _ _) zW
 have b2:dl (y.num*(x.den:Int)).natAbs<=2^35:=by rw[Int.natAbs_mul,Int.natAbs_natCast];exact lTr (rL _ _) zW
 have m3:=bH7 (z:=x.num*(y.den:Int)) (y:=y.num*(x.den:Int)) (lTr b1 zV) (lTr b2 zV)
 have b3:=aFp _ _ b1 b2
 have m4:=bB9 (n:=x.den) (m:=y.den) (lTr dx zV) (lTr dy zV)
 have b4:dl (x.den*y.den)<=2^35:=lTr (rL _ _) zW
 have m5:=aPf (p:=x.num*(y.den:Int)+y.num*(x.den:Int)) (d:=x.den*y.den) (Nat.mul_pos hxd hyd) (lTr b3 zV) (lTr b4 zV)
 rw[aRk]at m5;rw[lM]at m1 m2;have s1:qP x=true->qP y=true->Pure PP 261 [.int .i64 (x.num*(y.den:Int)+y.num*(x.den:Int)),.int .i64 ((x.den:Int)*(y.den:Int))] (cK (x+y)):=λh1 h2=>by
  have q1:=nJ h1
  have q2:=nJ h2
  have a1:=iH (a:=x.num) (b:=(y.den:Int)) q1.1 (by rw[Int.natAbs_natCast];exact q2.2)
  have a2:=iH (a:=y.num) (b:=(x.den:Int)) q2.1 (by rw[Int.natAbs_natCast];exact q1.2)
  have a3:=iH (a:=(x.den:Int)) (b:=(y.den:Int)) (by rw[Int.natAbs_natCast];exact q1.2) (by rw[Int.natAbs_natCast];exact q2.2)
  have h:=rof (p:=x.num*(y.den:Int)+y.num*(x.den:Int)) (d:=x.den*y.den) (Nat.mul_pos hxd hyd) zW (by rw[<-Int.natCast_mul,Int.natAbs_natCast]at a3;omega)
  rw[aRk,Int.natCast_mul]at h;exact h
 have s2:qP x=true->qP y=true->(Obl.inR .i64 (.mul (.v x.num) (.v (y.den:Int)))).ok/\(Obl.inR .i64 (.mul (.v y.num) (.v (x.den:Int)))).ok/\(Obl.inR .i64 (.add (.mul (.v x.num) (.v (y.den:Int))) (.mul (.v y.num) (.v (x.den:Int))))).ok/\(Obl.inR .i64 (.mul (.v (x.den:Int)) (.v (y.den:Int)))).ok:=λh1 h2=>by
  have q1:=nJ h1
  have q2:=nJ h2
  have a1:=iH (a:=x.num) (b:=(y.den:Int)) q1.1 (by rw[Int.natAbs_natCast];exact q2.2)
  have a2:=iH (a:=y.num) (b:=(x.den:Int)) q2.1 (by rw[Int.natAbs_natCast];exact q1.2)
  have a3:=iH (a:=(x.den:Int)) (b:=(y.den:Int)) (by rw[Int.natAbs_natCast];exact q1.2) (by rw[Int.natAbs_natCast];exact q2.2)
  refine⟨?_,?_,?_,?_⟩<;>(show lo _<=_/\_<=hi _;simp only[IE.den,lo,hi];omega)
 obtain⟨R,hR0⟩:=nm (cK (x+y));obtain⟨r1,hr1⟩:=nm (aW (x+y).num);obtain⟨r2,hr2⟩:=nm (aJ (x+y).den);have hR1:R=frV r1 r2:=by rw[hR0,hr1,hr2];rfl
 rw[<-hR0]at m5 s1 |-;clear hR0 hr1 hr2 b1 b2 b3 b4;subst hR1;unfold aF4 at l1 l2;unfold cK at l1 l2 |-;generalize qP x=kx at l1 s1 s2;generalize qP y=ky at l2 s1 s2;generalize aW (x.num*(y.den:Int))=t1 at m1 m3;generalize aW (y.num*(x.den:Int))=t2 at m2 m3;generalize aW (x.num*(y.den:Int)+y.num*(x.den:Int))=t3 at m3 m5;generalize aJ (x.den*y.den)=t4 at m4 m5;generalize aW x.num=sx at l1 m1 |-;generalize aW y.num=sy at l2 m2 |-;generalize aJ x.den=ex at l1 m2 m4 |-;generalize aJ y.den=ey at l2 m1 m4 |-;generalize (x.den:Int)=dx' at l1 s1 s2;generalize (y.den:Int)=dy' at l2 s1 s2;generalize x.num=nx' at l1 s1 s2;generalize y.num=ny' at l2 s1 s2;refine zF [.g [.s (.v sx),.s (.v ex)],.g [.s (.v sy),.s (.v ey)]] Tryz.func241 λc hc hR=>?_;cbv;cases kx<;>cases ky
 ·refine zC (.t [.i .i64 (.l 0),.i .i64 (.l 0),.b (.l false)]) l1 dU ?_;cbv;refine zC (.t [.i .i64 (.l 0),.i .i64 (.l 0),.b (.l false)]) l2 dU ?_;cbv;refine zC (.t [.s (.v t1),.i .i64 (.l 0)]) m1 oF ?_;cbv;refine zC (.t [.s (.v t2),.i .i64 (.l 0)]) m2 oF ?_;cbv;refine zC (.t [.s (.v t3),.i .i64 (.l 0)]) m3 aLt ?_;cbv;refine zC (.t [.s (.v t4),.i .i64 (.l 0)]) m4 vR ?_;cbv;refine zC (.g [.s (.v r1),.s (.v r2)]) m5 zZ ?_;cbv;exact zR
 ·refine zC (.t [.i .i64 (.l 0),.i .i64 (.l 0),.b (.l false)]) l1 dU ?_;cbv;refine zC (.t [.i .i64 (.v ny'),.i .i64 (.v dy'),.b (.l true)]) l2 dU ?_;cbv;refine zC (.t [.s (.v t1),.i .i64 (.l 0)]) m1 oF ?_;cbv;refine zC (.t [.s (.v t2),.i .i64 (.l 0)]) m2 oF ?_;cbv;refine zC (.t [.s (.v t3),.i .i64 (.l 0)]) m3 aLt ?_;cbv;refine zC (.t [.s (.v t4),.i .i64 (.l 0)]) m4 vR ?_;cbv;refine zC (.g [.s (.v r1),.s (.v r2)]) m5 zZ ?_;cbv;exact zR
 ·refine zC (.t [.i .i64 (.v nx'),.i .i64 (.v dx'),.b (.l true)]) l1 dU ?_;cbv;refine zC (.t [.i .i64 (.l 0),.i .i64 (.l 0),.b (.l false)]) l2 dU ?_;cbv;refine zC (.t [.s (.v t1),.i .i64 (.l 0)]) m1 oF ?_;cbv;refine zC (.t [.s (.v t2),.i .i64 (.l 0)]) m2 oF ?_;cbv;refine zC (.t [.s (.v t3),.i .i64 (.l 0)]) m3 aLt ?_;cbv;refine zC (.t [.s (.v t4),.i .i64 (.l 0)]) m4 vR ?_;cbv;refine zC (.g [.s (.v r1),.s (.v r2)]) m5 zZ ?_;cbv;exact zR
 ·refine zC (.t [.i .i64 (.v nx'),.i .i64 (.v dx'),.b (.l true)]) l1 dU ?_;cbv;refine zC (.t [.i .i64 (.v ny'),.i .i64 (.v dy'),.b (.l true)]) l2 dU ?_;cbv;obtain⟨o1,o2,o3,o4⟩:=s2 rfl rfl;refine aP hc ⟨o1,o2,o3,o4,trivial⟩ ?_;refine zC (.g [.s (.v r1),.s (.v r2)]) (s1 rfl rfl) aYs ?_;cbv;exact zR
theorem aU6 {x y:Rat}(hx:sz x<=2^34)(hy:sz y<=2^34):Pure PP 242 [cK x,cK y] (cK (x*y)):=by
 have hxd:=x.den_pos
 have hyd:=y.den_pos
 have l1:=aB4 x
 have l2:=aB4 y
 have nx:=lTr (qD x) hx
 have dx:=lTr (sC x) hx
 have ny:=lTr (qD y) hy
 have dy:=lTr (sC y) hy
 have m1:=aUc (z:=x.num) (y:=y.num) (lTr nx zV) (lTr ny zV)
 have b1:dl (x.num*y.num).natAbs<=2^35:=by rw[Int.natAbs_mul];exact lTr (rL _ _) zW
 have m4:=bB9 (n:=x.den) (m:=y.den) (lTr dx zV) (lTr dy zV)
 have b4:dl (x.den*y.den)<=2^35:=lTr (rL _ _) zW
 have m5:=aPf (p:=x.num*y.num) (d:=x.den*y.den) (Nat.mul_pos hxd hyd) (lTr b1 zV) (lTr b4 zV)
 rw[aMz]at m5;have s1:qP x=true->qP y=true->Pure PP 261 [.int .i64 (x.num*y.num),.int .i64 ((x.den:Int)*(y.den:Int))] (cK (x*y)):=λh1 h2=>by
  have q1:=nJ h1
  have q2:=nJ h2
  have a1:=iH (a:=x.num) (b:=y.num) q1.1 q2.1
  have a3:=iH (a:=(x.den:Int)) (b:=(y.den:Int)) (by rw[Int.natAbs_natCast];exact q1.2) (by rw[Int.natAbs_natCast];exact q2.2)
  have h:=rof (p:=x.num*y.num) (d:=x.den*y.den) (Nat.mul_pos hxd hyd) zW (by rw[<-Int.natCast_mul,Int.natAbs_natCast]at a3;omega)
  rw[aMz,Int.natCast_mul]at h;exact h
 have s2:qP x=true->qP y=true->(Obl.inR .i64 (.mul (.v x.num) (.v y.num))).ok/\(Obl.inR .i64 (.mul (.v (x.den:Int)) (.v (y.den:Int)))).ok:=λh1 h2=>by
  have q1:=nJ h1
  have q2:=nJ h2
  have a1:=iH (a:=x.num) (b:=y.num) q1.1 q2.1
  have a3:=iH (a:=(x.den:Int)) (b:=(y.den:Int)) (by rw[Int.natAbs_natCast];exact q1.2) (by rw[Int.natAbs_natCast];exact q2.2)
  refine⟨?_,?_⟩<;>(show lo _<=_/\_<=hi _;simp only[IE.den,lo,hi];omega)
 obtain⟨R,hR0⟩:=nm (cK (x*y));obtain⟨r1,hr1⟩:=nm (aW (x*y).num);obtain⟨r2,hr2⟩:=nm (aJ (x*y).den);have hR1:R=frV r1 r2:=by rw[hR0,hr1,hr2];rfl
 rw[<-hR0]at m5 s1 |-;clear hR0 hr1 hr2 b1 b4;subst hR1;unfold aF4 at l1 l2;unfold cK at l1 l2 |-;generalize qP x=kx at l1 s1 s2;generalize qP y=ky at l2 s1 s2;generalize aW (x.num*y.num)=t1 at m1 m5;generalize aJ (x.den*y.den)=t4 at m4 m5;generalize aW x.num=sx at l1 m1 |-;generalize aW y.num=sy at l2 m1 |-;generalize aJ x.den=ex at l1 m4 |-;generalize aJ y.den=ey at l2 m4 |-;generalize (x.den:Int)=dx' at l1 s1 s2;generalize (y.den:Int)=dy' at l2 s1 s2;generalize x.num=nx' at l1 s1 s2;generalize y.num=ny' at l2 s1 s2;refine zF [.g [.s (.v sx),.s (.v ex)],.g [.s (.v sy),.s (.v ey)]] Tryz.func242 λc hc hR=>?_;cbv;cases kx<;>cases ky
 ·refine zC (.t [.i .i64 (.l 0),.i .i64 (.l 0),.b (.l false)]) l1 dU ?_;cbv;refine zC (.t [.i .i64 (.l 0),.i .i64 (.l 0),.b (.l false)]) l2 dU ?_;cbv;refine zC (.t [.s (.v t1),.i .i64 (.l 0)]) m1 oF ?_;cbv;refine zC (.t [.s (.v t4),.i .i64 (.l 0)]) m4 vR ?_;cbv;refine zC (.g [.s (.v r1),.s (.v r2)]) m5 zZ ?_;cbv;exact zR
 ·refine zC (.t [.i .i64 (.l 0),.i .i64 (.l 0),.b (.l false)]) l1 dU ?_;cbv;refine zC (.t [.i .i64 (.v ny'),.i .i64 (.v dy'),.b (.l true)]) l2 dU ?_;cbv;refine zC (.t [.s (.v t1),.i .i64 (.l 0)]) m1 oF ?_;cbv;refine zC (.t [.s (.v t4),.i .i64 (.l 0)]) m4 vR ?_;cbv;refine zC (.g [.s (.v r1),.s (.v r2)]) m5 zZ ?_;cbv;exact zR
 ·refine zC (.t [.i .i64 (.v nx'),.i .i64 (.v dx'),.b (.l true)]) l1 dU ?_;cbv;refine zC (.t [.i .i64 (.l 0),.i .i64 (.l 0),.b (.l false)]) l2 dU ?_;cbv;refine zC (.t [.s (.v t1),.i .i64 (.l 0)]) m1 oF ?_;cbv;refine zC (.t [.s (.v t4),.i .i64 (.l 0)]) m4 vR ?_;cbv;refine zC (.g [.s (.v r1),.s (.v r2)]) m5 zZ ?_;cbv;exact zR
 ·refine zC (.t [.i .i64 (.v nx'),.i .i64 (.v dx'),.b (.l true)]) l1 dU ?_;cbv;refine zC (.t [.i .i64 (.v ny'),.i .i64 (.v dy'),.b (.l true)]) l2 dU ?_;cbv;obtain⟨o1,o2⟩:=s2 rfl rfl;refine aP hc ⟨o1,o2,trivial⟩ ?_;refine zC (.g [.s (.v r1),.s (.v r2)]) (s1 rfl rfl) aYs ?_;cbv;exact zR
theorem aSi:aB PP 243:=zK
theorem bCp {x y:Rat}(hx:sz x<=2^34)(hy:sz y<=2^34):Pure PP 243 [cK x,cK y] (cK (x - y)):=by
 have h1:=bIs (q:=y) (lTr hy zV)
 have h2:=aZd (x:=x) (y:=-y) hx (by rw[qB];exact hy)
 rw[show x+-y=x - y from(Rat.sub_eq_add_neg x y).symm]at h2;unfold cK at h1 h2 |-;generalize aW (x - y).num=r1,aJ (x - y).den=r2 at h2 |-;generalize aW (-y).num=u1,aJ (-y).den=u2 at h1 h2;generalize aW x.num=sx,aJ x.den=ex at h2 |-;generalize aW y.num=sy,aJ y.den=ey at h1 |-;refine zF [.g [.s (.v sx),.s (.v ex)],.g [.s (.v sy),.s (.v ey)]] Tryz.func243 λc hc hR=>?_;cbv;refine zD (.g [.s (.v u1),.s (.v u2)]) h1 bAj ?_;cbv;refine zD (.g [.s (.v r1),.s (.v r2)]) h2 aOd ?_;cbv;refine zE ?_;cbv;exact zR
theorem aWo:aB PP 245:=zK
theorem bFz {x y:Rat}(h0:y≠0)(hx:sz x<=2^34)(hy:sz y<=2^34):Pure PP 245 [cK x,cK y] (cK (x/y)):=by
 have h1:=bIr (q:=y) h0 (lTr hy zV)
 have h2:=aU6 (x:=x) (y:=y⁻¹) hx (lTr (aNo y) hy)
 rw[show x*y⁻¹=x/y from(Rat.div_def x y).symm]at h2;unfold cK at h1 h2 |-;generalize aW (x/y).num=r1,aJ (x/y).den=r2 at h2 |-;generalize aW (y⁻¹).num=u1,aJ (y⁻¹).den=u2 at h1 h2;generalize aW x.num=sx,aJ x.den=ex at h2 |-;generalize aW y.num=sy,aJ y.den=ey at h1 |-;refine zF [.g [.s (.v sx),.s (.v ex)],.g [.s (.v sy),.s (.v ey)]] Tryz.func245 λc hc hR=>?_;cbv;refine zD (.g [.s (.v u1),.s (.v u2)]) h1 bAi ?_;cbv;refine zD (.g [.s (.v r1),.s (.v r2)]) h2 aI6 ?_;cbv;refine zE ?_;cbv;exact zR
end Go.Ai
namespace Go.Num
open Go.Lib
theorem aMa:∀(l:List UInt8),(index l [47]=-1/\dI l=(l,none))\/(0<=index l [47]/\dI l=(l.take (index l [47]).toNat,some (l.drop ((index l [47]).toNat+1))))
 | []=>.inl ⟨rfl,rfl⟩
 | b::l=>by
  unfold index dI;by_cases hb:b=47
  ·subst hb;right;rw[if_pos zA,if_pos rfl];exact⟨Int.le_refl _,rfl⟩
  ·rw[if_neg (by simp;exact λh=>hb (Eq.symm h)),if_neg hb];rcases aMa l with⟨h1,h2⟩ | ⟨h1,h2⟩
   ·left;rw[h1,h2];exact⟨rfl,rfl⟩
   ·right
    have hne:(index l [47]==-1)=false:=by simp;omega
    rw[hne,h2];obtain⟨k,hk⟩:∃k:Nat,index l [47]=k:=⟨(index l [47]).toNat,zW⟩;rw[hk];refine⟨by simp;omega,?_⟩;simp only[Bool.false_eq_true,if_false,Int.toNat_natCast];rw[show((k:Int)+1).toNat=k+1 by omega];simp
theorem aS4 (l:List UInt8):cut l [47]=((dI l).1,(dI l).2.getD [],(dI l).2.isSome):=by
 unfold cut;rcases aMa l with⟨h1,h2⟩ | ⟨h1,h2⟩
 ·rw[if_neg zW,h2];rfl
 ·rw[if_pos h1,h2];rfl
end Go.Num
namespace Go.Ai
open Go Go.Proofs Go.Num
theorem aG4:aB PP 192:=zK
theorem xD:aB PP 179:=zK
theorem cB:aB PP 146:=zK
theorem aIw:aB PP 223:=zK
theorem aKe {w:World}(h:Glob PP w):∃m,w.cell? ⟨0,0,none⟩=some (.int .i64 m):=by
 obtain⟨m,hm⟩:=h.maxLen;refine⟨m,?_⟩;unfold World.var? at hm;rw[show PP.globalNamed "internal/bytealg.MaxLen"=some 0 by kernel_rfl]at hm;simp only[Option.bind_some]at hm;split at hm
 ·rename_i cs t fz hh;injection hm with hm
  subst hm;simp[World.cell?,hh]
 ·cases hm
theorem aJp (n:Nat)(w:World):RowKit.Below w.heap.size w (w.drewN n):=⟨rfl,rfl,rfl,lRf _,λ_ _=>rfl⟩
theorem bGi (s:ByteArray)(hs:s.size<=2^31):Pure PP 223 [.string s,.string ⟨#[47]⟩] (.tuple #[.string ⟨(dI s.data.toList).1.toArray⟩,.string ⟨((dI s.data.toList).2.getD []).toArray⟩,.bool (dI s.data.toList).2.isSome]):=by
 intro w hgl;obtain⟨m,hm⟩:=aKe hgl;have hs':s.size<4294967281:=Nat.lt_of_le_of_lt hs zV;refine Calls.mono (Tryz.strings_Cut s ⟨#[47]⟩ m w hs' hm) ?_;rintro e w' ⟨rfl,n,rfl⟩;rw[show(⟨#[47]⟩:ByteArray).data.toList=[47] from rfl,aS4];exact⟨rfl,aJp n w⟩
def rp (l:List UInt8):ByteArray:=⟨(dI l).1.toArray⟩
def rq (l:List UInt8):ByteArray:=match (dI l).2 with | some r=>⟨r.toArray⟩ | none=>⟨#[49]⟩
theorem bF4 {s:ByteArray}{z:Int}(hs:s=aW z):(BE.not (BE.seq (.v s) (.v ⟨#[48]⟩))).den=decide (z≠0):=by
 show(!(BE.seq (.v s) (.v ⟨#[48]⟩)).den)=_
 rw[aNi,hs,dF];have e0:([48]:List UInt8)=Lib.itoa 0:=by unfold Lib.itoa;rw[if_neg zV];exact aMb.symm
 show(!decide (Lib.itoa z=[48]))=_
 rw[e0];by_cases h:z=0
 ·subst h;simp
 ·rw[decide_eq_false (λe=>h (aUh e)),decide_eq_true h];rfl
theorem bFo {s:ByteArray}{a:Nat}(hs:s=aJ a):(BE.not (BE.seq (.v s) (.v ⟨#[49]⟩))).den=decide (a≠1):=by
 show(!(BE.seq (.v s) (.v ⟨#[49]⟩)).den)=_
 rw[aVj hs aLh.symm];simp
theorem aU2 {l:List UInt8}(h:(dI l).2=none):(sO l).isSome=(yJ (dI l).1).isSome:=by
 unfold sO;rw[h,uD h];cases yJ l<;>rfl
def aNd (a:Option Int)(b:Option Nat):Option Rat:=match a,b with
 | some z,some n=>if h:z≠0/\n≠0/\n≠1/\z.natAbs.gcd n=1 then some ⟨z,n,h.2.1,h.2.2.2⟩else none
 | _,_=>none
theorem bCo {l r:List UInt8}(h:(dI l).2=some r):sO l=aNd (yJ (dI l).1) (rdN r):=by
 unfold sO aNd;rw[h];dsimp only;generalize yJ (dI l).1=a,rdN r=b;cases a<;>cases b<;>rfl
theorem bCn (b:Option Nat):aNd (some 0) b=none:=by
 cases b with
 | none=>rfl
 | some n=>simp only[aNd];rw[dif_neg (λhh=>hh.1 rfl)]
theorem bCm (a:Option Int):aNd a none=none:=by cases a<;>rfl
theorem aQw {z:Int}(h0:z≠0)(n:Nat):(aNd (some z) (some n)).isSome=(decide (n≠0)&&(decide (n≠1)&&decide (z.natAbs.gcd n=1))):=by
 simp only[aNd];by_cases hh:z≠0/\n≠0/\n≠1/\z.natAbs.gcd n=1
 ·rw[dif_pos hh,decide_eq_true hh.2.1,decide_eq_true hh.2.2.1,decide_eq_true hh.2.2.2];rfl
 ·rw[dif_neg hh];by_cases a:n=0
  ·rw[decide_eq_false (by simpa using a)];rfl
  ·by_cases b:n=1
   ·rw[decide_eq_false (p:=n≠1) (by simpa using b),Bool.false_and,Bool.and_false];rfl
   ·rw[decide_eq_false (p:=z.natAbs.gcd n=1) (λk=>hh ⟨h0,a,b,k⟩),Bool.and_false,Bool.and_false];rfl
theorem aQx {l r:List UInt8}(h:(dI l).2=some r):
  (yJ (dI l).1=none/\(sO l).isSome=false)\/∃z,yJ (dI l).1=some z/\((z=0/\(sO l).isSome=false)\/(z≠0/\((isNat r=false/\(sO l).isSome=false)\/∃n,isNat r=true/\r=Lib.decDigits n/\
   (sO l).isSome=(decide (n≠0)&&(decide (n≠1)&&decide (z.natAbs.gcd n=1)))))):=by
 rw[bCo h];cases hz:yJ (dI l).1 with
 | none=>exact .inl ⟨rfl,rfl⟩
 | some z=>
  refine .inr ⟨z,rfl,?_⟩;by_cases h0:z=0
  ·exact .inl ⟨h0,by rw[h0,bCn];rfl⟩
  ·refine .inr ⟨h0,?_⟩;cases hn:isNat r with
   | false=>exact .inl ⟨rfl,by rw[show rdN r=none by simp[rdN,hn],bCm];rfl⟩
   | true=>
    have hr:rdN r=some (eI 0 r):=by simp[rdN,hn]
    exact .inr ⟨eI 0 r,rfl,aD1 hr,by rw[hr];exact aQw h0 _⟩
theorem aZe (s:ByteArray)(hs:s.size<=2^31):Pure PP 192 [.string s] (.tuple #[frV (rp s.data.toList) (rq s.data.toList),.bool (sO s.data.toList).isSome]):=by
 have hl:s.data.toList.length=s.size:=rfl
 have h1:=bGi s hs
 obtain⟨l,hll⟩:=nm (s.data.toList);rw[<-hll]at h1 hl |-;have hpl:(dI l).1.length<=l.length:=by
  rcases aMa l with⟨_,h⟩ | ⟨_,h⟩<;>rw[h]<;>simp;omega
 have hps:(rp l).size<=2^31:=by show(dI l).1.toArray.size<=_;rw[List.size_toArray];omega
 have v1:=bB2 (rp l) (lTr hps zV)
 rw[show(rp l).data.toList=(dI l).1 from rfl]at v1;obtain⟨ok,hok⟩:=nm ((sO l).isSome);rw[<-hok];cases hc2:(dI l).2 with
 | none=>
  rw[<-aU2 hc2,<-hok]at v1;rw[hc2]at h1;rw[show rq l=⟨#[49]⟩ by unfold rq;rw[hc2]];change Pure PP _ _ (.tuple #[.string (rp l),.string ⟨#[]⟩,.bool false])at h1;generalize rp l=p at h1 v1 |-;refine zF [.s (.v s)] Tryz.func192 λc hc hR=>?_;cbv;refine zC (.t [.s (.v p),.s (.v ⟨#[]⟩),.b (.l false)]) h1 aIw ?_;cbv;refine zC (.b (.v ok)) v1 sQ ?_;cbv;exact zR
 | some r=>
  have hcs:=aQx hc2
  rw[hc2]at h1;have hrq:rq l=⟨r.toArray⟩:=by unfold rq;rw[hc2]
  have hrl:r.length<=l.length:=by
   have:=uE hc2
   have:=congrArg List.length this
   simp at this;omega
  have hqs:(rq l).size<=2^31:=by rw[hrq];show r.toArray.size<=_;rw[List.size_toArray];omega
  have v2:=aM0 (rq l) (lTr hqs zV)
  rw[show(rq l).data.toList=r by rw[hrq]]at v2;change Pure PP _ _ (.tuple #[.string (rp l),.string ⟨r.toArray⟩,.bool true])at h1;rw[<-hrq]at h1;rcases hcs with⟨z0,k0⟩ | ⟨z,z1,hcs⟩
  ·rw[<-hok]at k0;rw[z0]at v1;change Pure PP _ _ (.bool false)at v1;subst k0;generalize rp l=p at h1 v1 |-;generalize rq l=q at h1 v2 |-;refine zF [.s (.v s)] Tryz.func192 λc hc hR=>?_;cbv;refine zC (.t [.s (.v p),.s (.v q),.b (.l true)]) h1 aIw ?_;cbv;refine zC (.b (.l false)) v1 sQ ?_;cbv;exact zR
  ·rw[z1]at v1;change Pure PP _ _ (.bool true)at v1;have hp:rp l=aW z:=kQ (by rw[show(rp l).data.toList=(dI l).1 from rfl,dF];exact yK z1);have sz1:=bF4 hp;rcases hcs with⟨z2,k0⟩ | ⟨z2,hcs⟩
   ·rw[<-hok]at k0;subst k0;generalize rp l=p at h1 v1 sz1 |-;generalize rq l=q at h1 v2 |-;refine zF [.s (.v s)] Tryz.func192 λc hc hR=>?_;cbv;refine zC (.t [.s (.v p),.s (.v q),.b (.l true)]) h1 aIw ?_;cbv;refine zC (.b (.l true)) v1 sQ ?_;cbv;refine cG 26 rfl rfl 100 (λh=>absurd z2 (of_decide_eq_true (sz1.symm.trans h))) (λh=>?_);cbv;exact zR
   ·rcases hcs with⟨n0,k0⟩ | ⟨n,n0,n1,k0⟩
    ·rw[<-hok]at k0;rw[n0]at v2;subst k0;generalize rp l=p at h1 v1 sz1 |-;generalize rq l=q at h1 v2 |-;refine zF [.s (.v s)] Tryz.func192 λc hc hR=>?_;cbv;refine zC (.t [.s (.v p),.s (.v q),.b (.l true)]) h1 aIw ?_;cbv;refine zC (.b (.l true)) v1 sQ ?_;cbv;refine cG 26 rfl rfl 100 (λh=>?_) (λh=>absurd z2 (of_decide_eq_false (sz1.symm.trans h)));cbv;refine zC (.b (.l false)) v2 sS ?_;cbv;exact zR
    ·rw[n0]at v2;have hq:rq l=aJ n:=kQ (by rw[hrq,cZ];exact n1);have sn0:=aUo hq;have sn1:=bFo hq;have dz:dl z.natAbs<=2^37:=by
      have h2:(Lib.itoa z).length=(rp l).size:=by rw[hp];show _=(Lib.itoa z).toArray.size;rw[List.size_toArray]
      have h3:dl z.natAbs<=(Lib.itoa z).length:=by
       unfold Lib.itoa dl;split
       ·simp
       ·rw[show z.toNat=z.natAbs by omega];exact lRf _
      omega
     have dn:dl n<=2^37:=by have:=hqs;rw[hq,fS]at this;omega
     have g1:=aKp (p:=z) (d:=n) dz dn
     rw[<-hp,<-hq]at g1;have sg:=aVj (s:=aJ (z.natAbs.gcd n)) rfl aLh.symm;generalize aJ (z.natAbs.gcd n)=g at g1 sg;rw[<-hok]at k0;generalize rp l=p at h1 v1 sz1 g1 |-;generalize rq l=q at h1 v2 sn0 sn1 g1 |-;clear hok hc2 hpl hps hll;refine zF [.s (.v s)] Tryz.func192 λc hc hR=>?_;cbv;refine zC (.t [.s (.v p),.s (.v q),.b (.l true)]) h1 aIw ?_;cbv;refine zC (.b (.l true)) v1 sQ ?_;cbv;refine cG 26 rfl rfl 100 (λh=>?_) (λh=>absurd z2 (of_decide_eq_false (sz1.symm.trans h)));cbv;refine zC (.b (.l true)) v2 sS ?_;cbv;refine cG 34 rfl rfl 100 (λh=>?_) (λh=>?_)
     ·have a1:=sn0.symm.trans h
      rw[a1]at k0;cbv;refine cG 38 rfl rfl 100 (λh=>?_) (λh=>?_)
      ·have a2:=sn1.symm.trans h
       rw[a2]at k0;cbv;refine zC (.s (.v g)) g1 aSg ?_;cbv;exact bR hc hR rfl (by rw[k0,Bool.true_and,Bool.true_and,<-sg];rfl)
      ·have a2:=sn1.symm.trans h
       rw[a2]at k0;subst k0;cbv;exact zR
     ·have a1:=sn0.symm.trans h
      rw[a1]at k0;subst k0;cbv;exact zR
theorem aU5 (q:Rat):rp (aA q).data.toList=aW q.num/\rq (aA q).data.toList=aJ q.den:=by
 rw[oC];split
 ·rename_i hd;have e:=aBr (uK q.num);exact⟨by unfold rp;rw[e];rfl,by unfold rq;rw[e,hd,aLh]⟩
 ·rename_i hd;have e:=aBq (r:=Lib.decDigits q.den) (uK q.num);exact⟨by unfold rp;rw[e];rfl,by unfold rq;rw[e];rfl⟩
theorem aZ (q:Rat):(aA q).size<=2*sz q+2:=by
 have h1:=mE q.num
 have h2:=fS q.den
 have h3:=qD q
 have h4:=sC q
 unfold aA;split
 ·omega
 ·rw[ByteArray.size_append,ByteArray.size_append,show(⟨#[47]⟩:ByteArray).size=1 from rfl];omega
theorem aGc {q:Rat}(hq:sz q<=2^29):Pure PP 192 [.string (aA q)] (.tuple #[cK q,.bool true]):=by
 have h:=aZe (aA q) (lTr (aZ q) zW)
 rw[(aU5 q).1,(aU5 q).2,dC]at h;exact h
theorem aKo {x y:Rat}(hx:sz x<=2^29)(hy:sz y<=2^29):Pure PP 179 [.string (aA x),.string (aA y)] (.tuple #[cK x,cK y,.int .i64 0]):=by
 have h1:=aGc hx
 have h2:=aGc hy
 unfold cK at h1 h2 |-;generalize aA x=sx at h1 |-;generalize aA y=sy at h2 |-;generalize aW x.num=a,aJ x.den=b at h1 |-;generalize aW y.num=a',aJ y.den=b' at h2 |-;refine zF [.s (.v sx),.s (.v sy)] Tryz.func179 λc hc hR=>?_;cbv;refine zC (.t [.g [.s (.v a),.s (.v b)],.b (.l true)]) h1 aG4 ?_;cbv;refine fT hc (.t [.g [.s (.v a'),.s (.v b')],.b (.l true)]) h2 aG4 rfl rfl 1 ?_;cbv;refine aZh hc 100 ?_;cbv;obtain⟨G,hG⟩:∃G:Nat->List AV->OF,∀b l,G b l=OF.cells b 223 l:=⟨λb l=>OF.cells b _ l,λ_ _=>rfl⟩;refine aVa 4 0 hG (l:=[(5,.p 1 0),(7,.p 2 0),(9,.p 3 0)]) (K':=[]) rfl rfl rfl ⟨⟨_,rfl,rfl,λ_=>rfl⟩,⟨_,rfl,rfl,λ_=>rfl⟩,⟨_,rfl,rfl,λ_=>rfl⟩,trivial⟩ rfl rfl trivial trivial (λbk=>?_);apply zN hc;cbv;refine uS hc _ hG [] rfl rfl rfl rfl rfl rfl rfl rfl rfl rfl rfl rfl 100 ?_;cbv;refine zE ?_;cbv;refine aB6 4 hG rfl rfl rfl ?_;cbv;exact zR
theorem fY (s:ByteArray)(hs:s.size<=2^31):Pure PP 146 [.string s] (.bool (sO s.data.toList).isSome):=by
 have h:=aZe s hs
 generalize (sO s.data.toList).isSome=ok at h |-;generalize rp s.data.toList=p,rq s.data.toList=q at h;refine zF [.s (.v s)] Tryz.func146 λc hc hR=>?_;cbv;refine zC (.t [.g [.s (.v p),.s (.v q)],.b (.v ok)]) h aG4 ?_;cbv;exact zR
end Go.Ai
namespace Go.Ai
open Go Go.Proofs Go.Num
theorem rD:aB PP 168:=zK
def jJ (x y:Rat):Int:=if x<y then -1 else if y<x then 1 else 0
theorem xI (x y:Rat):bD (x.num*(y.den:Int)) (y.num*(x.den:Int))=jJ x y:=by
 unfold bD jJ;simp only[Rat.lt_iff]
theorem aP3 (x:Rat):jJ x x=0:=by unfold jJ;rw[if_neg (Rat.lt_irrefl),if_neg (Rat.lt_irrefl)]
theorem aHc (z:Int):(bD z 0=-1/\z<0)\/(bD z 0=0/\z=0)\/(bD z 0=1/\0<z):=by
 unfold bD;split
 ·left;omega
 ·split
  ·right;right;omega
  ·right;left;omega
theorem aPp {z d:Int}(hd:0<d):(z<0->z*d<0)/\(z=0->z*d=0)/\(0<z->0<z*d):=
 ⟨λh=>Int.mul_neg_of_neg_of_pos h hd,λh=>by rw[h,Int.zero_mul],λh=>Int.mul_pos h hd⟩
theorem aL6 {p q z w:Int}{s t:Int}(hs:s=bD p 0)(ht:t=bD q 0)(h:s≠t)(hz:(p<0->z<0)/\(p=0->z=0)/\(0<p->0<z))(hw:(q<0->w<0)/\(q=0->w=0)/\(0<q->0<w))
  {e:IE} (he:e=IE.max (.l (-1)) (.sub (.l 0) (.max (.sub (.l 0) (.sub (.v s) (.v t))) (.sub (.l 0) (.l 1))))):e.den=bD z w:=by
 obtain⟨z1,z2,z3⟩:=hz;obtain⟨w1,w2,w3⟩:=hw;rcases aHc p with⟨a,ha⟩ | ⟨a,ha⟩ | ⟨a,ha⟩<;>rcases aHc q with⟨b,hb⟩ | ⟨b,hb⟩ | ⟨b,hb⟩<;>rw[<-hs]at a<;>rw[<-ht]at b<;>subst a<;>subst b
 ·exact absurd rfl h
 ·have e1:e.den=-1:=by rw[he];decide
  rw[e1];unfold bD;rw[if_pos zW]
 ·have e1:e.den=-1:=by rw[he];decide
  rw[e1];unfold bD;rw[if_pos zW]
 ·have e1:e.den=1:=by rw[he];decide
  rw[e1];unfold bD;rw[if_neg zW,if_pos zW]
 ·exact absurd rfl h
 ·have e1:e.den=-1:=by rw[he];decide
  rw[e1];unfold bD;rw[if_pos zW]
 ·have e1:e.den=1:=by rw[he];decide
  rw[e1];unfold bD;rw[if_neg zW,if_pos zW]
 ·have e1:e.den=1:=by rw[he];decide
  rw[e1];unfold bD;rw[if_neg zW,if_pos zW]
 ·exact absurd rfl h
theorem aL7 {x y:Rat}{s t:Int}(hs:s=bD x.num 0)(ht:t=bD y.num 0)(h:s≠t){e:IE}(he:e=IE.max (.l (-1)) (.sub (.l 0) (.max (.sub (.l 0) (.sub (.v s) (.v t))) (.sub (.l 0) (.l 1))))):e.den=jJ x y:=by
 rw[<-xI];exact aL6 hs ht h (aPp (by have:=y.den_pos;omega)) (aPp (by have:=x.den_pos;omega)) he
theorem aKz {s t:ByteArray}{x y:Rat}(hs:s=aA x)(ht:t=aA y):(BE.seq (.v s) (.v t)).den=decide (x=y):=by
 rw[aNi,hs,ht];exact decide_eq_decide.2 ⟨λe=>aVz (kQ e),λe=>by rw[e]⟩
theorem yI {x y:Rat}(hx:sz x<=2^29)(hy:sz y<=2^29):Pure PP 168 [.string (aA x),.string (aA y)] (.tuple #[.int .i64 (jJ x y),.int .i64 0]):=by
 have h1:=aKo hx hy
 have g1:=aZf (q:=x) (lTr hx zV)
 have g2:=aZf (q:=y) (lTr hy zV)
 have nx:=lTr (qD x) hx
 have dx:=lTr (sC x) hx
 have ny:=lTr (qD y) hy
 have dy:=lTr (sC y) hy
 have m1:=aUc (z:=x.num) (y:=(y.den:Int)) (lTr nx zV) (by rw[Int.natAbs_natCast];exact lTr dy zV)
 have m2:=aUc (z:=y.num) (y:=(x.den:Int)) (lTr ny zV) (by rw[Int.natAbs_natCast];exact lTr dx zV)
 have b1:dl (x.num*(y.den:Int)).natAbs<=2^30:=by rw[Int.natAbs_mul,Int.natAbs_natCast];exact lTr (rL _ _) zW
 have b2:dl (y.num*(x.den:Int)).natAbs<=2^30:=by rw[Int.natAbs_mul,Int.natAbs_natCast];exact lTr (rL _ _) zW
 have m3:=aUb (z:=x.num*(y.den:Int)) (y:=y.num*(x.den:Int)) (lTr b1 zV) (lTr b2 zV)
 rw[xI]at m3;rw[lM]at m1 m2;have es:=aKz (s:=aA x) (t:=aA y) rfl rfl;have r0:x=y->jJ x y=0:=λe=>by rw[e,aP3]
 obtain⟨s,hs⟩:=nm (bD x.num 0);obtain⟨t,ht⟩:=nm (bD y.num 0);have sb:(Obl.inR .i64 (.sub (.v s) (.v t))).ok:=by
  show lo _<=s - t/\s - t<=hi _
  rcases aHc x.num with⟨a,_⟩ | ⟨a,_⟩ | ⟨a,_⟩<;>rcases aHc y.num with⟨b,_⟩ | ⟨b,_⟩ | ⟨b,_⟩<;>(rw[hs,ht,a,b];decide)
 have r1:=λh:s≠t=>aL7 hs ht h rfl
 rw[<-hs]at g1;rw[<-ht]at g2;clear hs ht b1 b2;unfold cK at h1 g1 g2;generalize jJ x y=r at m3 r0 r1 |-;generalize aW (x.num*(y.den:Int))=t1 at m1 m3;generalize aW (y.num*(x.den:Int))=t2 at m2 m3;generalize aA x=sx,aA y=sy at h1 es |-;generalize aW x.num=a at h1 g1 m1;generalize aJ x.den=b at h1 g1 m2;generalize aW y.num=a' at h1 g2 m2;generalize aJ y.den=b' at h1 g2 m1;refine zF [.s (.v sx),.s (.v sy)] Tryz.func168 λc hc hR=>?_;cbv;refine zC (.t [.g [.s (.v a),.s (.v b)],.g [.s (.v a'),.s (.v b')],.i .i64 (.l 0)]) h1 xD ?_;cbv;refine aE rfl 100 (λh=>?_) (λh=>?_)
 ·have hr:=r0 (of_decide_eq_true (es.symm.trans h))
  subst hr;cbv;exact zR
 cbv;refine zD (.i .i64 (.v s)) g1 aOe ?_;cbv;refine zD (.i .i64 (.v t)) g2 aOe ?_;cbv;refine zE ?_;cbv;refine aE rfl 100 (λh=>?_) (λh=>?_)
 ·have hne:s≠t:=λe=>BE.eq_f (BE.not_t h) e
  have hr:=r1 hne
  cbv;refine aP hc ⟨sb,trivial⟩ ?_;exact bR hc hR rfl (by rw[<-hr];rfl)
 ·cbv;refine zC (.t [.s (.v t1),.i .i64 (.l 0)]) m1 oF ?_;cbv;refine zC (.t [.s (.v t2),.i .i64 (.l 0)]) m2 oF ?_;cbv;refine zC (.t [.i .i64 (.v r),.i .i64 (.l 0)]) m3 aLu ?_;cbv;exact zR
end Go.Ai
namespace Go.Ai
open Go Go.Proofs Go.Num Go.RowKit Go.MapKept
theorem aX9 {P:Program}{mty kt et r clock:Nat}{d:TypeDesc}{es:Array MapEntry}{key value:Value}{w:World}(hm:P.underlying mty=some (.map kt et))(hd:P.underlying kt=some d)(hb:w.heap[r]?=some (.map es clock))(hk:IsKey d key)
  (hf:Instr.findNow d key es.toList 0=some none):(Instr.mapUpdate mty (.map (some r)) key value).run P w=.ok () {w with heap:=w.heap.setIfInBounds r (.map (es.push {key,val:=value,born:=clock}) (clock+1))}:=by
 simp[Instr.mapUpdate,run_underlying hm,MapKept.run_getObj_map hb,MapKept.run_checkKey hd hk,MapKept.run_findKey hd hf,MapKept.run_setObj_map _ hb,Result.andThen]
def fnV (g:Nat):Value:=.func (.func g) #[] #[]
def E1:Array MapEntry:=#[⟨.int .u8 43,fnV 241,0⟩]
def E2:Array MapEntry:=E1.push ⟨.int .u8 42,fnV 242,1⟩
def E3:Array MapEntry:=E2.push ⟨.int .u8 45,fnV 243,2⟩
def E4:Array MapEntry:=E3.push ⟨.int .u8 47,fnV 245,3⟩
def wH (w:World)(es:Array MapEntry)(n:Nat):World:=w.alloc (.map es n)
theorem aO4 (w:World)(es:Array MapEntry)(n:Nat):(wH w es n).heap[w.heap.size]?=some (.map es n):=(heap_alloc w _).1
theorem yL {P:Program}{mty kt et clock:Nat}{d:TypeDesc}{es:Array MapEntry}{key value:Value}{w:World}(hm:P.underlying mty=some (.map kt et))(hd:P.underlying kt=some d)(hk:IsKey d key)
  (hf:Instr.findNow d key es.toList 0=some none):(Instr.mapUpdate mty (.map (some w.heap.size)) key value).run P (wH w es clock)=.ok () (wH w (es.push {key,val:=value,born:=clock}) (clock+1)):=by
 rw[aX9 hm hd (aO4 w es clock) hk hf];unfold wH World.alloc;simp[Array.setIfInBounds,-World.alloc_eq,Array.set_push]
set_option maxHeartbeats 1000000 in
set_option maxRecDepth 100000 in
theorem aQo (w:World):Calls PP 216 #[] w λe w'=>e=.returned (.map (some w.heap.size))/\w'=wH w E4 4:=by
 have hmm:∀w,(Instr.makeMap 227 none).run PP w=.ok (.map (some w.heap.size)) (wH w #[] 0):=λw=>run_makeMap _ w
 have m1:(Instr.mapUpdate 227 (.map (some w.heap.size)) (.int .u8 43) (.func (.func 241) #[] #[])).run PP (wH w #[] 0)=.ok () (wH w E1 1):=yL Tryz.underlying227 Tryz.underlying5 (by trivial) rfl
 have m2:(Instr.mapUpdate 227 (.map (some w.heap.size)) (.int .u8 42) (.func (.func 242) #[] #[])).run PP (wH w E1 1)=.ok () (wH w E2 2):=yL Tryz.underlying227 Tryz.underlying5 (by trivial) rfl
 have m3:(Instr.mapUpdate 227 (.map (some w.heap.size)) (.int .u8 45) (.func (.func 243) #[] #[])).run PP (wH w E2 2)=.ok () (wH w E3 3):=yL Tryz.underlying227 Tryz.underlying5 (by trivial) rfl
 have m4:(Instr.mapUpdate 227 (.map (some w.heap.size)) (.int .u8 47) (.func (.func 245) #[] #[])).run PP (wH w E3 3)=.ok () (wH w E4 4):=yL Tryz.underlying227 Tryz.underlying5 (by trivial) rfl
 go_enter Tryz.func216,Tryz.ntmps216
 go_wp2
 go_ret
 exact⟨rfl,rfl⟩
def aKd (es:Array MapEntry):VF where
 p v X w:=∃r n,v=.map (some r)/\X r/\w.heap[r]?=some (.map es n)
 st v X X' w w' hs hw h:=by
  obtain⟨r,n,h1,h2,h3⟩:=h;exact⟨r,n,h1,hs _ h2,by rw[hw _ h2];exact h3⟩
theorem aG2:aB PP 216:=zK
theorem aN4:aB PP 180:=zK
theorem aEw {X:Nat->Prop}{w:World}:Fn PP 216 [] X w (aKd E4):=by
 intro hgl;refine Calls.mono (aQo w) ?_;rintro e w' ⟨rfl,rfl⟩;refine⟨_,λb=>X b\/b=w.heap.size,rfl,(Below.refl _ _).alloc (lRf _) _,λb hb=>.inl hb,λb hb=>?_,w.heap.size,4,rfl,.inr rfl,aO4 w E4 4⟩;rcases hb with hb | rfl
 ·exact .inl hb
 ·exact .inr ⟨lRf _,by simp[wH]⟩
theorem aGs {X:Nat->Prop}{w:World}(hX:∀b,X b->b<w.heap.size):Fn PP 180 [] X w (aKd E4):=by
 obtain⟨R,hRR⟩:=nm (aKd E4);rw[<-hRR];refine bJ mixed tok [] (K:=[]) Tryz.func180 rfl rfl (lbl rfl) rfl hX zA λc hc hR=>?_;apply zN hc;cbv;refine eB hc (R:=R) aG2 (λn0 D X μ a w aK H aG=>?_) 100 ?_
 ·simp only[aF]at aG;injection aG with aG;subst aG
  rw[hRR];exact aEw
 cbv;refine bB hc hR rfl (λX μ a w v' H hv'=>?_);exact H.toP.val (R:=R) (.head _) hv'
theorem yM {c:Cx}{P:Program}{ty:Nat->Option TyI}{nt:Nat}{K:List KF}(hc:Ctx c P ty nt){all:Array Oper}{i n0:Nat}{K0:List KF}{k:List KI}{S:St}(o:Oper)(ho:all[i]?=some o)(hg:guardOf all S.sl o=some true)(hic:cF o=true)(hd:cM nt o.dst=true)
  {av:AV} {nb:Option Blk} {Kn:List KF} {ow:List OF} (bEp:∀D:Nat->Prop,(∀t,Operand.tmp t∈o.op.operands->D t)->Cert c K n0 D S o av nb Kn ow) (n:Nat)
  (h:Goal c (Kn++K) (run ty nt (Kn++K) n (.dops all (i+1) n0 K0::k) (S.putO o.dst av nb ow) [])):Goal c K ⟨.dops all i n0 K0::k,S,[]⟩:=by
 have hs:=dX hc n h
 refine .mk0 (show DPath c all n0 K0 k i S K from ?_);refine DPath.op ho hg (by rw[hc.hnt];exact hd) (by
  rw[hic];simp only[if_true,fl,hic];exact bEp _ (λt ht=>by simp only[xL,eG,List.mem_append];exact .inl (fV (by simpa using ht)))) (λhf=>by rw[hic]at hf;cases hf) ?_ hs
 rw[hic];exact Wk.refl _
theorem aU7 {P:Program}{mty kt et r n j:Nat}{d:TypeDesc}{es:Array MapEntry}{key v:Value}{w:World}(hm:P.underlying mty=some (.map kt et))(hd:P.underlying kt=some d)(hb:w.heap[r]?=some (.map es n))(hk:IsKey d key)
  (hf:Instr.findNow d key es.toList 0=some (some (j,v))):(Instr.lookup mty (.map (some r)) key false).run P w=.ok v w:=by
 simp[Instr.lookup,run_underlying hm,MapKept.run_getObj_map hb,MapKept.run_checkKey hd hk,MapKept.run_findKey hd hf,Result.andThen]
theorem uC {c:Cx}{K:List KF}{n0:Nat}{D:Nat->Prop}{S:St}{o:Oper}{m x:Operand}{mty kt et b j:Nat}{d:TypeDesc}{es:Array MapEntry}{key v:Value}{F:VF}{av kv:AV}(hm:c.P.underlying mty=some (.map kt et))(hd:c.P.underlying kt=some d)(hk:IsKey d key)
  (hf:Instr.findNow d key es.toList 0=some (some (j,v))) (hop:o.op=Op.lookup mty m x false) (hF:KF.at b F∈K) (e:F=aKd es) (h1:fW S.sl m=some (.e b)) (h2:fW S.sl x=some kv) (hkv:aD hJ kv=some key) (hv:aD hJ av=some v)
  (hD:∀t,Operand.tmp t∈o.op.operands->D t):Cert c K n0 D S o av none [] S.ow:=by
 intro X μ a w next Q H hfr hn
 rw[hop]at hD;have a1:=aH H h1 (λt e=>hD t (by simp[Op.operands,e]));have a2:=aH H h2 (λt e=>hD t (by simp[Op.operands,e]));have a3:=H.val hF a1;rw[e]at a3;obtain⟨r,n,e1,_,e2⟩:=a3;rw[fE hkv]at a2;injection a2 with a2
 have hr:(execOp a.eval o).run c.P w=.ok (.value v) w:=by
  simp[execOp,hop,e1,<-a2,aU7 hm hd e2 hk hf,Result.andThen]
 exact aB8 hr (hn X μ v w (cV.same H.own (fE hv)) (λf hf=>(by cases hf)))
theorem xC:aB PP 130:=zK
theorem aM7 {x y:Rat}(hx:sz x<=2^29)(hy:sz y<=2^29):Pure PP 130 [.int .u8 43,.string (aA x),.string (aA y)] (.tuple #[.string (aA (x+y)),.int .i64 0]):=by
 have hb:=aKo hx hy
 have aMp:=lTr hx (show 2^29<=2^34 by decide)
 have aMr:=lTr hy (show 2^29<=2^34 by decide)
 have h1:=aZd aMp aMr
 have h2:=aPh (q:=x+y) (lTr (aAq x y) zW)
 obtain⟨R,hRR⟩:=nm (aKd E4);unfold cK at hb h1 h2;generalize aA (x+y)=r at h2 |-;generalize aW (x+y).num=r1,aJ (x+y).den=r2 at h1 h2;generalize aA x=sx,aA y=sy at hb |-;generalize aW x.num=a,aJ x.den=b,aW y.num=a',aJ y.den=b' at hb h1;refine zF [.i .u8 (.l 43),.s (.v sx),.s (.v sy)] Tryz.func130 λc hc hR=>?_;cbv;refine zC (.t [.g [.s (.v a),.s (.v b)],.g [.s (.v a'),.s (.v b')],.i .i64 (.l 0)]) hb xD ?_;cbv;refine mP hc (R:=R) aN4 (λD X μ a w aK H aG=>?_) 100 ?_
 ·simp only[aF]at aG;injection aG with aG;subst aG
  rw[hRR];exact aGs H.xlt
 cbv;refine yM hc (av:=.f (.func 241) [] []) (Kn:=[]) _ rfl rfl rfl rfl (λD hD=>uC (by rw[hc.hP];exact Tryz.underlying227) (by rw[hc.hP];exact Tryz.underlying5) (by trivial) (key:=.int .u8 43) rfl rfl (.head _) hRR rfl rfl rfl rfl hD) 100 ?_;cbv;refine zD (.g [.s (.v r1),.s (.v r2)]) h1 aOd ?_;cbv;refine zD (.s (.v r)) h2 aBo ?_;cbv;refine zE ?_;cbv;exact zR
theorem mR:aB PP 153:=zK
theorem aBi {x y:Rat}(hx:sz x<=2^29)(hy:sz y<=2^29):Pure PP 153 [.string (aA x),.string (aA y)] (.tuple #[.string (aA (x+y)),.int .i64 0]):=by
 have h1:=aM7 hx hy
 generalize aA (x+y)=r,aA x=sx,aA y=sy at h1 |-;refine zF [.s (.v sx),.s (.v sy)] Tryz.func153 λc hc hR=>?_;cbv;refine zC (.t [.s (.v r),.i .i64 (.l 0)]) h1 xC ?_;cbv;exact zR
theorem aM9 {x y:Rat}(hx:sz x<=2^29)(hy:sz y<=2^29):Pure PP 130 [.int .u8 42,.string (aA x),.string (aA y)] (.tuple #[.string (aA (x*y)),.int .i64 0]):=by
 have hb:=aKo hx hy
 have aMp:=lTr hx (show 2^29<=2^34 by decide)
 have aMr:=lTr hy (show 2^29<=2^34 by decide)
 have h1:=aU6 aMp aMr
 have h2:=aPh (q:=x*y) (lTr (aAr x y) zW)
 obtain⟨R,hRR⟩:=nm (aKd E4);unfold cK at hb h1 h2;generalize aA (x*y)=r at h2 |-;generalize aW (x*y).num=r1,aJ (x*y).den=r2 at h1 h2;generalize aA x=sx,aA y=sy at hb |-;generalize aW x.num=a,aJ x.den=b,aW y.num=a',aJ y.den=b' at hb h1;refine zF [.i .u8 (.l 42),.s (.v sx),.s (.v sy)] Tryz.func130 λc hc hR=>?_;cbv;refine zC (.t [.g [.s (.v a),.s (.v b)],.g [.s (.v a'),.s (.v b')],.i .i64 (.l 0)]) hb xD ?_;cbv;refine mP hc (R:=R) aN4 (λD X μ a w aK H aG=>?_) 100 ?_
 ·simp only[aF]at aG;injection aG with aG;subst aG
  rw[hRR];exact aGs H.xlt
 cbv;refine yM hc (av:=.f (.func 242) [] []) (Kn:=[]) _ rfl rfl rfl rfl (λD hD=>uC (by rw[hc.hP];exact Tryz.underlying227) (by rw[hc.hP];exact Tryz.underlying5) (by trivial) (key:=.int .u8 42) rfl rfl (.head _) hRR rfl rfl rfl rfl hD) 100 ?_;cbv;refine zD (.g [.s (.v r1),.s (.v r2)]) h1 aI6 ?_;cbv;refine zD (.s (.v r)) h2 aBo ?_;cbv;refine zE ?_;cbv;exact zR
theorem rE:aB PP 167:=zK
theorem aH6 {x y:Rat}(hx:sz x<=2^29)(hy:sz y<=2^29):Pure PP 167 [.string (aA x),.string (aA y)] (.tuple #[.string (aA (x*y)),.int .i64 0]):=by
 have h1:=aM9 hx hy
 generalize aA (x*y)=r,aA x=sx,aA y=sy at h1 |-;refine zF [.s (.v sx),.s (.v sy)] Tryz.func167 λc hc hR=>?_;cbv;refine zC (.t [.s (.v r),.i .i64 (.l 0)]) h1 xC ?_;cbv;exact zR
theorem aNa {x y:Rat}(hx:sz x<=2^29)(hy:sz y<=2^29):Pure PP 130 [.int .u8 45,.string (aA x),.string (aA y)] (.tuple #[.string (aA (x - y)),.int .i64 0]):=by
 have hb:=aKo hx hy
 have aMp:=lTr hx (show 2^29<=2^34 by decide)
 have aMr:=lTr hy (show 2^29<=2^34 by decide)
 have h1:=bCp aMp aMr
 have h2:=aPh (q:=x - y) (lTr (aEe x y) zW)
 obtain⟨R,hRR⟩:=nm (aKd E4);unfold cK at hb h1 h2;generalize aA (x - y)=r at h2 |-;generalize aW (x - y).num=r1,aJ (x - y).den=r2 at h1 h2;generalize aA x=sx,aA y=sy at hb |-;generalize aW x.num=a,aJ x.den=b,aW y.num=a',aJ y.den=b' at hb h1;refine zF [.i .u8 (.l 45),.s (.v sx),.s (.v sy)] Tryz.func130 λc hc hR=>?_;cbv;refine zC (.t [.g [.s (.v a),.s (.v b)],.g [.s (.v a'),.s (.v b')],.i .i64 (.l 0)]) hb xD ?_;cbv;refine mP hc (R:=R) aN4 (λD X μ a w aK H aG=>?_) 100 ?_
 ·simp only[aF]at aG;injection aG with aG;subst aG
  rw[hRR];exact aGs H.xlt
 cbv;refine yM hc (av:=.f (.func 243) [] []) (Kn:=[]) _ rfl rfl rfl rfl (λD hD=>uC (by rw[hc.hP];exact Tryz.underlying227) (by rw[hc.hP];exact Tryz.underlying5) (by trivial) (key:=.int .u8 45) rfl rfl (.head _) hRR rfl rfl rfl rfl hD) 100 ?_;cbv;refine zD (.g [.s (.v r1),.s (.v r2)]) h1 aSi ?_;cbv;refine zD (.s (.v r)) h2 aBo ?_;cbv;refine zE ?_;cbv;exact zR
theorem aL0:aB PP 67:=zK
theorem bCh {x y:Rat}(hx:sz x<=2^29)(hy:sz y<=2^29):Pure PP 67 [.string (aA x),.string (aA y)] (.tuple #[.string (aA (x - y)),.int .i64 0]):=by
 have h1:=aNa hx hy
 generalize aA (x - y)=r,aA x=sx,aA y=sy at h1 |-;refine zF [.s (.v sx),.s (.v sy)] Tryz.func67 λc hc hR=>?_;cbv;refine zC (.t [.s (.v r),.i .i64 (.l 0)]) h1 xC ?_;cbv;exact zR
theorem aM8 {x y:Rat}(h0:y≠0)(hx:sz x<=2^29)(hy:sz y<=2^29):Pure PP 130 [.int .u8 47,.string (aA x),.string (aA y)] (.tuple #[.string (aA (x/y)),.int .i64 0]):=by
 have hb:=aKo hx hy
 have aMp:=lTr hx (show 2^29<=2^34 by decide)
 have aMr:=lTr hy (show 2^29<=2^34 by decide)
 have h1:=bFz h0 aMp aMr
 have h2:=aPh (q:=x/y) (lTr (kF x y) zW)
 have z0:(BE.seq (.v (aW y.num)) (.v ⟨#[48]⟩)).den=true->False:=λh=>by
  have e:=bF4 (s:=aW y.num) (z:=y.num) rfl
  have e2:(BE.not (BE.seq (.v (aW y.num)) (.v ⟨#[48]⟩))).den=false:=by show(! _)=false;rw[h];rfl
  rw[e2]at e;exact absurd e (by simp;exact h0)
 obtain⟨R,hRR⟩:=nm (aKd E4);unfold cK at hb h1 h2;generalize aA (x/y)=r at h2 |-;generalize aW (x/y).num=r1,aJ (x/y).den=r2 at h1 h2;generalize aA x=sx,aA y=sy at hb |-;generalize aW x.num=a,aJ x.den=b at hb h1;generalize aW y.num=a' at hb h1 z0;generalize aJ y.den=b' at hb h1;refine zF [.i .u8 (.l 47),.s (.v sx),.s (.v sy)] Tryz.func130 λc hc hR=>?_;cbv;refine zC (.t [.g [.s (.v a),.s (.v b)],.g [.s (.v a'),.s (.v b')],.i .i64 (.l 0)]) hb xD ?_;cbv;refine aE rfl 100 (λh=>(z0 h).elim) (λh=>?_);cbv;refine mP hc (R:=R) aN4 (λD X μ a w aK H aG=>?_) 100 ?_
 ·simp only[aF]at aG;injection aG with aG;subst aG
  rw[hRR];exact aGs H.xlt
 cbv;refine yM hc (av:=.f (.func 245) [] []) (Kn:=[]) _ rfl rfl rfl rfl (λD hD=>uC (by rw[hc.hP];exact Tryz.underlying227) (by rw[hc.hP];exact Tryz.underlying5) (by trivial) (key:=.int .u8 47) rfl rfl (.head _) hRR rfl rfl rfl rfl hD) 100 ?_;cbv;refine zD (.g [.s (.v r1),.s (.v r2)]) h1 aWo ?_;cbv;refine zD (.s (.v r)) h2 aBo ?_;cbv;refine zE ?_;cbv;exact zR
theorem aG3:aB PP 134:=zK
theorem aXz {x y:Rat}(h0:y≠0)(hx:sz x<=2^29)(hy:sz y<=2^29):Pure PP 134 [.string (aA x),.string (aA y)] (.tuple #[.string (aA (x/y)),.int .i64 0]):=by
 have h1:=aM8 h0 hx hy
 generalize aA (x/y)=r,aA x=sx,aA y=sy at h1 |-;refine zF [.s (.v sx),.s (.v sy)] Tryz.func134 λc hc hR=>?_;cbv;refine zC (.t [.s (.v r),.i .i64 (.l 0)]) h1 xC ?_;cbv;exact zR
end Go.Ai
namespace Go.Ai
open Go Go.Proofs Go.Num
theorem aL2:aB PP 195:=zK
theorem aV2 {x y:Rat}(hx:sz x<=2^29)(hy:sz y<=2^29):Pure PP 195 [.string (aA x),.string (aA y)] (.string (aA (x+y))):=by
 have h1:=aBi hx hy
 generalize aA (x+y)=r,aA x=sx,aA y=sy at h1 |-;refine zF [.s (.v sx),.s (.v sy)] Tryz.func195 λc hc hR=>?_;cbv;refine zC (.t [.s (.v r),.i .i64 (.l 0)]) h1 mR ?_;cbv;exact zR
theorem aAb:aB PP 150:=zK
theorem aLl {x y:Rat}(hx:sz x<=2^29)(hy:sz y<=2^29):Pure PP 150 [.string (aA x),.string (aA y)] (.string (aA (x - y))):=by
 have h1:=bCh hx hy
 generalize aA (x - y)=r,aA x=sx,aA y=sy at h1 |-;refine zF [.s (.v sx),.s (.v sy)] Tryz.func150 λc hc hR=>?_;cbv;refine zC (.t [.s (.v r),.i .i64 (.l 0)]) h1 aL0 ?_;cbv;exact zR
theorem vV:aB PP 194:=zK
theorem aIh {x y:Rat}(hx:sz x<=2^29)(hy:sz y<=2^29):Pure PP 194 [.string (aA x),.string (aA y)] (.string (aA (x*y))):=by
 have h1:=aH6 hx hy
 generalize aA (x*y)=r,aA x=sx,aA y=sy at h1 |-;refine zF [.s (.v sx),.s (.v sy)] Tryz.func194 λc hc hR=>?_;cbv;refine zC (.t [.s (.v r),.i .i64 (.l 0)]) h1 rE ?_;cbv;exact zR
theorem bAm:aB PP 213:=zK
theorem bIw {x y:Rat}(h0:y≠0)(hx:sz x<=2^29)(hy:sz y<=2^29):Pure PP 213 [.string (aA x),.string (aA y)] (.string (aA (x/y))):=by
 have h1:=aXz h0 hx hy
 generalize aA (x/y)=r,aA x=sx,aA y=sy at h1 |-;refine zF [.s (.v sx),.s (.v sy)] Tryz.func213 λc hc hR=>?_;cbv;refine zC (.t [.s (.v r),.i .i64 (.l 0)]) h1 aG3 ?_;cbv;exact zR
theorem eS:aA 0=⟨#[48]⟩:=by
 have:aA 0=aW 0:=rfl
 rw[this,show(0:Int)=((0:Nat):Int) from rfl,lM,bC8]
theorem sz0:sz 0<=2^29:=lTr (gS 0) (by rw[eS];decide)
theorem aG6:aB PP 212:=zK
theorem aV7 {x:Rat}(hx:sz x<=2^29):Pure PP 212 [.string (aA x)] (.int .i64 (jJ x 0)):=by
 have h1:=yI (y:=0) hx sz0
 rw[eS]at h1;generalize jJ x 0=r,aA x=sx at h1 |-;refine zF [.s (.v sx)] Tryz.func212 λc hc hR=>?_;cbv;refine zC (.t [.i .i64 (.v r),.i .i64 (.l 0)]) h1 rD ?_;cbv;exact zR
def gT (a b c:ByteArray):Value:=.agg #[.string a,.string b,.string c]
abbrev iI (a b c:ByteArray):AV:=.g [.s (.v a),.s (.v b),.s (.v c)]
theorem aOg:aB PP 193:=zK
theorem vof (a b d:ByteArray):Pure PP 193 [gT a b d] (gT a b d):=by
 unfold gT;refine zF [.g [.s (.v a),.s (.v b),.s (.v d)]] Tryz.func193 λc hc hR=>?_;cbv;exact zR
theorem sX:aB PP 145:=zK
theorem aEk (a b d:ByteArray):Pure PP 145 [gT a b d] (gT a b d):=by
 unfold gT;refine zF [.g [.s (.v a),.s (.v b),.s (.v d)]] Tryz.func145 λc hc hR=>?_;cbv;exact zR
theorem aCq:aB PP 149:=zK
theorem bDe {g:Nat}(cg:aB PP g){a b d a' b' d' r1 r2 r3:ByteArray}(h1:Pure PP g [.string a,.string a'] (.string r1))(h2:Pure PP g [.string b,.string b'] (.string r2))(h3:Pure PP g [.string d,.string d'] (.string r3)):
  Pure PP 149 [.func (.func g) #[] #[],gT a b d,gT a' b' d'] (gT r1 r2 r3):=by
 have k1:=aEk a b d
 have k2:=aEk a' b' d'
 have k3:=vof r1 r2 r3
 unfold gT at k1 k2 k3 |-;refine zF [.f (.func g) [] [],.g [.s (.v a),.s (.v b),.s (.v d)],.g [.s (.v a'),.s (.v b'),.s (.v d')]] Tryz.func149 λc hc hR=>?_;cbv;refine zD (iI a b d) k1 sX ?_;cbv;refine zD (iI a' b' d') k2 sX ?_;cbv;refine zE ?_;cbv;refine aV 4 (λp hp=>?_);refine hp _ _ _ ?_;apply zN hc;cbv;refine zD (.s (.v r1)) h1 cg ?_;cbv;refine zE ?_;cbv;refine hp _ _ _ ?_;apply zN hc;cbv;refine zD (.s (.v r2)) h2 cg ?_;cbv;refine zE ?_;cbv;refine hp _ _ _ ?_;apply zN hc;cbv;refine zD (.s (.v r3)) h3 cg ?_;cbv;refine zE ?_;cbv;refine hp _ _ _ ?_;apply zN hc;cbv;refine zC (iI r1 r2 r3) k3 aOg ?_;cbv;exact zR
end Go.Ai
