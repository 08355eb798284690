/- Part 15: lemmas for garboardlaw17.FloatDivides -/
import Derived.Test.YtmnancfboococaaGreatDoorPd13
set_option linter.all false
namespace Go.Ai
open Go Go.Proofs Go.Num
def niV (b:Bool)(s:ByteArray):Value:=.agg #[.bool b,.string s]
def eB (z:Int):Value:=niV (decide (z<0)) (aL z.natAbs)
def sgn (b:Bool)(a:Nat):Int:=if b then -(a:Int)else a
theorem aMi:aB PP 230:=zK
theorem jT:aB PP 232:=zK
theorem vU:aB PP 215:=zK
theorem aQl:aB PP 217:=zK
theorem rP:aB PP 235:=zK
theorem aMh:aB PP 218:=zK
theorem bBr:aL 0=⟨#[48]⟩:=by unfold aL;rw[aKn]
theorem aTz {s t:ByteArray}{a b:Nat}(hs:s=aL a)(ht:t=aL b):(BE.seq (.v s) (.v t)).den=decide (a=b):=by
 rw[xC];simp only[SE.den];rw[hs,ht,cT,cT];by_cases h:a=b
 ·subst h;simp
 ·rw[decide_eq_false h,beq_eq_false_iff_ne];exact λe=>h (oU e)
theorem bBm {s:ByteArray}{a:Nat}(hs:s=aL a):(BE.seq (.v s) (.v ⟨#[48]⟩)).den=decide (a=0):=aTz hs bBr.symm
theorem aS4 {s:ByteArray}{a:Nat}(hs:s=aL a):(BE.not (BE.seq (.v s) (.v ⟨#[48]⟩))).den=decide (a≠0):=by
 show(!(BE.seq (.v s) (.v ⟨#[48]⟩)).den)=_
 rw[bBm hs];simp
theorem aSx (b:Bool)(a:Nat):eB (sgn b a)=niV (b&&decide (a≠0)) (aL a):=by
 unfold eB sgn;cases b
 ·rw[if_neg zA,Int.natAbs_natCast,decide_eq_false zW];rfl
 ·rw[if_pos rfl,Int.natAbs_neg,Int.natAbs_natCast];congr 1;rw[Bool.true_and];exact decide_eq_decide.2 zW
theorem aXy:Pure PP 230 [] (niV false ⟨#[48]⟩):=by
 refine aH mixed tok [] Tryz.func230 rfl rfl rfl λc hc hR=>?_;apply zN hc;cbv;exact zR
theorem wL (b:Bool)(a:Nat):Pure PP 232 [.bool b,.string (aL a)] (eB (sgn b a)):=by
 obtain⟨r,hr⟩:=nm (eB (sgn b a));obtain⟨s,hs⟩:=nm (aL a);rw[<-hr,<-hs];have hr:=hr.trans (aSx b a);rw[<-hs]at hr;have h0:=aS4 hs;refine aH mixed tok [.b (.v b),.s (.v s)] Tryz.func232 rfl rfl rfl λc hc hR=>?_;apply zN hc;cbv;refine bV 6 rfl rfl 100 (λh=>?_) (λh=>?_)
 ·have h:b=true:=h
  subst h;cbv;exact bR hc hR rfl (by rw[hr,<-h0];rfl)
 ·have h:b=false:=h
  subst h;cbv;exact bR hc hR rfl (by rw[hr];rfl)
theorem aIm {z:Int}(hs:dl z.natAbs<=2^60):Pure PP 215 [eB z] (.string (aY z)):=by
 have hz:aY z=if decide (z<0)=true then⟨#[45]⟩++aL z.natAbs else aL z.natAbs:=by
  apply jQ;rw[cW];unfold Lib.itoa;split
  ·rename_i h;rw[decide_eq_true h,if_pos rfl,fU,cT];rfl
  ·rename_i h;rw[decide_eq_false h,if_neg zA,cT];congr 1;omega
 obtain⟨r,hr⟩:=nm (aY z);rw[<-hr]at hz |-;have hsz:(aL z.natAbs).size<=2^60:=by rw[fK];exact hs
 unfold eB;generalize decide (z<0)=b at hz |-;generalize aL z.natAbs=s at hz hsz |-;have o1:(Obl.cat (.v ⟨#[45]⟩) (.v s)).ok:=by show((1+s.size:Nat):Int)<=_;omega
 refine aH mixed tok [.g [.b (.v b),.s (.v s)]] Tryz.func215 rfl rfl rfl λc hc hR=>?_;apply zN hc;cbv;refine aE rfl 100 (λh=>?_) (λh=>?_)
 ·have h:b=true:=h
  subst h;rw[if_pos rfl]at hz;cbv;refine aP hc ⟨o1,trivial⟩ ?_;exact bR hc hR rfl (by rw[hz];rfl)
 ·have h:b=false:=h
  subst h;rw[if_neg zA]at hz;cbv;exact bR hc hR rfl (by rw[hz];rfl)
theorem aW7 (z:Int):sgn (!decide (z<0)) z.natAbs=-z:=by
 unfold sgn;by_cases h:z<0
 ·rw[decide_eq_true h,Bool.not_true,if_neg zA];omega
 ·rw[decide_eq_false h,Bool.not_false,if_pos rfl];omega
theorem aT2 (z:Int):sgn (decide (z<0)) z.natAbs=z:=by
 unfold sgn;by_cases h:z<0
 ·rw[decide_eq_true h,if_pos rfl];omega
 ·rw[decide_eq_false h,if_neg zA];omega
theorem bDy (z:Int):Pure PP 217 [eB z] (eB (-z)):=by
 have h1:=wL (!decide (z<0)) z.natAbs
 rw[aW7]at h1;obtain⟨r,hr⟩:=nm (eB (-z));rw[<-hr]at h1 |-;unfold eB at hr |-;generalize decide (z<0)=b,aL z.natAbs=s at h1 |-;generalize decide (-z<0)=b',aL (-z).natAbs=s' at hr;subst hr;refine aH mixed tok [.g [.b (.v b),.s (.v s)]] Tryz.func217 rfl rfl rfl λc hc hR=>?_;apply zN hc;cbv;refine zC (.g [.b (.v b'),.s (.v s')]) h1 jT ?_;cbv;exact zR
theorem aXx (z:Int):Pure PP 218 [eB z] (.int .i64 (bW z 0)):=by
 obtain⟨r,hr⟩:=nm (bW z 0);rw[<-hr];have h0:=bBm (s:=aL z.natAbs) rfl;unfold eB;obtain⟨b,hb⟩:=nm (decide (z<0));obtain⟨s,hs⟩:=nm (aL z.natAbs);rw[<-hs]at h0;rw[<-hb,<-hs];refine aH mixed tok [.g [.b (.v b),.s (.v s)]] Tryz.func218 rfl rfl rfl λc hc hR=>?_;apply zN hc;cbv;refine zD (.g [.b (.l false),.s (.v ⟨#[48]⟩)]) aXy aMi ?_;cbv;have ec:(BE.and (BE.beq (.v b) (.l false)) (BE.seq (.v s) (.v ⟨#[48]⟩))).den=decide (z=0):=by
  show((b==false)&&(BE.seq (.v s) (.v ⟨#[48]⟩)).den)=_
  rw[h0,hb];by_cases hz:z=0
  ·subst hz;rfl
  ·rw[decide_eq_false hz,decide_eq_false (zW:¬z.natAbs=0),Bool.and_false]
 refine zE ?_;cbv;refine aE rfl 100 (λh=>?_) (λh=>?_)
 ·have hz:=of_decide_eq_true (ec.symm.trans h)
  have hr:r=0:=by rw[hr,hz];rfl
  subst hr;cbv;exact zR
 ·have hz:=of_decide_eq_false (ec.symm.trans h)
  cbv;refine aE rfl 100 (λh=>?_) (λh=>?_)
  ·have h:b=true:=h
   have hr:r=-1:=by rw[hb]at h;have h:=of_decide_eq_true h;rw[hr];unfold bW;rw[if_pos h]
   subst hr;cbv;exact zR
  ·have h:b=false:=h
   have hr:r=1:=by rw[hb]at h;have h:=of_decide_eq_false h;rw[hr];unfold bW;rw[if_neg h,if_pos zW]
   subst hr;cbv;exact zR
theorem bDw (b:Bool):Pure PP 235 [.bool b] (.int .i64 (if b then 1 else 0)):=by
 refine aH mixed tok [.b (.v b)] Tryz.func235 rfl rfl rfl λc hc hR=>?_;apply zN hc;cbv;refine aE rfl 100 (λh=>?_) (λh=>?_)
 ·have h:b=true:=h
  subst h;cbv;exact zR
 ·have h:b=false:=h
  subst h;cbv;exact zR
theorem aQm:aB PP 233:=zK
theorem aMf:aB PP 234:=zK
theorem aMg:aB PP 216:=zK
theorem aQn:aB PP 214:=zK
theorem aQs:aB PP 247:=zK
theorem aJ9:aB PP 249:=zK
theorem uK:aB PP 231:=zK
theorem aYz:aB PP 228:=zK
theorem aJ8:aB PP 248:=zK
theorem aD3:aB PP 253:=zK
theorem bGl (b:Bool){n m:Nat}(hn:dl n<=2^37)(hm:dl m<=2^37)(b':Bool):Pure PP 233 [niV b (aL n),niV b' (aL m)] (eB (sgn b (n+m))):=by
 have h1:=bD1 hn hm
 have h2:=wL b (n+m)
 obtain⟨r,hr⟩:=nm (eB (sgn b (n+m)));rw[<-hr]at h2 |-;unfold eB at hr;generalize decide (sgn b (n+m)<0)=b1,aL (sgn b (n+m)).natAbs=s1 at hr;generalize aL n=s,aL m=t at h1 |-;generalize aL (n+m)=u at h1 h2;subst hr;refine aH mixed tok [.g [.b (.v b),.s (.v s)],.g [.b (.v b'),.s (.v t)]] Tryz.func233 rfl rfl rfl λc hc hR=>?_;apply zN hc;cbv;refine zC (.t [.s (.v u),.i .i64 (.l 0)]) h1 aQs ?_;cbv;refine zC (.g [.b (.v b1),.s (.v s1)]) h2 jT ?_;cbv;exact zR
theorem bAr {z y:Int}(hn:dl z.natAbs<=2^37)(hm:dl y.natAbs<=2^37):Pure PP 214 [eB z,eB y] (eB (z*y)):=by
 have h1:=bAv hn hm
 have h2:=wL (!(decide (z<0)==decide (y<0))) (z.natAbs*y.natAbs)
 have he:sgn (!(decide (z<0)==decide (y<0))) (z.natAbs*y.natAbs)=z*y:=by
  rw[<-Int.natAbs_mul];conv=>rhs;rw[<-aT2 (z*y)]
  by_cases h0:z=0\/y=0
  ·have:(z*y)=0:=by rcases h0 with h | h<;>simp[h]
   rw[this];cases (!(decide (z<0)==decide (y<0)))<;>simp[sgn]
  ·congr 1
   by_cases hz:z<0<;>by_cases hy:y<0
   ·have:=Int.mul_pos_of_neg_of_neg hz hy;simp[hz,hy];omega
   ·have:=Int.mul_neg_of_neg_of_pos hz (show 0<y by omega);simp[hz,hy];omega
   ·have:=Int.mul_neg_of_pos_of_neg (show 0<z by omega) hy;simp[hz,hy];omega
   ·have:=Int.mul_pos (show 0<z by omega) (show 0<y by omega);simp[hz,hy];omega
 rw[he]at h2;obtain⟨r,hr⟩:=nm (eB (z*y));rw[<-hr]at h2 |-;unfold eB at hr |-;generalize decide (z*y<0)=b1,aL (z*y).natAbs=s1 at hr;generalize aL z.natAbs=s,aL y.natAbs=t at h1 |-;generalize aL (z.natAbs*y.natAbs)=u at h1 h2;generalize decide (z<0)=b,decide (y<0)=b' at h2 |-;subst hr;refine aH mixed tok [.g [.b (.v b),.s (.v s)],.g [.b (.v b'),.s (.v t)]] Tryz.func214 rfl rfl rfl λc hc hR=>?_;apply zN hc;cbv;refine zC (.t [.s (.v u),.i .i64 (.l 0)]) h1 uK ?_;cbv;refine zC (.g [.b (.v b1),.s (.v s1)]) h2 jT ?_;cbv;exact zR
def dif (b b':Bool)(n m:Nat):Int:=if n<m then sgn b' (m - n)else sgn b (n - m)
theorem bDx (b b':Bool){n m:Nat}(hn:dl n<=2^37)(hm:dl m<=2^37):Pure PP 234 [niV b (aL n),niV b' (aL m)] (eB (dif b b' n m)):=by
 have h0:=aS3 hn hm
 obtain⟨z,hz⟩:=nm (bW n m);rw[<-hz]at h0;have hlt:z<0->n<m:=λh=>aFy hz h;have hge:¬z<0->m<=n:=λh=>aBl hz h;obtain⟨r,hr⟩:=nm (eB (dif b b' n m));have h1:=λh:z<0=>bAw (Nat.le_of_lt (hlt h)) hm hn;have h2:=λh:¬z<0=>bAw (hge h) hn hm;have w1:z<0->Pure PP 232 [.bool b',.string (aL (m - n))] r:=λh=>by rw[hr];unfold dif;rw[if_pos (hlt h)];exact wL _ _
 have w2:¬z<0->Pure PP 232 [.bool b,.string (aL (n - m))] r:=λh=>by rw[hr];unfold dif;rw[if_neg (by have:=hge h;omega)];exact wL _ _
 rw[<-hr];unfold eB at hr;generalize decide (dif b b' n m<0)=b1,aL (dif b b' n m).natAbs=s1 at hr;generalize aL n=s,aL m=t at h0 h1 h2 |-;generalize aL (m - n)=u1 at h1 w1;generalize aL (n - m)=u2 at h2 w2;subst hr;refine aH mixed tok [.g [.b (.v b),.s (.v s)],.g [.b (.v b'),.s (.v t)]] Tryz.func234 rfl rfl rfl λc hc hR=>?_;apply zN hc;cbv;refine zC (.t [.i .i64 (.v z),.i .i64 (.l 0)]) h0 aJ8 ?_;cbv;refine aE rfl 100 (λh=>?_) (λh=>?_)
 ·have h:z<0:=BE.lt_t h
  cbv;refine zC (.t [.s (.v u1),.i .i64 (.l 0)]) (h1 h) aJ9 ?_;cbv;refine zC (.g [.b (.v b1),.s (.v s1)]) (w1 h) jT ?_;cbv;exact zR
 ·have h:¬z<0:=BE.lt_f h
  cbv;refine zC (.t [.s (.v u2),.i .i64 (.l 0)]) (h2 h) aJ9 ?_;cbv;refine zC (.g [.b (.v b1),.s (.v s1)]) (w2 h) jT ?_;cbv;exact zR
theorem aPc {z y:Int}(h:decide (z<0)=decide (y<0)):sgn (decide (z<0)) (z.natAbs+y.natAbs)=z+y:=by
 have hh:=decide_eq_decide.1 h
 unfold sgn;by_cases hz:z<0
 ·have:=hh.1 hz;rw[if_pos (decide_eq_true hz)];omega
 ·have:¬y<0:=λh=>hz (hh.2 h);rw[if_neg (by simpa using hz)];omega
theorem aLe {z y:Int}(h:decide (z<0)≠decide (y<0)):dif (decide (z<0)) (decide (y<0)) z.natAbs y.natAbs=z+y:=by
 unfold dif sgn;by_cases hz:z<0<;>by_cases hy:y<0
 ·exact absurd ((decide_eq_true hz).trans (decide_eq_true hy).symm) h
 ·rw[decide_eq_true hz,decide_eq_false hy];simp only[if_true,if_false,Bool.false_eq_true];split<;>omega
 ·rw[decide_eq_false hz,decide_eq_true hy];simp only[if_true,if_false,Bool.false_eq_true];split<;>omega
 ·exact absurd ((decide_eq_false hz).trans (decide_eq_false hy).symm) h
theorem aXv {z y:Int}(hn:dl z.natAbs<=2^37)(hm:dl y.natAbs<=2^37):Pure PP 216 [eB z,eB y] (eB (z+y)):=by
 have h1:=bGl (decide (z<0)) hn hm (decide (y<0))
 have h2:=bDx (decide (z<0)) (decide (y<0)) hn hm
 have e1:decide (z<0)=decide (y<0)->sgn (decide (z<0)) (z.natAbs+y.natAbs)=z+y:=aPc
 have e2:decide (z<0)≠decide (y<0)->dif (decide (z<0)) (decide (y<0)) z.natAbs y.natAbs=z+y:=aLe
 obtain⟨r,hr⟩:=nm (eB (z+y));have h1:decide (z<0)=decide (y<0)->Pure PP 233 [eB z,eB y] r:=λh=>by rw[hr,<-e1 h];exact h1
 have h2:decide (z<0)≠decide (y<0)->Pure PP 234 [eB z,eB y] r:=λh=>by rw[hr,<-e2 h];exact h2
 clear e1 e2;rw[<-hr];unfold eB at hr h1 h2 |-;generalize decide (z+y<0)=b1,aL (z+y).natAbs=s1 at hr;generalize aL z.natAbs=s,aL y.natAbs=t,decide (z<0)=b,decide (y<0)=b' at h1 h2 |-;subst hr;have hb:=bDw b;have hb':=bDw b';cases b<;>cases b'
 ·have h:=h1 rfl
  refine aH mixed tok [.g [.b (.l false),.s (.v s)],.g [.b (.l false),.s (.v t)]] Tryz.func216 rfl rfl rfl λc hc hR=>?_;apply zN hc;cbv;refine zD (.i .i64 (.l 0)) hb rP ?_;cbv;refine zD (.i .i64 (.l 0)) hb' rP ?_;cbv;refine eF hc (.g [.b (.v b1),.s (.v s1)]) h aQm rfl 100 ?_;cbv;refine zE ?_;cbv;exact zR
 ·have h:=h2 zV
  refine aH mixed tok [.g [.b (.l false),.s (.v s)],.g [.b (.l true),.s (.v t)]] Tryz.func216 rfl rfl rfl λc hc hR=>?_;apply zN hc;cbv;refine zD (.i .i64 (.l 0)) hb rP ?_;cbv;refine zD (.i .i64 (.l 1)) hb' rP ?_;cbv;refine zD (.g [.b (.v b1),.s (.v s1)]) h aMf ?_;cbv;refine zE ?_;cbv;exact zR
 ·have h:=h2 zV
  refine aH mixed tok [.g [.b (.l true),.s (.v s)],.g [.b (.l false),.s (.v t)]] Tryz.func216 rfl rfl rfl λc hc hR=>?_;apply zN hc;cbv;refine zD (.i .i64 (.l 1)) hb rP ?_;cbv;refine zD (.i .i64 (.l 0)) hb' rP ?_;cbv;refine zD (.g [.b (.v b1),.s (.v s1)]) h aMf ?_;cbv;refine zE ?_;cbv;exact zR
 ·have h:=h1 rfl
  refine aH mixed tok [.g [.b (.l true),.s (.v s)],.g [.b (.l true),.s (.v t)]] Tryz.func216 rfl rfl rfl λc hc hR=>?_;apply zN hc;cbv;refine zD (.i .i64 (.l 1)) hb rP ?_;cbv;refine zD (.i .i64 (.l 1)) hb' rP ?_;cbv;refine eF hc (.g [.b (.v b1),.s (.v s1)]) h aQm rfl 100 ?_;cbv;refine zE ?_;cbv;exact zR
theorem aOf:aB PP 271:=zK
theorem aFo:aB PP 226:=zK
theorem vT:aB PP 213:=zK
theorem aJ6:aB PP 229:=zK
theorem aQh:aB PP 241:=zK
theorem euc {z y:Int}(hy:y≠0):(¬(z<0/\z.natAbs%y.natAbs≠0)->sgn (!(decide (z<0)==decide (y<0))) (z.natAbs/y.natAbs)=z/y/\((z.natAbs%y.natAbs:Nat):Int)=z%y)/\
  (z<0/\z.natAbs%y.natAbs≠0->sgn (!(decide (z<0)==decide (y<0))) (z.natAbs/y.natAbs+1)=z/y/\((y.natAbs - z.natAbs%y.natAbs:Nat):Int)=z%y):=by
 have hn:0<y.natAbs:=Int.natAbs_pos.2 hy
 have h1:=Nat.div_add_mod z.natAbs y.natAbs
 have h2:=Nat.mod_lt z.natAbs hn
 obtain⟨q,hq⟩:=nm (z.natAbs/y.natAbs);obtain⟨r,hr⟩:=nm (z.natAbs%y.natAbs);rw[<-hq,<-hr]at h1;rw[<-hr]at h2;rw[<-hq,<-hr];have hp:((y.natAbs*q+r:Nat):Int)=z.natAbs:=by rw[h1]
 rw[Int.natCast_add,Int.natCast_mul]at hp;have uniq:∀a b:Int,0<=b->b<y.natAbs->z=y*a+b->a=z/y/\b=z%y:=by
  intro a b hb0 hb1 he;have e1:z/y=a:=by
   rw[he,Int.add_comm,Int.add_mul_ediv_left _ _ hy];have:b/y=0:=by
    rcases Int.lt_or_gt_of_ne hy with h | h
    ·have:=Int.ediv_eq_zero_of_lt hb0 (show b< -y by omega)
     rw[Int.ediv_neg]at this;omega
    ·exact Int.ediv_eq_zero_of_lt hb0 zW
   omega
  refine⟨e1.symm,?_⟩;have:=Int.mul_ediv_add_emod z y;rw[e1]at this;omega
 constructor
 ·intro hc;refine uniq _ _ zW zW ?_;unfold sgn;by_cases hz:z<0<;>by_cases hy0:y<0
  ·rw[decide_eq_true hz,decide_eq_true hy0];simp;have hr0:r=0:=Classical.byContradiction λe=>hc ⟨hz,e⟩;have e1:(y.natAbs:Int)=-y:=zW;have e2:(z.natAbs:Int)=-z:=zW;rw[e1,e2,Int.neg_mul]at hp;omega
  ·rw[decide_eq_true hz,decide_eq_false hy0];simp;have hr0:r=0:=Classical.byContradiction λe=>hc ⟨hz,e⟩;have e1:(y.natAbs:Int)=y:=zW;have e2:(z.natAbs:Int)=-z:=zW;rw[e1,e2]at hp;rw[Int.mul_neg];omega
  ·rw[decide_eq_false hz,decide_eq_true hy0];simp;have e1:(y.natAbs:Int)=-y:=zW;have e2:(z.natAbs:Int)=z:=zW;rw[e1,e2,Int.neg_mul]at hp;rw[Int.mul_neg];omega
  ·rw[decide_eq_false hz,decide_eq_false hy0];simp;have e1:(y.natAbs:Int)=y:=zW;have e2:(z.natAbs:Int)=z:=zW;rw[e1,e2]at hp;omega
 ·rintro ⟨hz,hr0⟩;refine uniq _ _ zW zW ?_;have e2:(z.natAbs:Int)=-z:=zW;have e3:((q+1:Nat):Int)=(q:Int)+1:=zW;unfold sgn;by_cases hy0:y<0
  ·rw[decide_eq_true hz,decide_eq_true hy0];simp;have e1:(y.natAbs:Int)=-y:=zW;rw[e1,e2,Int.neg_mul]at hp;rw[Int.mul_add];omega
  ·rw[decide_eq_true hz,decide_eq_false hy0];simp;have e1:(y.natAbs:Int)=y:=zW;rw[e1,e2]at hp;rw[Int.mul_neg,Int.mul_add];omega
theorem aJs:aL 1=⟨#[49]⟩:=by unfold aL;rw[aVr]
theorem aRn:dl 1<=2^37:=lTr (sE (k:=1) zV zV) zV
theorem aWa {z y:Int}(hy:y≠0)(hn:dl z.natAbs<=2^36)(hm:dl y.natAbs<=2^36):Pure PP 271 [eB z,eB y] (.tuple #[eB (z/y),eB (z%y)]):=by
 have hy0:0<y.natAbs:=Int.natAbs_pos.2 hy
 obtain⟨q,hq⟩:=nm (z.natAbs/y.natAbs);obtain⟨r,hr⟩:=nm (z.natAbs%y.natAbs);have hql:dl q<=2^36:=lTr (tJ (by rw[hq];exact Nat.div_le_self _ _)) hn;have hrl:dl r<=2^36:=lTr (tJ (by rw[hr];exact Nat.mod_le _ _)) hn;have hry:r<=y.natAbs:=by rw[hr];exact Nat.le_of_lt (Nat.mod_lt _ hy0)
 have h1:=aNj hy0 (lTr hn zV) (lTr hm zV)
 have h2:Pure PP 247 [.string (aL q),.string ⟨#[49]⟩] (.tuple #[.string (aL (q+1)),.int .i64 0]):=by
  have:=bD1 (n:=q) (m:=1) (lTr hql zV) aRn
  rwa [aJs]at this
 have h3:=bAw hry (lTr hm zV) (lTr hrl zV)
 have e:=euc (z:=z) hy
 rw[<-hq,<-hr]at e h1;obtain⟨R1,hR1⟩:∃R,R=eB (z/y):=⟨_,rfl⟩;obtain⟨R2,hR2⟩:∃R,R=eB (z%y):=⟨_,rfl⟩;have w1:¬(z<0/\r≠0)->Pure PP 232 [.bool (!(decide (z<0)==decide (y<0))),.string (aL q)] R1/\Pure PP 232 [.bool false,.string (aL r)] R2:=λh=>by
  rw[hR1,hR2,<-(e.1 h).1,<-(e.1 h).2];exact⟨wL _ _,wL false r⟩
 have w2:z<0/\r≠0->Pure PP 232 [.bool (!(decide (z<0)==decide (y<0))),.string (aL (q+1))] R1/\Pure PP 232 [.bool false,.string (aL (y.natAbs - r))] R2:=λh=>by
  rw[hR1,hR2,<-(e.2 h).1,<-(e.2 h).2];exact⟨wL _ _,wL false _⟩
 rw[<-hR1,<-hR2];have n0:=aS4 (s:=aL r) rfl;unfold eB at hR1 hR2 |-;obtain⟨b,hb⟩:=nm (decide (z<0));rw[<-hb]at w1 w2 |-;have w1:¬(b=true/\r≠0)->_:=λh=>w1 (λh'=>h ⟨by rw[hb];exact decide_eq_true h'.1,h'.2⟩);have w2:b=true/\r≠0->_:=λh=>w2 ⟨of_decide_eq_true (by rw[<-hb];exact h.1),h.2⟩;clear hb e;generalize decide (y<0)=b' at w1 w2 |-;generalize decide (z/y<0)=b1,aL (z/y).natAbs=s1 at hR1;generalize decide (z%y<0)=b2,aL (z%y).natAbs=s2 at hR2;generalize aL z.natAbs=s at h1 |-;generalize aL y.natAbs=t at h1 h3 |-;generalize aL (q+1)=tq1 at h2 w2;generalize aL (y.natAbs - r)=tr1 at h3 w2;generalize aL q=tq at h1 h2 w1;generalize aL r=tr at h1 h3 w1 n0;subst hR1;subst hR2;refine aH mixed tok [.g [.b (.v b),.s (.v s)],.g [.b (.v b'),.s (.v t)]] Tryz.func271 rfl rfl rfl λc hc hR=>?_;apply zN hc;cbv;refine zC (.t [.s (.v tq),.s (.v tr),.i .i64 (.l 0)]) h1 aD3 ?_;cbv;have fin1:¬(b=true/\r≠0)->_:=w1;refine bV 20 rfl rfl 100 (λh=>?_) (λh=>?_)
 ·have hb:b=true:=h
  cbv;refine aE rfl 100 (λh=>?_) (λh=>?_)
  ·have hr0:r≠0:=of_decide_eq_true (n0.symm.trans h)
   obtain⟨k1,k2⟩:=w2 ⟨hb,hr0⟩;cbv;refine zC (.t [.s (.v tq1),.i .i64 (.l 0)]) h2 aQs ?_;cbv;refine zC (.t [.s (.v tr1),.i .i64 (.l 0)]) h3 aJ9 ?_;cbv;refine zC (.g [.b (.v b1),.s (.v s1)]) k1 jT ?_;cbv;refine zC (.g [.b (.v b2),.s (.v s2)]) k2 jT ?_;cbv;exact zR
  ·have hr0:¬r≠0:=of_decide_eq_false (n0.symm.trans h)
   obtain⟨k1,k2⟩:=w1 (λh=>hr0 h.2);cbv;refine zC (.g [.b (.v b1),.s (.v s1)]) k1 jT ?_;cbv;refine zC (.g [.b (.v b2),.s (.v s2)]) k2 jT ?_;cbv;exact zR
 ·have hb:b=false:=h
  obtain⟨k1,k2⟩:=w1 (λh=>by rw[hb]at h;cases h.1);cbv;refine zC (.g [.b (.v b1),.s (.v s1)]) k1 jT ?_;cbv;refine zC (.g [.b (.v b2),.s (.v s2)]) k2 jT ?_;cbv;exact zR
def wK (l:List UInt8):Bool:=Lib.hasPrefix l [45]
def rJ (l:List UInt8):List UInt8:=Lib.trimPrefix l [45]
theorem bCe (s:ByteArray):Pure PP 241 [.string s,.string ⟨#[45]⟩] (.tuple #[.string ⟨(rJ s.data.toList).toArray⟩,.bool (wK s.data.toList)]):=by
 intro w _;refine Calls.mono (Tryz.strings_CutPrefix s ⟨#[45]⟩ w) ?_;rintro e w' ⟨rfl,rfl⟩;exact⟨rfl,RowKit.Below.refl _ _⟩
theorem aSw (l:List UInt8):(rJ l).length<=l.length:=by
 unfold rJ Lib.trimPrefix;split
 ·simp
 ·exact lRf _
theorem aPj (l:List UInt8):(wT l).isSome=(isNat (rJ l)&& !(wK l&&decide (rJ l=[48]))):=by
 cases l with
 | nil=>rfl
 | cons c t=>
  by_cases hc:c=45
  ·subst hc;have e1:wK (45::t)=true:=by simp[wK,Lib.hasPrefix]
   have e2:rJ (45::t)=t:=by unfold rJ Lib.trimPrefix;rw[show Lib.hasPrefix (45::t) [45]=true from e1];rfl
   rw[e1,e2];simp only[wT];by_cases h1:isNat t=true<;>by_cases h2:t=[48]<;>simp[h1,h2]
  ·have e1:wK (c::t)=false:=by
    unfold wK Lib.hasPrefix;simp only[List.isPrefixOf,Bool.and_true,beq_eq_false_iff_ne];exact λh=>hc (Eq.symm h)
   have e2:rJ (c::t)=c::t:=by unfold rJ Lib.trimPrefix;rw[show Lib.hasPrefix (c::t) [45]=false from e1];rfl
   rw[e1,e2,aA2 (λu e=>by injection e with e _;exact hc e)];by_cases h1:isNat (c::t)=true<;>simp[h1]
theorem aLs {s t:ByteArray}:(BE.seq (.v s) (.v t)).den=decide (s.data.toList=t.data.toList):=by
 rw[xC];simp only[SE.den];by_cases h:s.data.toList=t.data.toList
 ·rw[decide_eq_true h,h];simp
 ·rw[decide_eq_false h,beq_eq_false_iff_ne];exact h
theorem aXw (s:ByteArray)(hs:s.size<=2^60):Pure PP 226 [.string s] (.tuple #[niV (wK s.data.toList) ⟨(rJ s.data.toList).toArray⟩,.bool (wT s.data.toList).isSome]):=by
 have h1:=bCe s
 have h2:=aLa ⟨(rJ s.data.toList).toArray⟩ (by
  show(rJ s.data.toList).toArray.size<=_
  rw[List.size_toArray];exact lTr (aSw _) hs)
 have hl:=aPj s.data.toList
 obtain⟨ok,hok⟩:=nm ((wT s.data.toList).isSome);rw[<-hok]at hl |-;obtain⟨a,ha⟩:∃a:ByteArray,a=⟨(rJ s.data.toList).toArray⟩:=⟨_,rfl⟩;have hal:rJ s.data.toList=a.data.toList:=by rw[ha]
 obtain⟨va,hva⟩:∃v,v=isNat a.data.toList:=⟨_,rfl⟩;obtain⟨b,hb⟩:=nm (wK s.data.toList);rw[<-ha,<-hva]at h2;rw[hal,<-hva,<-hb]at hl;rw[<-ha,<-hb]at h1 |-;have e48:(BE.seq (.v a) (.v ⟨#[48]⟩)).den=decide (a.data.toList=[48]):=aLs;refine aH mixed tok [.s (.v s)] Tryz.func226 rfl rfl rfl λc hc hR=>?_;apply zN hc;cbv;refine gJ hc (.t [.s (.v a),.b (.v b)]) h1 aQh rfl rfl 14 ?_;cbv;obtain⟨G,hG⟩:∃G:Nat->List AV->OF,∀b l,G b l=OF.cells b 273 l:=⟨λb l=>OF.cells b _ l,λ_ _=>rfl⟩;refine aTo 2 0 hG (l:=[(4,.s (.v a)),(6,.p 1 0)]) (K':=[]) rfl rfl rfl ⟨⟨_,rfl,rfl,λ_=>rfl⟩,⟨_,rfl,rfl,λ_=>rfl⟩,trivial⟩ rfl rfl trivial trivial (λbk=>?_);apply zN hc;cbv;refine zD (.b (.v va)) h2 rR ?_;cbv;refine bV 18 rfl rfl 100 (λh=>?_) (λh=>?_)
 ·have h:va=true:=h
  have hok:ok=(BE.not (BE.and (BE.beq (.v b) (.l true)) (BE.seq (.v a) (.v ⟨#[48]⟩)))).den:=by
   show ok= !((b==true)&&(BE.seq (.v a) (.v ⟨#[48]⟩)).den)
   rw[e48,hl,h];cases b<;>simp
  cbv;refine tQ hc _ hG [] rfl rfl rfl rfl rfl rfl rfl rfl rfl rfl rfl rfl 100 ?_;cbv;refine zE ?_;cbv;refine aA7 2 hG rfl rfl rfl ?_;cbv;exact bR hc hR rfl (by rw[hok];rfl)
 ·have h:va=false:=h
  have hok:ok=false:=by rw[hl,h];rfl
  subst hok;cbv;refine tQ hc _ hG [] rfl rfl rfl rfl rfl rfl rfl rfl rfl rfl rfl rfl 100 ?_;cbv;refine zE ?_;cbv;refine aA7 2 hG rfl rfl rfl ?_;cbv;exact zR
theorem qG (z:Int):wK (Lib.itoa z)=decide (z<0)/\rJ (Lib.itoa z)=Lib.decDigits z.natAbs:=by
 unfold Lib.itoa;by_cases h:z<0
 ·rw[if_pos h,decide_eq_true h];have e1:wK (45::Lib.decDigits z.natAbs)=true:=by simp[wK,Lib.hasPrefix]
  exact⟨e1,by unfold rJ Lib.trimPrefix;rw[show Lib.hasPrefix (45::Lib.decDigits z.natAbs) [45]=true from e1];rfl⟩
 ·rw[if_neg h,decide_eq_false h,show z.toNat=z.natAbs by omega];have e1:wK (Lib.decDigits z.natAbs)=false:=by
   obtain⟨c,t,h1,h2⟩:=aBt z.natAbs;rw[h1];unfold wK Lib.hasPrefix;simp only[List.isPrefixOf,Bool.and_true,beq_eq_false_iff_ne];exact λh=>(aK2 h2).1 (Eq.symm h)
  exact⟨e1,by unfold rJ Lib.trimPrefix;rw[show Lib.hasPrefix (Lib.decDigits z.natAbs) [45]=false from e1];rfl⟩
theorem lG (z:Int):(aY z).size<=dl z.natAbs+1:=by
 show(Lib.itoa z).toArray.size<=_
 rw[List.size_toArray];exact zZ z
theorem aEp {z:Int}(hz:dl z.natAbs<=2^59):Pure PP 226 [.string (aY z)] (.tuple #[eB z,.bool true]):=by
 have h:=aXw (aY z) (lTr (lG z) zW)
 rw[cW,pN,(qG z).1,(qG z).2]at h;exact h
theorem aIi {z y:Int}(hz:dl z.natAbs<=2^59)(hy:dl y.natAbs<=2^59):Pure PP 213 [.string (aY z),.string (aY y)] (.tuple #[eB z,eB y,.int .i64 0]):=by
 have h1:=aEp hz
 have h2:=aEp hy
 unfold eB at h1 h2 |-;generalize aY z=sz at h1 |-;generalize aY y=sy at h2 |-;generalize aL z.natAbs=s at h1 |-;generalize aL y.natAbs=t at h2 |-;generalize decide (z<0)=b at h1 |-;generalize decide (y<0)=b' at h2 |-;refine aH mixed tok [.s (.v sz),.s (.v sy)] Tryz.func213 rfl rfl rfl λc hc hR=>?_;apply zN hc;cbv;refine zC (.t [.g [.b (.v b),.s (.v s)],.b (.l true)]) h1 aFo ?_;cbv;refine gJ hc (.t [.g [.b (.v b'),.s (.v t)],.b (.l true)]) h2 aFo rfl rfl 1 ?_;cbv;refine aX7 hc 100 ?_;cbv;obtain⟨G,hG⟩:∃G:Nat->List AV->OF,∀b l,G b l=OF.cells b 273 l:=⟨λb l=>OF.cells b _ l,λ_ _=>rfl⟩;refine aTo 4 0 hG (l:=[(5,.p 1 0),(7,.p 2 0),(9,.p 3 0)]) (K':=[]) rfl rfl rfl ⟨⟨_,rfl,rfl,λ_=>rfl⟩,⟨_,rfl,rfl,λ_=>rfl⟩,⟨_,rfl,rfl,λ_=>rfl⟩,trivial⟩ rfl rfl trivial trivial (λbk=>?_);apply zN hc;cbv;refine tQ hc _ hG [] rfl rfl rfl rfl rfl rfl rfl rfl rfl rfl rfl rfl 100 ?_;cbv;refine zE ?_;cbv;refine aA7 4 hG rfl rfl rfl ?_;cbv;exact zR
theorem bAp {z:Int}(hz:dl z.natAbs<=2^59):Pure PP 229 [.string (aY z)] (.tuple #[eB z,.int .i64 0]):=by
 have h1:=aIi hz (y:=0) (by rw[show(0:Int).natAbs=0 from rfl,aM2,Lib.nDigits_small zV];decide)
 have e0:aY 0=⟨#[48]⟩:=by unfold aY Lib.itoa;rw[if_neg zV];exact congrArg (λl:List UInt8=>(⟨l.toArray⟩:ByteArray)) aKn
 have e1:eB 0=niV false ⟨#[48]⟩:=by unfold eB;rw[show(0:Int).natAbs=0 from rfl,bBr];rfl
 rw[e0,e1]at h1;unfold eB at h1 |-;generalize aY z=sz,aL z.natAbs=s,decide (z<0)=b at h1 |-;refine aH mixed tok [.s (.v sz)] Tryz.func229 rfl rfl rfl λc hc hR=>?_;apply zN hc;cbv;refine zC (.t [.g [.b (.v b),.s (.v s)],.g [.b (.l false),.s (.v ⟨#[48]⟩)],.i .i64 (.l 0)]) h1 vT ?_;cbv;exact zR
theorem rO:aB PP 204:=zK
theorem aU9:aB PP 212:=zK
theorem aYs:aB PP 227:=zK
theorem aYt:aB PP 240:=zK
theorem aJ5:aB PP 200:=zK
theorem aJ4:aB PP 238:=zK
theorem nE:aB PP 199:=zK
theorem aOe:aB PP 252:=zK
theorem bAo (s:ByteArray)(hs:s.size<=2^60):Pure PP 204 [.string s] (.bool (wT s.data.toList).isSome):=by
 have h:=aXw s hs
 generalize (wT s.data.toList).isSome=ok at h |-;generalize (⟨(rJ s.data.toList).toArray⟩:ByteArray)=a,wK s.data.toList=b at h;refine aH mixed tok [.s (.v s)] Tryz.func204 rfl rfl rfl λc hc hR=>?_;apply zN hc;cbv;refine zC (.t [.g [.b (.v b),.s (.v a)],.b (.v ok)]) h aFo ?_;cbv;exact zR
theorem bDv {z:Int}(hz:dl z.natAbs<=2^59):Pure PP 212 [.string (aY z)] (.tuple #[.int .i64 (bW z 0),.int .i64 0]):=by
 have h:=bAp hz
 have h2:=aXx z
 unfold eB at h h2;generalize bW z 0=r at h2 |-;generalize aY z=sz at h |-;generalize aL z.natAbs=s,decide (z<0)=b at h h2;refine aH mixed tok [.s (.v sz)] Tryz.func212 rfl rfl rfl λc hc hR=>?_;apply zN hc;cbv;refine zC (.t [.g [.b (.v b),.s (.v s)],.i .i64 (.l 0)]) h aJ6 ?_;cbv;refine zC (.i .i64 (.v r)) h2 aMh ?_;cbv;exact zR
theorem bGi {z:Int}(hz:dl z.natAbs<=2^59):Pure PP 227 [.string (aY z)] (.tuple #[.string (aL z.natAbs),.int .i64 0]):=by
 have h:=bAp hz
 unfold eB at h;generalize aY z=sz,aL z.natAbs=s at h |-;generalize decide (z<0)=b at h;refine aH mixed tok [.s (.v sz)] Tryz.func227 rfl rfl rfl λc hc hR=>?_;apply zN hc;cbv;refine zC (.t [.g [.b (.v b),.s (.v s)],.i .i64 (.l 0)]) h aJ6 ?_;cbv;exact zR
theorem bGk {z:Int}(hz:dl z.natAbs<=2^59):Pure PP 240 [.string (aY z)] (.tuple #[.string (aY (-z)),.int .i64 0]):=by
 have h:=bAp hz
 have h2:=bDy z
 have h3:=aIm (z:=-z) (by rw[Int.natAbs_neg];exact lTr hz zV)
 unfold eB at h h2 h3;generalize aY z=sz at h |-;generalize aY (-z)=sr at h3 |-;generalize aL z.natAbs=s,decide (z<0)=b at h h2;generalize aL (-z).natAbs=s',decide (-z<0)=b' at h2 h3;refine aH mixed tok [.s (.v sz)] Tryz.func240 rfl rfl rfl λc hc hR=>?_;apply zN hc;cbv;refine zC (.t [.g [.b (.v b),.s (.v s)],.i .i64 (.l 0)]) h aJ6 ?_;cbv;refine zC (.g [.b (.v b'),.s (.v s')]) h2 aQl ?_;cbv;refine zC (.s (.v sr)) h3 vU ?_;cbv;exact zR
theorem aEd (z y:Int){k:Nat}(h1:dl z.natAbs<=k)(h2:dl y.natAbs<=k):dl (z+y).natAbs<=k+1:=by
 have h3:(z+y).natAbs<=z.natAbs+y.natAbs:=Int.natAbs_add_le z y
 exact lTr (tJ h3) (lTr (aRm _ _) zW)
theorem aVm (z y:Int):bW (z+-y) 0=bW z y:=by unfold bW;split<;>split<;>(try split)<;>(try split)<;>omega
theorem aSu {z y:Int}(hz:dl z.natAbs<=2^36)(hy:dl y.natAbs<=2^36):Pure PP 200 [.string (aY z),.string (aY y)] (.tuple #[.int .i64 (bW z y),.int .i64 0]):=by
 have h:=aIi (z:=z) (y:=y) (lTr hz zV) (lTr hy zV)
 have h2:=bDy y
 have h3:=aXv (z:=z) (y:=-y) (lTr hz zV) (by rw[Int.natAbs_neg];exact lTr hy zV)
 have h4:=aXx (z+-y)
 rw[aVm]at h4;unfold eB at h h2 h3 h4;generalize bW z y=r at h4 |-;generalize aY z=sz,aY y=sy at h |-;generalize aL z.natAbs=s,decide (z<0)=b at h h3;generalize aL y.natAbs=t,decide (y<0)=b' at h h2;generalize aL (-y).natAbs=t2,decide (-y<0)=b2 at h2 h3;generalize aL (z+-y).natAbs=t3,decide (z+-y<0)=b3 at h3 h4;refine aH mixed tok [.s (.v sz),.s (.v sy)] Tryz.func200 rfl rfl rfl λc hc hR=>?_;apply zN hc;cbv;refine zC (.t [.g [.b (.v b),.s (.v s)],.g [.b (.v b'),.s (.v t)],.i .i64 (.l 0)]) h vT ?_;cbv;refine zD (.g [.b (.v b2),.s (.v t2)]) h2 aQl ?_;cbv;refine zD (.g [.b (.v b3),.s (.v t3)]) h3 aMg ?_;cbv;refine zD (.i .i64 (.v r)) h4 aMh ?_;cbv;refine cM hc _ 0 ?_;refine zE ?_;cbv;exact zR
theorem bGj {z y:Int}(hz:dl z.natAbs<=2^36)(hy:dl y.natAbs<=2^36):Pure PP 238 [.string (aY z),.string (aY y)] (.tuple #[.string (aY (z+y)),.int .i64 0]):=by
 have h:=aIi (z:=z) (y:=y) (lTr hz zV) (lTr hy zV)
 have h3:=aXv (z:=z) (y:=y) (lTr hz zV) (lTr hy zV)
 have h4:=aIm (z:=z+y) (lTr (aEd z y hz hy) zV)
 unfold eB at h h3 h4;generalize aY (z+y)=r at h4 |-;generalize aY z=sz,aY y=sy at h |-;generalize aL z.natAbs=s,decide (z<0)=b,aL y.natAbs=t,decide (y<0)=b' at h h3;generalize aL (z+y).natAbs=t3,decide (z+y<0)=b3 at h3 h4;refine aH mixed tok [.s (.v sz),.s (.v sy)] Tryz.func238 rfl rfl rfl λc hc hR=>?_;apply zN hc;cbv;refine zC (.t [.g [.b (.v b),.s (.v s)],.g [.b (.v b'),.s (.v t)],.i .i64 (.l 0)]) h vT ?_;cbv;refine zC (.g [.b (.v b3),.s (.v t3)]) h3 aMg ?_;cbv;refine zC (.s (.v r)) h4 vU ?_;cbv;exact zR
theorem aSv {z y:Int}(hz:dl z.natAbs<=2^36)(hy:dl y.natAbs<=2^36):Pure PP 199 [.string (aY z),.string (aY y)] (.tuple #[.string (aY (z*y)),.int .i64 0]):=by
 have h:=aIi (z:=z) (y:=y) (lTr hz zV) (lTr hy zV)
 have h3:=bAr (z:=z) (y:=y) (lTr hz zV) (lTr hy zV)
 have h4:=aIm (z:=z*y) (by rw[Int.natAbs_mul];exact lTr (qE _ _) (lTr (Nat.add_le_add hz hy) zV))
 unfold eB at h h3 h4;generalize aY (z*y)=r at h4 |-;generalize aY z=sz,aY y=sy at h |-;generalize aL z.natAbs=s,decide (z<0)=b,aL y.natAbs=t,decide (y<0)=b' at h h3;generalize aL (z*y).natAbs=t3,decide (z*y<0)=b3 at h3 h4;refine aH mixed tok [.s (.v sz),.s (.v sy)] Tryz.func199 rfl rfl rfl λc hc hR=>?_;apply zN hc;cbv;refine zC (.t [.g [.b (.v b),.s (.v s)],.g [.b (.v b'),.s (.v t)],.i .i64 (.l 0)]) h vT ?_;cbv;refine zC (.g [.b (.v b3),.s (.v t3)]) h3 aQn ?_;cbv;refine zC (.s (.v r)) h4 vU ?_;cbv;exact zR
theorem aV9 {z y:Int}(hy0:y≠0)(hz:dl z.natAbs<=2^36)(hy:dl y.natAbs<=2^36):Pure PP 252 [.string (aY z),.string (aY y)] (.tuple #[.string (aY (z/y)),.string (aY (z%y)),.int .i64 0]):=by
 have h:=aIi (z:=z) (y:=y) (lTr hz zV) (lTr hy zV)
 have h3:=aWa (z:=z) (y:=y) hy0 hz hy
 have b1:dl (z/y).natAbs<=2^60:=by
  have:(z/y).natAbs<=z.natAbs:=Int.natAbs_ediv_le_natAbs z y
  exact lTr (tJ this) (lTr hz zV)
 have b2:dl (z%y).natAbs<=2^60:=by
  have h1:=Int.emod_nonneg z hy0
  have h2:=Int.emod_lt z hy0
  have:(z%y).natAbs<=y.natAbs:=zW
  exact lTr (tJ this) (lTr hy zV)
 have h4:=aIm b1
 have h5:=aIm b2
 unfold eB at h h3 h4 h5;generalize aY (z/y)=r1 at h4 |-;generalize aY (z%y)=r2 at h5 |-;generalize aY z=sz,aY y=sy at h |-;generalize aL z.natAbs=s,decide (z<0)=b at h h3;have n0:=bBm (s:=aL y.natAbs) rfl;have hyn:y.natAbs≠0:=λe=>hy0 (Int.natAbs_eq_zero.1 e);rw[decide_eq_false hyn]at n0;generalize aL y.natAbs=t at h h3 n0;generalize decide (y<0)=b' at h h3;generalize aL (z/y).natAbs=t1,decide (z/y<0)=b1 at h3 h4;generalize aL (z%y).natAbs=t2,decide (z%y<0)=b2 at h3 h5;refine aH mixed tok [.s (.v sz),.s (.v sy)] Tryz.func252 rfl rfl rfl λc hc hR=>?_;apply zN hc;cbv;refine zC (.t [.g [.b (.v b),.s (.v s)],.g [.b (.v b'),.s (.v t)],.i .i64 (.l 0)]) h vT ?_;cbv;refine zD (.g [.b (.l false),.s (.v ⟨#[48]⟩)]) aXy aMi ?_;cbv;refine zE ?_;cbv;have ef:(BE.and (BE.beq (.v b') (.l false)) (BE.seq (.v t) (.v ⟨#[48]⟩))).den=false:=by
  show((b'==false)&&(BE.seq (.v t) (.v ⟨#[48]⟩)).den)=false
  rw[n0,Bool.and_false]
 refine aE rfl 100 (λh=>by rw[ef]at h;cases h) (λ_=>?_);cbv;refine zC (.t [.g [.b (.v b1),.s (.v t1)],.g [.b (.v b2),.s (.v t2)]]) h3 aOf ?_;cbv;refine zD (.s (.v r1)) h4 vU ?_;cbv;refine zD (.s (.v r2)) h5 vU ?_;cbv;refine zE ?_;cbv;exact zR
def frV (s t:ByteArray):Value:=.agg #[.string s,.string t]
def cG (q:Rat):Value:=frV (aY q.num) (aL q.den)
theorem aAp:aB PP 171:=zK
theorem aQy:aB PP 206:=zK
theorem aMm:aB PP 198:=zK
theorem aY4:aB PP 222:=zK
theorem aY3:aB PP 224:=zK
theorem xT:aB PP 239:=zK
theorem oZ (q:Rat):dl q.num.natAbs<=sz q:=Nat.le_max_left _ _
theorem qW (q:Rat):dl q.den<=sz q:=Nat.le_max_right _ _
theorem aNs {q:Rat}(hq:sz q<=2^50):Pure PP 171 [cG q] (.string (aA q)):=by
 have h1:(aY q.num).size<=2^51:=lTr (lG _) (by have:=oZ q;omega)
 have h2:(aL q.den).size<=2^51:=by rw[fK];have:=qW q;omega
 have e1:=aTz (s:=aL q.den) rfl aJs.symm
 have hd:q.den=1->aA q=aY q.num:=λh=>by unfold aA;rw[if_pos h]
 have hn:q.den≠1->aA q=(aY q.num++⟨#[47]⟩)++aL q.den:=λh=>by unfold aA;rw[if_neg h]
 unfold cG;generalize aA q=r at hd hn |-;generalize aY q.num=s at h1 hd hn |-;generalize aL q.den=t at h2 hn e1 |-;have hsz:(s++(⟨#[47]⟩:ByteArray)).size=s.size+1:=by rw[ByteArray.size_append];rfl
 have o1:(Obl.cat (.v s) (.v ⟨#[47]⟩)).ok:=by show((s.size+1:Nat):Int)<=_;omega
 have o2:(Obl.cat (.cat (.v s) (.v ⟨#[47]⟩)) (.v t)).ok:=by show(((s++(⟨#[47]⟩:ByteArray)).size+t.size:Nat):Int)<=_;rw[hsz];omega
 refine aH mixed tok [.g [.s (.v s),.s (.v t)]] Tryz.func171 rfl rfl rfl λc hc hR=>?_;apply zN hc;cbv;refine aE rfl 100 (λh=>?_) (λh=>?_)
 ·have hr:=hd (of_decide_eq_true (e1.symm.trans h))
  subst hr;cbv;exact zR
 ·have hr:=hn (of_decide_eq_false (e1.symm.trans h))
  cbv;refine aP hc ⟨o1,o2,trivial⟩ ?_;exact bR hc hR rfl (by rw[hr];rfl)
theorem aI3 {p:Int}{d:Nat}(hp:dl p.natAbs<=2^37)(hd:dl d<=2^37):Pure PP 206 [.string (aY p),.string (aL d)] (.string (aL (p.natAbs.gcd d))):=by
 have h1:=bGi (z:=p) (lTr hp zV)
 have h2:=bGr hp hd
 generalize aY p=s at h1 |-;generalize aL d=t at h2 |-;generalize aL p.natAbs=a at h1 h2;generalize aL (p.natAbs.gcd d)=g at h2 |-;refine aH mixed tok [.s (.v s),.s (.v t)] Tryz.func206 rfl rfl rfl λc hc hR=>?_;apply zN hc;cbv;refine zC (.t [.s (.v a),.i .i64 (.l 0)]) h1 aYs ?_;cbv;refine zC (.t [.s (.v g),.i .i64 (.l 0)]) h2 aYz ?_;cbv;exact zR
theorem aX6 {q:Rat}(hq:sz q<=2^50):Pure PP 198 [cG q] (.int .i64 (bW q.num 0)):=by
 have h1:=bDv (z:=q.num) (lTr (oZ q) (lTr hq zV))
 unfold cG;generalize bW q.num 0=r,aY q.num=s at h1 |-;generalize aL q.den=t;refine aH mixed tok [.g [.s (.v s),.s (.v t)]] Tryz.func198 rfl rfl rfl λc hc hR=>?_;apply zN hc;cbv;refine zC (.t [.i .i64 (.v r),.i .i64 (.l 0)]) h1 aU9 ?_;cbv;exact zR
theorem bGv {q:Rat}(hq:sz q<=2^50):Pure PP 222 [cG q] (cG (-q)):=by
 have h1:=bGk (z:=q.num) (lTr (oZ q) (lTr hq zV))
 have e:cG (-q)=frV (aY (-q.num)) (aL q.den):=by unfold cG;rw[Rat.neg_num,Rat.neg_den]
 rw[e];unfold cG;generalize aY (-q.num)=r,aY q.num=s at h1 |-;generalize aL q.den=t;refine aH mixed tok [.g [.s (.v s),.s (.v t)]] Tryz.func222 rfl rfl rfl λc hc hR=>?_;apply zN hc;cbv;refine zC (.t [.s (.v r),.i .i64 (.l 0)]) h1 aYt ?_;cbv;exact zR
theorem aJt {n:Nat}(h:0<n):aY (-(n:Int))=⟨#[45]⟩++aL n:=by
 apply jQ;rw[cW,fU,cT];unfold Lib.itoa;rw[if_pos zW,Int.natAbs_neg,Int.natAbs_natCast];rfl
theorem kG (n:Nat):aY (n:Int)=aL n:=by
 apply jQ;rw[cW,cT];unfold Lib.itoa;rw[if_neg zW,Int.toNat_natCast]
theorem aOz {q:Rat}(h0:q≠0):(q.num<0->q⁻¹.num=-(q.den:Int)/\q⁻¹.den=q.num.natAbs)/\(0<q.num->q⁻¹.num=(q.den:Int)/\q⁻¹.den=q.num.natAbs):=by
 constructor
 ·intro h;rw[Rat.num_inv,Rat.den_inv,if_neg zW,Int.sign_eq_neg_one_of_neg h];exact⟨zW,rfl⟩
 ·intro h;rw[Rat.num_inv,Rat.den_inv,if_neg zW,Int.sign_eq_one_of_pos h];exact⟨zW,rfl⟩
theorem bGu {q:Rat}(h0:q≠0)(hq:sz q<=2^50):Pure PP 224 [cG q] (cG q⁻¹):=by
 have hd:0<q.den:=q.den_pos
 have h1:=bCe (aY q.num)
 rw[cW,(qG q.num).1,(qG q.num).2]at h1;have ea:(⟨(Lib.decDigits q.num.natAbs).toArray⟩:ByteArray)=aL q.num.natAbs:=rfl;rw[ea]at h1;have hn0:q.num≠0:=λe=>h0 (Rat.num_eq_zero.1 e);obtain⟨i1,i2⟩:=aOz h0;have e1:q.num<0->cG q⁻¹=frV (⟨#[45]⟩++aL q.den) (aL q.num.natAbs):=λh=>by
  unfold cG;rw[<-aJt hd,(i1 h).1,(i1 h).2]
 have e2:¬q.num<0->cG q⁻¹=frV (aL q.den) (aY q.num):=λh=>by
  have h':0<q.num:=zW
  unfold cG;rw[(i2 h').1,(i2 h').2,kG];congr 1;rw[<-kG,show((q.num.natAbs:Nat):Int)=q.num by omega]
 have hsz:(aL q.den).size<=2^51:=by rw[fK];have:=qW q;omega
 have et:(λh:q.num<0=>e1 h)=e1:=rfl
 show Pure PP _ [frV (aY q.num) (aL q.den)] _
 generalize cG q⁻¹=r at e1 e2 |-;have hb:decide (q.num<0)=true->q.num<0:=of_decide_eq_true;have hb':decide (q.num<0)=false->¬q.num<0:=of_decide_eq_false;have e1:=λh=>e1 (hb h);have e2:=λh=>e2 (hb' h);clear hb hb' i1 i2 et;generalize decide (q.num<0)=b at h1 e1 e2;generalize aY q.num=s at h1 e2 |-;generalize aL q.den=t at e1 e2 hsz |-;generalize aL q.num.natAbs=u at h1 e1;have o1:(Obl.cat (.v ⟨#[45]⟩) (.v t)).ok:=by show((1+t.size:Nat):Int)<=_;omega
 refine aH mixed tok [.g [.s (.v s),.s (.v t)]] Tryz.func224 rfl rfl rfl λc hc hR=>?_;apply zN hc;cbv;refine zC (.t [.s (.v u),.b (.v b)]) h1 aQh ?_;cbv;refine aE rfl 100 (λh=>?_) (λh=>?_)
 ·have hr:=e1 h
  cbv;refine aP hc ⟨o1,trivial⟩ ?_;exact bR hc hR rfl (by rw[hr];rfl)
 ·have hr:=e2 h
  cbv;exact bR hc hR rfl (by rw[hr];rfl)
theorem sN (p:Int){d:Nat}(hd:0<d):(mkRat p d).num=p/(p.natAbs.gcd d:Nat)/\(mkRat p d).den=d/p.natAbs.gcd d:=by
 rw[Rat.num_mkRat,Rat.den_mkRat,if_neg zW,if_neg zW,Nat.gcd_comm];exact⟨rfl,rfl⟩
theorem aNq {p:Int}{d:Nat}(hd0:0<d)(hp:dl p.natAbs<=2^36)(hd:dl d<=2^36):Pure PP 239 [.string (aY p),.string (aL d)] (cG (mkRat p d)):=by
 have hg0:0<p.natAbs.gcd d:=Nat.gcd_pos_of_pos_right _ hd0
 have hgl:dl (p.natAbs.gcd d)<=2^36:=lTr (tJ (Nat.le_of_dvd hd0 (Nat.gcd_dvd_right _ _))) hd
 obtain⟨m1,m2⟩:=sN p hd0;have h1:=aI3 (p:=p) (d:=d) (lTr hp zV) (lTr hd zV);obtain⟨g,hg⟩:=nm (p.natAbs.gcd d);rw[<-hg]at h1 hg0 hgl m1 m2;have h2:=aV9 (z:=p) (y:=(g:Int)) zW hp (by rw[Int.natAbs_natCast];exact hgl);rw[kG]at h2;have h3:=aNj (n:=d) hg0 (lTr hd zV) (lTr hgl zV);have e1:=aTz (s:=aL g) rfl aJs.symm;have f1:g=1->cG (mkRat p d)=frV (aY p) (aL d):=λh=>by unfold cG;rw[m1,m2,h];simp
 have f2:cG (mkRat p d)=frV (aY (p/(g:Int))) (aL (d/g)):=by unfold cG;rw[m1,m2]
 generalize cG (mkRat p d)=r at f1 f2 |-;generalize aY (p/(g:Int))=p1 at h2 f2;generalize aY (p%(g:Int))=p2 at h2;generalize aL (d/g)=d1 at h3 f2;generalize aL (d%g)=d2 at h3;generalize aY p=s at h1 h2 f1 |-;generalize aL d=t at h1 h3 f1 |-;generalize aL g=tg at h1 h2 h3 e1;refine aH mixed tok [.s (.v s),.s (.v t)] Tryz.func239 rfl rfl rfl λc hc hR=>?_;apply zN hc;cbv;refine zC (.s (.v tg)) h1 aQy ?_;cbv;refine aE rfl 100 (λh=>?_) (λh=>?_)
 ·cbv;refine zC (.t [.s (.v p1),.s (.v p2),.i .i64 (.l 0)]) h2 aOe ?_;cbv;refine zC (.t [.s (.v d1),.s (.v d2),.i .i64 (.l 0)]) h3 aD3 ?_;cbv;exact bR hc hR rfl (by rw[f2];rfl)
 ·have h:=BE.not_f h
  have hr:=f1 (of_decide_eq_true (e1.symm.trans h))
  cbv;exact bR hc hR rfl (by rw[hr];rfl)
end Go.Ai
namespace Go.Num
open Go.Lib
theorem aCj {M:Nat}:∀(l:List UInt8) (acc:Nat),l.all mI=true->dZ acc l<=M->dZ acc l<1844674407370955162->parseUintM M acc l=.ok (dZ acc l)
 | [],acc,_,_,_=>rfl
 | c::r,acc,hd,hM,hb=>by
  simp only[List.all_cons,Bool.and_eq_true]at hd;have hc:=hd.1;simp only[mI,Bool.and_eq_true,decide_eq_true_eq]at hc;rw[fX]at hM hb |-;have h1:=aF2 r (10*acc+(c.toNat - 48));rw[parseUintM,if_pos hc,if_neg zW,if_neg zW,show acc*10+(c.toNat - 48)=10*acc+(c.toNat - 48) by omega];exact aCj r _ hd.2 hM hb
theorem aPa {n:Nat}(h:n<1000000000000000000):parseUintB 64 (decDigits n)=.ok n:=by
 unfold parseUintB;rw[if_neg (gG n)];have:=aCj (M:=2^64 - 1) (decDigits n) 0 (gT n) (by rw[cX];omega) (by rw[cX];omega);rwa [cX]at this
theorem aEt {z:Int}(h:z.natAbs<1000000000000000000):parseIntB 64 (itoa z)=.ok z:=by
 have hp:=aPa h
 unfold itoa;split
 ·rename_i hz;rw[parseIntB_minus,hp];simp only[signedC];rw[if_neg zW];congr 1;omega
 ·rename_i hz;rw[show z.toNat=z.natAbs by omega];obtain⟨c,t,h1,h2⟩:=aBt z.natAbs;rw[h1]at hp |-;simp only[mI,Bool.and_eq_true,decide_eq_true_eq]at h2;rw[parseIntB_plain _ _ _ zW zW,hp];simp only[signlessC];rw[if_neg zW];congr 1;omega
end Go.Num
namespace Go.Ai
open Go Go.Proofs Go.Num
theorem dL:aB PP 236:=zK
theorem aXm:aB PP 237:=zK
theorem aHg:aB PP 250:=zK
theorem aQi:aB PP 251:=zK
theorem aS8 {s:ByteArray}{v:Int}(hs:s.size<=2^60)(h:Lib.parseIntB 64 s.data.toList=.ok v):Pure PP 250 [.string s,.int .i64 10,.int .i64 64] (.tuple #[.int .i64 v,.nilIface]):=by
 intro w hgl;have hs':s.size<=9223372036854775806:=lTr hs zV;refine Calls.mono (Tryz.strconv_ParseInt_10_at64_ok s hs' v h w) ?_;rintro e w' ⟨rfl,rfl | ⟨t,rfl⟩⟩
 ·exact⟨rfl,RowKit.Below.refl _ _⟩
 ·exact⟨rfl,Lib.bytesWorld_below w 5 t⟩
theorem bCi {n:Int}(h0:-9223372036854775808<=n)(h1:n<=9223372036854775807):Pure PP 251 [.int .i64 n,.int .i64 10] (.string (aY n)):=by
 intro w hgl;refine Calls.mono (Tryz.strconv_FormatInt_10 n h0 h1 w hgl.pow10) ?_;rintro e w' ⟨rfl,k,os,rfl⟩;exact⟨rfl,Lib.below_grow _ _ (lRf _) _ _⟩
def pJ (q:Rat):Bool:= !(decide (9<(aY q.num).size)||decide (9<(aL q.den).size))
def aEq (q:Rat):Value:=if pJ q then .tuple #[.int .i64 q.num,.int .i64 q.den,.bool true]else .tuple #[.int .i64 0,.int .i64 0,.bool false]
theorem mJ {q:Rat}(h:pJ q=true):q.num.natAbs<1000000000/\q.den<1000000000:=by
 unfold pJ at h;simp only[Bool.not_eq_true',Bool.or_eq_false_iff,decide_eq_false_iff_not]at h;obtain⟨h1,h2⟩:=h;constructor
 ·have e:dl q.num.natAbs<=(aY q.num).size:=by
   show _<=(Lib.itoa q.num).toArray.size
   rw[List.size_toArray];unfold Lib.itoa dl;split
   ·simp
   ·rw[show q.num.toNat=q.num.natAbs by omega];exact lRf _
  have:=uE q.num.natAbs
  exact Nat.lt_of_lt_of_le this (Nat.pow_le_pow_right zV zW:_<=10^9)
 ·have e:dl q.den=(aL q.den).size:=(fK _).symm
  have:=uE q.den
  exact Nat.lt_of_lt_of_le this (Nat.pow_le_pow_right zV zW:_<=10^9)
theorem aA4 (q:Rat):Pure PP 236 [cG q] (aEq q):=by
 have hb:=mJ (q:=q)
 have p1:pJ q=true->Pure PP 250 [.string (aY q.num),.int .i64 10,.int .i64 64] (.tuple #[.int .i64 q.num,.nilIface]):=λh=>
  aS8 (lTr (lG _) (by have:=sE (k:=9) zV (Nat.lt_of_lt_of_le (hb h).1 zV);omega)) (by rw[cW];exact aEt (Nat.lt_trans (hb h).1 zV))
 have p2:pJ q=true->Pure PP 250 [.string (aL q.den),.int .i64 10,.int .i64 64] (.tuple #[.int .i64 (q.den:Int),.nilIface]):=λh=>
  aS8 (by rw[fK];have:=sE (k:=9) zV (Nat.lt_of_lt_of_le (hb h).2 zV);omega) (by rw[<-kG,cW];exact aEt (by rw[Int.natAbs_natCast];exact Nat.lt_trans (hb h).2 zV))
 obtain⟨r,hr⟩:=nm (aEq q);obtain⟨ok,hok⟩:=nm (pJ q);have ht:ok=true->r=.tuple #[.int .i64 q.num,.int .i64 q.den,.bool true]:=λh=>by rw[hr];unfold aEq;rw[<-hok,h];rfl
 have hf:ok=false->r=.tuple #[.int .i64 0,.int .i64 0,.bool false]:=λh=>by rw[hr];unfold aEq;rw[<-hok,h];rfl
 unfold pJ at hok;rw[<-show ok=pJ q from hok]at p1 p2;rw[<-hr];clear hr hb;unfold cG;generalize aY q.num=s at p1 hok |-;generalize aL q.den=t at p2 hok |-;generalize (q.den:Int)=dn at p2 ht;generalize q.num=nm at p1 ht;refine aH mixed tok [.g [.s (.v s),.s (.v t)]] Tryz.func236 rfl rfl rfl λc hc hR=>?_;have c1:(BE.lt (.l 9) (.len (.v s))).den=decide (9<s.size):=by show decide ((9:Int)<(s.size:Int))=_;exact decide_eq_decide.2 zW
 have c2:(BE.lt (.l 9) (.len (.v t))).den=decide (9<t.size):=by show decide ((9:Int)<(t.size:Int))=_;exact decide_eq_decide.2 zW
 apply zN hc;cbv;refine bV 13 rfl rfl 100 (λh=>?_) (λh=>?_)
 ·have h1:=c1.symm.trans h
  have hok:ok=false:=by rw[hok,h1];rfl
  have hr:=hf hok
  cbv;exact bR hc hR rfl (by rw[hr];rfl)
 ·have h1:=c1.symm.trans h
  cbv;refine aE rfl 100 (λh=>?_) (λh=>?_)
  ·have h2:=c2.symm.trans h
   have hok:ok=false:=by rw[hok,h1,h2];rfl
   have hr:=hf hok
   cbv;exact bR hc hR rfl (by rw[hr];rfl)
  ·have h2:=c2.symm.trans h
   have hok:ok=true:=by rw[hok,h1,h2];rfl
   have hr:=ht hok
   have p1:=p1 hok
   have p2:=p2 hok
   cbv;refine zC (.t [.i .i64 (.v nm),.o .nilIface]) p1 aHg ?_;cbv;refine zC (.t [.i .i64 (.v dn),.o .nilIface]) p2 aHg ?_;cbv;exact bR hc hR rfl (by rw[hr];rfl)
theorem bBb {a b:Int}(ha:a.natAbs<=4000000000000000000)(hb:b.natAbs<=4000000000000000000)(h0:b≠0):(Obl.nz (.v b)).ok/\((IE.v a).rem (.v b)).den=(IE.v (a.tmod b)).den/\(a.tmod b).natAbs<=4000000000000000000/\(a.tmod b).natAbs<b.natAbs/\b.natAbs.gcd (a.tmod b).natAbs=a.natAbs.gcd b.natAbs:=by
 have e:(a.tmod b).natAbs=a.natAbs%b.natAbs:=Int.natAbs_tmod a b
 have hp:0<b.natAbs:=Int.natAbs_pos.2 h0
 have hl:=Nat.mod_lt a.natAbs hp
 refine⟨by show _≠_;simpa[IE.den]using h0,rfl,zW,zW,?_⟩;rw[e];exact jZ hp
theorem aWu {a p:Int}{d g:Nat}(hg:g=p.natAbs.gcd d)(hd0:0<d)(ha:a.natAbs=g)(hp:p.natAbs<=4000000000000000000)(hd:d<=4000000000000000000){e:IE}(he:e=IE.max (.v a) (.sub (.l 0) (.v a))):
  (Obl.inR .i64 (.sub (.l 0) (.v a))).ok/\(Obl.nz e).ok/\(Obl.inR .i64 (.quo (.v p) e)).ok/\(Obl.inR .i64 (.quo (.n d) e)).ok/\(IE.quo (.v p) e).den=(mkRat p d).num/\(IE.quo (.n d) e).den=((mkRat p d).den:Int):=by
 have hg0:0<g:=by rw[hg];exact Nat.gcd_pos_of_pos_right _ hd0
 have hgd:g<=d:=by rw[hg];exact Nat.le_of_dvd hd0 (Nat.gcd_dvd_right _ _)
 have aZz:e.den=(g:Int):=by
  rw[he];show(if a<0 - a then 0 - a else a)=_
  split<;>omega
 obtain⟨m1,m2⟩:=sN p hd0;rw[<-hg]at m1 m2;have e1:(IE.quo (.v p) e).den=p/(g:Int):=by
  show p.tdiv e.den=_
  rw[aZz];exact Int.tdiv_eq_ediv_of_dvd (Int.ofNat_dvd_left.2 (by rw[hg];exact Nat.gcd_dvd_left _ _))
 have e2:(IE.quo (.n d) e).den=((d/g:Nat):Int):=by
  show((d:Nat):Int).tdiv e.den=_
  rw[aZz];exact(Int.ofNat_tdiv d g).symm
 have b1:(p/(g:Int)).natAbs<=p.natAbs:=Int.natAbs_ediv_le_natAbs p g
 have b2:d/g<=d:=Nat.div_le_self d g
 refine⟨?_,?_,?_,?_,by rw[e1,m1],by rw[e2,m2]⟩
 ·show lo _<=0 - a/\0 - a<=hi _;simp only[lo,hi];omega
 ·show e.den≠0;rw[aZz];omega
 ·show lo _<=_/\_<=hi _;rw[e1];simp only[lo,hi];omega
 ·show lo _<=_/\_<=hi _;rw[e2];simp only[lo,hi];omega
theorem rof {p:Int}{d:Nat}(hd0:0<d)(hp:p.natAbs<=4000000000000000000)(hd:d<=4000000000000000000):Pure PP 237 [.int .i64 p,.int .i64 (d:Int)] (cG (mkRat p d)):=by
 obtain⟨g,hg⟩:=nm (p.natAbs.gcd d);have b1:(mkRat p d).num.natAbs<=4000000000000000000:=by
  have h:=(sN p hd0).1
  have:=Int.natAbs_ediv_le_natAbs p (p.natAbs.gcd d:Nat)
  rw[<-h]at this;omega
 have b2:(mkRat p d).den<=4000000000000000000:=by
  have h:=(sN p hd0).2
  have:=Nat.div_le_self d (p.natAbs.gcd d)
  rw[<-h]at this;omega
 have f1:=bCi (n:=(mkRat p d).num) zW zW
 have f2:=bCi (n:=((mkRat p d).den:Int)) zW zW
 rw[kG]at f2;have kH:=λa ha=>aWu (a:=a) hg hd0 ha hp hd rfl;unfold cG;generalize (mkRat p d).num=nm at f1 kH |-;generalize ((mkRat p d).den:Int)=dn at f2 kH;generalize aY nm=s at f1 |-;generalize aL (mkRat p d).den=t at f2 |-;refine aH mixed tok [.i .i64 (.v p),.i .i64 (.n d)] Tryz.func237 rfl rfl rfl λc hc hR=>?_;apply zN hc;cbv;let BB:List (Nat × AV):=[(4,.p 0 0),(0,.i .i64 (.v p)),(1,.i .i64 (.n d))];let HH:List Blk:=[.c 234 [.s (.v ⟨#[]⟩),.s (.v ⟨#[]⟩)]];let ι:={x:Int × Int//x.1.natAbs.gcd x.2.natAbs=g/\x.1.natAbs<=4000000000000000000/\x.2.natAbs<=4000000000000000000};let I:ι->St:=λx=>⟨(5,.i .i64 (.v x.1.1))::(6,.i .i64 (.v x.1.2))::BB,HH,[]⟩
 let x0:ι:=⟨(p,(d:Int)),hg.symm,hp,hd⟩
 refine zU 1 (S':=I x0) (K':=[]) zL trivial trivial ?_;refine aCr (λa:Int=>a.natAbs=g) (λa=>⟨(5,.i .i64 (.v a))::BB,HH,[]⟩) rfl (λr hr=>?_) (λa ha=>?_)
 ·refine bQ hc I (λx=>x.1.2.natAbs) x0 100 ?_;rintro p' ⟨⟨a,b⟩,hab,ha,hb⟩ hy;simp only at hab ha hb;cbv;refine aE rfl 100 (λh=>?_) (λh=>?_)
  ·have hb0:b≠0:=λe=>by have h:=BE.not_t h;exact BE.eq_f h (by simp[IE.den,e])
   obtain⟨o1,e1,l1,l2,l3⟩:=bBb ha hb hb0;cbv;refine aP hc ⟨o1,trivial⟩ ?_;refine cM hc _ 0 ?_;refine cM hc _ 0 ?_;refine zE ?_;cbv;exact zU 1 (S':=I ⟨(b,a.tmod b),l3.trans hab,hb,l1⟩) (K':=[]) ⟨zS,zI rfl rfl e1,zL⟩ trivial trivial (hy _ l2)
  ·have hb0:b=0:=by have h:=BE.not_f h;exact(BE.eq_t h)
   have hag:a.natAbs=g:=by rw[<-hab,hb0];exact(Nat.gcd_zero_right _).symm
   cbv;exact zU 1 (S':=⟨(5,.i .i64 (.v a))::BB,HH,[]⟩) (K':=[]) zL trivial trivial (hr a hag)
 ·obtain⟨o1,o2,o3,o4,e1,e2⟩:=kH a ha;have f1:Pure PP 251 [.int .i64 (IE.quo (.v p) (IE.max (.v a) (.sub (.l 0) (.v a)))).den,.int .i64 10] (.string s):=by rw[e1];exact f1
  have f2:Pure PP 251 [.int .i64 (IE.quo (.n d) (IE.max (.v a) (.sub (.l 0) (.v a)))).den,.int .i64 10] (.string t):=by rw[e2];exact f2
  apply zN hc;cbv;refine aP hc ⟨o1,o2,o3,trivial⟩ ?_;refine zD (.s (.v s)) f1 aQi ?_;cbv;refine aP hc ⟨o2,o4,trivial⟩ ?_;refine zD (.s (.v t)) f2 aQi ?_;cbv;refine zE ?_;cbv;exact zR
end Go.Ai
namespace Go.Ai
open Go Go.Proofs Go.Num
theorem aMl:aB PP 219:=zK
theorem aHi:aB PP 220:=zK
theorem aP7 (x y:Rat):mkRat (x.num*y.den+y.num*x.den) (x.den*y.den)=x+y:=(Rat.add_def' x y).symm
theorem aK9 (x y:Rat):mkRat (x.num*y.num) (x.den*y.den)=x*y:=(Rat.mul_def' x y).symm
theorem gU {a b:Int}(ha:a.natAbs<1000000000)(hb:b.natAbs<1000000000):(a*b).natAbs<=1000000000000000000:=by
 rw[Int.natAbs_mul];exact Nat.mul_le_mul (Nat.le_of_lt ha) (Nat.le_of_lt hb)
theorem aX4 {x y:Rat}(hx:sz x<=2^34)(hy:sz y<=2^34):Pure PP 219 [cG x,cG y] (cG (x+y)):=by
 have hxd:=x.den_pos
 have hyd:=y.den_pos
 have l1:=aA4 x
 have l2:=aA4 y
 have nx:=lTr (oZ x) hx
 have dx:=lTr (qW x) hx
 have ny:=lTr (oZ y) hy
 have dy:=lTr (qW y) hy
 have m1:=aSv (z:=x.num) (y:=(y.den:Int)) (lTr nx zV) (by rw[Int.natAbs_natCast];exact lTr dy zV)
 have m2:=aSv (z:=y.num) (y:=(x.den:Int)) (lTr ny zV) (by rw[Int.natAbs_natCast];exact lTr dx zV)
 have b1:dl (x.num*(y.den:Int)).natAbs<=2^35:=by rw[Int.natAbs_mul,Int.natAbs_natCast];exact lTr (qE _ _) zW
 have b2:dl (y.num*(x.den:Int)).natAbs<=2^35:=by rw[Int.natAbs_mul,Int.natAbs_natCast];exact lTr (qE _ _) zW
 have m3:=bGj (z:=x.num*(y.den:Int)) (y:=y.num*(x.den:Int)) (lTr b1 zV) (lTr b2 zV)
 have b3:=aEd _ _ b1 b2
 have m4:=bAv (n:=x.den) (m:=y.den) (lTr dx zV) (lTr dy zV)
 have b4:dl (x.den*y.den)<=2^35:=lTr (qE _ _) zW
 have m5:=aNq (p:=x.num*(y.den:Int)+y.num*(x.den:Int)) (d:=x.den*y.den) (Nat.mul_pos hxd hyd) (lTr b3 zV) (lTr b4 zV)
 rw[aP7]at m5;rw[kG]at m1 m2;have s1:pJ x=true->pJ y=true->Pure PP 237 [.int .i64 (x.num*(y.den:Int)+y.num*(x.den:Int)),.int .i64 ((x.den:Int)*(y.den:Int))] (cG (x+y)):=λh1 h2=>by
  have q1:=mJ h1
  have q2:=mJ h2
  have a1:=gU (a:=x.num) (b:=(y.den:Int)) q1.1 (by rw[Int.natAbs_natCast];exact q2.2)
  have a2:=gU (a:=y.num) (b:=(x.den:Int)) q2.1 (by rw[Int.natAbs_natCast];exact q1.2)
  have a3:=gU (a:=(x.den:Int)) (b:=(y.den:Int)) (by rw[Int.natAbs_natCast];exact q1.2) (by rw[Int.natAbs_natCast];exact q2.2)
  have h:=rof (p:=x.num*(y.den:Int)+y.num*(x.den:Int)) (d:=x.den*y.den) (Nat.mul_pos hxd hyd) zW (by rw[<-Int.natCast_mul,Int.natAbs_natCast]at a3;omega)
  rw[aP7,Int.natCast_mul]at h;exact h
 have s2:pJ x=true->pJ y=true->(Obl.inR .i64 (.mul (.v x.num) (.v (y.den:Int)))).ok/\(Obl.inR .i64 (.mul (.v y.num) (.v (x.den:Int)))).ok/\(Obl.inR .i64 (.add (.mul (.v x.num) (.v (y.den:Int))) (.mul (.v y.num) (.v (x.den:Int))))).ok/\(Obl.inR .i64 (.mul (.v (x.den:Int)) (.v (y.den:Int)))).ok:=λh1 h2=>by
  have q1:=mJ h1
  have q2:=mJ h2
  have a1:=gU (a:=x.num) (b:=(y.den:Int)) q1.1 (by rw[Int.natAbs_natCast];exact q2.2)
  have a2:=gU (a:=y.num) (b:=(x.den:Int)) q2.1 (by rw[Int.natAbs_natCast];exact q1.2)
  have a3:=gU (a:=(x.den:Int)) (b:=(y.den:Int)) (by rw[Int.natAbs_natCast];exact q1.2) (by rw[Int.natAbs_natCast];exact q2.2)
  refine⟨?_,?_,?_,?_⟩<;>(show lo _<=_/\_<=hi _;simp only[IE.den,lo,hi];omega)
 obtain⟨R,hR0⟩:=nm (cG (x+y));obtain⟨r1,hr1⟩:∃s,s=aY (x+y).num:=⟨_,rfl⟩;obtain⟨r2,hr2⟩:∃s,s=aL (x+y).den:=⟨_,rfl⟩;have hR1:R=frV r1 r2:=by rw[hR0,hr1,hr2];rfl
 rw[<-hR0]at m5 s1 |-;clear hR0 hr1 hr2 b1 b2 b3 b4;subst hR1;unfold aEq at l1 l2;unfold cG at l1 l2 |-;generalize pJ x=kx at l1 s1 s2;generalize pJ y=ky at l2 s1 s2;generalize aY (x.num*(y.den:Int))=t1 at m1 m3;generalize aY (y.num*(x.den:Int))=t2 at m2 m3;generalize aY (x.num*(y.den:Int)+y.num*(x.den:Int))=t3 at m3 m5;generalize aL (x.den*y.den)=t4 at m4 m5;generalize aY x.num=sx at l1 m1 |-;generalize aY y.num=sy at l2 m2 |-;generalize aL x.den=ex at l1 m2 m4 |-;generalize aL y.den=ey at l2 m1 m4 |-;generalize (x.den:Int)=dx' at l1 s1 s2;generalize (y.den:Int)=dy' at l2 s1 s2;generalize x.num=nx' at l1 s1 s2;generalize y.num=ny' at l2 s1 s2;refine aH mixed tok [.g [.s (.v sx),.s (.v ex)],.g [.s (.v sy),.s (.v ey)]] Tryz.func219 rfl rfl rfl λc hc hR=>?_;apply zN hc;cbv;cases kx<;>cases ky
 ·refine zC (.t [.i .i64 (.l 0),.i .i64 (.l 0),.b (.l false)]) l1 dL ?_;cbv;refine zC (.t [.i .i64 (.l 0),.i .i64 (.l 0),.b (.l false)]) l2 dL ?_;cbv;refine zC (.t [.s (.v t1),.i .i64 (.l 0)]) m1 nE ?_;cbv;refine zC (.t [.s (.v t2),.i .i64 (.l 0)]) m2 nE ?_;cbv;refine zC (.t [.s (.v t3),.i .i64 (.l 0)]) m3 aJ4 ?_;cbv;refine zC (.t [.s (.v t4),.i .i64 (.l 0)]) m4 uK ?_;cbv;refine zC (.g [.s (.v r1),.s (.v r2)]) m5 xT ?_;cbv;exact zR
 ·refine zC (.t [.i .i64 (.l 0),.i .i64 (.l 0),.b (.l false)]) l1 dL ?_;cbv;refine zC (.t [.i .i64 (.v ny'),.i .i64 (.v dy'),.b (.l true)]) l2 dL ?_;cbv;refine zC (.t [.s (.v t1),.i .i64 (.l 0)]) m1 nE ?_;cbv;refine zC (.t [.s (.v t2),.i .i64 (.l 0)]) m2 nE ?_;cbv;refine zC (.t [.s (.v t3),.i .i64 (.l 0)]) m3 aJ4 ?_;cbv;refine zC (.t [.s (.v t4),.i .i64 (.l 0)]) m4 uK ?_;cbv;refine zC (.g [.s (.v r1),.s (.v r2)]) m5 xT ?_;cbv;exact zR
 ·refine zC (.t [.i .i64 (.v nx'),.i .i64 (.v dx'),.b (.l true)]) l1 dL ?_;cbv;refine zC (.t [.i .i64 (.l 0),.i .i64 (.l 0),.b (.l false)]) l2 dL ?_;cbv;refine zC (.t [.s (.v t1),.i .i64 (.l 0)]) m1 nE ?_;cbv;refine zC (.t [.s (.v t2),.i .i64 (.l 0)]) m2 nE ?_;cbv;refine zC (.t [.s (.v t3),.i .i64 (.l 0)]) m3 aJ4 ?_;cbv;refine zC (.t [.s (.v t4),.i .i64 (.l 0)]) m4 uK ?_;cbv;refine zC (.g [.s (.v r1),.s (.v r2)]) m5 xT ?_;cbv;exact zR
 ·refine zC (.t [.i .i64 (.v nx'),.i .i64 (.v dx'),.b (.l true)]) l1 dL ?_;cbv;refine zC (.t [.i .i64 (.v ny'),.i .i64 (.v dy'),.b (.l true)]) l2 dL ?_;cbv;obtain⟨o1,o2,o3,o4⟩:=s2 rfl rfl;refine aP hc ⟨o1,o2,o3,o4,trivial⟩ ?_;refine zC (.g [.s (.v r1),.s (.v r2)]) (s1 rfl rfl) aXm ?_;cbv;exact zR
theorem aTh {x y:Rat}(hx:sz x<=2^34)(hy:sz y<=2^34):Pure PP 220 [cG x,cG y] (cG (x*y)):=by
 have hxd:=x.den_pos
 have hyd:=y.den_pos
 have l1:=aA4 x
 have l2:=aA4 y
 have nx:=lTr (oZ x) hx
 have dx:=lTr (qW x) hx
 have ny:=lTr (oZ y) hy
 have dy:=lTr (qW y) hy
 have m1:=aSv (z:=x.num) (y:=y.num) (lTr nx zV) (lTr ny zV)
 have b1:dl (x.num*y.num).natAbs<=2^35:=by rw[Int.natAbs_mul];exact lTr (qE _ _) zW
 have m4:=bAv (n:=x.den) (m:=y.den) (lTr dx zV) (lTr dy zV)
 have b4:dl (x.den*y.den)<=2^35:=lTr (qE _ _) zW
 have m5:=aNq (p:=x.num*y.num) (d:=x.den*y.den) (Nat.mul_pos hxd hyd) (lTr b1 zV) (lTr b4 zV)
 rw[aK9]at m5;have s1:pJ x=true->pJ y=true->Pure PP 237 [.int .i64 (x.num*y.num),.int .i64 ((x.den:Int)*(y.den:Int))] (cG (x*y)):=λh1 h2=>by
  have q1:=mJ h1
  have q2:=mJ h2
  have a1:=gU (a:=x.num) (b:=y.num) q1.1 q2.1
  have a3:=gU (a:=(x.den:Int)) (b:=(y.den:Int)) (by rw[Int.natAbs_natCast];exact q1.2) (by rw[Int.natAbs_natCast];exact q2.2)
  have h:=rof (p:=x.num*y.num) (d:=x.den*y.den) (Nat.mul_pos hxd hyd) zW (by rw[<-Int.natCast_mul,Int.natAbs_natCast]at a3;omega)
  rw[aK9,Int.natCast_mul]at h;exact h
 have s2:pJ x=true->pJ y=true->(Obl.inR .i64 (.mul (.v x.num) (.v y.num))).ok/\(Obl.inR .i64 (.mul (.v (x.den:Int)) (.v (y.den:Int)))).ok:=λh1 h2=>by
  have q1:=mJ h1
  have q2:=mJ h2
  have a1:=gU (a:=x.num) (b:=y.num) q1.1 q2.1
  have a3:=gU (a:=(x.den:Int)) (b:=(y.den:Int)) (by rw[Int.natAbs_natCast];exact q1.2) (by rw[Int.natAbs_natCast];exact q2.2)
  refine⟨?_,?_⟩<;>(show lo _<=_/\_<=hi _;simp only[IE.den,lo,hi];omega)
 obtain⟨R,hR0⟩:=nm (cG (x*y));obtain⟨r1,hr1⟩:∃s,s=aY (x*y).num:=⟨_,rfl⟩;obtain⟨r2,hr2⟩:∃s,s=aL (x*y).den:=⟨_,rfl⟩;have hR1:R=frV r1 r2:=by rw[hR0,hr1,hr2];rfl
 rw[<-hR0]at m5 s1 |-;clear hR0 hr1 hr2 b1 b4;subst hR1;unfold aEq at l1 l2;unfold cG at l1 l2 |-;generalize pJ x=kx at l1 s1 s2;generalize pJ y=ky at l2 s1 s2;generalize aY (x.num*y.num)=t1 at m1 m5;generalize aL (x.den*y.den)=t4 at m4 m5;generalize aY x.num=sx at l1 m1 |-;generalize aY y.num=sy at l2 m1 |-;generalize aL x.den=ex at l1 m4 |-;generalize aL y.den=ey at l2 m4 |-;generalize (x.den:Int)=dx' at l1 s1 s2;generalize (y.den:Int)=dy' at l2 s1 s2;generalize x.num=nx' at l1 s1 s2;generalize y.num=ny' at l2 s1 s2;refine aH mixed tok [.g [.s (.v sx),.s (.v ex)],.g [.s (.v sy),.s (.v ey)]] Tryz.func220 rfl rfl rfl λc hc hR=>?_;apply zN hc;cbv;cases kx<;>cases ky
 ·refine zC (.t [.i .i64 (.l 0),.i .i64 (.l 0),.b (.l false)]) l1 dL ?_;cbv;refine zC (.t [.i .i64 (.l 0),.i .i64 (.l 0),.b (.l false)]) l2 dL ?_;cbv;refine zC (.t [.s (.v t1),.i .i64 (.l 0)]) m1 nE ?_;cbv;refine zC (.t [.s (.v t4),.i .i64 (.l 0)]) m4 uK ?_;cbv;refine zC (.g [.s (.v r1),.s (.v r2)]) m5 xT ?_;cbv;exact zR
 ·refine zC (.t [.i .i64 (.l 0),.i .i64 (.l 0),.b (.l false)]) l1 dL ?_;cbv;refine zC (.t [.i .i64 (.v ny'),.i .i64 (.v dy'),.b (.l true)]) l2 dL ?_;cbv;refine zC (.t [.s (.v t1),.i .i64 (.l 0)]) m1 nE ?_;cbv;refine zC (.t [.s (.v t4),.i .i64 (.l 0)]) m4 uK ?_;cbv;refine zC (.g [.s (.v r1),.s (.v r2)]) m5 xT ?_;cbv;exact zR
 ·refine zC (.t [.i .i64 (.v nx'),.i .i64 (.v dx'),.b (.l true)]) l1 dL ?_;cbv;refine zC (.t [.i .i64 (.l 0),.i .i64 (.l 0),.b (.l false)]) l2 dL ?_;cbv;refine zC (.t [.s (.v t1),.i .i64 (.l 0)]) m1 nE ?_;cbv;refine zC (.t [.s (.v t4),.i .i64 (.l 0)]) m4 uK ?_;cbv;refine zC (.g [.s (.v r1),.s (.v r2)]) m5 xT ?_;cbv;exact zR
 ·refine zC (.t [.i .i64 (.v nx'),.i .i64 (.v dx'),.b (.l true)]) l1 dL ?_;cbv;refine zC (.t [.i .i64 (.v ny'),.i .i64 (.v dy'),.b (.l true)]) l2 dL ?_;cbv;obtain⟨o1,o2⟩:=s2 rfl rfl;refine aP hc ⟨o1,o2,trivial⟩ ?_;refine zC (.g [.s (.v r1),.s (.v r2)]) (s1 rfl rfl) aXm ?_;cbv;exact zR
theorem aQ0:aB PP 221:=zK
theorem bBa {x y:Rat}(hx:sz x<=2^34)(hy:sz y<=2^34):Pure PP 221 [cG x,cG y] (cG (x - y)):=by
 have h1:=bGv (q:=y) (lTr hy zV)
 have h2:=aX4 (x:=x) (y:=-y) hx (by rw[qX];exact hy)
 rw[show x+-y=x - y from(Rat.sub_eq_add_neg x y).symm]at h2;unfold cG at h1 h2 |-;generalize aY (x - y).num=r1,aL (x - y).den=r2 at h2 |-;generalize aY (-y).num=u1,aL (-y).den=u2 at h1 h2;generalize aY x.num=sx,aL x.den=ex at h2 |-;generalize aY y.num=sy,aL y.den=ey at h1 |-;refine aH mixed tok [.g [.s (.v sx),.s (.v ex)],.g [.s (.v sy),.s (.v ey)]] Tryz.func221 rfl rfl rfl λc hc hR=>?_;apply zN hc;cbv;refine zD (.g [.s (.v u1),.s (.v u2)]) h1 aY4 ?_;cbv;refine zD (.g [.s (.v r1),.s (.v r2)]) h2 aMl ?_;cbv;refine zE ?_;cbv;exact zR
theorem aVd:aB PP 223:=zK
theorem bEe {x y:Rat}(h0:y≠0)(hx:sz x<=2^34)(hy:sz y<=2^34):Pure PP 223 [cG x,cG y] (cG (x/y)):=by
 have h1:=bGu (q:=y) h0 (lTr hy zV)
 have h2:=aTh (x:=x) (y:=y⁻¹) hx (lTr (aT8 y) hy)
 rw[show x*y⁻¹=x/y from(Rat.div_def x y).symm]at h2;unfold cG at h1 h2 |-;generalize aY (x/y).num=r1,aL (x/y).den=r2 at h2 |-;generalize aY (y⁻¹).num=u1,aL (y⁻¹).den=u2 at h1 h2;generalize aY x.num=sx,aL x.den=ex at h2 |-;generalize aY y.num=sy,aL y.den=ey at h1 |-;refine aH mixed tok [.g [.s (.v sx),.s (.v ex)],.g [.s (.v sy),.s (.v ey)]] Tryz.func223 rfl rfl rfl λc hc hR=>?_;apply zN hc;cbv;refine zD (.g [.s (.v u1),.s (.v u2)]) h1 aY3 ?_;cbv;refine zD (.g [.s (.v r1),.s (.v r2)]) h2 aHi ?_;cbv;refine zE ?_;cbv;exact zR
end Go.Ai
