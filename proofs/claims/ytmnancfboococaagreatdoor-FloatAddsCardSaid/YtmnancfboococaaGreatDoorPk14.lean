/- Part 15 of the proof: garboardlaw17.FloatAdds returns true, whatever the input. -/
import Derived.Test.YtmnancfboococaaGreatDoorPk6
import Derived.Test.YtmnancfboococaaGreatDoorPk13
set_option linter.all false
namespace Go.Ai
open Go Go.Proofs Go.Num
def niV (b:Bool)(s:ByteArray):Value:=.agg #[.bool b,.string s]
def dU (z:Int):Value:=niV (decide (z<0)) (aM z.natAbs)
def yV (b:Bool)(a:Nat):Int:=if b then -(a:Int)else a
theorem aKe:aB PP 230:=zK
theorem jD:aB PP 232:=zK
theorem uD:aB PP 215:=zK
theorem aOb:aB PP 217:=zK
theorem qF:aB PP 235:=zK
theorem aKd:aB PP 218:=zK
theorem aYh:aM 0=⟨#[48]⟩:=by unfold aM;rw[aIo]
theorem aRg {s t:ByteArray}{a b:Nat}(hs:s=aM a)(ht:t=aM b):(BE.seq (.v s) (.v t)).den=decide (a=b):=by
 rw[vO];simp only[SE.den];rw[hs,ht,cT,cT]
 by_cases h:a=b
 ·subst h;simp
 ·rw[decide_eq_false h,beq_eq_false_iff_ne];exact fun e=>h (nP e)
theorem aYb {s:ByteArray}{a:Nat}(hs:s=aM a):(BE.seq (.v s) (.v ⟨#[48]⟩)).den=decide (a=0):=aRg hs aYh.symm
theorem aQq {s:ByteArray}{a:Nat}(hs:s=aM a):(BE.not (BE.seq (.v s) (.v ⟨#[48]⟩))).den=decide (a≠0):=by
 show(!(BE.seq (.v s) (.v ⟨#[48]⟩)).den)=_
 rw[aYb hs];simp
theorem aQi (b:Bool)(a:Nat):dU (yV b a)=niV (b&&decide (a≠0)) (aM a):=by
 unfold dU yV;cases b
 ·rw[if_neg (by simp),Int.natAbs_natCast,decide_eq_false (by omega)];rfl
 ·rw[if_pos rfl,Int.natAbs_neg,Int.natAbs_natCast]
  congr 1
  rw[Bool.true_and];exact decide_eq_decide.2 (by omega)
theorem aU0:Pure PP 230 [] (niV false ⟨#[48]⟩):=by
 refine aH mixed tok [] Tryz.func230 rfl rfl (lbl rfl) rfl fun c hc hR=>?_
 refine zN hc ?_;cbv;exact aF hc hR rfl rfl
theorem uW (b:Bool)(a:Nat):Pure PP 232 [.bool b,.string (aM a)] (dU (yV b a)):=by
 obtain⟨r,hr⟩:=nm (dU (yV b a));obtain⟨s,hs⟩:=nm (aM a);rw[←hr,←hs];have hr:=hr.trans (aQi b a)
 rw[←hs]at hr;have h0:=aQq hs
 refine aH mixed tok [.b (.v b),.s (.v s)] Tryz.func232 rfl rfl (lbl rfl) rfl fun c hc hR=>?_
 refine zN hc ?_;cbv;refine bU hc 6 rfl rfl 100 (fun h=>?_) (fun h=>?_)
 ·have h:b=true:=h
  subst h;cbv;exact aF hc hR rfl (by rw[hr,←h0];rfl)
 ·have h:b=false:=h
  subst h;cbv;exact aF hc hR rfl (by rw[hr];rfl)
theorem aGt {z:Int}(hs:dl z.natAbs≤2^60):Pure PP 215 [dU z] (.string (aY z)):=by
 have hz:aY z=if decide (z<0)=true then⟨#[45]⟩++aM z.natAbs else aM z.natAbs:=by
  apply kX;rw[dG];unfold Lib.itoa;split
  ·rename_i h;rw[decide_eq_true h,if_pos rfl,fC,cT];rfl
  ·rename_i h;rw[decide_eq_false h,if_neg (by simp),cT];congr 1;omega
 obtain⟨r,hr⟩:=nm (aY z);rw[←hr]at hz ⊢;have hsz:(aM z.natAbs).size≤2^60:=by rw[fH];exact hs
 unfold dU;generalize decide (z<0)=b at hz ⊢;generalize aM z.natAbs=s at hz hsz ⊢;have o1:(Obl.cat (.v ⟨#[45]⟩) (.v s)).ok:=by show((1+s.size:Nat):Int)≤_;omega
 refine aH mixed tok [.g [.b (.v b),.s (.v s)]] Tryz.func215 rfl rfl (lbl rfl) rfl fun c hc hR=>?_
 refine zN hc ?_;cbv;refine aE hc rfl 100 (fun h=>?_) (fun h=>?_)
 ·have h:b=true:=h
  subst h;rw[if_pos rfl]at hz;cbv;refine aQ hc ⟨o1,trivial⟩ ?_;exact aF hc hR rfl (by rw[hz];rfl)
 ·have h:b=false:=h
  subst h;rw[if_neg (by simp)]at hz;cbv;exact aF hc hR rfl (by rw[hz];rfl)
theorem aUg (z:Int):yV (!decide (z<0)) z.natAbs=-z:=by
 unfold yV
 by_cases h:z<0
 ·rw[decide_eq_true h,Bool.not_true,if_neg (by simp)];omega
 ·rw[decide_eq_false h,Bool.not_false,if_pos rfl];omega
theorem aRj (z:Int):yV (decide (z<0)) z.natAbs=z:=by
 unfold yV
 by_cases h:z<0
 ·rw[decide_eq_true h,if_pos rfl];omega
 ·rw[decide_eq_false h,if_neg (by simp)];omega
theorem bAg (z:Int):Pure PP 217 [dU z] (dU (-z)):=by
 have h1:=uW (!decide (z<0)) z.natAbs
 rw[aUg]at h1;obtain⟨r,hr⟩:=nm (dU (-z));rw[←hr]at h1 ⊢;unfold dU at hr ⊢;generalize decide (z<0)=b at h1 ⊢;generalize aM z.natAbs=s at h1 ⊢;generalize decide (-z<0)=b' at hr;generalize aM (-z).natAbs=s' at hr;subst hr;refine aH mixed tok [.g [.b (.v b),.s (.v s)]] Tryz.func217 rfl rfl (lbl rfl) rfl fun c hc hR=>?_
 refine zN hc ?_;cbv;refine zC hc (.g [.b (.v b'),.s (.v s')]) h1 jD ?_;cbv;exact aF hc hR rfl rfl
theorem aUz (z:Int):Pure PP 218 [dU z] (.int .i64 (bZ z 0)):=by
 obtain⟨r,hr⟩:=nm (bZ z 0);rw[←hr];have h0:=aYb (s:=aM z.natAbs) rfl
 unfold dU;obtain⟨b,hb⟩:=nm (decide (z<0));obtain⟨s,hs⟩:=nm (aM z.natAbs);rw[←hs]at h0;rw[←hb,←hs];refine aH mixed tok [.g [.b (.v b),.s (.v s)]] Tryz.func218 rfl rfl (lbl rfl) rfl fun c hc hR=>?_
 refine zN hc ?_;cbv;refine zD hc (.g [.b (.l false),.s (.v ⟨#[48]⟩)]) aU0 aKe ?_;cbv;have ec:(BE.and (BE.beq (.v b) (.l false)) (BE.seq (.v s) (.v ⟨#[48]⟩))).den=decide (z=0):=by
  show((b==false)&&(BE.seq (.v s) (.v ⟨#[48]⟩)).den)=_
  rw[h0,hb]
  by_cases hz:z=0
  ·subst hz;rfl
  ·rw[decide_eq_false hz,decide_eq_false (by omega:¬z.natAbs=0),Bool.and_false]
 refine zE hc ?_;cbv;refine aE hc rfl 100 (fun h=>?_) (fun h=>?_)
 ·have hz:=of_decide_eq_true (ec.symm.trans h)
  have hr:r=0:=by rw[hr,hz];rfl
  subst hr;cbv;exact aF hc hR rfl rfl
 ·have hz:=of_decide_eq_false (ec.symm.trans h)
  cbv;refine aE hc rfl 100 (fun h=>?_) (fun h=>?_)
  ·have h:b=true:=h
   have hr:r=-1:=by rw[hb]at h;have h:=of_decide_eq_true h;rw[hr];unfold bZ;rw[if_pos h]
   subst hr;cbv;exact aF hc hR rfl rfl
  ·have h:b=false:=h
   have hr:r=1:=by rw[hb]at h;have h:=of_decide_eq_false h;rw[hr];unfold bZ;rw[if_neg h,if_pos (by omega)]
   subst hr;cbv;exact aF hc hR rfl rfl
theorem bAe (b:Bool):Pure PP 235 [.bool b] (.int .i64 (if b then 1 else 0)):=by
 refine aH mixed tok [.b (.v b)] Tryz.func235 rfl rfl (lbl rfl) rfl fun c hc hR=>?_
 refine zN hc ?_;cbv;refine aE hc rfl 100 (fun h=>?_) (fun h=>?_)
 ·have h:b=true:=h
  subst h;cbv;exact aF hc hR rfl rfl
 ·have h:b=false:=h
  subst h;cbv;exact aF hc hR rfl rfl
theorem aOc:aB PP 233:=zK
theorem aKb:aB PP 234:=zK
theorem aKc:aB PP 216:=zK
theorem aOd:aB PP 214:=zK
theorem aOl:aB PP 247:=zK
theorem aIc:aB PP 249:=zK
theorem sY:aB PP 231:=zK
theorem aVy:aB PP 228:=zK
theorem aIb:aB PP 248:=zK
theorem aCg:aB PP 253:=zK
theorem bC1 (b:Bool){n m:Nat}(hn:dl n≤2^37)(hm:dl m≤2^37)(b':Bool):Pure PP 233 [niV b (aM n),niV b' (aM m)] (dU (yV b (n+m))):=by
 have h1:=bAm hn hm
 have h2:=uW b (n+m)
 obtain⟨r,hr⟩:=nm (dU (yV b (n+m)));rw[←hr]at h2 ⊢;unfold dU at hr;generalize decide (yV b (n+m)<0)=b1 at hr;generalize aM (yV b (n+m)).natAbs=s1 at hr;generalize aM n=s at h1 ⊢;generalize aM m=t at h1 ⊢;generalize aM (n+m)=u at h1 h2;subst hr;refine aH mixed tok [.g [.b (.v b),.s (.v s)],.g [.b (.v b'),.s (.v t)]] Tryz.func233 rfl rfl (lbl rfl) rfl fun c hc hR=>?_
 refine zN hc ?_;cbv;refine zC hc (.t [.s (.v u),.i .i64 (.l 0)]) h1 aOl ?_;cbv;refine zC hc (.g [.b (.v b1),.s (.v s1)]) h2 jD ?_;cbv;exact aF hc hR rfl rfl
theorem aXj {z y:Int}(hn:dl z.natAbs≤2^37)(hm:dl y.natAbs≤2^37):Pure PP 214 [dU z,dU y] (dU (z*y)):=by
 have h1:=aXn hn hm
 have h2:=uW (!(decide (z<0)==decide (y<0))) (z.natAbs*y.natAbs)
 have he:yV (!(decide (z<0)==decide (y<0))) (z.natAbs*y.natAbs)=z*y:=by
  rw[←Int.natAbs_mul]
  conv=>rhs;rw[←aRj (z*y)]
  by_cases h0:z=0∨y=0
  ·have:(z*y)=0:=by rcases h0 with h | h<;>simp[h]
   rw[this];cases (!(decide (z<0)==decide (y<0)))<;>simp[yV]
  ·congr 1
   by_cases hz:z<0<;>by_cases hy:y<0
   ·have:=Int.mul_pos_of_neg_of_neg hz hy;simp[hz,hy];omega
   ·have:=Int.mul_neg_of_neg_of_pos hz (show 0<y by omega);simp[hz,hy];omega
   ·have:=Int.mul_neg_of_pos_of_neg (show 0<z by omega) hy;simp[hz,hy];omega
   ·have:=Int.mul_pos (show 0<z by omega) (show 0<y by omega);simp[hz,hy];omega
 rw[he]at h2;obtain⟨r,hr⟩:=nm (dU (z*y));rw[←hr]at h2 ⊢;unfold dU at hr ⊢;generalize decide (z*y<0)=b1 at hr;generalize aM (z*y).natAbs=s1 at hr;generalize aM z.natAbs=s at h1 ⊢;generalize aM y.natAbs=t at h1 ⊢;generalize aM (z.natAbs*y.natAbs)=u at h1 h2;generalize decide (z<0)=b at h2 ⊢;generalize decide (y<0)=b' at h2 ⊢;subst hr;refine aH mixed tok [.g [.b (.v b),.s (.v s)],.g [.b (.v b'),.s (.v t)]] Tryz.func214 rfl rfl (lbl rfl) rfl fun c hc hR=>?_
 refine zN hc ?_;cbv;refine zC hc (.t [.s (.v u),.i .i64 (.l 0)]) h1 sY ?_;cbv;refine zC hc (.g [.b (.v b1),.s (.v s1)]) h2 jD ?_;cbv;exact aF hc hR rfl rfl
def dif (b b':Bool)(n m:Nat):Int:=if n<m then yV b' (m - n)else yV b (n - m)
theorem bAf (b b':Bool){n m:Nat}(hn:dl n≤2^37)(hm:dl m≤2^37):Pure PP 234 [niV b (aM n),niV b' (aM m)] (dU (dif b b' n m)):=by
 have h0:=aQp hn hm
 obtain⟨z,hz⟩:=nm (bZ n m);rw[←hz]at h0;have hlt:z<0→n<m:=fun h=>aEb hz h
 have hge:¬z<0→m≤n:=fun h=>zQ hz h
 obtain⟨r,hr⟩:=nm (dU (dif b b' n m));have h1:=fun h:z<0=>aXo (Nat.le_of_lt (hlt h)) hm hn
 have h2:=fun h:¬z<0=>aXo (hge h) hn hm
 have w1:z<0→Pure PP 232 [.bool b',.string (aM (m - n))] r:=fun h=>by rw[hr];unfold dif;rw[if_pos (hlt h)];exact uW _ _
 have w2:¬z<0→Pure PP 232 [.bool b,.string (aM (n - m))] r:=fun h=>by rw[hr];unfold dif;rw[if_neg (by have:=hge h;omega)];exact uW _ _
 rw[←hr];unfold dU at hr;generalize decide (dif b b' n m<0)=b1 at hr;generalize aM (dif b b' n m).natAbs=s1 at hr;generalize aM n=s at h0 h1 h2 ⊢;generalize aM m=t at h0 h1 h2 ⊢;generalize aM (m - n)=u1 at h1 w1;generalize aM (n - m)=u2 at h2 w2;subst hr;refine aH mixed tok [.g [.b (.v b),.s (.v s)],.g [.b (.v b'),.s (.v t)]] Tryz.func234 rfl rfl (lbl rfl) rfl fun c hc hR=>?_
 refine zN hc ?_;cbv;refine zC hc (.t [.i .i64 (.v z),.i .i64 (.l 0)]) h0 aIb ?_;cbv;refine aE hc rfl 100 (fun h=>?_) (fun h=>?_)
 ·have h:z<0:=BE.lt_t h
  cbv;refine zC hc (.t [.s (.v u1),.i .i64 (.l 0)]) (h1 h) aIc ?_;cbv;refine zC hc (.g [.b (.v b1),.s (.v s1)]) (w1 h) jD ?_;cbv;exact aF hc hR rfl rfl
 ·have h:¬z<0:=BE.lt_f h
  cbv;refine zC hc (.t [.s (.v u2),.i .i64 (.l 0)]) (h2 h) aIc ?_;cbv;refine zC hc (.g [.b (.v b1),.s (.v s1)]) (w2 h) jD ?_;cbv;exact aF hc hR rfl rfl
theorem aM5 {z y:Int}(h:decide (z<0)=decide (y<0)):yV (decide (z<0)) (z.natAbs+y.natAbs)=z+y:=by
 have hh:=decide_eq_decide.1 h
 unfold yV
 by_cases hz:z<0
 ·have:=hh.1 hz;rw[if_pos (decide_eq_true hz)];omega
 ·have:¬y<0:=fun h=>hz (hh.2 h);rw[if_neg (by simpa using hz)];omega
theorem aJf {z y:Int}(h:decide (z<0)≠decide (y<0)):dif (decide (z<0)) (decide (y<0)) z.natAbs y.natAbs=z+y:=by
 unfold dif yV
 by_cases hz:z<0<;>by_cases hy:y<0
 ·exact absurd ((decide_eq_true hz).trans (decide_eq_true hy).symm) h
 ·rw[decide_eq_true hz,decide_eq_false hy];simp only[if_true,if_false,Bool.false_eq_true];split<;>omega
 ·rw[decide_eq_false hz,decide_eq_true hy];simp only[if_true,if_false,Bool.false_eq_true];split<;>omega
 ·exact absurd ((decide_eq_false hz).trans (decide_eq_false hy).symm) h
theorem aUx {z y:Int}(hn:dl z.natAbs≤2^37)(hm:dl y.natAbs≤2^37):Pure PP 216 [dU z,dU y] (dU (z+y)):=by
 have h1:=bC1 (decide (z<0)) hn hm (decide (y<0))
 have h2:=bAf (decide (z<0)) (decide (y<0)) hn hm
 have e1:decide (z<0)=decide (y<0)→yV (decide (z<0)) (z.natAbs+y.natAbs)=z+y:=aM5
 have e2:decide (z<0)≠decide (y<0)→dif (decide (z<0)) (decide (y<0)) z.natAbs y.natAbs=z+y:=aJf
 obtain⟨r,hr⟩:=nm (dU (z+y));have h1:decide (z<0)=decide (y<0)→Pure PP 233 [dU z,dU y] r:=fun h=>by rw[hr,←e1 h];exact h1
 have h2:decide (z<0)≠decide (y<0)→Pure PP 234 [dU z,dU y] r:=fun h=>by rw[hr,←e2 h];exact h2
 clear e1 e2;rw[←hr];unfold dU at hr h1 h2 ⊢;generalize decide (z+y<0)=b1 at hr;generalize aM (z+y).natAbs=s1 at hr;generalize aM z.natAbs=s at h1 h2 ⊢;generalize aM y.natAbs=t at h1 h2 ⊢;generalize decide (z<0)=b at h1 h2 ⊢;generalize decide (y<0)=b' at h1 h2 ⊢;subst hr;have hb:=bAe b
 have hb':=bAe b'
 cases b<;>cases b'
 ·have h:=h1 rfl
  refine aH mixed tok [.g [.b (.l false),.s (.v s)],.g [.b (.l false),.s (.v t)]] Tryz.func216 rfl rfl (lbl rfl) rfl fun c hc hR=>?_
  refine zN hc ?_;cbv;refine zD hc (.i .i64 (.l 0)) hb qF ?_;cbv;refine zD hc (.i .i64 (.l 0)) hb' qF ?_;cbv;refine dY hc (.g [.b (.v b1),.s (.v s1)]) h aOc rfl rfl 100 ?_;cbv;refine zE hc ?_;cbv;exact aF hc hR rfl rfl
 ·have h:=h2 (by decide)
  refine aH mixed tok [.g [.b (.l false),.s (.v s)],.g [.b (.l true),.s (.v t)]] Tryz.func216 rfl rfl (lbl rfl) rfl fun c hc hR=>?_
  refine zN hc ?_;cbv;refine zD hc (.i .i64 (.l 0)) hb qF ?_;cbv;refine zD hc (.i .i64 (.l 1)) hb' qF ?_;cbv;refine zD hc (.g [.b (.v b1),.s (.v s1)]) h aKb ?_;cbv;refine zE hc ?_;cbv;exact aF hc hR rfl rfl
 ·have h:=h2 (by decide)
  refine aH mixed tok [.g [.b (.l true),.s (.v s)],.g [.b (.l false),.s (.v t)]] Tryz.func216 rfl rfl (lbl rfl) rfl fun c hc hR=>?_
  refine zN hc ?_;cbv;refine zD hc (.i .i64 (.l 1)) hb qF ?_;cbv;refine zD hc (.i .i64 (.l 0)) hb' qF ?_;cbv;refine zD hc (.g [.b (.v b1),.s (.v s1)]) h aKb ?_;cbv;refine zE hc ?_;cbv;exact aF hc hR rfl rfl
 ·have h:=h1 rfl
  refine aH mixed tok [.g [.b (.l true),.s (.v s)],.g [.b (.l true),.s (.v t)]] Tryz.func216 rfl rfl (lbl rfl) rfl fun c hc hR=>?_
  refine zN hc ?_;cbv;refine zD hc (.i .i64 (.l 1)) hb qF ?_;cbv;refine zD hc (.i .i64 (.l 1)) hb' qF ?_;cbv;refine dY hc (.g [.b (.v b1),.s (.v s1)]) h aOc rfl rfl 100 ?_;cbv;refine zE hc ?_;cbv;exact aF hc hR rfl rfl
theorem aL4:aB PP 271:=zK
theorem aD1:aB PP 226:=zK
theorem uC:aB PP 213:=zK
theorem aH9:aB PP 229:=zK
theorem aN7:aB PP 241:=zK
theorem euc {z y:Int}(hy:y≠0):(¬(z<0∧z.natAbs%y.natAbs≠0)→yV (!(decide (z<0)==decide (y<0))) (z.natAbs/y.natAbs)=z/y∧((z.natAbs%y.natAbs:Nat):Int)=z%y)∧
  (z<0∧z.natAbs%y.natAbs≠0→yV (!(decide (z<0)==decide (y<0))) (z.natAbs/y.natAbs+1)=z/y∧((y.natAbs - z.natAbs%y.natAbs:Nat):Int)=z%y):=by
 have hn:0<y.natAbs:=Int.natAbs_pos.2 hy
 have h1:=Nat.div_add_mod z.natAbs y.natAbs
 have h2:=Nat.mod_lt z.natAbs hn
 obtain⟨q,hq⟩:=nm (z.natAbs/y.natAbs);obtain⟨r,hr⟩:=nm (z.natAbs%y.natAbs);rw[←hq,←hr]at h1;rw[←hr]at h2;rw[←hq,←hr];have hp:((y.natAbs*q+r:Nat):Int)=z.natAbs:=by rw[h1]
 rw[Int.natCast_add,Int.natCast_mul]at hp;have uniq:∀a b:Int,0≤b→b<y.natAbs→z=y*a+b→a=z/y∧b=z%y:=by
  intro a b hb0 hb1 he;have e1:z/y=a:=by
   rw[he,Int.add_comm,Int.add_mul_ediv_left _ _ hy];have:b/y=0:=by
    rcases Int.lt_or_gt_of_ne hy with h | h
    ·have:=Int.ediv_eq_zero_of_lt hb0 (show b< -y by omega)
     rw[Int.ediv_neg]at this;omega
    ·exact Int.ediv_eq_zero_of_lt hb0 (by omega)
   omega
  refine⟨e1.symm,?_⟩;have:=Int.mul_ediv_add_emod z y
  rw[e1]at this;omega
 constructor
 ·intro hc;refine uniq _ _ (by omega) (by omega) ?_;unfold yV
  by_cases hz:z<0<;>by_cases hy0:y<0
  ·rw[decide_eq_true hz,decide_eq_true hy0];simp;have hr0:r=0:=Classical.byContradiction fun e=>hc ⟨hz,e⟩
   have e1:(y.natAbs:Int)=-y:=by omega
   have e2:(z.natAbs:Int)=-z:=by omega
   rw[e1,e2,Int.neg_mul]at hp;omega
  ·rw[decide_eq_true hz,decide_eq_false hy0];simp;have hr0:r=0:=Classical.byContradiction fun e=>hc ⟨hz,e⟩
   have e1:(y.natAbs:Int)=y:=by omega
   have e2:(z.natAbs:Int)=-z:=by omega
   rw[e1,e2]at hp;rw[Int.mul_neg];omega
  ·rw[decide_eq_false hz,decide_eq_true hy0];simp;have e1:(y.natAbs:Int)=-y:=by omega
   have e2:(z.natAbs:Int)=z:=by omega
   rw[e1,e2,Int.neg_mul]at hp;rw[Int.mul_neg];omega
  ·rw[decide_eq_false hz,decide_eq_false hy0];simp;have e1:(y.natAbs:Int)=y:=by omega
   have e2:(z.natAbs:Int)=z:=by omega
   rw[e1,e2]at hp;omega
 ·rintro ⟨hz,hr0⟩;refine uniq _ _ (by omega) (by omega) ?_;have e2:(z.natAbs:Int)=-z:=by omega
  have e3:((q+1:Nat):Int)=(q:Int)+1:=by omega
  unfold yV
  by_cases hy0:y<0
  ·rw[decide_eq_true hz,decide_eq_true hy0];simp;have e1:(y.natAbs:Int)=-y:=by omega
   rw[e1,e2,Int.neg_mul]at hp;rw[Int.mul_add];omega
  ·rw[decide_eq_true hz,decide_eq_false hy0];simp;have e1:(y.natAbs:Int)=y:=by omega
   rw[e1,e2]at hp;rw[Int.mul_neg,Int.mul_add];omega
theorem aHx:aM 1=⟨#[49]⟩:=by unfold aM;rw[aS5]
theorem aO9:dl 1≤2^37:=lTr (qT (k:=1) (by decide) (by decide)) (by decide)
theorem aTm {z y:Int}(hy:y≠0)(hn:dl z.natAbs≤2^36)(hm:dl y.natAbs≤2^36):Pure PP 271 [dU z,dU y] (.tuple #[dU (z/y),dU (z%y)]):=by
 have hy0:0<y.natAbs:=Int.natAbs_pos.2 hy
 obtain⟨q,hq⟩:=nm (z.natAbs/y.natAbs);obtain⟨r,hr⟩:=nm (z.natAbs%y.natAbs);have hql:dl q≤2^36:=lTr (rV (by rw[hq];exact Nat.div_le_self _ _)) hn
 have hrl:dl r≤2^36:=lTr (rV (by rw[hr];exact Nat.mod_le _ _)) hn
 have hry:r≤y.natAbs:=by rw[hr];exact Nat.le_of_lt (Nat.mod_lt _ hy0)
 have h1:=aLd hy0 (lTr hn (by decide)) (lTr hm (by decide))
 have h2:Pure PP 247 [.string (aM q),.string ⟨#[49]⟩] (.tuple #[.string (aM (q+1)),.int .i64 0]):=by
  have:=bAm (n:=q) (m:=1) (lTr hql (by decide)) aO9
  rwa [aHx]at this
 have h3:=aXo hry (lTr hm (by decide)) (lTr hrl (by decide))
 have e:=euc (z:=z) hy
 rw[←hq,←hr]at e h1;obtain⟨R1,hR1⟩:∃R,R=dU (z/y):=⟨_,rfl⟩;obtain⟨R2,hR2⟩:∃R,R=dU (z%y):=⟨_,rfl⟩;have w1:¬(z<0∧r≠0)→Pure PP 232 [.bool (!(decide (z<0)==decide (y<0))),.string (aM q)] R1∧Pure PP 232 [.bool false,.string (aM r)] R2:=fun h=>by
  rw[hR1,hR2,←(e.1 h).1,←(e.1 h).2];exact⟨uW _ _,uW false r⟩
 have w2:z<0∧r≠0→Pure PP 232 [.bool (!(decide (z<0)==decide (y<0))),.string (aM (q+1))] R1∧Pure PP 232 [.bool false,.string (aM (y.natAbs - r))] R2:=fun h=>by
  rw[hR1,hR2,←(e.2 h).1,←(e.2 h).2];exact⟨uW _ _,uW false _⟩
 rw[←hR1,←hR2];have n0:=aQq (s:=aM r) rfl
 unfold dU at hR1 hR2 ⊢;obtain⟨b,hb⟩:=nm (decide (z<0));rw[←hb]at w1 w2 ⊢;have w1:¬(b=true∧r≠0)→_:=fun h=>w1 (fun h'=>h ⟨by rw[hb];exact decide_eq_true h'.1,h'.2⟩)
 have w2:b=true∧r≠0→_:=fun h=>w2 ⟨of_decide_eq_true (by rw[←hb];exact h.1),h.2⟩
 clear hb e;generalize decide (y<0)=b' at w1 w2 ⊢;generalize decide (z/y<0)=b1 at hR1;generalize aM (z/y).natAbs=s1 at hR1;generalize decide (z%y<0)=b2 at hR2;generalize aM (z%y).natAbs=s2 at hR2;generalize aM z.natAbs=s at h1 ⊢;generalize aM y.natAbs=t at h1 h3 ⊢;generalize aM (q+1)=tq1 at h2 w2;generalize aM (y.natAbs - r)=tr1 at h3 w2;generalize aM q=tq at h1 h2 w1;generalize aM r=tr at h1 h3 w1 n0;subst hR1;subst hR2;refine aH mixed tok [.g [.b (.v b),.s (.v s)],.g [.b (.v b'),.s (.v t)]] Tryz.func271 rfl rfl (lbl rfl) rfl fun c hc hR=>?_
 refine zN hc ?_;cbv;refine zC hc (.t [.s (.v tq),.s (.v tr),.i .i64 (.l 0)]) h1 aCg ?_;cbv;have fin1:¬(b=true∧r≠0)→_:=w1
 refine bU hc 20 rfl rfl 100 (fun h=>?_) (fun h=>?_)
 ·have hb:b=true:=h
  cbv;refine aE hc rfl 100 (fun h=>?_) (fun h=>?_)
  ·have hr0:r≠0:=of_decide_eq_true (n0.symm.trans h)
   obtain⟨k1,k2⟩:=w2 ⟨hb,hr0⟩;cbv;refine zC hc (.t [.s (.v tq1),.i .i64 (.l 0)]) h2 aOl ?_;cbv;refine zC hc (.t [.s (.v tr1),.i .i64 (.l 0)]) h3 aIc ?_;cbv;refine zC hc (.g [.b (.v b1),.s (.v s1)]) k1 jD ?_;cbv;refine zC hc (.g [.b (.v b2),.s (.v s2)]) k2 jD ?_;cbv;exact aF hc hR rfl rfl
  ·have hr0:¬r≠0:=of_decide_eq_false (n0.symm.trans h)
   obtain⟨k1,k2⟩:=w1 (fun h=>hr0 h.2);cbv;refine zC hc (.g [.b (.v b1),.s (.v s1)]) k1 jD ?_;cbv;refine zC hc (.g [.b (.v b2),.s (.v s2)]) k2 jD ?_;cbv;exact aF hc hR rfl rfl
 ·have hb:b=false:=h
  obtain⟨k1,k2⟩:=w1 (fun h=>by rw[hb]at h;cases h.1);cbv;refine zC hc (.g [.b (.v b1),.s (.v s1)]) k1 jD ?_;cbv;refine zC hc (.g [.b (.v b2),.s (.v s2)]) k2 jD ?_;cbv;exact aF hc hR rfl rfl
def uV (l:List UInt8):Bool:=Lib.hasPrefix l [45]
def qB (l:List UInt8):List UInt8:=Lib.trimPrefix l [45]
theorem aY3 (s:ByteArray):Pure PP 241 [.string s,.string ⟨#[45]⟩] (.tuple #[.string ⟨(qB s.data.toList).toArray⟩,.bool (uV s.data.toList)]):=by
 intro w _;refine Calls.mono (Tryz.strings_CutPrefix s ⟨#[45]⟩ w) ?_;rintro e w' ⟨rfl,rfl⟩;exact⟨rfl,RowKit.Below.refl _ _⟩
theorem aQh (l:List UInt8):(qB l).length≤l.length:=by
 unfold qB Lib.trimPrefix;split
 ·simp
 ·exact lRf _
theorem aNb (l:List UInt8):(wA l).isSome=(isNat (qB l)&& !(uV l&&decide (qB l=[48]))):=by
 cases l with
 | nil=>rfl
 | cons c t=>
  by_cases hc:c=45
  ·subst hc;have e1:uV (45::t)=true:=by simp[uV,Lib.hasPrefix]
   have e2:qB (45::t)=t:=by unfold qB Lib.trimPrefix;rw[show Lib.hasPrefix (45::t) [45]=true from e1];rfl
   rw[e1,e2];simp only[wA]
   by_cases h1:isNat t=true<;>by_cases h2:t=[48]<;>simp[h1,h2]
  ·have e1:uV (c::t)=false:=by
    unfold uV Lib.hasPrefix;simp only[List.isPrefixOf,Bool.and_true,beq_eq_false_iff_ne];exact fun h=>hc (Eq.symm h)
   have e2:qB (c::t)=c::t:=by unfold qB Lib.trimPrefix;rw[show Lib.hasPrefix (c::t) [45]=false from e1];rfl
   rw[e1,e2,yQ (fun u e=>by injection e with e _;exact hc e)]
   by_cases h1:isNat (c::t)=true<;>simp[h1]
theorem aJp {s t:ByteArray}:(BE.seq (.v s) (.v t)).den=decide (s.data.toList=t.data.toList):=by
 rw[vO];simp only[SE.den]
 by_cases h:s.data.toList=t.data.toList
 ·rw[decide_eq_true h,h];simp
 ·rw[decide_eq_false h,beq_eq_false_iff_ne];exact h
theorem aUy (s:ByteArray)(hs:s.size≤2^60):Pure PP 226 [.string s] (.tuple #[niV (uV s.data.toList) ⟨(qB s.data.toList).toArray⟩,.bool (wA s.data.toList).isSome]):=by
 have h1:=aY3 s
 have h2:=aI9 ⟨(qB s.data.toList).toArray⟩ (by
  show(qB s.data.toList).toArray.size≤_
  rw[List.size_toArray];exact lTr (aQh _) hs)
 have hl:=aNb s.data.toList
 obtain⟨ok,hok⟩:=nm ((wA s.data.toList).isSome);rw[←hok]at hl ⊢;obtain⟨a,ha⟩:∃a:ByteArray,a=⟨(qB s.data.toList).toArray⟩:=⟨_,rfl⟩;have hal:qB s.data.toList=a.data.toList:=by rw[ha]
 obtain⟨va,hva⟩:∃v,v=isNat a.data.toList:=⟨_,rfl⟩;obtain⟨b,hb⟩:=nm (uV s.data.toList);rw[←ha,←hva]at h2;rw[hal,←hva,←hb]at hl;rw[←ha,←hb]at h1 ⊢;have e48:(BE.seq (.v a) (.v ⟨#[48]⟩)).den=decide (a.data.toList=[48]):=aJp
 refine aH mixed tok [.s (.v s)] Tryz.func226 rfl rfl (lbl rfl) rfl fun c hc hR=>?_
 refine zN hc ?_;cbv;refine fA hc (.t [.s (.v a),.b (.v b)]) h1 aN7 rfl rfl 14 ?_;cbv;obtain⟨G,hG⟩:∃G:Nat→List AV→OF,∀b l,G b l=OF.cells b 273 l:=⟨fun b l=>OF.cells b _ l,fun _ _=>rfl⟩;refine aQ5 2 0 hG (l:=[(4,.s (.v a)),(6,.p 1 0)]) (K':=[]) rfl rfl rfl ⟨⟨_,rfl,rfl,fun _=>rfl⟩,⟨_,rfl,rfl,fun _=>rfl⟩,trivial⟩ rfl rfl trivial trivial (fun bk=>?_);refine zN hc ?_;cbv;refine zD hc (.b (.v va)) h2 qG ?_;cbv;refine bU hc 18 rfl rfl 100 (fun h=>?_) (fun h=>?_)
 ·have h:va=true:=h
  have hok:ok=(BE.not (BE.and (BE.beq (.v b) (.l true)) (BE.seq (.v a) (.v ⟨#[48]⟩)))).den:=by
   show ok= !((b==true)&&(BE.seq (.v a) (.v ⟨#[48]⟩)).den)
   rw[e48,hl,h];cases b<;>simp
  cbv;refine sD hc _ hG [] rfl rfl rfl rfl rfl rfl rfl rfl rfl rfl rfl rfl 100 ?_;cbv;refine zE hc ?_;cbv;refine yU 2 hG rfl rfl rfl ?_;cbv;exact aF hc hR rfl (by rw[hok];rfl)
 ·have h:va=false:=h
  have hok:ok=false:=by rw[hl,h];rfl
  subst hok;cbv;refine sD hc _ hG [] rfl rfl rfl rfl rfl rfl rfl rfl rfl rfl rfl rfl 100 ?_;cbv;refine zE hc ?_;cbv;refine yU 2 hG rfl rfl rfl ?_;cbv;exact aF hc hR rfl rfl
theorem pG (z:Int):uV (Lib.itoa z)=decide (z<0)∧qB (Lib.itoa z)=Lib.decDigits z.natAbs:=by
 unfold Lib.itoa
 by_cases h:z<0
 ·rw[if_pos h,decide_eq_true h];have e1:uV (45::Lib.decDigits z.natAbs)=true:=by simp[uV,Lib.hasPrefix]
  exact⟨e1,by unfold qB Lib.trimPrefix;rw[show Lib.hasPrefix (45::Lib.decDigits z.natAbs) [45]=true from e1];rfl⟩
 ·rw[if_neg h,decide_eq_false h,show z.toNat=z.natAbs by omega];have e1:uV (Lib.decDigits z.natAbs)=false:=by
   obtain⟨c,t,h1,h2⟩:=aAa z.natAbs;rw[h1];unfold uV Lib.hasPrefix;simp only[List.isPrefixOf,Bool.and_true,beq_eq_false_iff_ne];exact fun h=>(aI3 h2).1 (Eq.symm h)
  exact⟨e1,by unfold qB Lib.trimPrefix;rw[show Lib.hasPrefix (Lib.decDigits z.natAbs) [45]=false from e1];rfl⟩
theorem kK (z:Int):(aY z).size≤dl z.natAbs+1:=by
 show(Lib.itoa z).toArray.size≤_
 rw[List.size_toArray];exact xT z
theorem aC5 {z:Int}(hz:dl z.natAbs≤2^59):Pure PP 226 [.string (aY z)] (.tuple #[dU z,.bool true]):=by
 have h:=aUy (aY z) (lTr (kK z) (by omega))
 rw[dG,oH,(pG z).1,(pG z).2]at h;exact h
theorem aGp {z y:Int}(hz:dl z.natAbs≤2^59)(hy:dl y.natAbs≤2^59):Pure PP 213 [.string (aY z),.string (aY y)] (.tuple #[dU z,dU y,.int .i64 0]):=by
 have h1:=aC5 hz
 have h2:=aC5 hy
 unfold dU at h1 h2 ⊢;generalize aY z=sz at h1 ⊢;generalize aY y=sy at h2 ⊢;generalize aM z.natAbs=s at h1 ⊢;generalize aM y.natAbs=t at h2 ⊢;generalize decide (z<0)=b at h1 ⊢;generalize decide (y<0)=b' at h2 ⊢;refine aH mixed tok [.s (.v sz),.s (.v sy)] Tryz.func213 rfl rfl (lbl rfl) rfl fun c hc hR=>?_
 refine zN hc ?_;cbv;refine zC hc (.t [.g [.b (.v b),.s (.v s)],.b (.l true)]) h1 aD1 ?_;cbv;refine fA hc (.t [.g [.b (.v b'),.s (.v t)],.b (.l true)]) h2 aD1 rfl rfl 1 ?_;cbv;refine aVc hc 100 ?_;cbv;obtain⟨G,hG⟩:∃G:Nat→List AV→OF,∀b l,G b l=OF.cells b 273 l:=⟨fun b l=>OF.cells b _ l,fun _ _=>rfl⟩;refine aQ5 4 0 hG (l:=[(5,.p 1 0),(7,.p 2 0),(9,.p 3 0)]) (K':=[]) rfl rfl rfl ⟨⟨_,rfl,rfl,fun _=>rfl⟩,⟨_,rfl,rfl,fun _=>rfl⟩,⟨_,rfl,rfl,fun _=>rfl⟩,trivial⟩ rfl rfl trivial trivial (fun bk=>?_);refine zN hc ?_;cbv;refine sD hc _ hG [] rfl rfl rfl rfl rfl rfl rfl rfl rfl rfl rfl rfl 100 ?_;cbv;refine zE hc ?_;cbv;refine yU 4 hG rfl rfl rfl ?_;cbv;exact aF hc hR rfl rfl
theorem aXh {z:Int}(hz:dl z.natAbs≤2^59):Pure PP 229 [.string (aY z)] (.tuple #[dU z,.int .i64 0]):=by
 have h1:=aGp hz (y:=0) (by rw[show(0:Int).natAbs=0 from rfl,aKx,Lib.nDigits_small (by decide)];decide)
 have e0:aY 0=⟨#[48]⟩:=by unfold aY Lib.itoa;rw[if_neg (by decide)];exact congrArg (fun l:List UInt8=>(⟨l.toArray⟩:ByteArray)) aIo
 have e1:dU 0=niV false ⟨#[48]⟩:=by unfold dU;rw[show(0:Int).natAbs=0 from rfl,aYh];rfl
 rw[e0,e1]at h1;unfold dU at h1 ⊢;generalize aY z=sz at h1 ⊢;generalize aM z.natAbs=s at h1 ⊢;generalize decide (z<0)=b at h1 ⊢;refine aH mixed tok [.s (.v sz)] Tryz.func229 rfl rfl (lbl rfl) rfl fun c hc hR=>?_
 refine zN hc ?_;cbv;refine zC hc (.t [.g [.b (.v b),.s (.v s)],.g [.b (.l false),.s (.v ⟨#[48]⟩)],.i .i64 (.l 0)]) h1 uC ?_;cbv;exact aF hc hR rfl rfl
theorem qE:aB PP 204:=zK
theorem aSl:aB PP 212:=zK
theorem aVt:aB PP 227:=zK
theorem aVu:aB PP 240:=zK
theorem aH8:aB PP 200:=zK
theorem aH7:aB PP 238:=zK
theorem mD:aB PP 199:=zK
theorem aL3:aB PP 252:=zK
theorem aXg (s:ByteArray)(hs:s.size≤2^60):Pure PP 204 [.string s] (.bool (wA s.data.toList).isSome):=by
 have h:=aUy s hs
 generalize (wA s.data.toList).isSome=ok at h ⊢;generalize (⟨(qB s.data.toList).toArray⟩:ByteArray)=a at h;generalize uV s.data.toList=b at h;refine aH mixed tok [.s (.v s)] Tryz.func204 rfl rfl (lbl rfl) rfl fun c hc hR=>?_
 refine zN hc ?_;cbv;refine zC hc (.t [.g [.b (.v b),.s (.v a)],.b (.v ok)]) h aD1 ?_;cbv;exact aF hc hR rfl rfl
theorem bAd {z:Int}(hz:dl z.natAbs≤2^59):Pure PP 212 [.string (aY z)] (.tuple #[.int .i64 (bZ z 0),.int .i64 0]):=by
 have h:=aXh hz
 have h2:=aUz z
 unfold dU at h h2;generalize bZ z 0=r at h2 ⊢;generalize aY z=sz at h ⊢;generalize aM z.natAbs=s at h h2;generalize decide (z<0)=b at h h2;refine aH mixed tok [.s (.v sz)] Tryz.func212 rfl rfl (lbl rfl) rfl fun c hc hR=>?_
 refine zN hc ?_;cbv;refine zC hc (.t [.g [.b (.v b),.s (.v s)],.i .i64 (.l 0)]) h aH9 ?_;cbv;refine zC hc (.i .i64 (.v r)) h2 aKd ?_;cbv;exact aF hc hR rfl rfl
theorem bCy {z:Int}(hz:dl z.natAbs≤2^59):Pure PP 227 [.string (aY z)] (.tuple #[.string (aM z.natAbs),.int .i64 0]):=by
 have h:=aXh hz
 unfold dU at h;generalize aY z=sz at h ⊢;generalize aM z.natAbs=s at h ⊢;generalize decide (z<0)=b at h;refine aH mixed tok [.s (.v sz)] Tryz.func227 rfl rfl (lbl rfl) rfl fun c hc hR=>?_
 refine zN hc ?_;cbv;refine zC hc (.t [.g [.b (.v b),.s (.v s)],.i .i64 (.l 0)]) h aH9 ?_;cbv;exact aF hc hR rfl rfl
theorem bC0 {z:Int}(hz:dl z.natAbs≤2^59):Pure PP 240 [.string (aY z)] (.tuple #[.string (aY (-z)),.int .i64 0]):=by
 have h:=aXh hz
 have h2:=bAg z
 have h3:=aGt (z:=-z) (by rw[Int.natAbs_neg];exact lTr hz (by decide))
 unfold dU at h h2 h3;generalize aY z=sz at h ⊢;generalize aY (-z)=sr at h3 ⊢;generalize aM z.natAbs=s at h h2;generalize decide (z<0)=b at h h2;generalize aM (-z).natAbs=s' at h2 h3;generalize decide (-z<0)=b' at h2 h3;refine aH mixed tok [.s (.v sz)] Tryz.func240 rfl rfl (lbl rfl) rfl fun c hc hR=>?_
 refine zN hc ?_;cbv;refine zC hc (.t [.g [.b (.v b),.s (.v s)],.i .i64 (.l 0)]) h aH9 ?_;cbv;refine zC hc (.g [.b (.v b'),.s (.v s')]) h2 aOb ?_;cbv;refine zC hc (.s (.v sr)) h3 uD ?_;cbv;exact aF hc hR rfl rfl
theorem aCt (z y:Int){k:Nat}(h1:dl z.natAbs≤k)(h2:dl y.natAbs≤k):dl (z+y).natAbs≤k+1:=by
 have h3:(z+y).natAbs≤z.natAbs+y.natAbs:=Int.natAbs_add_le z y
 exact lTr (rV h3) (lTr (aO8 _ _) (by omega))
theorem aSz (z y:Int):bZ (z+-y) 0=bZ z y:=by unfold bZ;split<;>split<;>(try split)<;>(try split)<;>omega
theorem aQf {z y:Int}(hz:dl z.natAbs≤2^36)(hy:dl y.natAbs≤2^36):Pure PP 200 [.string (aY z),.string (aY y)] (.tuple #[.int .i64 (bZ z y),.int .i64 0]):=by
 have h:=aGp (z:=z) (y:=y) (lTr hz (by decide)) (lTr hy (by decide))
 have h2:=bAg y
 have h3:=aUx (z:=z) (y:=-y) (lTr hz (by decide)) (by rw[Int.natAbs_neg];exact lTr hy (by decide))
 have h4:=aUz (z+-y)
 rw[aSz]at h4;unfold dU at h h2 h3 h4;generalize bZ z y=r at h4 ⊢;generalize aY z=sz at h ⊢;generalize aY y=sy at h ⊢;generalize aM z.natAbs=s at h h3;generalize decide (z<0)=b at h h3;generalize aM y.natAbs=t at h h2;generalize decide (y<0)=b' at h h2;generalize aM (-y).natAbs=t2 at h2 h3;generalize decide (-y<0)=b2 at h2 h3;generalize aM (z+-y).natAbs=t3 at h3 h4;generalize decide (z+-y<0)=b3 at h3 h4;refine aH mixed tok [.s (.v sz),.s (.v sy)] Tryz.func200 rfl rfl (lbl rfl) rfl fun c hc hR=>?_
 refine zN hc ?_;cbv;refine zC hc (.t [.g [.b (.v b),.s (.v s)],.g [.b (.v b'),.s (.v t)],.i .i64 (.l 0)]) h uC ?_;cbv;refine zD hc (.g [.b (.v b2),.s (.v t2)]) h2 aOb ?_;cbv;refine zD hc (.g [.b (.v b3),.s (.v t3)]) h3 aKc ?_;cbv;refine zD hc (.i .i64 (.v r)) h4 aKd ?_;cbv;refine bX hc _ rfl rfl rfl rfl rfl 0 ?_;refine zE hc ?_;cbv;exact aF hc hR rfl rfl
theorem bCz {z y:Int}(hz:dl z.natAbs≤2^36)(hy:dl y.natAbs≤2^36):Pure PP 238 [.string (aY z),.string (aY y)] (.tuple #[.string (aY (z+y)),.int .i64 0]):=by
 have h:=aGp (z:=z) (y:=y) (lTr hz (by decide)) (lTr hy (by decide))
 have h3:=aUx (z:=z) (y:=y) (lTr hz (by decide)) (lTr hy (by decide))
 have h4:=aGt (z:=z+y) (lTr (aCt z y hz hy) (by decide))
 unfold dU at h h3 h4;generalize aY (z+y)=r at h4 ⊢;generalize aY z=sz at h ⊢;generalize aY y=sy at h ⊢;generalize aM z.natAbs=s at h h3;generalize decide (z<0)=b at h h3;generalize aM y.natAbs=t at h h3;generalize decide (y<0)=b' at h h3;generalize aM (z+y).natAbs=t3 at h3 h4;generalize decide (z+y<0)=b3 at h3 h4;refine aH mixed tok [.s (.v sz),.s (.v sy)] Tryz.func238 rfl rfl (lbl rfl) rfl fun c hc hR=>?_
 refine zN hc ?_;cbv;refine zC hc (.t [.g [.b (.v b),.s (.v s)],.g [.b (.v b'),.s (.v t)],.i .i64 (.l 0)]) h uC ?_;cbv;refine zC hc (.g [.b (.v b3),.s (.v t3)]) h3 aKc ?_;cbv;refine zC hc (.s (.v r)) h4 uD ?_;cbv;exact aF hc hR rfl rfl
theorem aQg {z y:Int}(hz:dl z.natAbs≤2^36)(hy:dl y.natAbs≤2^36):Pure PP 199 [.string (aY z),.string (aY y)] (.tuple #[.string (aY (z*y)),.int .i64 0]):=by
 have h:=aGp (z:=z) (y:=y) (lTr hz (by decide)) (lTr hy (by decide))
 have h3:=aXj (z:=z) (y:=y) (lTr hz (by decide)) (lTr hy (by decide))
 have h4:=aGt (z:=z*y) (by rw[Int.natAbs_mul];exact lTr (pE _ _) (lTr (Nat.add_le_add hz hy) (by decide)))
 unfold dU at h h3 h4;generalize aY (z*y)=r at h4 ⊢;generalize aY z=sz at h ⊢;generalize aY y=sy at h ⊢;generalize aM z.natAbs=s at h h3;generalize decide (z<0)=b at h h3;generalize aM y.natAbs=t at h h3;generalize decide (y<0)=b' at h h3;generalize aM (z*y).natAbs=t3 at h3 h4;generalize decide (z*y<0)=b3 at h3 h4;refine aH mixed tok [.s (.v sz),.s (.v sy)] Tryz.func199 rfl rfl (lbl rfl) rfl fun c hc hR=>?_
 refine zN hc ?_;cbv;refine zC hc (.t [.g [.b (.v b),.s (.v s)],.g [.b (.v b'),.s (.v t)],.i .i64 (.l 0)]) h uC ?_;cbv;refine zC hc (.g [.b (.v b3),.s (.v t3)]) h3 aOd ?_;cbv;refine zC hc (.s (.v r)) h4 uD ?_;cbv;exact aF hc hR rfl rfl
theorem aTl {z y:Int}(hy0:y≠0)(hz:dl z.natAbs≤2^36)(hy:dl y.natAbs≤2^36):Pure PP 252 [.string (aY z),.string (aY y)] (.tuple #[.string (aY (z/y)),.string (aY (z%y)),.int .i64 0]):=by
 have h:=aGp (z:=z) (y:=y) (lTr hz (by decide)) (lTr hy (by decide))
 have h3:=aTm (z:=z) (y:=y) hy0 hz hy
 have b1:dl (z/y).natAbs≤2^60:=by
  have:(z/y).natAbs≤z.natAbs:=Int.natAbs_ediv_le_natAbs z y
  exact lTr (rV this) (lTr hz (by decide))
 have b2:dl (z%y).natAbs≤2^60:=by
  have h1:=Int.emod_nonneg z hy0
  have h2:=Int.emod_lt z hy0
  have:(z%y).natAbs≤y.natAbs:=by omega
  exact lTr (rV this) (lTr hy (by decide))
 have h4:=aGt b1
 have h5:=aGt b2
 unfold dU at h h3 h4 h5;generalize aY (z/y)=r1 at h4 ⊢;generalize aY (z%y)=r2 at h5 ⊢;generalize aY z=sz at h ⊢;generalize aY y=sy at h ⊢;generalize aM z.natAbs=s at h h3;generalize decide (z<0)=b at h h3;have n0:=aYb (s:=aM y.natAbs) rfl
 have hyn:y.natAbs≠0:=fun e=>hy0 (Int.natAbs_eq_zero.1 e)
 rw[decide_eq_false hyn]at n0;generalize aM y.natAbs=t at h h3 n0;generalize decide (y<0)=b' at h h3;generalize aM (z/y).natAbs=t1 at h3 h4;generalize decide (z/y<0)=b1 at h3 h4;generalize aM (z%y).natAbs=t2 at h3 h5;generalize decide (z%y<0)=b2 at h3 h5;refine aH mixed tok [.s (.v sz),.s (.v sy)] Tryz.func252 rfl rfl (lbl rfl) rfl fun c hc hR=>?_
 refine zN hc ?_;cbv;refine zC hc (.t [.g [.b (.v b),.s (.v s)],.g [.b (.v b'),.s (.v t)],.i .i64 (.l 0)]) h uC ?_;cbv;refine zD hc (.g [.b (.l false),.s (.v ⟨#[48]⟩)]) aU0 aKe ?_;cbv;refine zE hc ?_;cbv;have ef:(BE.and (BE.beq (.v b') (.l false)) (BE.seq (.v t) (.v ⟨#[48]⟩))).den=false:=by
  show((b'==false)&&(BE.seq (.v t) (.v ⟨#[48]⟩)).den)=false
  rw[n0,Bool.and_false]
 refine aE hc rfl 100 (fun h=>by rw[ef]at h;cases h) (fun _=>?_);cbv;refine zC hc (.t [.g [.b (.v b1),.s (.v t1)],.g [.b (.v b2),.s (.v t2)]]) h3 aL4 ?_;cbv;refine zD hc (.s (.v r1)) h4 uD ?_;cbv;refine zD hc (.s (.v r2)) h5 uD ?_;cbv;refine zE hc ?_;cbv;exact aF hc hR rfl rfl
def frV (s t:ByteArray):Value:=.agg #[.string s,.string t]
def cH (q:Rat):Value:=frV (aY q.num) (aM q.den)
theorem yF:aB PP 171:=zK
theorem aOr:aB PP 206:=zK
theorem aKj:aB PP 198:=zK
theorem aV2:aB PP 222:=zK
theorem aV1:aB PP 224:=zK
theorem wI:aB PP 239:=zK
theorem nV (q:Rat):dl q.num.natAbs≤sz q:=Nat.le_max_left _ _
theorem pR (q:Rat):dl q.den≤sz q:=Nat.le_max_right _ _
theorem aLk {q:Rat}(hq:sz q≤2^50):Pure PP 171 [cH q] (.string (aA q)):=by
 have h1:(aY q.num).size≤2^51:=lTr (kK _) (by have:=nV q;omega)
 have h2:(aM q.den).size≤2^51:=by rw[fH];have:=pR q;omega
 have e1:=aRg (s:=aM q.den) rfl aHx.symm
 have hd:q.den=1→aA q=aY q.num:=fun h=>by unfold aA;rw[if_pos h]
 have hn:q.den≠1→aA q=(aY q.num++⟨#[47]⟩)++aM q.den:=fun h=>by unfold aA;rw[if_neg h]
 unfold cH;generalize aA q=r at hd hn ⊢;generalize aY q.num=s at h1 hd hn ⊢;generalize aM q.den=t at h2 hn e1 ⊢;have hsz:(s++(⟨#[47]⟩:ByteArray)).size=s.size+1:=by rw[ByteArray.size_append];rfl
 have o1:(Obl.cat (.v s) (.v ⟨#[47]⟩)).ok:=by show((s.size+1:Nat):Int)≤_;omega
 have o2:(Obl.cat (.cat (.v s) (.v ⟨#[47]⟩)) (.v t)).ok:=by show(((s++(⟨#[47]⟩:ByteArray)).size+t.size:Nat):Int)≤_;rw[hsz];omega
 refine aH mixed tok [.g [.s (.v s),.s (.v t)]] Tryz.func171 rfl rfl (lbl rfl) rfl fun c hc hR=>?_
 refine zN hc ?_;cbv;refine aE hc rfl 100 (fun h=>?_) (fun h=>?_)
 ·have hr:=hd (of_decide_eq_true (e1.symm.trans h))
  subst hr;cbv;exact aF hc hR rfl rfl
 ·have hr:=hn (of_decide_eq_false (e1.symm.trans h))
  cbv;refine aQ hc ⟨o1,o2,trivial⟩ ?_;exact aF hc hR rfl (by rw[hr];rfl)
theorem aG9 {p:Int}{d:Nat}(hp:dl p.natAbs≤2^37)(hd:dl d≤2^37):Pure PP 206 [.string (aY p),.string (aM d)] (.string (aM (p.natAbs.gcd d))):=by
 have h1:=bCy (z:=p) (lTr hp (by decide))
 have h2:=bC6 hp hd
 generalize aY p=s at h1 ⊢;generalize aM d=t at h2 ⊢;generalize aM p.natAbs=a at h1 h2;generalize aM (p.natAbs.gcd d)=g at h2 ⊢;refine aH mixed tok [.s (.v s),.s (.v t)] Tryz.func206 rfl rfl (lbl rfl) rfl fun c hc hR=>?_
 refine zN hc ?_;cbv;refine zC hc (.t [.s (.v a),.i .i64 (.l 0)]) h1 aVt ?_;cbv;refine zC hc (.t [.s (.v g),.i .i64 (.l 0)]) h2 aVy ?_;cbv;exact aF hc hR rfl rfl
theorem aVa {q:Rat}(hq:sz q≤2^50):Pure PP 198 [cH q] (.int .i64 (bZ q.num 0)):=by
 have h1:=bAd (z:=q.num) (lTr (nV q) (lTr hq (by decide)))
 unfold cH;generalize bZ q.num 0=r at h1 ⊢;generalize aY q.num=s at h1 ⊢;generalize aM q.den=t;refine aH mixed tok [.g [.s (.v s),.s (.v t)]] Tryz.func198 rfl rfl (lbl rfl) rfl fun c hc hR=>?_
 refine zN hc ?_;cbv;refine zC hc (.t [.i .i64 (.v r),.i .i64 (.l 0)]) h1 aSl ?_;cbv;exact aF hc hR rfl rfl
theorem bDa {q:Rat}(hq:sz q≤2^50):Pure PP 222 [cH q] (cH (-q)):=by
 have h1:=bC0 (z:=q.num) (lTr (nV q) (lTr hq (by decide)))
 have e:cH (-q)=frV (aY (-q.num)) (aM q.den):=by unfold cH;rw[Rat.neg_num,Rat.neg_den]
 rw[e];unfold cH;generalize aY (-q.num)=r at h1 ⊢;generalize aY q.num=s at h1 ⊢;generalize aM q.den=t;refine aH mixed tok [.g [.s (.v s),.s (.v t)]] Tryz.func222 rfl rfl (lbl rfl) rfl fun c hc hR=>?_
 refine zN hc ?_;cbv;refine zC hc (.t [.s (.v r),.i .i64 (.l 0)]) h1 aVu ?_;cbv;exact aF hc hR rfl rfl
theorem aHy {n:Nat}(h:0<n):aY (-(n:Int))=⟨#[45]⟩++aM n:=by
 apply kX;rw[dG,fC,cT];unfold Lib.itoa;rw[if_pos (by omega),Int.natAbs_neg,Int.natAbs_natCast];rfl
theorem jS (n:Nat):aY (n:Int)=aM n:=by
 apply kX;rw[dG,cT];unfold Lib.itoa;rw[if_neg (by omega),Int.toNat_natCast]
theorem aMr {q:Rat}(h0:q≠0):(q.num<0→q⁻¹.num=-(q.den:Int)∧q⁻¹.den=q.num.natAbs)∧(0<q.num→q⁻¹.num=(q.den:Int)∧q⁻¹.den=q.num.natAbs):=by
 constructor
 ·intro h;rw[Rat.num_inv,Rat.den_inv,if_neg (by omega),Int.sign_eq_neg_one_of_neg h];exact⟨by omega,rfl⟩
 ·intro h;rw[Rat.num_inv,Rat.den_inv,if_neg (by omega),Int.sign_eq_one_of_pos h];exact⟨by omega,rfl⟩
theorem bC9 {q:Rat}(h0:q≠0)(hq:sz q≤2^50):Pure PP 224 [cH q] (cH q⁻¹):=by
 have hd:0<q.den:=q.den_pos
 have h1:=aY3 (aY q.num)
 rw[dG,(pG q.num).1,(pG q.num).2]at h1;have ea:(⟨(Lib.decDigits q.num.natAbs).toArray⟩:ByteArray)=aM q.num.natAbs:=rfl
 rw[ea]at h1;have hn0:q.num≠0:=fun e=>h0 (Rat.num_eq_zero.1 e)
 obtain⟨i1,i2⟩:=aMr h0;have e1:q.num<0→cH q⁻¹=frV (⟨#[45]⟩++aM q.den) (aM q.num.natAbs):=fun h=>by
  unfold cH;rw[←aHy hd,(i1 h).1,(i1 h).2]
 have e2:¬q.num<0→cH q⁻¹=frV (aM q.den) (aY q.num):=fun h=>by
  have h':0<q.num:=by omega
  unfold cH;rw[(i2 h').1,(i2 h').2,jS]
  congr 1
  rw[←jS,show((q.num.natAbs:Nat):Int)=q.num by omega]
 have hsz:(aM q.den).size≤2^51:=by rw[fH];have:=pR q;omega
 have et:(fun h:q.num<0=>e1 h)=e1:=rfl
 show Pure PP _ [frV (aY q.num) (aM q.den)] _
 generalize cH q⁻¹=r at e1 e2 ⊢;have hb:decide (q.num<0)=true→q.num<0:=of_decide_eq_true
 have hb':decide (q.num<0)=false→¬q.num<0:=of_decide_eq_false
 have e1:=fun h=>e1 (hb h)
 have e2:=fun h=>e2 (hb' h)
 clear hb hb' i1 i2 et;generalize decide (q.num<0)=b at h1 e1 e2;generalize aY q.num=s at h1 e2 ⊢;generalize aM q.den=t at e1 e2 hsz ⊢;generalize aM q.num.natAbs=u at h1 e1;have o1:(Obl.cat (.v ⟨#[45]⟩) (.v t)).ok:=by show((1+t.size:Nat):Int)≤_;omega
 refine aH mixed tok [.g [.s (.v s),.s (.v t)]] Tryz.func224 rfl rfl (lbl rfl) rfl fun c hc hR=>?_
 refine zN hc ?_;cbv;refine zC hc (.t [.s (.v u),.b (.v b)]) h1 aN7 ?_;cbv;refine aE hc rfl 100 (fun h=>?_) (fun h=>?_)
 ·have hr:=e1 h
  cbv;refine aQ hc ⟨o1,trivial⟩ ?_;exact aF hc hR rfl (by rw[hr];rfl)
 ·have hr:=e2 h
  cbv;exact aF hc hR rfl (by rw[hr];rfl)
theorem rE (p:Int){d:Nat}(hd:0<d):(mkRat p d).num=p/(p.natAbs.gcd d:Nat)∧(mkRat p d).den=d/p.natAbs.gcd d:=by
 rw[Rat.num_mkRat,Rat.den_mkRat,if_neg (by omega),if_neg (by omega),Nat.gcd_comm];exact⟨rfl,rfl⟩
theorem aLi {p:Int}{d:Nat}(hd0:0<d)(hp:dl p.natAbs≤2^36)(hd:dl d≤2^36):Pure PP 239 [.string (aY p),.string (aM d)] (cH (mkRat p d)):=by
 have hg0:0<p.natAbs.gcd d:=Nat.gcd_pos_of_pos_right _ hd0
 have hgl:dl (p.natAbs.gcd d)≤2^36:=lTr (rV (Nat.le_of_dvd hd0 (Nat.gcd_dvd_right _ _))) hd
 obtain⟨m1,m2⟩:=rE p hd0;have h1:=aG9 (p:=p) (d:=d) (lTr hp (by decide)) (lTr hd (by decide))
 obtain⟨g,hg⟩:=nm (p.natAbs.gcd d);rw[←hg]at h1 hg0 hgl m1 m2;have h2:=aTl (z:=p) (y:=(g:Int)) (by omega) hp (by rw[Int.natAbs_natCast];exact hgl)
 rw[jS]at h2;have h3:=aLd (n:=d) hg0 (lTr hd (by decide)) (lTr hgl (by decide))
 have e1:=aRg (s:=aM g) rfl aHx.symm
 have f1:g=1→cH (mkRat p d)=frV (aY p) (aM d):=fun h=>by unfold cH;rw[m1,m2,h];simp
 have f2:cH (mkRat p d)=frV (aY (p/(g:Int))) (aM (d/g)):=by unfold cH;rw[m1,m2]
 generalize cH (mkRat p d)=r at f1 f2 ⊢;generalize aY (p/(g:Int))=p1 at h2 f2;generalize aY (p%(g:Int))=p2 at h2;generalize aM (d/g)=d1 at h3 f2;generalize aM (d%g)=d2 at h3;generalize aY p=s at h1 h2 f1 ⊢;generalize aM d=t at h1 h3 f1 ⊢;generalize aM g=tg at h1 h2 h3 e1;refine aH mixed tok [.s (.v s),.s (.v t)] Tryz.func239 rfl rfl (lbl rfl) rfl fun c hc hR=>?_
 refine zN hc ?_;cbv;refine zC hc (.s (.v tg)) h1 aOr ?_;cbv;refine aE hc rfl 100 (fun h=>?_) (fun h=>?_)
 ·cbv;refine zC hc (.t [.s (.v p1),.s (.v p2),.i .i64 (.l 0)]) h2 aL3 ?_;cbv;refine zC hc (.t [.s (.v d1),.s (.v d2),.i .i64 (.l 0)]) h3 aCg ?_;cbv;exact aF hc hR rfl (by rw[f2];rfl)
 ·have h:=BE.not_f h
  have hr:=f1 (of_decide_eq_true (e1.symm.trans h))
  cbv;exact aF hc hR rfl (by rw[hr];rfl)
end Go.Ai
namespace Go.Num
open Go.Lib
theorem aA0 {M:Nat}:∀(l:List UInt8) (acc:Nat),l.all lJ=true→dW acc l≤M→dW acc l<1844674407370955162→parseUintM M acc l=.ok (dW acc l)
 | [],acc,_,_,_=>rfl
 | c::r,acc,hd,hM,hb=>by
  simp only[List.all_cons,Bool.and_eq_true]at hd;have hc:=hd.1
  simp only[lJ,Bool.and_eq_true,decide_eq_true_eq]at hc;rw[fD]at hM hb ⊢;have h1:=aEf r (10*acc+(c.toNat - 48))
  rw[parseUintM,if_pos hc,if_neg (by omega),if_neg (by omega),show acc*10+(c.toNat - 48)=10*acc+(c.toNat - 48) by omega];exact aA0 r _ hd.2 hM hb
theorem aM3 {n:Nat}(h:n<1000000000000000000):parseUintB 64 (decDigits n)=.ok n:=by
 unfold parseUintB;rw[if_neg (fO n)];have:=aA0 (M:=2^64 - 1) (decDigits n) 0 (gE n) (by rw[cU];omega) (by rw[cU];omega)
 rwa [cU]at this
theorem aC8 {z:Int}(h:z.natAbs<1000000000000000000):parseIntB 64 (itoa z)=.ok z:=by
 have hp:=aM3 h
 unfold itoa;split
 ·rename_i hz;rw[parseIntB_minus,hp];simp only[signedC];rw[if_neg (by omega)];congr 1;omega
 ·rename_i hz;rw[show z.toNat=z.natAbs by omega];obtain⟨c,t,h1,h2⟩:=aAa z.natAbs;rw[h1]at hp ⊢;simp only[lJ,Bool.and_eq_true,decide_eq_true_eq]at h2;rw[parseIntB_plain _ _ _ (by omega) (by omega),hp];simp only[signlessC];rw[if_neg (by omega)];congr 1;omega
end Go.Num
namespace Go.Ai
open Go Go.Proofs Go.Num
theorem dF:aB PP 236:=zK
theorem aUp:aB PP 237:=zK
theorem aFp:aB PP 250:=zK
theorem aN8:aB PP 251:=zK
theorem aQu {s:ByteArray}{v:Int}(hs:s.size≤2^60)(h:Lib.parseIntB 64 s.data.toList=.ok v):Pure PP 250 [.string s,.int .i64 10,.int .i64 64] (.tuple #[.int .i64 v,.nilIface]):=by
 intro w hgl;have hs':s.size≤9223372036854775806:=lTr hs (by decide)
 refine Calls.mono (Tryz.strconv_ParseInt_10_at64_ok s hs' v h w) ?_;rintro e w' ⟨rfl,rfl | ⟨t,rfl⟩⟩
 ·exact⟨rfl,RowKit.Below.refl _ _⟩
 ·exact⟨rfl,Lib.bytesWorld_below w 5 t⟩
theorem aY7 {n:Int}(h0:-9223372036854775808≤n)(h1:n≤9223372036854775807):Pure PP 251 [.int .i64 n,.int .i64 10] (.string (aY n)):=by
 intro w hgl;refine Calls.mono (Tryz.strconv_FormatInt_10 n h0 h1 w hgl.pow10) ?_;rintro e w' ⟨rfl,k,os,rfl⟩;exact⟨rfl,Lib.below_grow _ _ (lRf _) _ _⟩
def oE (q:Rat):Bool:= !(decide (9<(aY q.num).size)||decide (9<(aM q.den).size))
def aC6 (q:Rat):Value:=if oE q then .tuple #[.int .i64 q.num,.int .i64 q.den,.bool true]else .tuple #[.int .i64 0,.int .i64 0,.bool false]
theorem lK {q:Rat}(h:oE q=true):q.num.natAbs<1000000000∧q.den<1000000000:=by
 unfold oE at h;simp only[Bool.not_eq_true',Bool.or_eq_false_iff,decide_eq_false_iff_not]at h;obtain⟨h1,h2⟩:=h;constructor
 ·have e:dl q.num.natAbs≤(aY q.num).size:=by
   show _≤(Lib.itoa q.num).toArray.size
   rw[List.size_toArray];unfold Lib.itoa dl;split
   ·simp
   ·rw[show q.num.toNat=q.num.natAbs by omega];exact lRf _
  have:=sU q.num.natAbs
  exact Nat.lt_of_lt_of_le this (Nat.pow_le_pow_right (by decide) (by omega):_≤10^9)
 ·have e:dl q.den=(aM q.den).size:=(fH _).symm
  have:=sU q.den
  exact Nat.lt_of_lt_of_le this (Nat.pow_le_pow_right (by decide) (by omega):_≤10^9)
theorem yS (q:Rat):Pure PP 236 [cH q] (aC6 q):=by
 have hb:=lK (q:=q)
 have p1:oE q=true→Pure PP 250 [.string (aY q.num),.int .i64 10,.int .i64 64] (.tuple #[.int .i64 q.num,.nilIface]):=fun h=>
  aQu (lTr (kK _) (by have:=qT (k:=9) (by decide) (Nat.lt_of_lt_of_le (hb h).1 (by decide));omega)) (by rw[dG];exact aC8 (Nat.lt_trans (hb h).1 (by decide)))
 have p2:oE q=true→Pure PP 250 [.string (aM q.den),.int .i64 10,.int .i64 64] (.tuple #[.int .i64 (q.den:Int),.nilIface]):=fun h=>
  aQu (by rw[fH];have:=qT (k:=9) (by decide) (Nat.lt_of_lt_of_le (hb h).2 (by decide));omega) (by rw[←jS,dG];exact aC8 (by rw[Int.natAbs_natCast];exact Nat.lt_trans (hb h).2 (by decide)))
 obtain⟨r,hr⟩:=nm (aC6 q);obtain⟨ok,hok⟩:=nm (oE q);have ht:ok=true→r=.tuple #[.int .i64 q.num,.int .i64 q.den,.bool true]:=fun h=>by rw[hr];unfold aC6;rw[←hok,h];rfl
 have hf:ok=false→r=.tuple #[.int .i64 0,.int .i64 0,.bool false]:=fun h=>by rw[hr];unfold aC6;rw[←hok,h];rfl
 unfold oE at hok;rw[←show ok=oE q from hok]at p1 p2;rw[←hr];clear hr hb;unfold cH;generalize aY q.num=s at p1 hok ⊢;generalize aM q.den=t at p2 hok ⊢;generalize (q.den:Int)=dn at p2 ht;generalize q.num=nm at p1 ht;refine aH mixed tok [.g [.s (.v s),.s (.v t)]] Tryz.func236 rfl rfl (lbl rfl) rfl fun c hc hR=>?_
 have c1:(BE.lt (.l 9) (.len (.v s))).den=decide (9<s.size):=by show decide ((9:Int)<(s.size:Int))=_;exact decide_eq_decide.2 (by omega)
 have c2:(BE.lt (.l 9) (.len (.v t))).den=decide (9<t.size):=by show decide ((9:Int)<(t.size:Int))=_;exact decide_eq_decide.2 (by omega)
 refine zN hc ?_;cbv;refine bU hc 13 rfl rfl 100 (fun h=>?_) (fun h=>?_)
 ·have h1:=c1.symm.trans h
  have hok:ok=false:=by rw[hok,h1];rfl
  have hr:=hf hok
  cbv;exact aF hc hR rfl (by rw[hr];rfl)
 ·have h1:=c1.symm.trans h
  cbv;refine aE hc rfl 100 (fun h=>?_) (fun h=>?_)
  ·have h2:=c2.symm.trans h
   have hok:ok=false:=by rw[hok,h1,h2];rfl
   have hr:=hf hok
   cbv;exact aF hc hR rfl (by rw[hr];rfl)
  ·have h2:=c2.symm.trans h
   have hok:ok=true:=by rw[hok,h1,h2];rfl
   have hr:=ht hok
   have p1:=p1 hok
   have p2:=p2 hok
   cbv;refine zC hc (.t [.i .i64 (.v nm),.o .nilIface]) p1 aFp ?_;cbv;refine zC hc (.t [.i .i64 (.v dn),.o .nilIface]) p2 aFp ?_;cbv;exact aF hc hR rfl (by rw[hr];rfl)
theorem aX3 {a b:Int}(ha:a.natAbs≤4000000000000000000)(hb:b.natAbs≤4000000000000000000)(h0:b≠0):(Obl.nz (.v b)).ok∧((IE.v a).rem (.v b)).den=(IE.v (a.tmod b)).den∧(a.tmod b).natAbs≤4000000000000000000∧(a.tmod b).natAbs<b.natAbs∧b.natAbs.gcd (a.tmod b).natAbs=a.natAbs.gcd b.natAbs:=by
 have e:(a.tmod b).natAbs=a.natAbs%b.natAbs:=Int.natAbs_tmod a b
 have hp:0<b.natAbs:=Int.natAbs_pos.2 h0
 have hl:=Nat.mod_lt a.natAbs hp
 refine⟨by show _≠_;simpa[IE.den]using h0,rfl,by omega,by omega,?_⟩;rw[e];exact jL hp
theorem aT4 {a p:Int}{d g:Nat}(hg:g=p.natAbs.gcd d)(hd0:0<d)(ha:a.natAbs=g)(hp:p.natAbs≤4000000000000000000)(hd:d≤4000000000000000000){e:IE}(he:e=IE.max (.v a) (.sub (.l 0) (.v a))):
  (Obl.inR .i64 (.sub (.l 0) (.v a))).ok∧(Obl.nz e).ok∧(Obl.inR .i64 (.quo (.v p) e)).ok∧(Obl.inR .i64 (.quo (.n d) e)).ok∧(IE.quo (.v p) e).den=(mkRat p d).num∧(IE.quo (.n d) e).den=((mkRat p d).den:Int):=by
 have hg0:0<g:=by rw[hg];exact Nat.gcd_pos_of_pos_right _ hd0
 have hgd:g≤d:=by rw[hg];exact Nat.le_of_dvd hd0 (Nat.gcd_dvd_right _ _)
 have aWt:e.den=(g:Int):=by
  rw[he];show(if a<0 - a then 0 - a else a)=_
  split<;>omega
 obtain⟨m1,m2⟩:=rE p hd0;rw[←hg]at m1 m2;have e1:(IE.quo (.v p) e).den=p/(g:Int):=by
  show p.tdiv e.den=_
  rw[aWt];exact Int.tdiv_eq_ediv_of_dvd (Int.ofNat_dvd_left.2 (by rw[hg];exact Nat.gcd_dvd_left _ _))
 have e2:(IE.quo (.n d) e).den=((d/g:Nat):Int):=by
  show((d:Nat):Int).tdiv e.den=_
  rw[aWt];exact(Int.ofNat_tdiv d g).symm
 have b1:(p/(g:Int)).natAbs≤p.natAbs:=Int.natAbs_ediv_le_natAbs p g
 have b2:d/g≤d:=Nat.div_le_self d g
 refine⟨?_,?_,?_,?_,by rw[e1,m1],by rw[e2,m2]⟩
 ·show lo _≤0 - a∧0 - a≤hi _;simp only[lo,hi];omega
 ·show e.den≠0;rw[aWt];omega
 ·show lo _≤_∧_≤hi _;rw[e1];simp only[lo,hi];omega
 ·show lo _≤_∧_≤hi _;rw[e2];simp only[lo,hi];omega
theorem rof {p:Int}{d:Nat}(hd0:0<d)(hp:p.natAbs≤4000000000000000000)(hd:d≤4000000000000000000):Pure PP 237 [.int .i64 p,.int .i64 (d:Int)] (cH (mkRat p d)):=by
 obtain⟨g,hg⟩:=nm (p.natAbs.gcd d);have b1:(mkRat p d).num.natAbs≤4000000000000000000:=by
  have h:=(rE p hd0).1
  have:=Int.natAbs_ediv_le_natAbs p (p.natAbs.gcd d:Nat)
  rw[←h]at this;omega
 have b2:(mkRat p d).den≤4000000000000000000:=by
  have h:=(rE p hd0).2
  have:=Nat.div_le_self d (p.natAbs.gcd d)
  rw[←h]at this;omega
 have f1:=aY7 (n:=(mkRat p d).num) (by omega) (by omega)
 have f2:=aY7 (n:=((mkRat p d).den:Int)) (by omega) (by omega)
 rw[jS]at f2;have jT:=fun a ha=>aT4 (a:=a) hg hd0 ha hp hd rfl
 unfold cH;generalize (mkRat p d).num=nm at f1 jT ⊢;generalize ((mkRat p d).den:Int)=dn at f2 jT;generalize aY nm=s at f1 ⊢;generalize aM (mkRat p d).den=t at f2 ⊢;refine aH mixed tok [.i .i64 (.v p),.i .i64 (.n d)] Tryz.func237 rfl rfl (lbl rfl) rfl fun c hc hR=>?_
 refine zN hc ?_;cbv;let BB:List (Nat × AV):=[(4,.p 0 0),(0,.i .i64 (.v p)),(1,.i .i64 (.n d))]
 let HH:List Blk:=[.c 234 [.s (.v ⟨#[]⟩),.s (.v ⟨#[]⟩)]]
 let ι:={x:Int × Int//x.1.natAbs.gcd x.2.natAbs=g∧x.1.natAbs≤4000000000000000000∧x.2.natAbs≤4000000000000000000}
 let I:ι→St:=fun x=>⟨(5,.i .i64 (.v x.1.1))::(6,.i .i64 (.v x.1.2))::BB,HH,[]⟩
 let x0:ι:=⟨(p,(d:Int)),hg.symm,hp,hd⟩
 refine zU 1 (S':=I x0) (K':=[]) ⟨zS rfl rfl,zS rfl rfl,zS rfl rfl,zS rfl rfl,zS rfl rfl,trivial⟩ trivial trivial ?_;refine aA8 (fun a:Int=>a.natAbs=g) (fun a=>⟨(5,.i .i64 (.v a))::BB,HH,[]⟩) rfl (fun r hr=>?_) (fun a ha=>?_)
 ·refine bQ hc I (fun x=>x.1.2.natAbs) x0 100 ?_;rintro p' ⟨⟨a,b⟩,hab,ha,hb⟩ hy;simp only at hab ha hb;cbv;refine aE hc rfl 100 (fun h=>?_) (fun h=>?_)
  ·have hb0:b≠0:=fun e=>by have h:=BE.not_t h;exact BE.eq_f h (by simp[IE.den,e])
   obtain⟨o1,e1,l1,l2,l3⟩:=aX3 ha hb hb0;cbv;refine aQ hc ⟨o1,trivial⟩ ?_;refine bX hc _ rfl rfl rfl rfl rfl 0 ?_;refine bX hc _ rfl rfl rfl rfl rfl 0 ?_;refine zE hc ?_;cbv;exact zU 1 (S':=I ⟨(b,a.tmod b),l3.trans hab,hb,l1⟩) (K':=[]) ⟨zS rfl rfl,zI rfl rfl e1,zS rfl rfl,zS rfl rfl,zS rfl rfl,trivial⟩ trivial trivial (hy _ l2)
  ·have hb0:b=0:=by have h:=BE.not_f h;exact(BE.eq_t h)
   have hag:a.natAbs=g:=by rw[←hab,hb0];exact(Nat.gcd_zero_right _).symm
   cbv;exact zU 1 (S':=⟨(5,.i .i64 (.v a))::BB,HH,[]⟩) (K':=[]) ⟨zS rfl rfl,zS rfl rfl,zS rfl rfl,zS rfl rfl,trivial⟩ trivial trivial (hr a hag)
 ·obtain⟨o1,o2,o3,o4,e1,e2⟩:=jT a ha;have f1:Pure PP 251 [.int .i64 (IE.quo (.v p) (IE.max (.v a) (.sub (.l 0) (.v a)))).den,.int .i64 10] (.string s):=by rw[e1];exact f1
  have f2:Pure PP 251 [.int .i64 (IE.quo (.n d) (IE.max (.v a) (.sub (.l 0) (.v a)))).den,.int .i64 10] (.string t):=by rw[e2];exact f2
  refine zN hc ?_;cbv;refine aQ hc ⟨o1,o2,o3,trivial⟩ ?_;refine zD hc (.s (.v s)) f1 aN8 ?_;cbv;refine aQ hc ⟨o2,o4,trivial⟩ ?_;refine zD hc (.s (.v t)) f2 aN8 ?_;cbv;refine zE hc ?_;cbv;exact aF hc hR rfl rfl
end Go.Ai
