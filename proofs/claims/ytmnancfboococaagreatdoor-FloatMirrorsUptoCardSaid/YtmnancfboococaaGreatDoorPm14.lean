/- Part 15 of the proof: garboardlaw17.FloatMirrors returns true, where what it reads is of bulk at most 1048576. -/
import Derived.Test.YtmnancfboococaaGreatDoorPm6
import Derived.Test.YtmnancfboococaaGreatDoorPm13
set_option linter.all false
namespace Go.Ai
open Go Go.Proofs Go.Num
def niV (b:Bool)(s:ByteArray):Value:=.agg #[.bool b,.string s]
def dU (z:Int):Value:=niV (decide (z<0)) (aK z.natAbs)
def sgn (b:Bool)(a:Nat):Int:=if b then -(a:Int)else a
theorem aLm:aB PP 230:=zK
theorem jJ:aB PP 232:=zK
theorem uN:aB PP 215:=zK
theorem aPs:aB PP 217:=zK
theorem qS:aB PP 235:=zK
theorem aLl:aB PP 218:=zK
theorem bAg:aK 0=⟨#[48]⟩:=by unfold aK;rw[aJp]
theorem aS0 {s t:ByteArray}{a b:Nat}(hs:s=aK a)(ht:t=aK b):(BE.seq (.v s) (.v t)).den=decide (a=b):=by
 rw[nW];simp only[SE.den];rw[hs,ht,cM,cM]
 by_cases h:a=b
 ·subst h;simp
 ·rw[decide_eq_false h,beq_eq_false_iff_ne];exact fun e=>h (nZ e)
theorem bAa {s:ByteArray}{a:Nat}(hs:s=aK a):(BE.seq (.v s) (.v ⟨#[48]⟩)).den=decide (a=0):=aS0 hs bAg.symm
theorem aR6 {s:ByteArray}{a:Nat}(hs:s=aK a):(BE.not (BE.seq (.v s) (.v ⟨#[48]⟩))).den=decide (a≠0):=by
 show(!(BE.seq (.v s) (.v ⟨#[48]⟩)).den)=_
 rw[bAa hs];simp
theorem aRy (b:Bool)(a:Nat):dU (sgn b a)=niV (b&&decide (a≠0)) (aK a):=by
 unfold dU sgn;cases b
 ·rw[if_neg (by simp),Int.natAbs_natCast,decide_eq_false (by omega)];rfl
 ·rw[if_pos rfl,Int.natAbs_neg,Int.natAbs_natCast]
  congr 1
  rw[Bool.true_and];exact decide_eq_decide.2 (by omega)
theorem aWn:Pure PP 230 [] (niV false ⟨#[48]⟩):=by
 refine aG mixed tok [] Tryz.func230 rfl rfl (lbl rfl) rfl fun c hc hR=>?_
 refine zN hc ?_;cbv;exact aD hc hR rfl rfl
theorem vM (b:Bool)(a:Nat):Pure PP 232 [.bool b,.string (aK a)] (dU (sgn b a)):=by
 obtain⟨r,hr⟩:=nm (dU (sgn b a));obtain⟨s,hs⟩:=nm (aK a);rw[←hr,←hs];have hr:=hr.trans (aRy b a)
 rw[←hs]at hr;have h0:=aR6 hs
 refine aG mixed tok [.b (.v b),.s (.v s)] Tryz.func232 rfl rfl (lbl rfl) rfl fun c hc hR=>?_
 refine zN hc ?_;cbv;refine bT hc 6 rfl rfl 100 (fun h=>?_) (fun h=>?_)
 ·have h:b=true:=h
  subst h;cbv;exact aD hc hR rfl (by rw[hr,←h0];rfl)
 ·have h:b=false:=h
  subst h;cbv;exact aD hc hR rfl (by rw[hr];rfl)
theorem aHo {z:Int}(hs:dl z.natAbs≤2^60):Pure PP 215 [dU z] (.string (aU z)):=by
 have hz:aU z=if decide (z<0)=true then⟨#[45]⟩++aK z.natAbs else aK z.natAbs:=by
  apply jH;rw[cQ];unfold Lib.itoa;split
  ·rename_i h;rw[decide_eq_true h,if_pos rfl,fJ,cM];rfl
  ·rename_i h;rw[decide_eq_false h,if_neg (by simp),cM];congr 1;omega
 obtain⟨r,hr⟩:=nm (aU z);rw[←hr]at hz ⊢;have hsz:(aK z.natAbs).size≤2^60:=by rw[eR];exact hs
 unfold dU;generalize decide (z<0)=b at hz ⊢;generalize aK z.natAbs=s at hz hsz ⊢;have o1:(Obl.cat (.v ⟨#[45]⟩) (.v s)).ok:=by show((1+s.size:Nat):Int)≤_;omega
 refine aG mixed tok [.g [.b (.v b),.s (.v s)]] Tryz.func215 rfl rfl (lbl rfl) rfl fun c hc hR=>?_
 refine zN hc ?_;cbv;refine aE hc rfl 100 (fun h=>?_) (fun h=>?_)
 ·have h:b=true:=h
  subst h;rw[if_pos rfl]at hz;cbv;refine aQ hc ⟨o1,trivial⟩ ?_;exact aD hc hR rfl (by rw[hz];rfl)
 ·have h:b=false:=h
  subst h;rw[if_neg (by simp)]at hz;cbv;exact aD hc hR rfl (by rw[hz];rfl)
theorem aVw (z:Int):sgn (!decide (z<0)) z.natAbs=-z:=by
 unfold sgn
 by_cases h:z<0
 ·rw[decide_eq_true h,Bool.not_true,if_neg (by simp)];omega
 ·rw[decide_eq_false h,Bool.not_false,if_pos rfl];omega
theorem aS3 (z:Int):sgn (decide (z<0)) z.natAbs=z:=by
 unfold sgn
 by_cases h:z<0
 ·rw[decide_eq_true h,if_pos rfl];omega
 ·rw[decide_eq_false h,if_neg (by simp)];omega
theorem bCl (z:Int):Pure PP 217 [dU z] (dU (-z)):=by
 have h1:=vM (!decide (z<0)) z.natAbs
 rw[aVw]at h1;obtain⟨r,hr⟩:=nm (dU (-z));rw[←hr]at h1 ⊢;unfold dU at hr ⊢;generalize decide (z<0)=b at h1 ⊢;generalize aK z.natAbs=s at h1 ⊢;generalize decide (-z<0)=b' at hr;generalize aK (-z).natAbs=s' at hr;subst hr;refine aG mixed tok [.g [.b (.v b),.s (.v s)]] Tryz.func217 rfl rfl (lbl rfl) rfl fun c hc hR=>?_
 refine zN hc ?_;cbv;refine zC hc (.g [.b (.v b'),.s (.v s')]) h1 jJ ?_;cbv;exact aD hc hR rfl rfl
theorem aWm (z:Int):Pure PP 218 [dU z] (.int .i64 (bS z 0)):=by
 obtain⟨r,hr⟩:=nm (bS z 0);rw[←hr];have h0:=bAa (s:=aK z.natAbs) rfl
 unfold dU;obtain⟨b,hb⟩:=nm (decide (z<0));obtain⟨s,hs⟩:=nm (aK z.natAbs);rw[←hs]at h0;rw[←hb,←hs];refine aG mixed tok [.g [.b (.v b),.s (.v s)]] Tryz.func218 rfl rfl (lbl rfl) rfl fun c hc hR=>?_
 refine zN hc ?_;cbv;refine zD hc (.g [.b (.l false),.s (.v ⟨#[48]⟩)]) aWn aLm ?_;cbv;have ec:(BE.and (BE.beq (.v b) (.l false)) (BE.seq (.v s) (.v ⟨#[48]⟩))).den=decide (z=0):=by
  show((b==false)&&(BE.seq (.v s) (.v ⟨#[48]⟩)).den)=_
  rw[h0,hb]
  by_cases hz:z=0
  ·subst hz;rfl
  ·rw[decide_eq_false hz,decide_eq_false (by omega:¬z.natAbs=0),Bool.and_false]
 refine zE hc ?_;cbv;refine aE hc rfl 100 (fun h=>?_) (fun h=>?_)
 ·have hz:=of_decide_eq_true (ec.symm.trans h)
  have hr:r=0:=by rw[hr,hz];rfl
  subst hr;cbv;exact aD hc hR rfl rfl
 ·have hz:=of_decide_eq_false (ec.symm.trans h)
  cbv;refine aE hc rfl 100 (fun h=>?_) (fun h=>?_)
  ·have h:b=true:=h
   have hr:r=-1:=by rw[hb]at h;have h:=of_decide_eq_true h;rw[hr];unfold bS;rw[if_pos h]
   subst hr;cbv;exact aD hc hR rfl rfl
  ·have h:b=false:=h
   have hr:r=1:=by rw[hb]at h;have h:=of_decide_eq_false h;rw[hr];unfold bS;rw[if_neg h,if_pos (by omega)]
   subst hr;cbv;exact aD hc hR rfl rfl
theorem bCj (b:Bool):Pure PP 235 [.bool b] (.int .i64 (if b then 1 else 0)):=by
 refine aG mixed tok [.b (.v b)] Tryz.func235 rfl rfl (lbl rfl) rfl fun c hc hR=>?_
 refine zN hc ?_;cbv;refine aE hc rfl 100 (fun h=>?_) (fun h=>?_)
 ·have h:b=true:=h
  subst h;cbv;exact aD hc hR rfl rfl
 ·have h:b=false:=h
  subst h;cbv;exact aD hc hR rfl rfl
theorem aPt:aB PP 233:=zK
theorem aLj:aB PP 234:=zK
theorem aLk:aB PP 216:=zK
theorem aPu:aB PP 214:=zK
theorem aPz:aB PP 247:=zK
theorem aJc:aB PP 249:=zK
theorem tJ:aB PP 231:=zK
theorem aXp:aB PP 228:=zK
theorem aJb:aB PP 248:=zK
theorem aC6:aB PP 253:=zK
theorem bE3 (b:Bool){n m:Nat}(hn:dl n≤2^37)(hm:dl m≤2^37)(b':Bool):Pure PP 233 [niV b (aK n),niV b' (aK m)] (dU (sgn b (n+m))):=by
 have h1:=bCo hn hm
 have h2:=vM b (n+m)
 obtain⟨r,hr⟩:=nm (dU (sgn b (n+m)));rw[←hr]at h2 ⊢;unfold dU at hr;generalize decide (sgn b (n+m)<0)=b1 at hr;generalize aK (sgn b (n+m)).natAbs=s1 at hr;generalize aK n=s at h1 ⊢;generalize aK m=t at h1 ⊢;generalize aK (n+m)=u at h1 h2;subst hr;refine aG mixed tok [.g [.b (.v b),.s (.v s)],.g [.b (.v b'),.s (.v t)]] Tryz.func233 rfl rfl (lbl rfl) rfl fun c hc hR=>?_
 refine zN hc ?_;cbv;refine zC hc (.t [.s (.v u),.i .i64 (.l 0)]) h1 aPz ?_;cbv;refine zC hc (.g [.b (.v b1),.s (.v s1)]) h2 jJ ?_;cbv;exact aD hc hR rfl rfl
theorem aZh {z y:Int}(hn:dl z.natAbs≤2^37)(hm:dl y.natAbs≤2^37):Pure PP 214 [dU z,dU y] (dU (z*y)):=by
 have h1:=aZo hn hm
 have h2:=vM (!(decide (z<0)==decide (y<0))) (z.natAbs*y.natAbs)
 have he:sgn (!(decide (z<0)==decide (y<0))) (z.natAbs*y.natAbs)=z*y:=by
  rw[←Int.natAbs_mul]
  conv=>rhs;rw[←aS3 (z*y)]
  by_cases h0:z=0∨y=0
  ·have:(z*y)=0:=by rcases h0 with h | h<;>simp[h]
   rw[this];cases (!(decide (z<0)==decide (y<0)))<;>simp[sgn]
  ·congr 1
   by_cases hz:z<0<;>by_cases hy:y<0
   ·have:=Int.mul_pos_of_neg_of_neg hz hy;simp[hz,hy];omega
   ·have:=Int.mul_neg_of_neg_of_pos hz (show 0<y by omega);simp[hz,hy];omega
   ·have:=Int.mul_neg_of_pos_of_neg (show 0<z by omega) hy;simp[hz,hy];omega
   ·have:=Int.mul_pos (show 0<z by omega) (show 0<y by omega);simp[hz,hy];omega
 rw[he]at h2;obtain⟨r,hr⟩:=nm (dU (z*y));rw[←hr]at h2 ⊢;unfold dU at hr ⊢;generalize decide (z*y<0)=b1 at hr;generalize aK (z*y).natAbs=s1 at hr;generalize aK z.natAbs=s at h1 ⊢;generalize aK y.natAbs=t at h1 ⊢;generalize aK (z.natAbs*y.natAbs)=u at h1 h2;generalize decide (z<0)=b at h2 ⊢;generalize decide (y<0)=b' at h2 ⊢;subst hr;refine aG mixed tok [.g [.b (.v b),.s (.v s)],.g [.b (.v b'),.s (.v t)]] Tryz.func214 rfl rfl (lbl rfl) rfl fun c hc hR=>?_
 refine zN hc ?_;cbv;refine zC hc (.t [.s (.v u),.i .i64 (.l 0)]) h1 tJ ?_;cbv;refine zC hc (.g [.b (.v b1),.s (.v s1)]) h2 jJ ?_;cbv;exact aD hc hR rfl rfl
def dif (b b':Bool)(n m:Nat):Int:=if n<m then sgn b' (m - n)else sgn b (n - m)
theorem bCk (b b':Bool){n m:Nat}(hn:dl n≤2^37)(hm:dl m≤2^37):Pure PP 234 [niV b (aK n),niV b' (aK m)] (dU (dif b b' n m)):=by
 have h0:=aR5 hn hm
 obtain⟨z,hz⟩:=nm (bS n m);rw[←hz]at h0;have hlt:z<0→n<m:=fun h=>aE1 hz h
 have hge:¬z<0→m≤n:=fun h=>aAp hz h
 obtain⟨r,hr⟩:=nm (dU (dif b b' n m));have h1:=fun h:z<0=>aZp (Nat.le_of_lt (hlt h)) hm hn
 have h2:=fun h:¬z<0=>aZp (hge h) hn hm
 have w1:z<0→Pure PP 232 [.bool b',.string (aK (m - n))] r:=fun h=>by rw[hr];unfold dif;rw[if_pos (hlt h)];exact vM _ _
 have w2:¬z<0→Pure PP 232 [.bool b,.string (aK (n - m))] r:=fun h=>by rw[hr];unfold dif;rw[if_neg (by have:=hge h;omega)];exact vM _ _
 rw[←hr];unfold dU at hr;generalize decide (dif b b' n m<0)=b1 at hr;generalize aK (dif b b' n m).natAbs=s1 at hr;generalize aK n=s at h0 h1 h2 ⊢;generalize aK m=t at h0 h1 h2 ⊢;generalize aK (m - n)=u1 at h1 w1;generalize aK (n - m)=u2 at h2 w2;subst hr;refine aG mixed tok [.g [.b (.v b),.s (.v s)],.g [.b (.v b'),.s (.v t)]] Tryz.func234 rfl rfl (lbl rfl) rfl fun c hc hR=>?_
 refine zN hc ?_;cbv;refine zC hc (.t [.i .i64 (.v z),.i .i64 (.l 0)]) h0 aJb ?_;cbv;refine aE hc rfl 100 (fun h=>?_) (fun h=>?_)
 ·have h:z<0:=BE.lt_t h
  cbv;refine zC hc (.t [.s (.v u1),.i .i64 (.l 0)]) (h1 h) aJc ?_;cbv;refine zC hc (.g [.b (.v b1),.s (.v s1)]) (w1 h) jJ ?_;cbv;exact aD hc hR rfl rfl
 ·have h:¬z<0:=BE.lt_f h
  cbv;refine zC hc (.t [.s (.v u2),.i .i64 (.l 0)]) (h2 h) aJc ?_;cbv;refine zC hc (.g [.b (.v b1),.s (.v s1)]) (w2 h) jJ ?_;cbv;exact aD hc hR rfl rfl
theorem aOj {z y:Int}(h:decide (z<0)=decide (y<0)):sgn (decide (z<0)) (z.natAbs+y.natAbs)=z+y:=by
 have hh:=decide_eq_decide.1 h
 unfold sgn
 by_cases hz:z<0
 ·have:=hh.1 hz;rw[if_pos (decide_eq_true hz)];omega
 ·have:¬y<0:=fun h=>hz (hh.2 h);rw[if_neg (by simpa using hz)];omega
theorem aKi {z y:Int}(h:decide (z<0)≠decide (y<0)):dif (decide (z<0)) (decide (y<0)) z.natAbs y.natAbs=z+y:=by
 unfold dif sgn
 by_cases hz:z<0<;>by_cases hy:y<0
 ·exact absurd ((decide_eq_true hz).trans (decide_eq_true hy).symm) h
 ·rw[decide_eq_true hz,decide_eq_false hy];simp only[if_true,if_false,Bool.false_eq_true];split<;>omega
 ·rw[decide_eq_false hz,decide_eq_true hy];simp only[if_true,if_false,Bool.false_eq_true];split<;>omega
 ·exact absurd ((decide_eq_false hz).trans (decide_eq_false hy).symm) h
theorem aWk {z y:Int}(hn:dl z.natAbs≤2^37)(hm:dl y.natAbs≤2^37):Pure PP 216 [dU z,dU y] (dU (z+y)):=by
 have h1:=bE3 (decide (z<0)) hn hm (decide (y<0))
 have h2:=bCk (decide (z<0)) (decide (y<0)) hn hm
 have e1:decide (z<0)=decide (y<0)→sgn (decide (z<0)) (z.natAbs+y.natAbs)=z+y:=aOj
 have e2:decide (z<0)≠decide (y<0)→dif (decide (z<0)) (decide (y<0)) z.natAbs y.natAbs=z+y:=aKi
 obtain⟨r,hr⟩:=nm (dU (z+y));have h1:decide (z<0)=decide (y<0)→Pure PP 233 [dU z,dU y] r:=fun h=>by rw[hr,←e1 h];exact h1
 have h2:decide (z<0)≠decide (y<0)→Pure PP 234 [dU z,dU y] r:=fun h=>by rw[hr,←e2 h];exact h2
 clear e1 e2;rw[←hr];unfold dU at hr h1 h2 ⊢;generalize decide (z+y<0)=b1 at hr;generalize aK (z+y).natAbs=s1 at hr;generalize aK z.natAbs=s at h1 h2 ⊢;generalize aK y.natAbs=t at h1 h2 ⊢;generalize decide (z<0)=b at h1 h2 ⊢;generalize decide (y<0)=b' at h1 h2 ⊢;subst hr;have hb:=bCj b
 have hb':=bCj b'
 cases b<;>cases b'
 ·have h:=h1 rfl
  refine aG mixed tok [.g [.b (.l false),.s (.v s)],.g [.b (.l false),.s (.v t)]] Tryz.func216 rfl rfl (lbl rfl) rfl fun c hc hR=>?_
  refine zN hc ?_;cbv;refine zD hc (.i .i64 (.l 0)) hb qS ?_;cbv;refine zD hc (.i .i64 (.l 0)) hb' qS ?_;cbv;refine dX hc (.g [.b (.v b1),.s (.v s1)]) h aPt rfl rfl 100 ?_;cbv;refine zE hc ?_;cbv;exact aD hc hR rfl rfl
 ·have h:=h2 (by decide)
  refine aG mixed tok [.g [.b (.l false),.s (.v s)],.g [.b (.l true),.s (.v t)]] Tryz.func216 rfl rfl (lbl rfl) rfl fun c hc hR=>?_
  refine zN hc ?_;cbv;refine zD hc (.i .i64 (.l 0)) hb qS ?_;cbv;refine zD hc (.i .i64 (.l 1)) hb' qS ?_;cbv;refine zD hc (.g [.b (.v b1),.s (.v s1)]) h aLj ?_;cbv;refine zE hc ?_;cbv;exact aD hc hR rfl rfl
 ·have h:=h2 (by decide)
  refine aG mixed tok [.g [.b (.l true),.s (.v s)],.g [.b (.l false),.s (.v t)]] Tryz.func216 rfl rfl (lbl rfl) rfl fun c hc hR=>?_
  refine zN hc ?_;cbv;refine zD hc (.i .i64 (.l 1)) hb qS ?_;cbv;refine zD hc (.i .i64 (.l 0)) hb' qS ?_;cbv;refine zD hc (.g [.b (.v b1),.s (.v s1)]) h aLj ?_;cbv;refine zE hc ?_;cbv;exact aD hc hR rfl rfl
 ·have h:=h1 rfl
  refine aG mixed tok [.g [.b (.l true),.s (.v s)],.g [.b (.l true),.s (.v t)]] Tryz.func216 rfl rfl (lbl rfl) rfl fun c hc hR=>?_
  refine zN hc ?_;cbv;refine zD hc (.i .i64 (.l 1)) hb qS ?_;cbv;refine zD hc (.i .i64 (.l 1)) hb' qS ?_;cbv;refine dX hc (.g [.b (.v b1),.s (.v s1)]) h aPt rfl rfl 100 ?_;cbv;refine zE hc ?_;cbv;exact aD hc hR rfl rfl
theorem aNi:aB PP 271:=zK
theorem aEr:aB PP 226:=zK
theorem uM:aB PP 213:=zK
theorem aI9:aB PP 229:=zK
theorem aPo:aB PP 241:=zK
theorem euc {z y:Int}(hy:y≠0):(¬(z<0∧z.natAbs%y.natAbs≠0)→sgn (!(decide (z<0)==decide (y<0))) (z.natAbs/y.natAbs)=z/y∧((z.natAbs%y.natAbs:Nat):Int)=z%y)∧
  (z<0∧z.natAbs%y.natAbs≠0→sgn (!(decide (z<0)==decide (y<0))) (z.natAbs/y.natAbs+1)=z/y∧((y.natAbs - z.natAbs%y.natAbs:Nat):Int)=z%y):=by
 have hn:0<y.natAbs:=Int.natAbs_pos.2 hy
 have h1:=Nat.div_add_mod z.natAbs y.natAbs
 have h2:=Nat.mod_lt z.natAbs hn
 obtain⟨q,hq⟩:=nm (z.natAbs/y.natAbs);obtain⟨r,hr⟩:=nm (z.natAbs%y.natAbs);rw[←hq,←hr]at h1;rw[←hr]at h2;rw[←hq,←hr];have hp:((y.natAbs*q+r:Nat):Int)=z.natAbs:=by rw[h1]
 rw[Int.natCast_add,Int.natCast_mul]at hp;have uniq:∀a b:Int,0≤b→b<y.natAbs→z=y*a+b→a=z/y∧b=z%y:=by
  intro a b hb0 hb1 he;have e1:z/y=a:=by
   rw[he,Int.add_comm,Int.add_mul_ediv_left _ _ hy];have:b/y=0:=by
    rcases Int.lt_or_gt_of_ne hy with h | h
    ·have:=Int.ediv_eq_zero_of_lt hb0 (show b< -y by omega)
     rw[Int.ediv_neg]at this;omega
    ·exact Int.ediv_eq_zero_of_lt hb0 (by omega)
   omega
  refine⟨e1.symm,?_⟩;have:=Int.mul_ediv_add_emod z y
  rw[e1]at this;omega
 constructor
 ·intro hc;refine uniq _ _ (by omega) (by omega) ?_;unfold sgn
  by_cases hz:z<0<;>by_cases hy0:y<0
  ·rw[decide_eq_true hz,decide_eq_true hy0];simp;have hr0:r=0:=Classical.byContradiction fun e=>hc ⟨hz,e⟩
   have e1:(y.natAbs:Int)=-y:=by omega
   have e2:(z.natAbs:Int)=-z:=by omega
   rw[e1,e2,Int.neg_mul]at hp;omega
  ·rw[decide_eq_true hz,decide_eq_false hy0];simp;have hr0:r=0:=Classical.byContradiction fun e=>hc ⟨hz,e⟩
   have e1:(y.natAbs:Int)=y:=by omega
   have e2:(z.natAbs:Int)=-z:=by omega
   rw[e1,e2]at hp;rw[Int.mul_neg];omega
  ·rw[decide_eq_false hz,decide_eq_true hy0];simp;have e1:(y.natAbs:Int)=-y:=by omega
   have e2:(z.natAbs:Int)=z:=by omega
   rw[e1,e2,Int.neg_mul]at hp;rw[Int.mul_neg];omega
  ·rw[decide_eq_false hz,decide_eq_false hy0];simp;have e1:(y.natAbs:Int)=y:=by omega
   have e2:(z.natAbs:Int)=z:=by omega
   rw[e1,e2]at hp;omega
 ·rintro ⟨hz,hr0⟩;refine uniq _ _ (by omega) (by omega) ?_;have e2:(z.natAbs:Int)=-z:=by omega
  have e3:((q+1:Nat):Int)=(q:Int)+1:=by omega
  unfold sgn
  by_cases hy0:y<0
  ·rw[decide_eq_true hz,decide_eq_true hy0];simp;have e1:(y.natAbs:Int)=-y:=by omega
   rw[e1,e2,Int.neg_mul]at hp;rw[Int.mul_add];omega
  ·rw[decide_eq_true hz,decide_eq_false hy0];simp;have e1:(y.natAbs:Int)=y:=by omega
   rw[e1,e2]at hp;rw[Int.mul_neg,Int.mul_add];omega
theorem aIy:aK 1=⟨#[49]⟩:=by unfold aK;rw[aUm]
theorem aQs:dl 1≤2^37:=lTr (rC (k:=1) (by decide) (by decide)) (by decide)
theorem aU3 {z y:Int}(hy:y≠0)(hn:dl z.natAbs≤2^36)(hm:dl y.natAbs≤2^36):Pure PP 271 [dU z,dU y] (.tuple #[dU (z/y),dU (z%y)]):=by
 have hy0:0<y.natAbs:=Int.natAbs_pos.2 hy
 obtain⟨q,hq⟩:=nm (z.natAbs/y.natAbs);obtain⟨r,hr⟩:=nm (z.natAbs%y.natAbs);have hql:dl q≤2^36:=lTr (sC (by rw[hq];exact Nat.div_le_self _ _)) hn
 have hrl:dl r≤2^36:=lTr (sC (by rw[hr];exact Nat.mod_le _ _)) hn
 have hry:r≤y.natAbs:=by rw[hr];exact Nat.le_of_lt (Nat.mod_lt _ hy0)
 have h1:=aMn hy0 (lTr hn (by decide)) (lTr hm (by decide))
 have h2:Pure PP 247 [.string (aK q),.string ⟨#[49]⟩] (.tuple #[.string (aK (q+1)),.int .i64 0]):=by
  have:=bCo (n:=q) (m:=1) (lTr hql (by decide)) aQs
  rwa [aIy]at this
 have h3:=aZp hry (lTr hm (by decide)) (lTr hrl (by decide))
 have e:=euc (z:=z) hy
 rw[←hq,←hr]at e h1;obtain⟨R1,hR1⟩:∃R,R=dU (z/y):=⟨_,rfl⟩;obtain⟨R2,hR2⟩:∃R,R=dU (z%y):=⟨_,rfl⟩;have w1:¬(z<0∧r≠0)→Pure PP 232 [.bool (!(decide (z<0)==decide (y<0))),.string (aK q)] R1∧Pure PP 232 [.bool false,.string (aK r)] R2:=fun h=>by
  rw[hR1,hR2,←(e.1 h).1,←(e.1 h).2];exact⟨vM _ _,vM false r⟩
 have w2:z<0∧r≠0→Pure PP 232 [.bool (!(decide (z<0)==decide (y<0))),.string (aK (q+1))] R1∧Pure PP 232 [.bool false,.string (aK (y.natAbs - r))] R2:=fun h=>by
  rw[hR1,hR2,←(e.2 h).1,←(e.2 h).2];exact⟨vM _ _,vM false _⟩
 rw[←hR1,←hR2];have n0:=aR6 (s:=aK r) rfl
 unfold dU at hR1 hR2 ⊢;obtain⟨b,hb⟩:=nm (decide (z<0));rw[←hb]at w1 w2 ⊢;have w1:¬(b=true∧r≠0)→_:=fun h=>w1 (fun h'=>h ⟨by rw[hb];exact decide_eq_true h'.1,h'.2⟩)
 have w2:b=true∧r≠0→_:=fun h=>w2 ⟨of_decide_eq_true (by rw[←hb];exact h.1),h.2⟩
 clear hb e;generalize decide (y<0)=b' at w1 w2 ⊢;generalize decide (z/y<0)=b1 at hR1;generalize aK (z/y).natAbs=s1 at hR1;generalize decide (z%y<0)=b2 at hR2;generalize aK (z%y).natAbs=s2 at hR2;generalize aK z.natAbs=s at h1 ⊢;generalize aK y.natAbs=t at h1 h3 ⊢;generalize aK (q+1)=tq1 at h2 w2;generalize aK (y.natAbs - r)=tr1 at h3 w2;generalize aK q=tq at h1 h2 w1;generalize aK r=tr at h1 h3 w1 n0;subst hR1;subst hR2;refine aG mixed tok [.g [.b (.v b),.s (.v s)],.g [.b (.v b'),.s (.v t)]] Tryz.func271 rfl rfl (lbl rfl) rfl fun c hc hR=>?_
 refine zN hc ?_;cbv;refine zC hc (.t [.s (.v tq),.s (.v tr),.i .i64 (.l 0)]) h1 aC6 ?_;cbv;have fin1:¬(b=true∧r≠0)→_:=w1
 refine bT hc 20 rfl rfl 100 (fun h=>?_) (fun h=>?_)
 ·have hb:b=true:=h
  cbv;refine aE hc rfl 100 (fun h=>?_) (fun h=>?_)
  ·have hr0:r≠0:=of_decide_eq_true (n0.symm.trans h)
   obtain⟨k1,k2⟩:=w2 ⟨hb,hr0⟩;cbv;refine zC hc (.t [.s (.v tq1),.i .i64 (.l 0)]) h2 aPz ?_;cbv;refine zC hc (.t [.s (.v tr1),.i .i64 (.l 0)]) h3 aJc ?_;cbv;refine zC hc (.g [.b (.v b1),.s (.v s1)]) k1 jJ ?_;cbv;refine zC hc (.g [.b (.v b2),.s (.v s2)]) k2 jJ ?_;cbv;exact aD hc hR rfl rfl
  ·have hr0:¬r≠0:=of_decide_eq_false (n0.symm.trans h)
   obtain⟨k1,k2⟩:=w1 (fun h=>hr0 h.2);cbv;refine zC hc (.g [.b (.v b1),.s (.v s1)]) k1 jJ ?_;cbv;refine zC hc (.g [.b (.v b2),.s (.v s2)]) k2 jJ ?_;cbv;exact aD hc hR rfl rfl
 ·have hb:b=false:=h
  obtain⟨k1,k2⟩:=w1 (fun h=>by rw[hb]at h;cases h.1);cbv;refine zC hc (.g [.b (.v b1),.s (.v s1)]) k1 jJ ?_;cbv;refine zC hc (.g [.b (.v b2),.s (.v s2)]) k2 jJ ?_;cbv;exact aD hc hR rfl rfl
def vL (l:List UInt8):Bool:=Lib.hasPrefix l [45]
def qN (l:List UInt8):List UInt8:=Lib.trimPrefix l [45]
theorem bA2 (s:ByteArray):Pure PP 241 [.string s,.string ⟨#[45]⟩] (.tuple #[.string ⟨(qN s.data.toList).toArray⟩,.bool (vL s.data.toList)]):=by
 intro w _;refine Calls.mono (Tryz.strings_CutPrefix s ⟨#[45]⟩ w) ?_;rintro e w' ⟨rfl,rfl⟩;exact⟨rfl,RowKit.Below.refl _ _⟩
theorem aRx (l:List UInt8):(qN l).length≤l.length:=by
 unfold qN Lib.trimPrefix;split
 ·simp
 ·exact lRf _
theorem aOq (l:List UInt8):(vX l).isSome=(isNat (qN l)&& !(vL l&&decide (qN l=[48]))):=by
 cases l with
 | nil=>rfl
 | cons c t=>
  by_cases hc:c=45
  ·subst hc;have e1:vL (45::t)=true:=by simp[vL,Lib.hasPrefix]
   have e2:qN (45::t)=t:=by unfold qN Lib.trimPrefix;rw[show Lib.hasPrefix (45::t) [45]=true from e1];rfl
   rw[e1,e2];simp only[vX]
   by_cases h1:isNat t=true<;>by_cases h2:t=[48]<;>simp[h1,h2]
  ·have e1:vL (c::t)=false:=by
    unfold vL Lib.hasPrefix;simp only[List.isPrefixOf,Bool.and_true,beq_eq_false_iff_ne];exact fun h=>hc (Eq.symm h)
   have e2:qN (c::t)=c::t:=by unfold qN Lib.trimPrefix;rw[show Lib.hasPrefix (c::t) [45]=false from e1];rfl
   rw[e1,e2,zY (fun u e=>by injection e with e _;exact hc e)]
   by_cases h1:isNat (c::t)=true<;>simp[h1]
theorem aKv {s t:ByteArray}:(BE.seq (.v s) (.v t)).den=decide (s.data.toList=t.data.toList):=by
 rw[nW];simp only[SE.den]
 by_cases h:s.data.toList=t.data.toList
 ·rw[decide_eq_true h,h];simp
 ·rw[decide_eq_false h,beq_eq_false_iff_ne];exact h
theorem aWl (s:ByteArray)(hs:s.size≤2^60):Pure PP 226 [.string s] (.tuple #[niV (vL s.data.toList) ⟨(qN s.data.toList).toArray⟩,.bool (vX s.data.toList).isSome]):=by
 have h1:=bA2 s
 have h2:=aKd ⟨(qN s.data.toList).toArray⟩ (by
  show(qN s.data.toList).toArray.size≤_
  rw[List.size_toArray];exact lTr (aRx _) hs)
 have hl:=aOq s.data.toList
 obtain⟨ok,hok⟩:=nm ((vX s.data.toList).isSome);rw[←hok]at hl ⊢;obtain⟨a,ha⟩:∃a:ByteArray,a=⟨(qN s.data.toList).toArray⟩:=⟨_,rfl⟩;have hal:qN s.data.toList=a.data.toList:=by rw[ha]
 obtain⟨va,hva⟩:∃v,v=isNat a.data.toList:=⟨_,rfl⟩;obtain⟨b,hb⟩:=nm (vL s.data.toList);rw[←ha,←hva]at h2;rw[hal,←hva,←hb]at hl;rw[←ha,←hb]at h1 ⊢;have e48:(BE.seq (.v a) (.v ⟨#[48]⟩)).den=decide (a.data.toList=[48]):=aKv
 refine aG mixed tok [.s (.v s)] Tryz.func226 rfl rfl (lbl rfl) rfl fun c hc hR=>?_
 refine zN hc ?_;cbv;refine fX hc (.t [.s (.v a),.b (.v b)]) h1 aPo rfl rfl 14 ?_;cbv;obtain⟨G,hG⟩:∃G:Nat→List AV→OF,∀b l,G b l=OF.cells b 273 l:=⟨fun b l=>OF.cells b _ l,fun _ _=>rfl⟩;refine aSn 2 0 hG (l:=[(4,.s (.v a)),(6,.p 1 0)]) (K':=[]) rfl rfl rfl ⟨⟨_,rfl,rfl,fun _=>rfl⟩,⟨_,rfl,rfl,fun _=>rfl⟩,trivial⟩ rfl rfl trivial trivial (fun bk=>?_);refine zN hc ?_;cbv;refine zD hc (.b (.v va)) h2 qU ?_;cbv;refine bT hc 18 rfl rfl 100 (fun h=>?_) (fun h=>?_)
 ·have h:va=true:=h
  have hok:ok=(BE.not (BE.and (BE.beq (.v b) (.l true)) (BE.seq (.v a) (.v ⟨#[48]⟩)))).den:=by
   show ok= !((b==true)&&(BE.seq (.v a) (.v ⟨#[48]⟩)).den)
   rw[e48,hl,h];cases b<;>simp
  cbv;refine sL hc _ hG [] rfl rfl rfl rfl rfl rfl rfl rfl rfl rfl rfl rfl 100 ?_;cbv;refine zE hc ?_;cbv;refine aAc 2 hG rfl rfl rfl ?_;cbv;exact aD hc hR rfl (by rw[hok];rfl)
 ·have h:va=false:=h
  have hok:ok=false:=by rw[hl,h];rfl
  subst hok;cbv;refine sL hc _ hG [] rfl rfl rfl rfl rfl rfl rfl rfl rfl rfl rfl rfl 100 ?_;cbv;refine zE hc ?_;cbv;refine aAc 2 hG rfl rfl rfl ?_;cbv;exact aD hc hR rfl rfl
theorem pM (z:Int):vL (Lib.itoa z)=decide (z<0)∧qN (Lib.itoa z)=Lib.decDigits z.natAbs:=by
 unfold Lib.itoa
 by_cases h:z<0
 ·rw[if_pos h,decide_eq_true h];have e1:vL (45::Lib.decDigits z.natAbs)=true:=by simp[vL,Lib.hasPrefix]
  exact⟨e1,by unfold qN Lib.trimPrefix;rw[show Lib.hasPrefix (45::Lib.decDigits z.natAbs) [45]=true from e1];rfl⟩
 ·rw[if_neg h,decide_eq_false h,show z.toNat=z.natAbs by omega];have e1:vL (Lib.decDigits z.natAbs)=false:=by
   obtain⟨c,t,h1,h2⟩:=aAx z.natAbs;rw[h1];unfold vL Lib.hasPrefix;simp only[List.isPrefixOf,Bool.and_true,beq_eq_false_iff_ne];exact fun h=>(aJ5 h2).1 (Eq.symm h)
  exact⟨e1,by unfold qN Lib.trimPrefix;rw[show Lib.hasPrefix (Lib.decDigits z.natAbs) [45]=false from e1];rfl⟩
theorem kV (z:Int):(aU z).size≤dl z.natAbs+1:=by
 show(Lib.itoa z).toArray.size≤_
 rw[List.size_toArray];exact yO z
theorem aDt {z:Int}(hz:dl z.natAbs≤2^59):Pure PP 226 [.string (aU z)] (.tuple #[dU z,.bool true]):=by
 have h:=aWl (aU z) (lTr (kV z) (by omega))
 rw[cQ,oQ,(pM z).1,(pM z).2]at h;exact h
theorem aHk {z y:Int}(hz:dl z.natAbs≤2^59)(hy:dl y.natAbs≤2^59):Pure PP 213 [.string (aU z),.string (aU y)] (.tuple #[dU z,dU y,.int .i64 0]):=by
 have h1:=aDt hz
 have h2:=aDt hy
 unfold dU at h1 h2 ⊢;generalize aU z=sz at h1 ⊢;generalize aU y=sy at h2 ⊢;generalize aK z.natAbs=s at h1 ⊢;generalize aK y.natAbs=t at h2 ⊢;generalize decide (z<0)=b at h1 ⊢;generalize decide (y<0)=b' at h2 ⊢;refine aG mixed tok [.s (.v sz),.s (.v sy)] Tryz.func213 rfl rfl (lbl rfl) rfl fun c hc hR=>?_
 refine zN hc ?_;cbv;refine zC hc (.t [.g [.b (.v b),.s (.v s)],.b (.l true)]) h1 aEr ?_;cbv;refine fX hc (.t [.g [.b (.v b'),.s (.v t)],.b (.l true)]) h2 aEr rfl rfl 1 ?_;cbv;refine aWy hc 100 ?_;cbv;obtain⟨G,hG⟩:∃G:Nat→List AV→OF,∀b l,G b l=OF.cells b 273 l:=⟨fun b l=>OF.cells b _ l,fun _ _=>rfl⟩;refine aSn 4 0 hG (l:=[(5,.p 1 0),(7,.p 2 0),(9,.p 3 0)]) (K':=[]) rfl rfl rfl ⟨⟨_,rfl,rfl,fun _=>rfl⟩,⟨_,rfl,rfl,fun _=>rfl⟩,⟨_,rfl,rfl,fun _=>rfl⟩,trivial⟩ rfl rfl trivial trivial (fun bk=>?_);refine zN hc ?_;cbv;refine sL hc _ hG [] rfl rfl rfl rfl rfl rfl rfl rfl rfl rfl rfl rfl 100 ?_;cbv;refine zE hc ?_;cbv;refine aAc 4 hG rfl rfl rfl ?_;cbv;exact aD hc hR rfl rfl
theorem aZf {z:Int}(hz:dl z.natAbs≤2^59):Pure PP 229 [.string (aU z)] (.tuple #[dU z,.int .i64 0]):=by
 have h1:=aHk hz (y:=0) (by rw[show(0:Int).natAbs=0 from rfl,aL8,Lib.nDigits_small (by decide)];decide)
 have e0:aU 0=⟨#[48]⟩:=by unfold aU Lib.itoa;rw[if_neg (by decide)];exact congrArg (fun l:List UInt8=>(⟨l.toArray⟩:ByteArray)) aJp
 have e1:dU 0=niV false ⟨#[48]⟩:=by unfold dU;rw[show(0:Int).natAbs=0 from rfl,bAg];rfl
 rw[e0,e1]at h1;unfold dU at h1 ⊢;generalize aU z=sz at h1 ⊢;generalize aK z.natAbs=s at h1 ⊢;generalize decide (z<0)=b at h1 ⊢;refine aG mixed tok [.s (.v sz)] Tryz.func229 rfl rfl (lbl rfl) rfl fun c hc hR=>?_
 refine zN hc ?_;cbv;refine zC hc (.t [.g [.b (.v b),.s (.v s)],.g [.b (.l false),.s (.v ⟨#[48]⟩)],.i .i64 (.l 0)]) h1 uM ?_;cbv;exact aD hc hR rfl rfl
theorem qQ:aB PP 204:=zK
theorem aT6:aB PP 212:=zK
theorem aXi:aB PP 227:=zK
theorem aXj:aB PP 240:=zK
theorem aI8:aB PP 200:=zK
theorem aI7:aB PP 238:=zK
theorem mB:aB PP 199:=zK
theorem aNh:aB PP 252:=zK
theorem aZe (s:ByteArray)(hs:s.size≤2^60):Pure PP 204 [.string s] (.bool (vX s.data.toList).isSome):=by
 have h:=aWl s hs
 generalize (vX s.data.toList).isSome=ok at h ⊢;generalize (⟨(qN s.data.toList).toArray⟩:ByteArray)=a at h;generalize vL s.data.toList=b at h;refine aG mixed tok [.s (.v s)] Tryz.func204 rfl rfl (lbl rfl) rfl fun c hc hR=>?_
 refine zN hc ?_;cbv;refine zC hc (.t [.g [.b (.v b),.s (.v a)],.b (.v ok)]) h aEr ?_;cbv;exact aD hc hR rfl rfl
theorem bCi {z:Int}(hz:dl z.natAbs≤2^59):Pure PP 212 [.string (aU z)] (.tuple #[.int .i64 (bS z 0),.int .i64 0]):=by
 have h:=aZf hz
 have h2:=aWm z
 unfold dU at h h2;generalize bS z 0=r at h2 ⊢;generalize aU z=sz at h ⊢;generalize aK z.natAbs=s at h h2;generalize decide (z<0)=b at h h2;refine aG mixed tok [.s (.v sz)] Tryz.func212 rfl rfl (lbl rfl) rfl fun c hc hR=>?_
 refine zN hc ?_;cbv;refine zC hc (.t [.g [.b (.v b),.s (.v s)],.i .i64 (.l 0)]) h aI9 ?_;cbv;refine zC hc (.i .i64 (.v r)) h2 aLl ?_;cbv;exact aD hc hR rfl rfl
theorem bE0 {z:Int}(hz:dl z.natAbs≤2^59):Pure PP 227 [.string (aU z)] (.tuple #[.string (aK z.natAbs),.int .i64 0]):=by
 have h:=aZf hz
 unfold dU at h;generalize aU z=sz at h ⊢;generalize aK z.natAbs=s at h ⊢;generalize decide (z<0)=b at h;refine aG mixed tok [.s (.v sz)] Tryz.func227 rfl rfl (lbl rfl) rfl fun c hc hR=>?_
 refine zN hc ?_;cbv;refine zC hc (.t [.g [.b (.v b),.s (.v s)],.i .i64 (.l 0)]) h aI9 ?_;cbv;exact aD hc hR rfl rfl
theorem bE2 {z:Int}(hz:dl z.natAbs≤2^59):Pure PP 240 [.string (aU z)] (.tuple #[.string (aU (-z)),.int .i64 0]):=by
 have h:=aZf hz
 have h2:=bCl z
 have h3:=aHo (z:=-z) (by rw[Int.natAbs_neg];exact lTr hz (by decide))
 unfold dU at h h2 h3;generalize aU z=sz at h ⊢;generalize aU (-z)=sr at h3 ⊢;generalize aK z.natAbs=s at h h2;generalize decide (z<0)=b at h h2;generalize aK (-z).natAbs=s' at h2 h3;generalize decide (-z<0)=b' at h2 h3;refine aG mixed tok [.s (.v sz)] Tryz.func240 rfl rfl (lbl rfl) rfl fun c hc hR=>?_
 refine zN hc ?_;cbv;refine zC hc (.t [.g [.b (.v b),.s (.v s)],.i .i64 (.l 0)]) h aI9 ?_;cbv;refine zC hc (.g [.b (.v b'),.s (.v s')]) h2 aPs ?_;cbv;refine zC hc (.s (.v sr)) h3 uN ?_;cbv;exact aD hc hR rfl rfl
theorem aDg (z y:Int){k:Nat}(h1:dl z.natAbs≤k)(h2:dl y.natAbs≤k):dl (z+y).natAbs≤k+1:=by
 have h3:(z+y).natAbs≤z.natAbs+y.natAbs:=Int.natAbs_add_le z y
 exact lTr (sC h3) (lTr (aQr _ _) (by omega))
theorem aUh (z y:Int):bS (z+-y) 0=bS z y:=by unfold bS;split<;>split<;>(try split)<;>(try split)<;>omega
theorem aRv {z y:Int}(hz:dl z.natAbs≤2^36)(hy:dl y.natAbs≤2^36):Pure PP 200 [.string (aU z),.string (aU y)] (.tuple #[.int .i64 (bS z y),.int .i64 0]):=by
 have h:=aHk (z:=z) (y:=y) (lTr hz (by decide)) (lTr hy (by decide))
 have h2:=bCl y
 have h3:=aWk (z:=z) (y:=-y) (lTr hz (by decide)) (by rw[Int.natAbs_neg];exact lTr hy (by decide))
 have h4:=aWm (z+-y)
 rw[aUh]at h4;unfold dU at h h2 h3 h4;generalize bS z y=r at h4 ⊢;generalize aU z=sz at h ⊢;generalize aU y=sy at h ⊢;generalize aK z.natAbs=s at h h3;generalize decide (z<0)=b at h h3;generalize aK y.natAbs=t at h h2;generalize decide (y<0)=b' at h h2;generalize aK (-y).natAbs=t2 at h2 h3;generalize decide (-y<0)=b2 at h2 h3;generalize aK (z+-y).natAbs=t3 at h3 h4;generalize decide (z+-y<0)=b3 at h3 h4;refine aG mixed tok [.s (.v sz),.s (.v sy)] Tryz.func200 rfl rfl (lbl rfl) rfl fun c hc hR=>?_
 refine zN hc ?_;cbv;refine zC hc (.t [.g [.b (.v b),.s (.v s)],.g [.b (.v b'),.s (.v t)],.i .i64 (.l 0)]) h uM ?_;cbv;refine zD hc (.g [.b (.v b2),.s (.v t2)]) h2 aPs ?_;cbv;refine zD hc (.g [.b (.v b3),.s (.v t3)]) h3 aLk ?_;cbv;refine zD hc (.i .i64 (.v r)) h4 aLl ?_;cbv;refine cP hc _ rfl rfl rfl rfl rfl 0 ?_;refine zE hc ?_;cbv;exact aD hc hR rfl rfl
theorem bE1 {z y:Int}(hz:dl z.natAbs≤2^36)(hy:dl y.natAbs≤2^36):Pure PP 238 [.string (aU z),.string (aU y)] (.tuple #[.string (aU (z+y)),.int .i64 0]):=by
 have h:=aHk (z:=z) (y:=y) (lTr hz (by decide)) (lTr hy (by decide))
 have h3:=aWk (z:=z) (y:=y) (lTr hz (by decide)) (lTr hy (by decide))
 have h4:=aHo (z:=z+y) (lTr (aDg z y hz hy) (by decide))
 unfold dU at h h3 h4;generalize aU (z+y)=r at h4 ⊢;generalize aU z=sz at h ⊢;generalize aU y=sy at h ⊢;generalize aK z.natAbs=s at h h3;generalize decide (z<0)=b at h h3;generalize aK y.natAbs=t at h h3;generalize decide (y<0)=b' at h h3;generalize aK (z+y).natAbs=t3 at h3 h4;generalize decide (z+y<0)=b3 at h3 h4;refine aG mixed tok [.s (.v sz),.s (.v sy)] Tryz.func238 rfl rfl (lbl rfl) rfl fun c hc hR=>?_
 refine zN hc ?_;cbv;refine zC hc (.t [.g [.b (.v b),.s (.v s)],.g [.b (.v b'),.s (.v t)],.i .i64 (.l 0)]) h uM ?_;cbv;refine zC hc (.g [.b (.v b3),.s (.v t3)]) h3 aLk ?_;cbv;refine zC hc (.s (.v r)) h4 uN ?_;cbv;exact aD hc hR rfl rfl
theorem aRw {z y:Int}(hz:dl z.natAbs≤2^36)(hy:dl y.natAbs≤2^36):Pure PP 199 [.string (aU z),.string (aU y)] (.tuple #[.string (aU (z*y)),.int .i64 0]):=by
 have h:=aHk (z:=z) (y:=y) (lTr hz (by decide)) (lTr hy (by decide))
 have h3:=aZh (z:=z) (y:=y) (lTr hz (by decide)) (lTr hy (by decide))
 have h4:=aHo (z:=z*y) (by rw[Int.natAbs_mul];exact lTr (pK _ _) (lTr (Nat.add_le_add hz hy) (by decide)))
 unfold dU at h h3 h4;generalize aU (z*y)=r at h4 ⊢;generalize aU z=sz at h ⊢;generalize aU y=sy at h ⊢;generalize aK z.natAbs=s at h h3;generalize decide (z<0)=b at h h3;generalize aK y.natAbs=t at h h3;generalize decide (y<0)=b' at h h3;generalize aK (z*y).natAbs=t3 at h3 h4;generalize decide (z*y<0)=b3 at h3 h4;refine aG mixed tok [.s (.v sz),.s (.v sy)] Tryz.func199 rfl rfl (lbl rfl) rfl fun c hc hR=>?_
 refine zN hc ?_;cbv;refine zC hc (.t [.g [.b (.v b),.s (.v s)],.g [.b (.v b'),.s (.v t)],.i .i64 (.l 0)]) h uM ?_;cbv;refine zC hc (.g [.b (.v b3),.s (.v t3)]) h3 aPu ?_;cbv;refine zC hc (.s (.v r)) h4 uN ?_;cbv;exact aD hc hR rfl rfl
theorem aU2 {z y:Int}(hy0:y≠0)(hz:dl z.natAbs≤2^36)(hy:dl y.natAbs≤2^36):Pure PP 252 [.string (aU z),.string (aU y)] (.tuple #[.string (aU (z/y)),.string (aU (z%y)),.int .i64 0]):=by
 have h:=aHk (z:=z) (y:=y) (lTr hz (by decide)) (lTr hy (by decide))
 have h3:=aU3 (z:=z) (y:=y) hy0 hz hy
 have b1:dl (z/y).natAbs≤2^60:=by
  have:(z/y).natAbs≤z.natAbs:=Int.natAbs_ediv_le_natAbs z y
  exact lTr (sC this) (lTr hz (by decide))
 have b2:dl (z%y).natAbs≤2^60:=by
  have h1:=Int.emod_nonneg z hy0
  have h2:=Int.emod_lt z hy0
  have:(z%y).natAbs≤y.natAbs:=by omega
  exact lTr (sC this) (lTr hy (by decide))
 have h4:=aHo b1
 have h5:=aHo b2
 unfold dU at h h3 h4 h5;generalize aU (z/y)=r1 at h4 ⊢;generalize aU (z%y)=r2 at h5 ⊢;generalize aU z=sz at h ⊢;generalize aU y=sy at h ⊢;generalize aK z.natAbs=s at h h3;generalize decide (z<0)=b at h h3;have n0:=bAa (s:=aK y.natAbs) rfl
 have hyn:y.natAbs≠0:=fun e=>hy0 (Int.natAbs_eq_zero.1 e)
 rw[decide_eq_false hyn]at n0;generalize aK y.natAbs=t at h h3 n0;generalize decide (y<0)=b' at h h3;generalize aK (z/y).natAbs=t1 at h3 h4;generalize decide (z/y<0)=b1 at h3 h4;generalize aK (z%y).natAbs=t2 at h3 h5;generalize decide (z%y<0)=b2 at h3 h5;refine aG mixed tok [.s (.v sz),.s (.v sy)] Tryz.func252 rfl rfl (lbl rfl) rfl fun c hc hR=>?_
 refine zN hc ?_;cbv;refine zC hc (.t [.g [.b (.v b),.s (.v s)],.g [.b (.v b'),.s (.v t)],.i .i64 (.l 0)]) h uM ?_;cbv;refine zD hc (.g [.b (.l false),.s (.v ⟨#[48]⟩)]) aWn aLm ?_;cbv;refine zE hc ?_;cbv;have ef:(BE.and (BE.beq (.v b') (.l false)) (BE.seq (.v t) (.v ⟨#[48]⟩))).den=false:=by
  show((b'==false)&&(BE.seq (.v t) (.v ⟨#[48]⟩)).den)=false
  rw[n0,Bool.and_false]
 refine aE hc rfl 100 (fun h=>by rw[ef]at h;cases h) (fun _=>?_);cbv;refine zC hc (.t [.g [.b (.v b1),.s (.v t1)],.g [.b (.v b2),.s (.v t2)]]) h3 aNi ?_;cbv;refine zD hc (.s (.v r1)) h4 uN ?_;cbv;refine zD hc (.s (.v r2)) h5 uN ?_;cbv;refine zE hc ?_;cbv;exact aD hc hR rfl rfl
def frV (s t:ByteArray):Value:=.agg #[.string s,.string t]
def cD (q:Rat):Value:=frV (aU q.num) (aK q.den)
theorem zG:aB PP 171:=zK
theorem aP4:aB PP 206:=zK
theorem aLs:aB PP 198:=zK
theorem aXs:aB PP 222:=zK
theorem aXr:aB PP 224:=zK
theorem wY:aB PP 239:=zK
theorem oF (q:Rat):dl q.num.natAbs≤sz q:=Nat.le_max_left _ _
theorem qB (q:Rat):dl q.den≤sz q:=Nat.le_max_right _ _
theorem aMv {q:Rat}(hq:sz q≤2^50):Pure PP 171 [cD q] (.string (aA q)):=by
 have h1:(aU q.num).size≤2^51:=lTr (kV _) (by have:=oF q;omega)
 have h2:(aK q.den).size≤2^51:=by rw[eR];have:=qB q;omega
 have e1:=aS0 (s:=aK q.den) rfl aIy.symm
 have hd:q.den=1→aA q=aU q.num:=fun h=>by unfold aA;rw[if_pos h]
 have hn:q.den≠1→aA q=(aU q.num++⟨#[47]⟩)++aK q.den:=fun h=>by unfold aA;rw[if_neg h]
 unfold cD;generalize aA q=r at hd hn ⊢;generalize aU q.num=s at h1 hd hn ⊢;generalize aK q.den=t at h2 hn e1 ⊢;have hsz:(s++(⟨#[47]⟩:ByteArray)).size=s.size+1:=by rw[ByteArray.size_append];rfl
 have o1:(Obl.cat (.v s) (.v ⟨#[47]⟩)).ok:=by show((s.size+1:Nat):Int)≤_;omega
 have o2:(Obl.cat (.cat (.v s) (.v ⟨#[47]⟩)) (.v t)).ok:=by show(((s++(⟨#[47]⟩:ByteArray)).size+t.size:Nat):Int)≤_;rw[hsz];omega
 refine aG mixed tok [.g [.s (.v s),.s (.v t)]] Tryz.func171 rfl rfl (lbl rfl) rfl fun c hc hR=>?_
 refine zN hc ?_;cbv;refine aE hc rfl 100 (fun h=>?_) (fun h=>?_)
 ·have hr:=hd (of_decide_eq_true (e1.symm.trans h))
  subst hr;cbv;exact aD hc hR rfl rfl
 ·have hr:=hn (of_decide_eq_false (e1.symm.trans h))
  cbv;refine aQ hc ⟨o1,o2,trivial⟩ ?_;exact aD hc hR rfl (by rw[hr];rfl)
theorem aH7 {p:Int}{d:Nat}(hp:dl p.natAbs≤2^37)(hd:dl d≤2^37):Pure PP 206 [.string (aU p),.string (aK d)] (.string (aK (p.natAbs.gcd d))):=by
 have h1:=bE0 (z:=p) (lTr hp (by decide))
 have h2:=bE9 hp hd
 generalize aU p=s at h1 ⊢;generalize aK d=t at h2 ⊢;generalize aK p.natAbs=a at h1 h2;generalize aK (p.natAbs.gcd d)=g at h2 ⊢;refine aG mixed tok [.s (.v s),.s (.v t)] Tryz.func206 rfl rfl (lbl rfl) rfl fun c hc hR=>?_
 refine zN hc ?_;cbv;refine zC hc (.t [.s (.v a),.i .i64 (.l 0)]) h1 aXi ?_;cbv;refine zC hc (.t [.s (.v g),.i .i64 (.l 0)]) h2 aXp ?_;cbv;exact aD hc hR rfl rfl
theorem aWx {q:Rat}(hq:sz q≤2^50):Pure PP 198 [cD q] (.int .i64 (bS q.num 0)):=by
 have h1:=bCi (z:=q.num) (lTr (oF q) (lTr hq (by decide)))
 unfold cD;generalize bS q.num 0=r at h1 ⊢;generalize aU q.num=s at h1 ⊢;generalize aK q.den=t;refine aG mixed tok [.g [.s (.v s),.s (.v t)]] Tryz.func198 rfl rfl (lbl rfl) rfl fun c hc hR=>?_
 refine zN hc ?_;cbv;refine zC hc (.t [.i .i64 (.v r),.i .i64 (.l 0)]) h1 aT6 ?_;cbv;exact aD hc hR rfl rfl
theorem bFd {q:Rat}(hq:sz q≤2^50):Pure PP 222 [cD q] (cD (-q)):=by
 have h1:=bE2 (z:=q.num) (lTr (oF q) (lTr hq (by decide)))
 have e:cD (-q)=frV (aU (-q.num)) (aK q.den):=by unfold cD;rw[Rat.neg_num,Rat.neg_den]
 rw[e];unfold cD;generalize aU (-q.num)=r at h1 ⊢;generalize aU q.num=s at h1 ⊢;generalize aK q.den=t;refine aG mixed tok [.g [.s (.v s),.s (.v t)]] Tryz.func222 rfl rfl (lbl rfl) rfl fun c hc hR=>?_
 refine zN hc ?_;cbv;refine zC hc (.t [.s (.v r),.i .i64 (.l 0)]) h1 aXj ?_;cbv;exact aD hc hR rfl rfl
theorem aIz {n:Nat}(h:0<n):aU (-(n:Int))=⟨#[45]⟩++aK n:=by
 apply jH;rw[cQ,fJ,cM];unfold Lib.itoa;rw[if_pos (by omega),Int.natAbs_neg,Int.natAbs_natCast];rfl
theorem jX (n:Nat):aU (n:Int)=aK n:=by
 apply jH;rw[cQ,cM];unfold Lib.itoa;rw[if_neg (by omega),Int.toNat_natCast]
theorem aN6 {q:Rat}(h0:q≠0):(q.num<0→q⁻¹.num=-(q.den:Int)∧q⁻¹.den=q.num.natAbs)∧(0<q.num→q⁻¹.num=(q.den:Int)∧q⁻¹.den=q.num.natAbs):=by
 constructor
 ·intro h;rw[Rat.num_inv,Rat.den_inv,if_neg (by omega),Int.sign_eq_neg_one_of_neg h];exact⟨by omega,rfl⟩
 ·intro h;rw[Rat.num_inv,Rat.den_inv,if_neg (by omega),Int.sign_eq_one_of_pos h];exact⟨by omega,rfl⟩
theorem bFc {q:Rat}(h0:q≠0)(hq:sz q≤2^50):Pure PP 224 [cD q] (cD q⁻¹):=by
 have hd:0<q.den:=q.den_pos
 have h1:=bA2 (aU q.num)
 rw[cQ,(pM q.num).1,(pM q.num).2]at h1;have ea:(⟨(Lib.decDigits q.num.natAbs).toArray⟩:ByteArray)=aK q.num.natAbs:=rfl
 rw[ea]at h1;have hn0:q.num≠0:=fun e=>h0 (Rat.num_eq_zero.1 e)
 obtain⟨i1,i2⟩:=aN6 h0;have e1:q.num<0→cD q⁻¹=frV (⟨#[45]⟩++aK q.den) (aK q.num.natAbs):=fun h=>by
  unfold cD;rw[←aIz hd,(i1 h).1,(i1 h).2]
 have e2:¬q.num<0→cD q⁻¹=frV (aK q.den) (aU q.num):=fun h=>by
  have h':0<q.num:=by omega
  unfold cD;rw[(i2 h').1,(i2 h').2,jX]
  congr 1
  rw[←jX,show((q.num.natAbs:Nat):Int)=q.num by omega]
 have hsz:(aK q.den).size≤2^51:=by rw[eR];have:=qB q;omega
 have et:(fun h:q.num<0=>e1 h)=e1:=rfl
 show Pure PP _ [frV (aU q.num) (aK q.den)] _
 generalize cD q⁻¹=r at e1 e2 ⊢;have hb:decide (q.num<0)=true→q.num<0:=of_decide_eq_true
 have hb':decide (q.num<0)=false→¬q.num<0:=of_decide_eq_false
 have e1:=fun h=>e1 (hb h)
 have e2:=fun h=>e2 (hb' h)
 clear hb hb' i1 i2 et;generalize decide (q.num<0)=b at h1 e1 e2;generalize aU q.num=s at h1 e2 ⊢;generalize aK q.den=t at e1 e2 hsz ⊢;generalize aK q.num.natAbs=u at h1 e1;have o1:(Obl.cat (.v ⟨#[45]⟩) (.v t)).ok:=by show((1+t.size:Nat):Int)≤_;omega
 refine aG mixed tok [.g [.s (.v s),.s (.v t)]] Tryz.func224 rfl rfl (lbl rfl) rfl fun c hc hR=>?_
 refine zN hc ?_;cbv;refine zC hc (.t [.s (.v u),.b (.v b)]) h1 aPo ?_;cbv;refine aE hc rfl 100 (fun h=>?_) (fun h=>?_)
 ·have hr:=e1 h
  cbv;refine aQ hc ⟨o1,trivial⟩ ?_;exact aD hc hR rfl (by rw[hr];rfl)
 ·have hr:=e2 h
  cbv;exact aD hc hR rfl (by rw[hr];rfl)
theorem vQ (p:Int){d:Nat}(hd:0<d):(mkRat p d).num=p/(p.natAbs.gcd d:Nat)∧(mkRat p d).den=d/p.natAbs.gcd d:=by
 rw[Rat.num_mkRat,Rat.den_mkRat,if_neg (by omega),if_neg (by omega),Nat.gcd_comm];exact⟨rfl,rfl⟩
theorem aMt {p:Int}{d:Nat}(hd0:0<d)(hp:dl p.natAbs≤2^36)(hd:dl d≤2^36):Pure PP 239 [.string (aU p),.string (aK d)] (cD (mkRat p d)):=by
 have hg0:0<p.natAbs.gcd d:=Nat.gcd_pos_of_pos_right _ hd0
 have hgl:dl (p.natAbs.gcd d)≤2^36:=lTr (sC (Nat.le_of_dvd hd0 (Nat.gcd_dvd_right _ _))) hd
 obtain⟨m1,m2⟩:=vQ p hd0;have h1:=aH7 (p:=p) (d:=d) (lTr hp (by decide)) (lTr hd (by decide))
 obtain⟨g,hg⟩:=nm (p.natAbs.gcd d);rw[←hg]at h1 hg0 hgl m1 m2;have h2:=aU2 (z:=p) (y:=(g:Int)) (by omega) hp (by rw[Int.natAbs_natCast];exact hgl)
 rw[jX]at h2;have h3:=aMn (n:=d) hg0 (lTr hd (by decide)) (lTr hgl (by decide))
 have e1:=aS0 (s:=aK g) rfl aIy.symm
 have f1:g=1→cD (mkRat p d)=frV (aU p) (aK d):=fun h=>by unfold cD;rw[m1,m2,h];simp
 have f2:cD (mkRat p d)=frV (aU (p/(g:Int))) (aK (d/g)):=by unfold cD;rw[m1,m2]
 generalize cD (mkRat p d)=r at f1 f2 ⊢;generalize aU (p/(g:Int))=p1 at h2 f2;generalize aU (p%(g:Int))=p2 at h2;generalize aK (d/g)=d1 at h3 f2;generalize aK (d%g)=d2 at h3;generalize aU p=s at h1 h2 f1 ⊢;generalize aK d=t at h1 h3 f1 ⊢;generalize aK g=tg at h1 h2 h3 e1;refine aG mixed tok [.s (.v s),.s (.v t)] Tryz.func239 rfl rfl (lbl rfl) rfl fun c hc hR=>?_
 refine zN hc ?_;cbv;refine zC hc (.s (.v tg)) h1 aP4 ?_;cbv;refine aE hc rfl 100 (fun h=>?_) (fun h=>?_)
 ·cbv;refine zC hc (.t [.s (.v p1),.s (.v p2),.i .i64 (.l 0)]) h2 aNh ?_;cbv;refine zC hc (.t [.s (.v d1),.s (.v d2),.i .i64 (.l 0)]) h3 aC6 ?_;cbv;exact aD hc hR rfl (by rw[f2];rfl)
 ·have h:=BE.not_f h
  have hr:=f1 (of_decide_eq_true (e1.symm.trans h))
  cbv;exact aD hc hR rfl (by rw[hr];rfl)
end Go.Ai
namespace Go.Num
open Go.Lib
theorem aBo {M:Nat}:∀(l:List UInt8) (acc:Nat),l.all lK=true→dS acc l≤M→dS acc l<1844674407370955162→parseUintM M acc l=.ok (dS acc l)
 | [],acc,_,_,_=>rfl
 | c::r,acc,hd,hM,hb=>by
  simp only[List.all_cons,Bool.and_eq_true]at hd;have hc:=hd.1
  simp only[lK,Bool.and_eq_true,decide_eq_true_eq]at hc;rw[fK]at hM hb ⊢;have h1:=aE5 r (10*acc+(c.toNat - 48))
  rw[parseUintM,if_pos hc,if_neg (by omega),if_neg (by omega),show acc*10+(c.toNat - 48)=10*acc+(c.toNat - 48) by omega];exact aBo r _ hd.2 hM hb
theorem aOh {n:Nat}(h:n<1000000000000000000):parseUintB 64 (decDigits n)=.ok n:=by
 unfold parseUintB;rw[if_neg (fV n)];have:=aBo (M:=2^64 - 1) (decDigits n) 0 (gG n) (by rw[cR];omega) (by rw[cR];omega)
 rwa [cR]at this
theorem aDx {z:Int}(h:z.natAbs<1000000000000000000):parseIntB 64 (itoa z)=.ok z:=by
 have hp:=aOh h
 unfold itoa;split
 ·rename_i hz;rw[parseIntB_minus,hp];simp only[signedC];rw[if_neg (by omega)];congr 1;omega
 ·rename_i hz;rw[show z.toNat=z.natAbs by omega];obtain⟨c,t,h1,h2⟩:=aAx z.natAbs;rw[h1]at hp ⊢;simp only[lK,Bool.and_eq_true,decide_eq_true_eq]at h2;rw[parseIntB_plain _ _ _ (by omega) (by omega),hp];simp only[signlessC];rw[if_neg (by omega)];congr 1;omega
end Go.Num
namespace Go.Ai
open Go Go.Proofs Go.Num
theorem dF:aB PP 236:=zK
theorem aWa:aB PP 237:=zK
theorem aGi:aB PP 250:=zK
theorem aPp:aB PP 251:=zK
theorem aSb {s:ByteArray}{v:Int}(hs:s.size≤2^60)(h:Lib.parseIntB 64 s.data.toList=.ok v):Pure PP 250 [.string s,.int .i64 10,.int .i64 64] (.tuple #[.int .i64 v,.nilIface]):=by
 intro w hgl;have hs':s.size≤9223372036854775806:=lTr hs (by decide)
 refine Calls.mono (Tryz.strconv_ParseInt_10_at64_ok s hs' v h w) ?_;rintro e w' ⟨rfl,rfl | ⟨t,rfl⟩⟩
 ·exact⟨rfl,RowKit.Below.refl _ _⟩
 ·exact⟨rfl,Lib.bytesWorld_below w 5 t⟩
theorem bA6 {n:Int}(h0:-9223372036854775808≤n)(h1:n≤9223372036854775807):Pure PP 251 [.int .i64 n,.int .i64 10] (.string (aU n)):=by
 intro w hgl;refine Calls.mono (Tryz.strconv_FormatInt_10 n h0 h1 w hgl.pow10) ?_;rintro e w' ⟨rfl,k,os,rfl⟩;exact⟨rfl,Lib.below_grow _ _ (lRf _) _ _⟩
def oN (q:Rat):Bool:= !(decide (9<(aU q.num).size)||decide (9<(aK q.den).size))
def aDu (q:Rat):Value:=if oN q then .tuple #[.int .i64 q.num,.int .i64 q.den,.bool true]else .tuple #[.int .i64 0,.int .i64 0,.bool false]
theorem lL {q:Rat}(h:oN q=true):q.num.natAbs<1000000000∧q.den<1000000000:=by
 unfold oN at h;simp only[Bool.not_eq_true',Bool.or_eq_false_iff,decide_eq_false_iff_not]at h;obtain⟨h1,h2⟩:=h;constructor
 ·have e:dl q.num.natAbs≤(aU q.num).size:=by
   show _≤(Lib.itoa q.num).toArray.size
   rw[List.size_toArray];unfold Lib.itoa dl;split
   ·simp
   ·rw[show q.num.toNat=q.num.natAbs by omega];exact lRf _
  have:=tE q.num.natAbs
  exact Nat.lt_of_lt_of_le this (Nat.pow_le_pow_right (by decide) (by omega):_≤10^9)
 ·have e:dl q.den=(aK q.den).size:=(eR _).symm
  have:=tE q.den
  exact Nat.lt_of_lt_of_le this (Nat.pow_le_pow_right (by decide) (by omega):_≤10^9)
theorem aAa (q:Rat):Pure PP 236 [cD q] (aDu q):=by
 have hb:=lL (q:=q)
 have p1:oN q=true→Pure PP 250 [.string (aU q.num),.int .i64 10,.int .i64 64] (.tuple #[.int .i64 q.num,.nilIface]):=fun h=>
  aSb (lTr (kV _) (by have:=rC (k:=9) (by decide) (Nat.lt_of_lt_of_le (hb h).1 (by decide));omega)) (by rw[cQ];exact aDx (Nat.lt_trans (hb h).1 (by decide)))
 have p2:oN q=true→Pure PP 250 [.string (aK q.den),.int .i64 10,.int .i64 64] (.tuple #[.int .i64 (q.den:Int),.nilIface]):=fun h=>
  aSb (by rw[eR];have:=rC (k:=9) (by decide) (Nat.lt_of_lt_of_le (hb h).2 (by decide));omega) (by rw[←jX,cQ];exact aDx (by rw[Int.natAbs_natCast];exact Nat.lt_trans (hb h).2 (by decide)))
 obtain⟨r,hr⟩:=nm (aDu q);obtain⟨ok,hok⟩:=nm (oN q);have ht:ok=true→r=.tuple #[.int .i64 q.num,.int .i64 q.den,.bool true]:=fun h=>by rw[hr];unfold aDu;rw[←hok,h];rfl
 have hf:ok=false→r=.tuple #[.int .i64 0,.int .i64 0,.bool false]:=fun h=>by rw[hr];unfold aDu;rw[←hok,h];rfl
 unfold oN at hok;rw[←show ok=oN q from hok]at p1 p2;rw[←hr];clear hr hb;unfold cD;generalize aU q.num=s at p1 hok ⊢;generalize aK q.den=t at p2 hok ⊢;generalize (q.den:Int)=dn at p2 ht;generalize q.num=nm at p1 ht;refine aG mixed tok [.g [.s (.v s),.s (.v t)]] Tryz.func236 rfl rfl (lbl rfl) rfl fun c hc hR=>?_
 have c1:(BE.lt (.l 9) (.len (.v s))).den=decide (9<s.size):=by show decide ((9:Int)<(s.size:Int))=_;exact decide_eq_decide.2 (by omega)
 have c2:(BE.lt (.l 9) (.len (.v t))).den=decide (9<t.size):=by show decide ((9:Int)<(t.size:Int))=_;exact decide_eq_decide.2 (by omega)
 refine zN hc ?_;cbv;refine bT hc 13 rfl rfl 100 (fun h=>?_) (fun h=>?_)
 ·have h1:=c1.symm.trans h
  have hok:ok=false:=by rw[hok,h1];rfl
  have hr:=hf hok
  cbv;exact aD hc hR rfl (by rw[hr];rfl)
 ·have h1:=c1.symm.trans h
  cbv;refine aE hc rfl 100 (fun h=>?_) (fun h=>?_)
  ·have h2:=c2.symm.trans h
   have hok:ok=false:=by rw[hok,h1,h2];rfl
   have hr:=hf hok
   cbv;exact aD hc hR rfl (by rw[hr];rfl)
  ·have h2:=c2.symm.trans h
   have hok:ok=true:=by rw[hok,h1,h2];rfl
   have hr:=ht hok
   have p1:=p1 hok
   have p2:=p2 hok
   cbv;refine zC hc (.t [.i .i64 (.v nm),.o .nilIface]) p1 aGi ?_;cbv;refine zC hc (.t [.i .i64 (.v dn),.o .nilIface]) p2 aGi ?_;cbv;exact aD hc hR rfl (by rw[hr];rfl)
theorem aZ2 {a b:Int}(ha:a.natAbs≤4000000000000000000)(hb:b.natAbs≤4000000000000000000)(h0:b≠0):(Obl.nz (.v b)).ok∧((IE.v a).rem (.v b)).den=(IE.v (a.tmod b)).den∧(a.tmod b).natAbs≤4000000000000000000∧(a.tmod b).natAbs<b.natAbs∧b.natAbs.gcd (a.tmod b).natAbs=a.natAbs.gcd b.natAbs:=by
 have e:(a.tmod b).natAbs=a.natAbs%b.natAbs:=Int.natAbs_tmod a b
 have hp:0<b.natAbs:=Int.natAbs_pos.2 h0
 have hl:=Nat.mod_lt a.natAbs hp
 refine⟨by show _≠_;simpa[IE.den]using h0,rfl,by omega,by omega,?_⟩;rw[e];exact jQ hp
theorem aVk {a p:Int}{d g:Nat}(hg:g=p.natAbs.gcd d)(hd0:0<d)(ha:a.natAbs=g)(hp:p.natAbs≤4000000000000000000)(hd:d≤4000000000000000000){e:IE}(he:e=IE.max (.v a) (.sub (.l 0) (.v a))):
  (Obl.inR .i64 (.sub (.l 0) (.v a))).ok∧(Obl.nz e).ok∧(Obl.inR .i64 (.quo (.v p) e)).ok∧(Obl.inR .i64 (.quo (.n d) e)).ok∧(IE.quo (.v p) e).den=(mkRat p d).num∧(IE.quo (.n d) e).den=((mkRat p d).den:Int):=by
 have hg0:0<g:=by rw[hg];exact Nat.gcd_pos_of_pos_right _ hd0
 have hgd:g≤d:=by rw[hg];exact Nat.le_of_dvd hd0 (Nat.gcd_dvd_right _ _)
 have aYr:e.den=(g:Int):=by
  rw[he];show(if a<0 - a then 0 - a else a)=_
  split<;>omega
 obtain⟨m1,m2⟩:=vQ p hd0;rw[←hg]at m1 m2;have e1:(IE.quo (.v p) e).den=p/(g:Int):=by
  show p.tdiv e.den=_
  rw[aYr];exact Int.tdiv_eq_ediv_of_dvd (Int.ofNat_dvd_left.2 (by rw[hg];exact Nat.gcd_dvd_left _ _))
 have e2:(IE.quo (.n d) e).den=((d/g:Nat):Int):=by
  show((d:Nat):Int).tdiv e.den=_
  rw[aYr];exact(Int.ofNat_tdiv d g).symm
 have b1:(p/(g:Int)).natAbs≤p.natAbs:=Int.natAbs_ediv_le_natAbs p g
 have b2:d/g≤d:=Nat.div_le_self d g
 refine⟨?_,?_,?_,?_,by rw[e1,m1],by rw[e2,m2]⟩
 ·show lo _≤0 - a∧0 - a≤hi _;simp only[lo,hi];omega
 ·show e.den≠0;rw[aYr];omega
 ·show lo _≤_∧_≤hi _;rw[e1];simp only[lo,hi];omega
 ·show lo _≤_∧_≤hi _;rw[e2];simp only[lo,hi];omega
theorem rof {p:Int}{d:Nat}(hd0:0<d)(hp:p.natAbs≤4000000000000000000)(hd:d≤4000000000000000000):Pure PP 237 [.int .i64 p,.int .i64 (d:Int)] (cD (mkRat p d)):=by
 obtain⟨g,hg⟩:=nm (p.natAbs.gcd d);have b1:(mkRat p d).num.natAbs≤4000000000000000000:=by
  have h:=(vQ p hd0).1
  have:=Int.natAbs_ediv_le_natAbs p (p.natAbs.gcd d:Nat)
  rw[←h]at this;omega
 have b2:(mkRat p d).den≤4000000000000000000:=by
  have h:=(vQ p hd0).2
  have:=Nat.div_le_self d (p.natAbs.gcd d)
  rw[←h]at this;omega
 have f1:=bA6 (n:=(mkRat p d).num) (by omega) (by omega)
 have f2:=bA6 (n:=((mkRat p d).den:Int)) (by omega) (by omega)
 rw[jX]at f2;have lJ:=fun a ha=>aVk (a:=a) hg hd0 ha hp hd rfl
 unfold cD;generalize (mkRat p d).num=nm at f1 lJ ⊢;generalize ((mkRat p d).den:Int)=dn at f2 lJ;generalize aU nm=s at f1 ⊢;generalize aK (mkRat p d).den=t at f2 ⊢;refine aG mixed tok [.i .i64 (.v p),.i .i64 (.n d)] Tryz.func237 rfl rfl (lbl rfl) rfl fun c hc hR=>?_
 refine zN hc ?_;cbv;let BB:List (Nat × AV):=[(4,.p 0 0),(0,.i .i64 (.v p)),(1,.i .i64 (.n d))]
 let HH:List Blk:=[.c 234 [.s (.v ⟨#[]⟩),.s (.v ⟨#[]⟩)]]
 let ι:={x:Int × Int//x.1.natAbs.gcd x.2.natAbs=g∧x.1.natAbs≤4000000000000000000∧x.2.natAbs≤4000000000000000000}
 let I:ι→St:=fun x=>⟨(5,.i .i64 (.v x.1.1))::(6,.i .i64 (.v x.1.2))::BB,HH,[]⟩
 let x0:ι:=⟨(p,(d:Int)),hg.symm,hp,hd⟩
 refine zU 1 (S':=I x0) (K':=[]) ⟨zS rfl rfl,zS rfl rfl,zS rfl rfl,zS rfl rfl,zS rfl rfl,trivial⟩ trivial trivial ?_;refine aBw (fun a:Int=>a.natAbs=g) (fun a=>⟨(5,.i .i64 (.v a))::BB,HH,[]⟩) rfl (fun r hr=>?_) (fun a ha=>?_)
 ·refine bP hc I (fun x=>x.1.2.natAbs) x0 100 ?_;rintro p' ⟨⟨a,b⟩,hab,ha,hb⟩ hy;simp only at hab ha hb;cbv;refine aE hc rfl 100 (fun h=>?_) (fun h=>?_)
  ·have hb0:b≠0:=fun e=>by have h:=BE.not_t h;exact BE.eq_f h (by simp[IE.den,e])
   obtain⟨o1,e1,l1,l2,l3⟩:=aZ2 ha hb hb0;cbv;refine aQ hc ⟨o1,trivial⟩ ?_;refine cP hc _ rfl rfl rfl rfl rfl 0 ?_;refine cP hc _ rfl rfl rfl rfl rfl 0 ?_;refine zE hc ?_;cbv;exact zU 1 (S':=I ⟨(b,a.tmod b),l3.trans hab,hb,l1⟩) (K':=[]) ⟨zS rfl rfl,zI rfl rfl e1,zS rfl rfl,zS rfl rfl,zS rfl rfl,trivial⟩ trivial trivial (hy _ l2)
  ·have hb0:b=0:=by have h:=BE.not_f h;exact(BE.eq_t h)
   have hag:a.natAbs=g:=by rw[←hab,hb0];exact(Nat.gcd_zero_right _).symm
   cbv;exact zU 1 (S':=⟨(5,.i .i64 (.v a))::BB,HH,[]⟩) (K':=[]) ⟨zS rfl rfl,zS rfl rfl,zS rfl rfl,zS rfl rfl,trivial⟩ trivial trivial (hr a hag)
 ·obtain⟨o1,o2,o3,o4,e1,e2⟩:=lJ a ha;have f1:Pure PP 251 [.int .i64 (IE.quo (.v p) (IE.max (.v a) (.sub (.l 0) (.v a)))).den,.int .i64 10] (.string s):=by rw[e1];exact f1
  have f2:Pure PP 251 [.int .i64 (IE.quo (.n d) (IE.max (.v a) (.sub (.l 0) (.v a)))).den,.int .i64 10] (.string t):=by rw[e2];exact f2
  refine zN hc ?_;cbv;refine aQ hc ⟨o1,o2,o3,trivial⟩ ?_;refine zD hc (.s (.v s)) f1 aPp ?_;cbv;refine aQ hc ⟨o2,o4,trivial⟩ ?_;refine zD hc (.s (.v t)) f2 aPp ?_;cbv;refine zE hc ?_;cbv;exact aD hc hR rfl rfl
end Go.Ai
