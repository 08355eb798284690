/- Part 28: lemmas for garboardlaw17.FloatDivides -/
import Derived.Test.YtmnancfboococaaGreatDoorPd26
set_option linter.all false
namespace Go.Ai
open Go Go.Proofs Go.Num Go.Lib
theorem aQ4:aB PP 63:=zK
theorem bBy {x y:Int}(hx:(aC x.natAbs).length<=2^39)(hy:(aC y.natAbs).length<=2^39):oC PP 63 [zIt x,zIt y] (.sg (zIt (x*y))):=by
 have kt:∀{v u:Value} {X:Nat->Prop} {w:World},(∀b,X b->b<w.heap.size)->(aJ x.natAbs).p v X w->(aJ y.natAbs).p u X w->Fn PP 64 [v,u] X w (aJ (x.natAbs*y.natAbs)):=λhX h1 h2=>vD hx hy hX h1 h2
 have km:=aC8 (b:=(decide (x<0) !=decide (y<0))) (b':=decide (x*y<0)) (n:=x.natAbs*y.natAbs) (by
  rw[Bool.eq_iff_iff,Bool.and_eq_true,bne_iff_ne,decide_eq_true_eq,decide_eq_true_eq,ne_eq,decide_eq_decide];simp only[ne_eq,Nat.mul_eq_zero];rcases Int.lt_trichotomy x 0 with h1 | h1 | h1<;>rcases Int.lt_trichotomy y 0 with h2 | h2 | h2
  ·have:=Int.mul_pos_of_neg_of_neg h1 h2;constructor<;>intro h<;>omega
  ·subst h2;simp
  ·have:=Int.mul_neg_of_neg_of_pos h1 h2;constructor<;>intro h<;>omega
  ·subst h1;simp
  ·subst h1;simp
  ·subst h1;simp
  ·have:=Int.mul_neg_of_pos_of_neg h1 h2;constructor<;>intro h<;>omega
  ·subst h2;simp
  ·have:=Int.mul_pos h1 h2;constructor<;>intro h<;>omega)
 unfold zIt;rw[Int.natAbs_mul];generalize decide (x*y<0)=b,decide (x<0)=b1,decide (y<0)=b2 at *;obtain⟨R1,hR1⟩:∃R,R=aJ x.natAbs:=⟨_,rfl⟩;obtain⟨R2,hR2⟩:∃R,R=aJ y.natAbs:=⟨_,rfl⟩;obtain⟨R3,hR3⟩:∃R,R=aJ (x.natAbs*y.natAbs):=⟨_,rfl⟩;have kB:∀{v:Value} {X:Nat->Prop} {w:World},R3.p v X w->v.oneCell'=true:=λh=>by rw[hR3]at h;exact eJ h
 unfold zRt at *;rw[<-hR3]at km kt |-;rw[<-hR1,<-hR2]at kt |-;clear hR1 hR2 hR3 hx hy;obtain⟨F1,hF1⟩:∃F,F=lU (.sg (.agg [.b (.l b1),.x R1])):=⟨_,rfl⟩;obtain⟨F2,hF2⟩:∃F,F=lU (.sg (.agg [.b (.l b2),.x R2])):=⟨_,rfl⟩;refine eU mixed tok Tryz.func63 rfl (by rfl) rfl [F1,F2] ⟨hF1,hF2,trivial⟩ λc G hG hc hR=>?_;obtain⟨K,hK⟩:=nm (lT 0 [F1,F2]);rw[<-hK];have m1:KF.at 0 F1∈K:=by rw[hK];exact .head _
 have m2:KF.at 1 F2∈K:=by rw[hK];exact .tail _ (.head _)
 apply zN hc;cbv;refine iK hc (R:=R3) nG (λD X μ a w aK H hv=>?_) 100 ?_
 ·obtain⟨v,u,rfl,e1,e2⟩:=bD hv;exact kt H.xlt (((bJ.ec (c:=.x R1) (F:=F1) m1 hF1 rfl).ok H.kf e1).2) (((bJ.ec (c:=.x R2) (F:=F2) m2 hF2 rfl).ok H.kf e2).2)
 cbv;refine cY hc lI km ⟨.b rfl,.e (.head _) kB,trivial⟩ (.g [.b (.l b),.ec 6 1]) 100 (λFB hFB=>?_);cbv;refine zE ?_;cbv;exact dD hc hG hR rfl ⟨.b rfl,.ec (.head _) hFB rfl,trivial⟩
def qC (q:Rat):List CF:=[.b (.l (decide (q.num<0))),.x (aJ q.num.natAbs),.x (aJ q.den)]
theorem fF (q:Rat):∃b R1 R2,qC q=[.b (.l b),.x R1,.x R2]:=⟨_,_,_,rfl⟩
def vI (v:V3):RV1:=.agg (qC v.x++(qC v.y++qC v.z))
theorem aKa:aB PP 21:=zK
theorem bA0 {a b:Rat}(ha:sz a<=2^29)(hb:sz b<=2^29):oC PP 21 [.agg (qC a),.agg (qC b)] (.sg (.agg (qC (a*b)))):=by
 have a1:dl a.num.natAbs<=2^29:=lTr (Nat.le_max_left _ _) ha
 have a2:dl a.den<=2^29:=lTr (Nat.le_max_right _ _) ha
 have b1:dl b.num.natAbs<=2^29:=lTr (Nat.le_max_left _ _) hb
 have b2:dl b.den<=2^29:=lTr (Nat.le_max_right _ _) hb
 have c1:=dJ a.num.natAbs
 have c2:=dJ a.den
 have c3:=dJ b.num.natAbs
 have c4:=dJ b.den
 have kz:=bBy (x:=a.num) (y:=b.num) zW zW
 have kt:∀{v u:Value} {X:Nat->Prop} {w:World},(∀b,X b->b<w.heap.size)->(aJ a.den).p v X w->(aJ b.den).p u X w->Fn PP 64 [v,u] X w (aJ (a.den*b.den)):=λhX h1 h2=>vD zW zW hX h1 h2
 have kl:=aGm (z:=a.num*b.num) (d:=a.den*b.den) (Nat.mul_pos a.den_pos b.den_pos) (by rw[Int.natAbs_mul];have:=lN (lRf (aC a.num.natAbs).length) (lRf (aC b.num.natAbs).length);omega) (by have:=lN (lRf (aC a.den).length) (lRf (aC b.den).length);omega)
 rw[aK9]at kl;have kl:oC PP 62 [zIt (a.num*b.num),.one (.x (aJ (a.den*b.den)))] (.sg (.agg (qC (a*b)))):=kl;unfold zIt zRt at kz kl;generalize a.num*b.num=z at *;obtain⟨b0,T1,T2,e0⟩:=fF (a*b);rw[e0]at kl |-;unfold qC;obtain⟨R1,hR1⟩:∃R,R=aJ a.num.natAbs:=⟨_,rfl⟩;obtain⟨R2,hR2⟩:∃R,R=aJ a.den:=⟨_,rfl⟩;obtain⟨R3,hR3⟩:∃R,R=aJ b.num.natAbs:=⟨_,rfl⟩;obtain⟨R4,hR4⟩:∃R,R=aJ b.den:=⟨_,rfl⟩;obtain⟨R5,hR5⟩:∃R,R=aJ (a.den*b.den):=⟨_,rfl⟩;obtain⟨R6,hR6⟩:∃R,R=aJ z.natAbs:=⟨_,rfl⟩;have kB:∀{v:Value} {X:Nat->Prop} {w:World},R5.p v X w->v.oneCell'=true:=λh=>by rw[hR5]at h;exact eJ h
 rw[<-hR5]at kt kl;rw[<-hR6]at kz kl;rw[<-hR1,<-hR3]at kz |-;rw[<-hR2,<-hR4]at kt |-;generalize decide (a.num<0)=y1,decide (b.num<0)=y2,decide (z<0)=y3 at *;clear hR1 hR2 hR3 hR4 hR5 hR6 e0 a1 a2 b1 b2 c1 c2 c3 c4 ha hb;obtain⟨F1,hF1⟩:∃F,F=lU (.sg (.agg [.b (.l y1),.x R1,.x R2])):=⟨_,rfl⟩;obtain⟨F2,hF2⟩:∃F,F=lU (.sg (.agg [.b (.l y2),.x R3,.x R4])):=⟨_,rfl⟩;refine eU mixed tok Tryz.func21 rfl (by rfl) rfl [F1,F2] ⟨hF1,hF2,trivial⟩ λc G hG hc hR=>?_;obtain⟨K,hK⟩:=nm (lT 0 [F1,F2]);rw[<-hK];have m1:KF.at 0 F1∈K:=by rw[hK];exact .head _
 have m2:KF.at 1 F2∈K:=by rw[hK];exact .tail _ (.head _)
 apply zN hc;cbv;refine cY hc aQ4 kz ⟨⟨.b rfl,.ec m1 hF1 rfl,trivial⟩,⟨.b rfl,.ec m2 hF2 rfl,trivial⟩,trivial⟩ (.g [.b (.l y3),.ec 5 1]) 100 (λFB hFB=>?_);cbv;refine iK hc (R:=R5) nG (λD X μ a w aK H hv=>?_) 100 ?_
 ·obtain⟨v,u,rfl,e1,e2⟩:=bD hv;exact kt H.xlt (((bJ.ec (c:=.x R2) (F:=F1) (.tail _ m1) hF1 rfl).ok H.kf e1).2) (((bJ.ec (c:=.x R4) (F:=F2) (.tail _ m2) hF2 rfl).ok H.kf e2).2)
 cbv;refine cY hc xS kl ⟨⟨.b rfl,.ec (.tail _ (.head _)) hFB rfl,trivial⟩,.e (.head _) kB,trivial⟩ (.g [.b (.l b0),.ec 7 1,.ec 7 2]) 100 (λFC hFC=>?_);cbv;refine zE ?_;cbv;exact dD hc hG hR rfl ⟨.b rfl,.ec (.head _) hFC rfl,.ec (.head _) hFC rfl,trivial⟩
theorem aY2:aB PP 20:=zK
theorem bGt {a b:Rat}(ha:sz a<=2^29)(hb:sz b<=2^29):oC PP 20 [.agg (qC a),.agg (qC b)] (.sg (.agg (qC (a - b)))):=by
 have a1:dl a.num.natAbs<=2^29:=lTr (Nat.le_max_left _ _) ha
 have a2:dl a.den<=2^29:=lTr (Nat.le_max_right _ _) ha
 rw[<-qX]at hb;have b1:dl (-b).num.natAbs<=2^29:=lTr (Nat.le_max_left _ _) hb;have b2:dl (-b).den<=2^29:=lTr (Nat.le_max_right _ _) hb;have c1:=dJ a.num.natAbs;have c2:=dJ a.den;have c3:=dJ (-b).num.natAbs;have c4:=dJ (-b).den;have kn:oC PP 37 [.agg (qC b)] (.sg (.agg (qC (-b)))):=bGs b;have ka:oC PP 61 [.agg (qC a),.agg (qC (-b))] (.sg (.agg (qC (a+-b)))):=bD8 zW zW zW zW;rw[<-Rat.sub_eq_add_neg]at ka;obtain⟨x1,R1,R2,e1⟩:=fF a;obtain⟨x2,R3,R4,e2⟩:=fF b;obtain⟨x3,R5,R6,e3⟩:=fF (-b);obtain⟨x4,R7,R8,e4⟩:=fF (a - b);rw[e1,e2,e4];rw[e2,e3]at kn;rw[e1,e3,e4]at ka;clear e1 e2 e3 e4 a1 a2 b1 b2 c1 c2 c3 c4 ha hb;obtain⟨F1,hF1⟩:∃F,F=lU (.sg (.agg [.b (.l x1),.x R1,.x R2])):=⟨_,rfl⟩;obtain⟨F2,hF2⟩:∃F,F=lU (.sg (.agg [.b (.l x2),.x R3,.x R4])):=⟨_,rfl⟩;refine eU mixed tok Tryz.func20 rfl (by rfl) rfl [F1,F2] ⟨hF1,hF2,trivial⟩ λc G hG hc hR=>?_;obtain⟨K,hK⟩:=nm (lT 0 [F1,F2]);rw[<-hK];have m1:KF.at 0 F1∈K:=by rw[hK];exact .head _
 have m2:KF.at 1 F2∈K:=by rw[hK];exact .tail _ (.head _)
 apply zN hc;cbv;refine cY hc aY1 kn ⟨⟨.b rfl,.ec m2 hF2 rfl,.ec m2 hF2 rfl,trivial⟩,trivial⟩ (.g [.b (.l x3),.ec 5 1,.ec 5 2]) 100 (λFB hFB=>?_);cbv;refine cY hc aFq ka ⟨⟨.b rfl,.ec (.tail _ m1) hF1 rfl,.ec (.tail _ m1) hF1 rfl,trivial⟩,⟨.b rfl,.ec (.head _) hFB rfl,.ec (.head _) hFB rfl,trivial⟩,trivial⟩ (.g [.b (.l x4),.ec 6 1,.ec 6 2]) 100 (λFC hFC=>?_);cbv;refine zE ?_;cbv;exact dD hc hG hR rfl ⟨.b rfl,.ec (.head _) hFC rfl,.ec (.head _) hFC rfl,trivial⟩
theorem aTa {a b:Rat}(ha:sz a<=2^29)(hb:sz b<=2^29):oC PP 61 [.agg (qC a),.agg (qC b)] (.sg (.agg (qC (a+b)))):=by
 have a1:dl a.num.natAbs<=2^29:=lTr (Nat.le_max_left _ _) ha
 have a2:dl a.den<=2^29:=lTr (Nat.le_max_right _ _) ha
 have b1:dl b.num.natAbs<=2^29:=lTr (Nat.le_max_left _ _) hb
 have b2:dl b.den<=2^29:=lTr (Nat.le_max_right _ _) hb
 have c1:=dJ a.num.natAbs
 have c2:=dJ a.den
 have c3:=dJ b.num.natAbs
 have c4:=dJ b.den
 exact bD8 zW zW zW zW
theorem bA1 {a:Rat}(ha:sz a<=2^29):oC PP 36 [.agg (qC a)] (.sg (.one (.s (.v (aA a))))):=by
 have a1:dl a.num.natAbs<=2^29:=lTr (Nat.le_max_left _ _) ha
 have a2:dl a.den<=2^29:=lTr (Nat.le_max_right _ _) ha
 have c1:=dJ a.num.natAbs
 have c2:=dJ a.den
 exact qTo zW zW zW
def rK (a:ByteArray):Rat:=(pM a.data.toList).getD 0
theorem aGl {a:ByteArray}(hs:a.size<=2^34):oC PP 29 [.one (.s (.v a))] (.tp [.agg (qC (rK a)),.one (.b (.l (gQ a)))]):=by
 unfold gQ rK;cases h:pM a.data.toList with
 | none=>exact aPf hs h
 | some q=>
  have e:=sR h
  subst e;exact bD9 (lTr (iY q) hs)
theorem aHd:aB PP 31:=zK
theorem aR3 {k:Rat}{a:V3}(hk:sz k<=2^29)(ha:a.le (2^29)):oC PP 31 [.agg (qC k),vI a] (.sg (vI ⟨k*a.x,k*a.y,k*a.z⟩)):=by
 have k1:=bA0 hk ha.1
 have k2:=bA0 hk ha.2.1
 have k3:=bA0 hk ha.2.2
 obtain⟨b0,R1,R2,e0⟩:=fF k;obtain⟨b1,R3,R4,e1⟩:=fF a.x;obtain⟨b2,R5,R6,e2⟩:=fF a.y;obtain⟨b3,R7,R8,e3⟩:=fF a.z;obtain⟨c1,S1,S2,f1⟩:=fF (k*a.x);obtain⟨c2,S3,S4,f2⟩:=fF (k*a.y);obtain⟨c3,S5,S6,f3⟩:=fF (k*a.z);unfold vI;rw[e0,e1,f1]at k1;rw[e0,e2,f2]at k2;rw[e0,e3,f3]at k3;rw[e0,e1,e2,e3,f1,f2,f3];simp only[List.cons_append,List.nil_append];clear e0 e1 e2 e3 f1 f2 f3 hk ha;obtain⟨F1,hF1⟩:∃F,F=lU (.sg (.agg [.b (.l b0),.x R1,.x R2])):=⟨_,rfl⟩;obtain⟨F2,hF2⟩:∃F,F=lU (.sg (.agg [.b (.l b1),.x R3,.x R4,.b (.l b2),.x R5,.x R6,.b (.l b3),.x R7,.x R8])):=⟨_,rfl⟩;refine eU mixed tok Tryz.func31 rfl (by rfl) rfl [F1,F2] ⟨hF1,hF2,trivial⟩ λc G hG hc hR=>?_;obtain⟨K,hK⟩:=nm (lT 0 [F1,F2]);rw[<-hK];have m1:KF.at 0 F1∈K:=by rw[hK];exact .head _
 have m2:KF.at 1 F2∈K:=by rw[hK];exact .tail _ (.head _)
 apply zN hc;cbv;refine cY hc aKa k1 ⟨⟨.b rfl,.ec m1 hF1 rfl,.ec m1 hF1 rfl,trivial⟩,⟨.b rfl,.ec m2 hF2 rfl,.ec m2 hF2 rfl,trivial⟩,trivial⟩ (.g [.b (.l c1),.ec 5 1,.ec 5 2]) 100 (λG1 hG1=>?_);cbv;refine cY hc aKa k2 ⟨⟨.b rfl,.ec (.tail _ m1) hF1 rfl,.ec (.tail _ m1) hF1 rfl,trivial⟩,⟨.b rfl,.ec (.tail _ m2) hF2 rfl,.ec (.tail _ m2) hF2 rfl,trivial⟩,trivial⟩ (.g [.b (.l c2),.ec 6 1,.ec 6 2]) 100 (λG2 hG2=>?_);cbv;refine cY hc aKa k3 ⟨⟨.b rfl,.ec (.tail _ (.tail _ m1)) hF1 rfl,.ec (.tail _ (.tail _ m1)) hF1 rfl,trivial⟩,⟨.b rfl,.ec (.tail _ (.tail _ m2)) hF2 rfl,.ec (.tail _ (.tail _ m2)) hF2 rfl,trivial⟩,trivial⟩ (.g [.b (.l c3),.ec 7 1,.ec 7 2]) 100 (λG3 hG3=>?_);cbv;refine zE ?_;cbv;exact dD hc hG hR rfl ⟨.b rfl,.ec (.tail _ (.tail _ (.head _))) hG1 rfl,.ec (.tail _ (.tail _ (.head _))) hG1 rfl,.b rfl,.ec (.tail _ (.head _)) hG2 rfl,.ec (.tail _ (.head _)) hG2 rfl,.b rfl,.ec (.head _) hG3 rfl,.ec (.head _) hG3 rfl,trivial⟩
theorem aU7:aB PP 30:=zK
theorem bCn {u v:V3}(hu:u.le (2^29))(hv:v.le (2^29)):oC PP 30 [vI u,vI v] (.sg (vI (u.add v))):=by
 have k1:=aTa hu.1 hv.1
 have k2:=aTa hu.2.1 hv.2.1
 have k3:=aTa hu.2.2 hv.2.2
 obtain⟨a1,Q1,Q2,d1⟩:=fF u.x;obtain⟨a2,Q3,Q4,d2⟩:=fF u.y;obtain⟨a3,Q5,Q6,d3⟩:=fF u.z;obtain⟨b1,R3,R4,e1⟩:=fF v.x;obtain⟨b2,R5,R6,e2⟩:=fF v.y;obtain⟨b3,R7,R8,e3⟩:=fF v.z;obtain⟨c1,S1,S2,f1⟩:=fF (u.x+v.x);obtain⟨c2,S3,S4,f2⟩:=fF (u.y+v.y);obtain⟨c3,S5,S6,f3⟩:=fF (u.z+v.z);unfold vI V3.add;dsimp only;rw[d1,e1,f1]at k1;rw[d2,e2,f2]at k2;rw[d3,e3,f3]at k3;rw[d1,d2,d3,e1,e2,e3,f1,f2,f3];simp only[List.cons_append,List.nil_append];clear d1 d2 d3 e1 e2 e3 f1 f2 f3 hu hv;obtain⟨F1,hF1⟩:∃F,F=lU (.sg (.agg [.b (.l a1),.x Q1,.x Q2,.b (.l a2),.x Q3,.x Q4,.b (.l a3),.x Q5,.x Q6])):=⟨_,rfl⟩;obtain⟨F2,hF2⟩:∃F,F=lU (.sg (.agg [.b (.l b1),.x R3,.x R4,.b (.l b2),.x R5,.x R6,.b (.l b3),.x R7,.x R8])):=⟨_,rfl⟩;refine eU mixed tok Tryz.func30 rfl (by rfl) rfl [F1,F2] ⟨hF1,hF2,trivial⟩ λc G hG hc hR=>?_;obtain⟨K,hK⟩:=nm (lT 0 [F1,F2]);rw[<-hK];have m1:KF.at 0 F1∈K:=by rw[hK];exact .head _
 have m2:KF.at 1 F2∈K:=by rw[hK];exact .tail _ (.head _)
 apply zN hc;cbv;refine cY hc aFq k1 ⟨⟨.b rfl,.ec m1 hF1 rfl,.ec m1 hF1 rfl,trivial⟩,⟨.b rfl,.ec m2 hF2 rfl,.ec m2 hF2 rfl,trivial⟩,trivial⟩ (.g [.b (.l c1),.ec 5 1,.ec 5 2]) 100 (λG1 hG1=>?_);cbv;refine cY hc aFq k2 ⟨⟨.b rfl,.ec (.tail _ m1) hF1 rfl,.ec (.tail _ m1) hF1 rfl,trivial⟩,⟨.b rfl,.ec (.tail _ m2) hF2 rfl,.ec (.tail _ m2) hF2 rfl,trivial⟩,trivial⟩ (.g [.b (.l c2),.ec 6 1,.ec 6 2]) 100 (λG2 hG2=>?_);cbv;refine cY hc aFq k3 ⟨⟨.b rfl,.ec (.tail _ (.tail _ m1)) hF1 rfl,.ec (.tail _ (.tail _ m1)) hF1 rfl,trivial⟩,⟨.b rfl,.ec (.tail _ (.tail _ m2)) hF2 rfl,.ec (.tail _ (.tail _ m2)) hF2 rfl,trivial⟩,trivial⟩ (.g [.b (.l c3),.ec 7 1,.ec 7 2]) 100 (λG3 hG3=>?_);cbv;refine zE ?_;cbv;exact dD hc hG hR rfl ⟨.b rfl,.ec (.tail _ (.tail _ (.head _))) hG1 rfl,.ec (.tail _ (.tail _ (.head _))) hG1 rfl,.b rfl,.ec (.tail _ (.head _)) hG2 rfl,.ec (.tail _ (.head _)) hG2 rfl,.b rfl,.ec (.head _) hG3 rfl,.ec (.head _) hG3 rfl,trivial⟩
theorem aJ2:aB PP 33:=zK
theorem hOut {u:V3}(hu:u.le (2^29)):oC PP 33 [vI u] (.sg (.agg [.s (.v (aA u.x)),.s (.v (aA u.y)),.s (.v (aA u.z))])):=by
 have k1:=bA1 hu.1
 have k2:=bA1 hu.2.1
 have k3:=bA1 hu.2.2
 obtain⟨a1,Q1,Q2,d1⟩:=fF u.x;obtain⟨a2,Q3,Q4,d2⟩:=fF u.y;obtain⟨a3,Q5,Q6,d3⟩:=fF u.z;unfold vI;rw[d1]at k1;rw[d2]at k2;rw[d3]at k3;rw[d1,d2,d3];simp only[List.cons_append,List.nil_append];clear d1 d2 d3 hu;generalize aA u.x=x,aA u.y=y,aA u.z=z at *;obtain⟨F1,hF1⟩:∃F,F=lU (.sg (.agg [.b (.l a1),.x Q1,.x Q2,.b (.l a2),.x Q3,.x Q4,.b (.l a3),.x Q5,.x Q6])):=⟨_,rfl⟩;refine eU mixed tok Tryz.func33 rfl (by rfl) rfl [F1] ⟨hF1,trivial⟩ λc G hG hc hR=>?_;obtain⟨K,hK⟩:=nm (lT 0 [F1]);rw[<-hK];have m1:KF.at 0 F1∈K:=by rw[hK];exact .head _
 apply zN hc;cbv;refine cY hc aQw k1 ⟨⟨.b rfl,.ec m1 hF1 rfl,.ec m1 hF1 rfl,trivial⟩,trivial⟩ (.s (.v x)) 100 (λG1 hG1=>?_);cbv;refine cY hc aQw k2 ⟨⟨.b rfl,.ec (.tail _ m1) hF1 rfl,.ec (.tail _ m1) hF1 rfl,trivial⟩,trivial⟩ (.s (.v y)) 100 (λG2 hG2=>?_);cbv;refine cY hc aQw k3 ⟨⟨.b rfl,.ec (.tail _ (.tail _ m1)) hF1 rfl,.ec (.tail _ (.tail _ m1)) hF1 rfl,trivial⟩,trivial⟩ (.s (.v z)) 100 (λG3 hG3=>?_);cbv;refine zE ?_;cbv;exact dD hc hG hR rfl ⟨.s rfl,.s rfl,.s rfl,trivial⟩
theorem aJ3:aB PP 69:=zK
theorem aZt {x y z:ByteArray}(hx:x.size<=2^34)(hy:y.size<=2^34)(hz:z.size<=2^34):oC PP 69 [.agg [.s (.v x),.s (.v y),.s (.v z)]] (.tp [vI ⟨rK x,rK y,rK z⟩,.one (.b (.l (gQ x&&gQ y&&gQ z)))]):=by
 have k1:=aGl hx
 have k2:=aGl hy
 have k3:=aGl hz
 obtain⟨a1,Q1,Q2,d1⟩:=fF (rK x);obtain⟨a2,Q3,Q4,d2⟩:=fF (rK y);obtain⟨a3,Q5,Q6,d3⟩:=fF (rK z);unfold vI;rw[d1]at k1;rw[d2]at k2;rw[d3]at k3;rw[d1,d2,d3];simp only[List.cons_append,List.nil_append];generalize gQ x=o1,gQ y=o2,gQ z=o3 at *;clear d1 d2 d3 hx hy hz;obtain⟨F1,hF1⟩:∃F,F=lU (.sg (.agg [.s (.v x),.s (.v y),.s (.v z)])):=⟨_,rfl⟩;refine eU mixed tok Tryz.func69 rfl (by rfl) rfl [F1] ⟨hF1,trivial⟩ λc G hG hc hR=>?_;obtain⟨K,hK⟩:=nm (lT 0 [F1]);rw[<-hK];apply zN hc;cbv;refine fG hc aAo k1 ⟨.s rfl,trivial⟩ (.t [.g [.b (.l a1),.ec 3 1,.ec 3 2],.b (.l o1)]) 100 (λG1 hG1=>?_);cbv;refine fG hc aAo k2 ⟨.s rfl,trivial⟩ (.t [.g [.b (.l a2),.ec 5 1,.ec 5 2],.b (.l o2)]) 100 (λG2 hG2=>?_);cbv;refine fG hc aAo k3 ⟨.s rfl,trivial⟩ (.t [.g [.b (.l a3),.ec 7 1,.ec 7 2],.b (.l o3)]) 100 (λG3 hG3=>?_);cbv;cases o1 with
 | false=>
  apply zN hc;cbv;exact dD hc hG hR rfl ⟨⟨.b rfl,.ec (.tail _ (.tail _ (.head _))) hG1 rfl,.ec (.tail _ (.tail _ (.head _))) hG1 rfl,.b rfl,.ec (.tail _ (.head _)) hG2 rfl,.ec (.tail _ (.head _)) hG2 rfl,.b rfl,.ec (.head _) hG3 rfl,.ec (.head _) hG3 rfl,trivial⟩,.b rfl,trivial⟩
 | true=>
 cases o2 with
 | false=>
  apply zN hc;cbv;exact dD hc hG hR rfl ⟨⟨.b rfl,.ec (.tail _ (.tail _ (.head _))) hG1 rfl,.ec (.tail _ (.tail _ (.head _))) hG1 rfl,.b rfl,.ec (.tail _ (.head _)) hG2 rfl,.ec (.tail _ (.head _)) hG2 rfl,.b rfl,.ec (.head _) hG3 rfl,.ec (.head _) hG3 rfl,trivial⟩,.b rfl,trivial⟩
 | true=>
  apply zN hc;cbv;exact dD hc hG hR rfl ⟨⟨.b rfl,.ec (.tail _ (.tail _ (.head _))) hG1 rfl,.ec (.tail _ (.tail _ (.head _))) hG1 rfl,.b rfl,.ec (.tail _ (.head _)) hG2 rfl,.ec (.tail _ (.head _)) hG2 rfl,.b rfl,.ec (.head _) hG3 rfl,.ec (.head _) hG3 rfl,trivial⟩,.b rfl,trivial⟩
end Go.Ai
namespace Go.Ai
open Go Go.RowKit
def KF.cp (vs:List Value)(cs:List CF):KF where
 p X _ w:=fO cs vs X w
 st X X' μ μ' w w' hs _ hw h:=tC hs hw h
theorem KFr.cp (n:Nat)(vs:List Value)(cs:List CF):KFr n (KF.cp vs cs):=⟨λ_ _ _ h=>h⟩
def aWv (n:Nat)(cs:List CF):VF where
 p v X w:=∃xs,(aLm n xs).p v X w/\fO cs xs X w
 st v X X' w w' hs hw h:=by
  obtain⟨xs,h1,h2⟩:=h;exact⟨xs,(aLm n xs).st v X X' w w' hs hw h1,tC hs hw h2⟩
theorem sB {μ:Mu}{v u:Value}(h:aD μ (.q v)=some u):u=v:=by simp only[aD]at h;injection h with h;exact h.symm
section
variable {c:Cx}{P:Program}{ty:Nat->Option TyI}{nt:Nat}{K:List KF}{S:St}
theorem aPq {ks:List KI}(g:KF)(hp:iJ ks=true)(hg:∀X μ w,(∀f,f∈K->f.p X μ w)->g.p X μ w)(h:Goal c (g::K) ⟨ks,S,[]⟩):Goal c K ⟨ks,S,[]⟩:=
 fT (ι:=Unit) (K':=λ_=>g::K) (S':=λ_=>S) (p:=λ_=>True) hp (λX μ a w H=>⟨(),X,μ,trivial,lC H (hg X μ w H.toP.kf)⟩) (λ_ _=>h)
theorem aPp (hc:Ctx c P ty nt){all:Array Oper}{i:Nat}{k:List KI}(o:Oper)(ho:all[i]?=some o)(hg:guardOf all S.sl o=some true)(hd:cA nt o.dst=true){t e bt j n cap:Nat}{x y:Operand}{a0:Option Addr}{ti ei:TyI}{xs:List Value}{cells:List AV}{cs:List CF}{pre post:List OF}{bytes sz m:Nat}{G:Option Addr->Nat->Nat->List Value->OF}(hG:∀a n cap l,G a n cap l=OF.rv (.slice a n cap) c.B.heap.size e sz n l)
  (hop:o.op=.call {callee:=.builtin .append,args:=#[x,y],argTypes:=#[t,t]}) (hx:fE S.sl x=some (.xs a0 n cap)) (hy:fE S.sl y=some (.sl j 0 (.l (m:Int)) m)) (hm:Nat.ble 1 m=true) (hj:S.hp[j]?=some (.c bt cells)) (hcs:oB K cells cs) (kB:cells.all AV.one=true) (hlen:cells.length=m*sz) (h0:Nat.ble 1 sz=true) (how:S.ow=pre++G a0 n cap xs::post)
  (hti:ty t=some ti) (hk:ti.kind=.slice e sz) (hei:ty e=some ei) (hzs:ei.zero.length=sz) (hby:(P.info? e).map (·.bytes)=some bytes) (hle:(n+m)*bytes<=140737488355328) (h63:n+m<=9223372036854775807)
  (h:∀a' n' aS l' news,n'=n+m->l'=xs++news->Goal c (KF.cp news cs::K) ⟨.ops all (i+1)::k,S.putO o.dst (.xs a' n' aS) none (G a' n' aS l'::(pre++post)),[]⟩):Goal c K ⟨.ops all i::k,S,[]⟩:=by
 refine sT hc o ho hg (ι:=RowZ × List Value) (K':=λz=>KF.cp z.2 cs::K) (S':=λz=>S.putO o.dst (.xs z.1.a (n+m) z.1.cap) none (G z.1.a (n+m) z.1.cap (xs++z.2)::(pre++post))) (p:=λ_=>True) (λX μ a w H=>?_) (λz _=>h z.1.a (n+m) z.1.cap _ z.2 rfl rfl);have P':=H.toP;have hm1:1<=m:=lbl hm;have hs1:1<=sz:=lbl h0;rw[hG]at how;have e1:=jH (aG H.toP hx (λ_ _=>trivial));obtain⟨b,o1,hb1,e2⟩:=lM (aG H.toP hy (λ_ _=>trivial)) (by simp only[IE.den];omega);simp only[IE.den]at e2;obtain⟨mv,hv1,hv2⟩:=uG hb1;have hok:=P'.heap j _ mv hj hv1;match mv,hv2,hok,hv1 with
 | .own b',hv2,hok,hv1=>
  simp only[MV.at,Option.some.injEq,Prod.mk.injEq]at hv2;obtain⟨rfl,rfl⟩:=hv2;obtain⟨vs,hvs,rB⟩:=hok;have T:=c.tok t ti (by rw[hc.hty];exact hti);have hu:=T.und;rw[hk]at hu;obtain⟨u1,tj,u2,u3⟩:=hu;obtain⟨tj',z,h1,h2,h3,h4,h5⟩:=(c.tok e ei (by rw[hc.hty];exact hei)).info;rw[u2]at h1;injection h1 with h1;subst h1
  have hzs:z.cells.size=sz:=by have:=aW h4;rw[hzs]at this;simpa using this
  have hb2:tj.bytes=bytes:=by rw[<-hc.hP,u2]at hby;simpa using hby
  have hf0:OF.rv (.slice a0 n cap) c.B.heap.size e sz n xs∈S.ow:=by rw[how];simp
  obtain⟨hr0,hr1⟩:=P'.own.at_ _ hf0;have hr0:w.ownsRow c.B.heap.size e sz (.slice a0 n cap) n xs:=hr0;have hnl:vs.length=m*sz:=by rw[aW hvs,hlen]
  obtain⟨v',w',q1,q2,q3,q4⟩:=uI (P:=c.P) c.B.heap.size t o.type e tj z sz bytes u1 u2 h3 u3 hb2 hzs zW _ _ _ hr0 ⟨b',0+0,none⟩ m m vs hnl (λq u hq=>by
    simp[add_eq,World.cell?,rB,hq]) (qN kB hvs) (by simpa[maxLen]using h63) hle P'.bel.size
  have hv':∃a' aS,v'=.slice a' (n+m) aS:=by
   rcases q2.2 with⟨h6,h7⟩ | ⟨g,aS,cur,h6,_⟩
   ·omega
   ·exact⟨_,_,h6⟩
  obtain⟨a',aS,rfl⟩:=hv';refine⟨(⟨a',aS⟩,vs),.slice a' (n+m) aS,w',X,μ,trivial,?_,?_⟩
  ·rw[<-hc.hP];simp only[execOp,hop,resolve,invoke,builtin,Sem.run_bind,Sem.run_pure,Result.andThen_ok,List.map_toArray,List.map_cons,List.map_nil,e1,e2];rw[Int.toNat_natCast,q1];rfl
  ·have hap:=P'.own.apart
   rw[how,List.pairwise_append]at hap;obtain⟨p1,p2,p3⟩:=hap;simp only[hG];have mH:∀f,f∈pre++post->f∈S.ow:=λf hf=>by
    rw[how];rcases List.mem_append.1 hf with h | h
    ·simp[h]
    ·simp[h]
   have bDs:Sim c K (S.putO o.dst (.xs a' (n+m) aS) none (OF.rv (.slice a' (n+m) aS) c.B.heap.size e sz (n+m) (xs++vs)::(pre++post))) X μ (a.put o.dst (.slice a' (n+m) aS)) w':=by
    refine aT4 (r:=(Value.slice a0 n cap).ownBlock) (by rw[hc.hnt];exact hd) H q3 q2 mH (List.pairwise_append.2 ⟨p1,List.Pairwise.of_cons p2,λf hf g hg=>p3 f hf g (List.mem_cons_of_mem _ hg)⟩) (λb hb=>⟨_,hf0,hb⟩) (λf hf b hb hb'=>?_) (λb hb=>?_)
    ·rcases List.mem_append.1 hf with h | h
     ·exact p3 f h _ List.mem_cons_self b hb' hb
     ·exact List.rel_of_pairwise_cons p2 h b hb hb'
    ·rcases q4 with h6 | h6
     ·left;rw[<-h6];exact hb
     ·right;rw[h6]at hb;injection hb with hb;exact Nat.le_of_eq hb
   exact lC bDs (oB.ok bDs.toP.kf hcs hvs)
def KF.mem (b o:Nat)(us:List Value):KF where
 p X _ w:=X b/\∃cs,∃ty:Nat × Nat × Nat,w.heap[b]?=some (.cells cs ty.1 ty.2)/\∀j x,us[j]?=some x->cs[o+j]?=some x
 st X X' μ μ' w w' hs _ hw h:=by
  obtain⟨h1,cs,ty,h2,h3⟩:=h;exact⟨hs _ h1,cs,ty,by rw[hw _ h1];exact h2,h3⟩
theorem bJ.cp {us:List Value}{cs:List CF}{j:Nat}{x:Value}{cf:CF}(hm:KF.cp us cs∈K)(hx:us[j]?=some x)(hc:cs[j]?=some cf):bJ K (.q x) cf:=
 .any λX μ w v hK hv=>by
  obtain⟨u,h1,h2⟩:=uO (hK _ hm) j cf hc;rw[hx]at h1;injection h1 with h1;subst h1
  rw[sB hv];exact h2
theorem rZ {X:Nat->Prop}{w:World}:∀(m:Nat) {cs:List CF} {vs:List Value},fO cs vs X w->fO (cs.take m) (vs.take m) X w
 | 0,_,_,_=>trivial
 | m+1,[],[],_=>trivial
 | m+1,c::cs,v::vs,h=>⟨h.1,rZ m h.2⟩
 | _,[],_::_,h=>h.elim
 | _,_::_,[],h=>h.elim
theorem rY {X:Nat->Prop}{w:World}:∀(m:Nat) {cs:List CF} {vs:List Value},fO cs vs X w->fO (cs.drop m) (vs.drop m) X w
 | 0,_,_,h=>h
 | m+1,[],[],_=>trivial
 | m+1,c::cs,v::vs,h=>rY m h.2
 | _,[],_::_,h=>h.elim
 | _,_::_,[],h=>h.elim
structure OpenI where
 b:Nat
 o:Nat
 cap:Nat
 xs:List Value
theorem bBf {ks:List KI}{s:Value}{R:VF}{n:Nat}{cs:List CF}(hp:iJ ks=true)(hf:KF.cst s R∈K)(hR:R=aWv n cs)(hn:0<n)
  (h:∀b o cap xs,s=.slice (some ⟨b,o,none⟩) n cap->xs.length=cs.length->Goal c (KF.mem b o xs::KF.cp xs cs::K) ⟨ks,S,[]⟩):Goal c K ⟨ks,S,[]⟩:=by
 subst hR;refine fT (ι:=OpenI) (K':=λz=>KF.mem z.b z.o z.xs::KF.cp z.xs cs::K) (S':=λ_=>S) (p:=λz=>s=.slice (some ⟨z.b,z.o,none⟩) n z.cap/\z.xs.length=cs.length) hp (λX μ a w H=>?_) (λz hz=>h z.b z.o z.cap z.xs hz.1 hz.2);obtain⟨xs,⟨a',cap,e1,e2,e3⟩,h2⟩:=H.toP.cst hf;match a',e1,e3 with
 | none,e1,e3=>omega
 | some (b,o),e1,⟨e3,cs',ty',e4,e5⟩=>
  exact⟨⟨b,o,cap,xs⟩,X,μ,⟨e1,oS h2⟩,lC (f:=KF.mem b o xs) (lC (f:=KF.cp xs cs) H h2) ⟨e3,cs',ty',e4,e5⟩⟩
theorem aNf {b o off m:Nat}{xs us:List Value}{X:Nat->Prop}{μ:Mu}{w:World}(h:(KF.mem b o xs).p X μ w)(hu:us=(xs.drop off).take m):(KF.mem b (o+off) us).p X μ w:=by
 obtain⟨h1,cs,ty',h2,h3⟩:=h;subst hu;refine⟨h1,cs,ty',h2,λj x hj=>?_⟩;rw[List.getElem?_take]at hj;split at hj
 ·rw[List.getElem?_drop]at hj;rw[Nat.add_assoc];exact h3 _ _ hj
 ·cases hj
theorem aLp (hc:Ctx c P ty nt){all:Array Oper}{i n0:Nat}{K0:List KF}{k:List KI}(o:Oper)(ho:all[i]?=some o)(hg:guardOf all S.sl o=some true)(hic:bU o=false)(hd:cA nt o.dst=true)(av:AV)
  (hr:∀(D:Nat->Prop) X μ a w,(∀t,Operand.tmp t∈o.op.operands->D t)->PSim c K0 n0 D (fl S o) X μ a w->∃u,(execOp a.eval o).run P w=.ok (.value u) w/\aD μ av=some u)
  (h:Goal c K ⟨.dops all (i+1) n0 K0::k,S.put o.dst av none,[]⟩):Goal c K ⟨.dops all i n0 K0::k,S,[]⟩:=by
 have hs:DPath c all n0 K0 k (i+1) (S.put o.dst av none) K:=h.so
 refine .mk0 (show DPath c all n0 K0 k i S K from ?_);refine DPath.op (Kn:=[]) (nb:=none) (ow:=(fl S o).ow) ho hg (by rw[hc.hnt];exact hd) (by
  rw[hic];intro X μ a w next Q H hfr hn
  obtain⟨u,h1,h2⟩:=hr _ X μ a w (λt ht=>by simp only[vN,dQ,List.mem_append];exact .inl (eV (by simpa using ht))) H;rw[hc.hP];exact xL h1 (hn X μ u w (cN.same H.own h2) (λf hf=>(by cases hf)))) (λ_=>rfl) ?_ hs
 rw[show(if bU o then(fl S o).ow else S.ow)=S.ow by rw[hic];rfl];exact Wk.refl _
theorem aTl (hc:Ctx c P ty nt){all:Array Oper}{i n0:Nat}{K0:List KF}{k:List KI}(o:Oper)(ho:all[i]?=some o)(hg:guardOf all S.sl o=some true)(hd:cA nt o.dst=true){t b of len cap:Nat}{x y:Operand}{kd:IntKind}{e:IE}{ti:TyI}{el fS:Nat}(n p:Nat)(hpp:of+n*fS=p)
  (hop:o.op=.indexAddr t x y) (hx:fE S.sl x=some (.q (.slice (some ⟨b,of,none⟩) len cap))) (hy:fE S.sl y=some (.i kd e)) (hti:ty t=some ti) (hk:ti.kind=.slice el fS) (hn:e.den=(n:Int)) (hlt:n<len)
  (h:Goal c K ⟨.dops all (i+1) n0 K0::k,S.put o.dst (.q (.pointer (some ⟨b,p,none⟩))) none,[]⟩):Goal c K ⟨.dops all i n0 K0::k,S,[]⟩:=by
 subst hpp;refine aLp hc o ho hg (by unfold bU;rw[hop]) hd _ (λD X μ a w hD H=>?_) h;rw[hop]at hD;have a1:=aG H (by rw[mA];exact hx) (λt e=>hD t (by simp[Op.operands,e]));have a2:=aG H (by rw[mA];exact hy) (λt e=>hD t (by simp[Op.operands,e]));have a1:=sB a1;have a2:a.eval y=.int kd (n:Int):=by simp only[aD]at a2;injection a2 with a2;rw[<-a2,hn]
 have T:=c.tok t ti (by rw[hc.hty];exact hti)
 have:=uA (c:=c) (w:=w) T hk (n:=(n:Int)) (len:=len) (cap:=cap) zW zW kd b of
 rw[hc.hP,Int.toNat_natCast]at this;exact⟨_,by simp only[execOp,hop,a1,a2,Sem.run_bind,this,Result.andThen_ok,Sem.run_pure],rfl⟩
theorem aTk (hc:Ctx c P ty nt){all:Array Oper}{i n0:Nat}{K0:List KF}{k:List KI}(o:Oper)(ho:all[i]?=some o)(hg:guardOf all S.sl o=some true)(hd:cA nt o.dst=true){t b of:Nat}{x y:Operand}{kd:IntKind}{e:IE}{ti:TyI}{len el fS:Nat}(n p:Nat)(hpp:of+n*fS=p)
  (hop:o.op=.indexAddr t x y) (hx:fE S.sl x=some (.q (.pointer (some ⟨b,of,none⟩)))) (hy:fE S.sl y=some (.i kd e)) (hti:ty t=some ti) (hk:ti.kind=.array len el fS) (hn:e.den=(n:Int)) (hlt:n<len)
  (h:Goal c K ⟨.dops all (i+1) n0 K0::k,S.put o.dst (.q (.pointer (some ⟨b,p,none⟩))) none,[]⟩):Goal c K ⟨.dops all i n0 K0::k,S,[]⟩:=by
 subst hpp;refine aLp hc o ho hg (by unfold bU;rw[hop]) hd _ (λD X μ a w hD H=>?_) h;rw[hop]at hD;have a1:=aG H (by rw[mA];exact hx) (λt e=>hD t (by simp[Op.operands,e]));have a2:=aG H (by rw[mA];exact hy) (λt e=>hD t (by simp[Op.operands,e]));have a1:=sB a1;have a2:a.eval y=.int kd (n:Int):=by simp only[aD]at a2;injection a2 with a2;rw[<-a2,hn]
 have T:=c.tok t ti (by rw[hc.hty];exact hti)
 have:=oW (c:=c) (w:=w) T hk (n:=(n:Int)) zW zW kd b of
 rw[hc.hP,Int.toNat_natCast]at this;exact⟨_,by simp only[execOp,hop,a1,a2,Sem.run_bind,this,Result.andThen_ok,Sem.run_pure],rfl⟩
theorem aTm (hc:Ctx c P ty nt){all:Array Oper}{i n0:Nat}{K0:List KF}{k:List KI}(o:Oper)(ho:all[i]?=some o)(hg:guardOf all S.sl o=some true)(hd:cA nt o.dst=true){t b of:Nat}{x:Operand}{ti:TyI}{us:List Value}(av:AV)
  (hop:o.op=.load t x) (hx:fE S.sl x=some (.q (.pointer (some ⟨b,of,none⟩)))) (hti:ty t=some ti) (hag:ti.kind.agg=true) (hsz:us.length=ti.size) (hm:KF.mem b of us∈K0) (hav:aD iN av=some (.agg us.toArray))
  (h:Goal c K ⟨.dops all (i+1) n0 K0::k,S.put o.dst av none,[]⟩):Goal c K ⟨.dops all i n0 K0::k,S,[]⟩:=by
 refine aLp hc o ho hg (by unfold bU;rw[hop]) hd _ (λD X μ a w hD H=>?_) h;rw[hop]at hD;have a1:=sB (aG H (by rw[mA];exact hx) (λt e=>hD t (by simp[Op.operands,e])));have T:=c.tok t ti (by rw[hc.hty];exact hti);obtain⟨_,cs,ty',h2,h3⟩:=H.kf _ hm;obtain⟨d,hd1,hd2⟩:=row_of T hag;obtain⟨tj,z,hi,hs2,hz,_⟩:=T.info;have:=run_loadAt_mid (P:=c.P) w b of t us d (λj v hj=>by simp only[World.cell?,h2];simpa using h3 j v hj) hd1 hd2 (by simp[hi,hs2,hsz]);rw[hc.hP]at this;exact⟨_,by simp only[execOp,hop,a1,Sem.run_bind,this,Result.andThen_ok,Sem.run_pure],eK hav⟩
theorem bBe (hc:Ctx c P ty nt){all:Array Oper}{i:Nat}{k:List KI}(o:Oper)(ho:all[i]?=some o)(hg:guardOf all S.sl o=some true)(hd:cA nt o.dst=true){t n cap el fS:Nat}{ad:Option Addr}{x:Operand}{ti:TyI}
  (hop:o.op=.call {callee:=.builtin .len,args:=#[x],argTypes:=#[t]}) (hx:fE S.sl x=some (.q (.slice ad n cap))) (hti:ty t=some ti) (hk:ti.kind=.slice el fS)
  (h:Goal c K ⟨.ops all (i+1)::k,S.put o.dst (.i .i64 (.n n)) none,[]⟩):Goal c K ⟨.ops all i::k,S,[]⟩:=by
 refine aNy hc o ho hg hd _ (λX μ a w H=>?_) h;have a1:=sB (aG H.toP hx (λ_ _=>trivial));have hu:=(c.tok t ti (by rw[hc.hty];exact hti)).und;rw[hk]at hu;have hu1:=hu.1;rw[hc.hP]at hu1;exact⟨.int .i64 n,by simp[execOp,hop,resolve,invoke,builtin,Builtin.len_,run_underlying hu1,a1,goInt],rfl⟩
theorem PSim.rowT {X:Nat->Prop}{μ:Mu}{a:Act}{w:World}{n0:Nat}{D:Nat->Prop}(H:PSim c K n0 D S X μ a w){k M N cap:Nat}{f:Nat->ByteArray}{v:Value}(hk:S.hp[k]?=some (.xs M f))(hv:aD μ (.sl k 0 (.n N) cap)=some v){l:List ByteArray}(hM:M=l.length)
  (hf:∀i x,l[i]?=some x->f i=x) (hc:N<=cap):(rowS N l).p v X w:=by
 obtain⟨ad,h1,h2,h3,h4⟩:=mE hv;subst hM;refine⟨ad,cap,by rw[h2];cases ad<;>simp[IE.den],hc,?_⟩;cases hm:μ k with
 | none=>simp[atS,hm]at h1
 | some m=>
  have hok:=H.heap k _ m hk hm
  simp only[atS,hm,Option.bind_some]at h1;match m,ad,h1,hok with
  | .ext none,ad,h1,hok=>
   simp only[MV.atS,Option.some.injEq]at h1;subst h1;obtain⟨q1,q2⟩:=h4 rfl;have hok:l.length=0:=hok;exact⟨by simpa[IE.den]using q1,q2,by rw[List.eq_nil_of_length_eq_zero hok];rfl⟩
  | .ext (some (b,o)),ad,h1,hok=>
   simp only[MV.atS,Option.some.injEq]at h1;subst h1;obtain⟨q1,cs,ty,q2,q3⟩:=hok;refine⟨q1,cs,ty,q2,λi x hx=>?_⟩;rw[List.getElem?_map]at hx;cases hl:l[i]? with
   | none=>rw[hl]at hx;cases hx
   | some y=>
    rw[hl]at hx;have hi:=(List.getElem?_eq_some_iff.1 hl).1;rw[q3 i hi,hf i y hl];exact hx
  | .own b,ad,h1,hok=>exact hok.elim
end
end Go.Ai
namespace Go.Ai
open Go Go.Proofs Go.Num V3
def pC (L:List ByteArray):List CF:=L.flatMap λa=>qC (rK a)
theorem aBj:∀L:List ByteArray,(pC L).length=3*L.length
 | []=>rfl
 | a::L=>by
  have:=aBj L
  unfold pC at *;rw[List.flatMap_cons,List.length_append,this,List.length_cons];show 3+_=_;omega
theorem aBi (L M:List ByteArray):pC (L++M)=pC L++pC M:=by unfold pC;simp
theorem aAd (x y z:Rat):∃b1 R1 R2 b2 R3 R4 b3 R5 R6,qC x++(qC y++qC z)=[.b (.l b1),.x R1,.x R2,.b (.l b2),.x R3,.x R4,.b (.l b3),.x R5,.x R6]:=⟨_,_,_,_,_,_,_,_,_,rfl⟩
theorem aU8:aB PP 28:=zK
structure TriI where
 x:Nat
 a:Option Addr
 c:Nat
 xs:List Value
set_option maxHeartbeats 0 in
theorem bCp {L:List ByteArray}{N:Nat}(hL:L.length=9*N)(hs:∀a,a∈L->a.size<=2^34)(hN:N<=2^30){X:Nat->Prop}{w:World}{v:Value}(hX:∀b,X b->b<w.heap.size)(hv:(rowS N L).p v X w):
  Fn PP 28 [v] X w (aWg (L.all gQ) (if L.all gQ=true then aWv N (pC L)else dN (.slice none 0 0))):=by
 obtain⟨R,hRR⟩:=nm (aWg (L.all gQ) (if L.all gQ=true then aWv N (pC L)else dN (.slice none 0 0)));obtain⟨Q,hQ⟩:=nm (9*N);obtain⟨K,hK⟩:=nm ([KF.cst v (rowS N L)]);rw[<-hRR];have fno:L.all gQ=false->∀{v':Value} {X:Nat->Prop} {w:World},v'=(.tuple #[.slice none 0 0,.bool false])->R.p v' X w:=λh v' X w e=>by
  rw[hRR,h,if_neg zV];exact⟨_,e,rfl⟩
 have nilF:∀{v':Value} {μ:Mu},aD μ (.t [.xs none 0 0,.b (.l false)])=some v'->v'=.tuple #[.slice none 0 0,.bool false]:=λhv'=>by
  obtain⟨vs,q1,rfl⟩:=nJ hv';obtain⟨u1,u2,rfl,e1,e2⟩:=bD q1;rw[fW e2,show u1=_ from(Option.some.inj e1).symm];rfl
 refine bE mixed tok [.q v] (K:=K) Tryz.func28 rfl rfl (lbl rfl) rfl hX (by rw[hK];simp;exact hv) λc hc hR=>?_;refine gY 0 N Q L (by rw[hL,hQ]) rfl rfl (λX μ a w v' H hv'=>bZ H (by rw[hK];exact .head _) hv') (λf cap hf cR=>?_);apply zN hc;cbv;obtain⟨CS,hCS⟩:∃CS:Nat->List CF,∀x,CS x=pC (L.take (9*x)):=⟨_,λ_=>rfl⟩;have hC0:CS 0=[]:=by rw[hCS];rfl
 obtain⟨G,hG⟩:∃G:Option Addr->Nat->Nat->List Value->OF,∀a n cap l,G a n cap l=OF.rv (.slice a n cap) c.B.heap.size 69 27 n l:=⟨_,λ_ _ _ _=>rfl⟩;refine eQ hG ?_;refine aPq (KF.cp [] (CS 0)) rfl (λX μ w _=>by rw[hC0];trivial) ?_;cbv;let ι:={s:TriI//s.x<=N/\(L.take (9*s.x)).all gQ=true};let I:ι->St:=λs=>⟨[(4,.xs s.1.a s.1.x s.1.c),(13,.sl 0 0 (.n N) cap),(14,.i .i64 (.n N)),(15,.i .i64 (.n s.1.x))],[.xs Q f],[G s.1.a s.1.x s.1.c s.1.xs]⟩
 let KK:ι->List KF:=λs=>[KF.cp s.1.xs (CS s.1.x)]
 let x0:ι:=⟨⟨0,none,0,[]⟩,Nat.zero_le _,rfl⟩
 refine zU 1 (S':=I x0) (K':=KK x0) zL ⟨⟨.head _,KFr.cp _ _ _⟩,trivial⟩ ⟨by rw[hG];exact OFr.rv _ _ _ _ _ _ _,trivial⟩ ?_;refine aGr hc I KK (λs=>N - s.1.x) x0 ?_;rintro pp ⟨⟨x,a,cc,xs⟩,hx,hok⟩ hy;dsimp only at hx hok;obtain⟨K0,hK0⟩:=nm ([KF.cp xs (CS x)]);have mC:KF.cp xs (CS x)∈K0:=by rw[hK0];exact .head _
 have hKK:KK ⟨⟨x,a,cc,xs⟩,hx,hok⟩=K0:=hK0.symm
 rw[hKK];apply zN hc;cbv;refine aE rfl 9 (λh=>?_) (λh=>?_)
 ·have hxN:x<N:=BE.ltn_t h
  obtain⟨a1,a2,a3,b1,b2,b3,d1,d2,d3,M,hD,_⟩:=aWe (n:=N - x - 1) (L:=L.drop (9*x)) (by rw[List.length_drop];omega);have la:∀i u,(a1::a2::a3::b1::b2::b3::d1::d2::d3::M)[i]?=some u->L[x*9+i]?=some u:=λi u h=>by
   rw[show x*9+i=9*x+i by omega,<-List.getElem?_drop,hD];exact h
  have l0:=la 0 _ rfl
  have l1:=la 1 _ rfl
  have l2:=la 2 _ rfl
  have l3:=la 3 _ rfl
  have l4:=la 4 _ rfl
  have l5:=la 5 _ rfl
  have l6:=la 6 _ rfl
  have l7:=la 7 _ rfl
  have l8:=la 8 _ rfl
  clear la;have htk:L.take (9*(x+1))=L.take (9*x)++[a1,a2,a3,b1,b2,b3,d1,d2,d3]:=by
   rw[show 9*(x+1)=9*x+9 by omega,List.take_add,hD];rfl
  have r9:=re9 (hf _ _ l0) (hf _ _ l1) (hf _ _ l2) (hf _ _ l3) (hf _ _ l4) (hf _ _ l5) (hf _ _ l6) (hf _ _ l7) (hf _ _ l8)
  have o1:(Obl.ltE (.n x) (.n N)).ok:=by show _/\_;simp only[IE.den];omega
  have o2:(Obl.ix 0 (.n x) 9 0 9 Q).ok:=by show aV 0 (x:Int) 9 0+9<=Q;simp only[aV,Int.toNat_natCast];omega
  have o3:(Obl.inR .i64 (.add (.n x) (.l 1))).ok:=by show lo _<=_/\_<=hi _;simp only[lo,hi,IE.den];omega
  obtain⟨x',hx'⟩:=nm (x+1);have hi1:((IE.n x).add (IE.l 1)).den=(IE.n x').den:=by simp only[IE.den,hx'];omega
  have z:=λ{i u} (h:L[i]?=some u)=>hs u (List.mem_of_getElem? h)
  have k0:=aZt (z l0) (z l1) (z l2)
  have k1:=aZt (z l3) (z l4) (z l5)
  have k2:=aZt (z l6) (z l7) (z l8)
  obtain⟨p0,hp0⟩:∃p,p=(gQ a1&&gQ a2&&gQ a3):=⟨_,rfl⟩;obtain⟨p1,hp1⟩:∃p,p=(gQ b1&&gQ b2&&gQ b3):=⟨_,rfl⟩;obtain⟨p2,hp2⟩:∃p,p=(gQ d1&&gQ d2&&gQ d3):=⟨_,rfl⟩;have hsp:L.all gQ=true->p0=true/\p1=true/\p2=true:=λh=>by
   rw[<-List.take_append_drop (9*x) L,hD,List.all_append,Bool.and_eq_true]at h;simp only[List.all_cons,Bool.and_eq_true]at h;obtain⟨_,h1,h2,h3,h4,h5,h6,h7,h8,h9,_⟩:=h;rw[hp0,hp1,hp2,h1,h2,h3,h4,h5,h6,h7,h8,h9];exact⟨rfl,rfl,rfl⟩
  have hn0:p0=false->L.all gQ=false:=λe=>by rw[<-Bool.not_eq_true];exact λh=>by rw[(hsp h).1]at e;cases e
  have hn1:p1=false->L.all gQ=false:=λe=>by rw[<-Bool.not_eq_true];exact λh=>by rw[(hsp h).2.1]at e;cases e
  have hn2:p2=false->L.all gQ=false:=λe=>by rw[<-Bool.not_eq_true];exact λh=>by rw[(hsp h).2.2]at e;cases e
  have cJ:p0=true->p1=true->p2=true->(L.take (9*(x+1))).all gQ=true:=λh1 h2 h3=>by
   rw[hp0]at h1;rw[hp1]at h2;rw[hp2]at h3;simp only[Bool.and_eq_true]at h1 h2 h3;rw[htk,List.all_append,hok];simp only[List.all_cons,h1.1.1,h1.1.2,h1.2,h2.1.1,h2.1.2,h2.2,h3.1.1,h3.1.2,h3.2,List.all_nil,Bool.and_self]
  have hCx:CS (x+1)=CS x++((qC (rK a1)++(qC (rK a2)++qC (rK a3)))++((qC (rK b1)++(qC (rK b2)++qC (rK b3)))++(qC (rK d1)++(qC (rK d2)++qC (rK d3))))):=by
   rw[hCS,hCS,htk,aBi];congr 1
  rw[<-hp0]at k0;rw[<-hp1]at k1;rw[<-hp2]at k2;unfold vI at k0 k1 k2;dsimp only at k0 k1 k2;obtain⟨ab1,A1,A2,ab2,A3,A4,ab3,A5,A6,e0⟩:=aAd (rK a1) (rK a2) (rK a3);obtain⟨bb1,B1,B2,bb2,B3,B4,bb3,B5,B6,e1⟩:=aAd (rK b1) (rK b2) (rK b3);obtain⟨db1,D1,D2,db2,D3,D4,db3,D5,D6,e2⟩:=aAd (rK d1) (rK d2) (rK d3);rw[e0]at k0;rw[e1]at k1;rw[e2]at k2;rw[e0,e1,e2]at hCx;clear e0 e1 e2 hD htk l0 l1 l2 l3 l4 l5 l6 l7 l8 hp0 hp1 hp2 z;cbv;refine aP hc ⟨o1,o2,trivial⟩ ?_;refine iA 1 [.s (.v a1),.s (.v a2),.s (.v a3),.s (.v b1),.s (.v b2),.s (.v b3),.s (.v d1),.s (.v d2),.s (.v d3)] rfl rfl r9 ?_;apply zN hc;cbv;refine fG hc aJ3 k0 ⟨⟨.s rfl,.s rfl,.s rfl,trivial⟩,trivial⟩ (.t [.g [.b (.l ab1),.ec 2 1,.ec 2 2,.b (.l ab2),.ec 2 4,.ec 2 5,.b (.l ab3),.ec 2 7,.ec 2 8],.b (.l p0)]) 100 (λG0 hG0=>?_);cbv;refine fG hc aJ3 k1 ⟨⟨.s rfl,.s rfl,.s rfl,trivial⟩,trivial⟩ (.t [.g [.b (.l bb1),.ec 4 1,.ec 4 2,.b (.l bb2),.ec 4 4,.ec 4 5,.b (.l bb3),.ec 4 7,.ec 4 8],.b (.l p1)]) 100 (λG1 hG1=>?_);cbv;refine fG hc aJ3 k2 ⟨⟨.s rfl,.s rfl,.s rfl,trivial⟩,trivial⟩ (.t [.g [.b (.l db1),.ec 6 1,.ec 6 2,.b (.l db2),.ec 6 4,.ec 6 5,.b (.l db3),.ec 6 7,.ec 6 8],.b (.l p2)]) 100 (λG2 hG2=>?_);cbv;cases p0 with
  | false=>
   apply zN hc;cbv;exact aR hc hR rfl (λX μ a w v' H hv'=>fno (hn0 rfl) (nilF hv'))
  | true=>
  cases p1 with
  | false=>
   apply zN hc;cbv;exact aR hc hR rfl (λX μ a w v' H hv'=>fno (hn1 rfl) (nilF hv'))
  | true=>
  cases p2 with
  | false=>
   apply zN hc;cbv;exact aR hc hR rfl (λX μ a w v' H hv'=>fno (hn2 rfl) (nilF hv'))
  | true=>
  apply zN hc;cbv;refine aPp hc _ rfl rfl rfl (pre:=[]) (m:=1) (bytes:=504) (G:=G) hG (cs:=[.b (.l ab1),.x A1,.x A2,.b (.l ab2),.x A3,.x A4,.b (.l ab3),.x A5,.x A6,.b (.l bb1),.x B1,.x B2,.b (.l bb2),.x B3,.x B4,.b (.l bb3),.x B5,.x B6,.b (.l db1),.x D1,.x D2,.b (.l db2),.x D3,.x D4,.b (.l db3),.x D5,.x D6]) rfl rfl rfl rfl rfl ⟨.b rfl,.ec zM hG0 rfl,.ec zM hG0 rfl,.b rfl,.ec zM hG0 rfl,.ec zM hG0 rfl,.b rfl,.ec zM hG0 rfl,.ec zM hG0 rfl,.b rfl,.ec zM hG1 rfl,.ec zM hG1 rfl,.b rfl,.ec zM hG1 rfl,.ec zM hG1 rfl,.b rfl,.ec zM hG1 rfl,.ec zM hG1 rfl,.b rfl,.ec zM hG2 rfl,.ec zM hG2 rfl,.b rfl,.ec zM hG2 rfl,.ec zM hG2 rfl,.b rfl,.ec zM hG2 rfl,.ec zM hG2 rfl,trivial⟩ rfl rfl rfl rfl rfl rfl rfl rfl zG zW zW (λae ne ce le news hne hle=>?_);refine aPq (KF.cp le (CS x')) rfl (λX μ w hk=>?_) ?_
  ·rw[hle,hx',hCx];exact oR (hk _ (by repeat (first | exact mC | apply List.Mem.tail))) (hk _ (.head _))
  cbv;apply zN hc;cbv;refine aP hc ⟨o3,trivial⟩ ?_;have eN:ne=x':=by rw[hne,hx']
  subst eN;let y:ι:=⟨⟨ne,ae,ce,le⟩,by show ne<=N;omega,by show(L.take (9*ne)).all gQ=true;rw[hx'];exact cJ rfl rfl rfl⟩;refine zU 1 (S':=I y) (K':=KK y) ⟨zS,zS,zS,zI rfl rfl hi1,trivial⟩ ⟨⟨.head _,KFr.cp _ _ _⟩,trivial⟩ ⟨by rw[hG];exact OFr.rv _ _ _ _ _ _ _,trivial⟩ (hy y (by show N - ne<N - x;omega))
 ·have hxN:x=N:=by have:=BE.ltn_f h;omega
  subst hxN;cbv;refine dW (sz:=27) (hG _ _ _ _) (pre:=[]) ?_;cbv;refine aR hc hR rfl (λX μ a w v' H hv'=>?_);have hr:=H.toP.cst (.head _);have hp:=H.toP.kf _ (.tail _ mC);have aXs:L.take (9*x)=L:=List.take_of_length_le zW;rw[aXs]at hok;rw[hRR,hok,if_pos rfl];obtain⟨vs,q1,rfl⟩:=nJ hv';obtain⟨u1,u2,rfl,e1,e2⟩:=bD q1;rw[fW e2,show u1=_ from(Option.some.inj e1).symm];have hp:fO (CS x) xs X w:=hp;rw[hCS,aXs]at hp;exact⟨_,rfl,xs,hr,hp⟩
end Go.Ai
