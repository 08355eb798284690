/- Part 21: lemmas for the particulars laws -/
import Derived.Test.YtafimpgfbgigeaaGreatDoorPh19
set_option linter.all false
namespace Go.Ai
open Go Go.Proofs Go.Num Go.Lib
theorem aSp:aB PP 182:=zK
theorem bGd {b b':Bool}{n:Nat}(hb:b'=(!b&&decide (n≠0))):fD PP 182 [zRt b n] (.sg (zRt b' n)):=by
 have km:=aBd (b:= !b) hb
 obtain⟨R1,hR1⟩:=nm (aI n);unfold zRt at *;rw[<-hR1]at km |-;clear hb;obtain⟨F,hF⟩:=nm (lR (.sg (.agg [.b (.l b),.x R1])));refine fU mixed tok Tryz.func182 rfl (by rfl) rfl [F] ⟨hF,trivial⟩ λc G hG hc hR=>?_;obtain⟨K,hK⟩:=nm (nH 0 [F]);rw[<-hK];have m1:KF.at 0 F∈K:=by rw[hK];exact .head _
 apply zN hc;cbv;refine gM hc jB km ⟨.b rfl,.ec m1 hF rfl,trivial⟩ (.g [.b (.l b'),.ec 3 1]) 100 (λFB hFB=>?_);cbv;exact dL hc hG hR rfl ⟨.b rfl,.ec (.head _) hFB rfl,trivial⟩
theorem bAh:aB PP 131:=zK
theorem bIn (q:Rat):fD PP 131 [qI q] (.sg (qI (-q))):=by
 have ko:=bGd (b:=decide (q.num<0)) (b':=decide ((-q).num<0)) (n:=q.num.natAbs) (by
  rw[Rat.neg_num,Bool.eq_iff_iff];simp only[Bool.and_eq_true,Bool.not_eq_true',decide_eq_true_eq,decide_eq_false_iff_not,ne_eq];omega)
 have e1:(-q).num.natAbs=q.num.natAbs:=by rw[Rat.neg_num,Int.natAbs_neg]
 have e2:(-q).den=q.den:=Rat.neg_den q
 unfold qI qR;rw[e1,e2];unfold zRt at ko;generalize decide ((-q).num<0)=b',decide (q.num<0)=b at *;obtain⟨R1,hR1⟩:=nm (aI q.num.natAbs);obtain⟨R2,hR2⟩:=nm (aI q.den);rw[<-hR1]at ko |-;rw[<-hR2];clear hR1 hR2 e1 e2;obtain⟨F,hF⟩:=nm (lR (.sg (.agg [.b (.l b),.x R1,.x R2])));refine fU mixed tok Tryz.func131 rfl (by rfl) rfl [F] ⟨hF,trivial⟩ λc G hG hc hR=>?_;obtain⟨K,hK⟩:=nm (nH 0 [F]);rw[<-hK];have m1:KF.at 0 F∈K:=by rw[hK];exact .head _
 apply zN hc;cbv;refine jN hc aSp ko ⟨⟨.b rfl,.ec m1 hF rfl,trivial⟩,trivial⟩ (.g [.b (.l b'),.ec 3 1]) 100 (λFB hFB=>?_);cbv;refine zE ?_;cbv;exact dL hc hG hR rfl ⟨.b rfl,.ec (.head _) hFB rfl,.ec (.tail _ m1) hF rfl,trivial⟩
theorem aSq:aB PP 107:=zK
theorem bDg {x:Int}(h0:0<=x)(h1:x<4294967296):fD PP 107 [.one (.i .i64 (.v x))] (.sg (zIt x)):=by
 have kn:∀{X:Nat->Prop} {w:World},(∀b,X b->b<w.heap.size)->Fn PP 96 [.int .u32 x] X w (aI x.natAbs):=λhX=>by
  have:=aAj (x:=x) hX h0 h1
  rwa [show x.toNat=x.natAbs by omega]at this
 have km:=aBd (b:=false) (b':=decide (x<0)) (n:=x.natAbs) (by simp;omega)
 unfold zIt;obtain⟨R1,hR1⟩:=nm (aI x.natAbs);have mA:∀{v:Value} {X:Nat->Prop} {w:World},R1.p v X w->v.oneCell'=true:=λh=>by rw[hR1]at h;exact dZ h
 unfold zRt at *;rw[<-hR1]at kn km |-;generalize decide (x<0)=b' at *;clear hR1;obtain⟨F,hF⟩:=nm (lR (.sg (.one (.i .i64 (.v x)))));refine fU mixed tok Tryz.func107 rfl (by rfl) rfl [F] ⟨hF,trivial⟩ λc G hG hc hR=>?_;obtain⟨K,hK⟩:=nm (nH 0 [F]);rw[<-hK];apply zN hc;cbv;refine aE rfl 100 (λh=>?_) (λ_=>?_)
 ·have h:=BE.lt_t h
  simp only[IE.den]at h;omega
 cbv;refine aP hc ⟨by show _/\_;simp only[lo,hi,IE.den];omega,trivial⟩ ?_;refine eB (R:=R1) hc qE (λn0 D X μ a w aK H aG=>?_) 100 ?_
 ·obtain⟨v,rfl,e1⟩:=bN aG;rw[bY e1];exact kn H.xlt
 cbv;refine gM hc jB km ⟨.b rfl,.e (.head _) mA,trivial⟩ (.g [.b (.l b'),.ec 3 1]) 100 (λFB hFB=>?_);cbv;exact dL hc hG hR rfl ⟨.b rfl,.ec (.head _) hFB rfl,trivial⟩
theorem zT:aB PP 54:=zK
theorem bIl {x:Int}(h0:0<=x)(h1:x<4294967296):fD PP 54 [.one (.i .i64 (.v x))] (.sg (qI x)):=by
 have ks:=bDg h0 h1
 have kn:∀{X:Nat->Prop} {w:World},(∀b,X b->b<w.heap.size)->Fn PP 96 [.int .u32 1] X w (aI 1):=λhX=>aAj (x:=1) hX zW zW
 unfold qI;rw[show((x:Rat)).num=x from rfl,show((x:Rat)).den=1 from rfl];unfold zIt at ks;unfold qR;obtain⟨R1,hR1⟩:=nm (aI x.natAbs);obtain⟨R2,hR2⟩:=nm (aI 1);have mA:∀{v:Value} {X:Nat->Prop} {w:World},R2.p v X w->v.oneCell'=true:=λh=>by rw[hR2]at h;exact dZ h
 unfold zRt at *;rw[<-hR1]at ks |-;rw[<-hR2]at kn |-;generalize decide (x<0)=b at *;clear hR1 h0 h1;obtain⟨RR,hRR⟩:=nm (RV.sg (.agg [.b (.l b),.x R1,.x R2]));rw[<-hRR];obtain⟨F,hF⟩:=nm (lR (.sg (.one (.i .i64 (.v x)))));refine fU mixed tok Tryz.func54 rfl (by rfl) rfl [F] ⟨hF,trivial⟩ λc G hG hc hR=>?_;obtain⟨K,hK⟩:=nm (nH 0 [F]);rw[<-hK];apply zN hc;cbv;refine gM hc aSq ks ⟨.i rfl,trivial⟩ (.g [.b (.l b),.ec 2 1]) 100 (λFB hFB=>?_);cbv;refine eB (R:=R2) hc qE (λn0 D X μ a w aK H aG=>?_) 100 ?_
 ·obtain⟨v,rfl,e1⟩:=bN aG;rw[bY e1];exact kn H.xlt
 cbv;refine dE 5 .u32 (aC 1) rfl rfl (λX μ a w v' H hv'=>by have h:=H.toP.val (R:=R2) (.head _) hv';rw[hR2]at h;exact h) λf N cap hN hf dJ=>?_;apply zN hc;cbv;refine bB hc hR rfl (λX μ a w v H hv=>?_);obtain⟨vs,q1,rfl⟩:=tA hv;obtain⟨v1,v2,v3,rfl,e3,e4,e5⟩:=mS q1;have h3:=H.toP.numRow rfl e5 hN hf dJ;rw[hG,hRR];exact⟨[v1,v2,v3],rfl,iT e3,(bM.ec (c:=.x R1) (.tail _ (.head _)) hFB rfl).ok H.toP.kf e4,⟨dZ h3,by rw[hR2];exact h3⟩,trivial⟩
theorem aS3 (l:List UInt8):(dI l).1.length<=l.length/\((dI l).2.getD [49]).length<=l.length+1:=by
 cases hc:(dI l).2 with
 | none=>rw[uD hc];exact⟨lRf _,by show 1<=_;omega⟩
 | some r=>
  have h:=congrArg List.length (uE hc)
  simp only[List.length_append,List.length_cons]at h;exact⟨zW,by show r.length<=_;omega⟩
theorem aQv {a:ByteArray}(hs:a.size<=2^34)(h:sO a.data.toList=none):fD PP 35 [.one (.s (.v a))] (.tp [qI 0,.one (.b (.l false))]):=by
 obtain⟨l,hl⟩:=nm (a.data.toList);have hlen:l.length<=2^34:=by rw[hl];exact hs
 have hq:sO l=none:=by rw[hl];exact h
 have ksp:=aUy a zW
 rw[<-hl]at ksp;clear hl h hs;have hcl:=aS3 l;have kI:fD PP 54 [.one (.i .i64 (.v 0))] (.sg (qI 0)):=bIl (x:=0) zV zV;obtain⟨p,hp⟩:∃p:ByteArray,p=⟨(dI l).1.toArray⟩:=⟨_,rfl⟩;obtain⟨tx,htx⟩:∃p:ByteArray,p=⟨((dI l).2.getD [49]).toArray⟩:=⟨_,rfl⟩;obtain⟨sl,hsl⟩:=nm ((dI l).2.isSome);have hpl:p.data.toList=(dI l).1:=by rw[hp]
 have htl:tx.data.toList=(dI l).2.getD [49]:=by rw[htx]
 have hps:p.size<=2^34:=by rw[show p.size=p.data.toList.length from rfl,hpl];omega
 have hts:tx.size<=2^34+1:=by rw[show tx.size=tx.data.toList.length from rfl,htl];omega
 rw[<-hp,<-htx,<-hsl]at ksp;have kv1:=aWb p zW;have kv2:=aH2 tx zW;obtain⟨RR,hRR⟩:=nm (RV.tp [qI 0,.one (.b (.l false))]);rw[<-hRR];unfold qI qR at hRR kI;generalize decide ((0:Rat).num<0)=b0 at *;obtain⟨R0,hR0⟩:=nm (aI (0:Rat).num.natAbs);obtain⟨RD,hRD⟩:=nm (aI (0:Rat).den);rw[<-hR0,<-hRD]at hRR kI;clear hR0 hRD;obtain⟨F,hF⟩:=nm (lR (.sg (.one (.s (.v a)))));refine fU mixed tok Tryz.func35 rfl (by rfl) rfl [F] ⟨hF,trivial⟩ λc G hG hc hR=>?_;obtain⟨K,hK⟩:=nm (nH 0 [F]);rw[<-hK];apply zN hc;cbv;refine zC (.t [.s (.v p),.s (.v tx),.b (.l sl)]) ksp aI5 ?_;cbv;cases hz:yJ p.data.toList with
 | none=>
  rw[hz]at kv1;refine zC (.b (.l false)) kv1 aCr ?_;cbv;refine gM hc zT kI ⟨.i rfl,trivial⟩ (.g [.b (.l b0),.ec 2 1,.ec 2 2]) 100 (λFB hFB=>?_);cbv;rw[hRR]at hG;exact dL hc hG hR rfl ⟨⟨.b rfl,.ec (.head _) hFB rfl,.ec (.head _) hFB rfl,trivial⟩,.b rfl,trivial⟩
 | some z=>
 rw[hz]at kv1;refine zC (.b (.l true)) kv1 aCr ?_;cbv;cases hn:isNat tx.data.toList with
 | false=>
  rw[hn]at kv2;refine zC (.b (.l false)) kv2 qF ?_;cbv;refine gM hc zT kI ⟨.i rfl,trivial⟩ (.g [.b (.l b0),.ec 2 1,.ec 2 2]) 100 (λFB hFB=>?_);cbv;rw[hRR]at hG;exact dL hc hG hR rfl ⟨⟨.b rfl,.ec (.head _) hFB rfl,.ec (.head _) hFB rfl,trivial⟩,.b rfl,trivial⟩
 | true=>
 rw[hn]at kv2;refine zC (.b (.l true)) kv2 qF ?_;cbv;obtain⟨n,hnn⟩:=nm (eI 0 tx.data.toList);have hrn:rdN tx.data.toList=some n:=by unfold rdN;rw[if_pos hn,hnn]
 have ep:p=aW z:=kQ (by rw[dF];exact yK hz)
 have et:tx=aJ n:=kQ (by rw[cZ];exact aD1 hrn)
 have aXc:sl=true/\¬(z≠0/\n≠0/\n≠1/\z.natAbs.gcd n=1):=by
  unfold sO at hq;cases hc2:(dI l).2 with
  | none=>
   rw[hc2]at hq;rw[hpl,uD hc2]at hz;rw[hz]at hq;cases hq
  | some r=>
   rw[hc2]at hq htl hsl;rw[hpl]at hz;have htl:tx.data.toList=r:=htl;rw[htl]at hrn;rw[hz]at hq;simp only[hrn]at hq;refine⟨hsl,λh=>?_⟩;rw[dif_pos h]at hq;cases hq
 obtain⟨aXc,hno⟩:=aXc;have hdz:dl z.natAbs<=2^34:=by
  refine lTr ?_ hps;rw[ep,show(aW z).size=(aW z).data.toList.length from rfl,dF];unfold itoa;split
  ·exact Nat.le_succ _
  ·rename_i h;rw[show z.toNat=z.natAbs by omega];exact lRf _
 have hdn:dl n<=2^34+1:=by rw[et,fS]at hts;exact hts
 have hln:=cX n
 have hlz:=cX z.natAbs
 have krd:=aZw (z:=z) zW
 rw[<-ep]at krd;have kfr:∀{X:Nat->Prop} {w:World},(∀b,X b->b<w.heap.size)->Fn PP 95 [.string tx] X w (aI n):=λhX=>by rw[et];exact aUp zW hX
 have ksm:∀{X:Nat->Prop} {w:World},(∀b,X b->b<w.heap.size)->Fn PP 96 [.int .u32 1] X w (aI 1):=λhX=>aAj (x:=1) hX zW zW
 have hl1:(aC 1).length<=2^40:=lTr (bP (k:=1) zV) zV
 have kc1:∀{v u:Value} {X:Nat->Prop} {w:World},(∀b,X b->b<w.heap.size)->(aI n).p v X w->(aI 1).p u X w->Fn PP 97 [v,u] X w (eE (.int .i64 (bD n (1:Nat)))):=λhX h1 h2=>aKh (n:=n) (m:=1) zW hl1 hX h1 h2
 obtain⟨sg,hsg⟩:∃sg:Int,sg=if decide (z<0)then -1 else if z.natAbs=0 then 0 else 1:=⟨_,rfl⟩
 have ksg:=aIk (b:=decide (z<0)) (n:=z.natAbs) hsg
 obtain⟨g,hg⟩:=nm (z.natAbs.gcd n);have kcm:∀{v u:Value} {X:Nat->Prop} {w:World},(∀b,X b->b<w.heap.size)->(aI z.natAbs).p v X w->(aI n).p u X w->Fn PP 99 [v,u] X w (aI g):=λhX h1 h2=>by
  rw[hg];exact aBz aO8 zW zW hX h1 h2
 have kc2:n≠0->z≠0->g≠1->∀{v u:Value} {X:Nat->Prop} {w:World},(∀b,X b->b<w.heap.size)->(aI g).p v X w->(aI 1).p u X w->Fn PP 97 [v,u] X w (eE (.int .i64 1)):=λh0 hz0 h1 X w v u hX h2 h3=>by
  have hg0:g≠0:=λe=>by rw[hg]at e;exact h0 (Nat.eq_zero_of_gcd_eq_zero_right e)
  have hgn:g<=n:=by rw[hg];exact Nat.gcd_le_right _ zW
  have hlg:(aC g).length<=2^40:=lTr (bS hgn) zW
  have:=aKh (n:=g) (m:=1) hlg hl1 hX h2 h3
  rw[show bD (g:Int) ((1:Nat):Int)=1 by unfold bD;rw[if_neg zW,if_pos zW]]at this;exact this
 have aT8:z≠0->sg≠0:=λh=>by
  rw[hsg,if_neg (show z.natAbs≠0 by omega)];split<;>decide
 have bH3:z=0->sg=0:=λh=>by rw[hsg,h];rfl
 unfold zIt zRt at krd;unfold zRt at ksg;subst aXc;obtain⟨bz,hbz⟩:=nm (decide (z<0));rw[<-hbz]at krd ksg;obtain⟨R1,hR1⟩:=nm (aI z.natAbs);obtain⟨R2,hR2⟩:=nm (aI n);obtain⟨RO,hRO⟩:=nm (aI 1);obtain⟨RG,hRG⟩:=nm (aI g);rw[<-hR1]at krd ksg kcm;rw[<-hR2]at kfr kc1 kcm;rw[<-hRO]at ksm kc1 kc2;rw[<-hRG]at kcm kc2;refine gM hc aOh krd ⟨.s rfl,trivial⟩ (.g [.b (.l bz),.ec 2 1]) 100 (λFB hFB=>?_);cbv;refine eB (R:=R2) hc aBn (λn0 D X μ a w aK H aG=>?_) 100 ?_
 ·obtain⟨v,rfl,e1⟩:=bN aG;rw[dW e1];exact kfr H.xlt
 cbv;refine dE 28 .u32 (aC n) rfl rfl (λX μ a w v' H hv'=>by have h:=H.toP.val (R:=R2) (.head _) hv';rw[hR2]at h;exact h) λf N cap hN hf dJ=>?_;apply zN hc;cbv;refine eB (R:=RO) hc qE (λn0 D X μ a w aK H aG=>?_) 100 ?_
 ·obtain⟨v,rfl,e1⟩:=bN aG;rw[bY e1];exact ksm H.xlt
 cbv;rw[hRR]at hG;by_cases h0:n=0
 ·refine cE hc (.i .i64 (.l (-1))) pR (λn0 D X μ a w aK H aG=>?_) rfl 100 ?_
  ·obtain⟨v,u,rfl,e1,e2⟩:=bI aG;have:=kc1 H.xlt (by rw[hR2];exact H.numRow rfl e1 hN hf dJ) (H.val (R:=RO) (.head _) e2);rw[h0]at this;exact this
  cbv;refine gM hc zT kI ⟨.i rfl,trivial⟩ (.g [.b (.l b0),.ec 7 1,.ec 7 2]) 100 (λFC hFC=>?_);cbv;exact dL hc hG hR rfl ⟨⟨.b rfl,.ec (.head _) hFC rfl,.ec (.head _) hFC rfl,trivial⟩,.b rfl,trivial⟩
 by_cases h1:n=1
 ·refine cE hc (.i .i64 (.l 0)) pR (λn0 D X μ a w aK H aG=>?_) rfl 100 ?_
  ·obtain⟨v,u,rfl,e1,e2⟩:=bI aG;have:=kc1 H.xlt (by rw[hR2];exact H.numRow rfl e1 hN hf dJ) (H.val (R:=RO) (.head _) e2);rw[h1]at this;exact this
  cbv;refine gM hc zT kI ⟨.i rfl,trivial⟩ (.g [.b (.l b0),.ec 7 1,.ec 7 2]) 100 (λFC hFC=>?_);cbv;exact dL hc hG hR rfl ⟨⟨.b rfl,.ec (.head _) hFC rfl,.ec (.head _) hFC rfl,trivial⟩,.b rfl,trivial⟩
 have hc1:bD (n:Int) ((1:Nat):Int)=1:=by unfold bD;rw[if_neg zW,if_pos zW]
 rw[hc1]at kc1;refine cE hc (.i .i64 (.l 1)) pR (λn0 D X μ a w aK H aG=>?_) rfl 100 ?_
 ·obtain⟨v,u,rfl,e1,e2⟩:=bI aG;exact kc1 H.xlt (by rw[hR2];exact H.numRow rfl e1 hN hf dJ) (H.val (R:=RO) (.head _) e2)
 cbv;by_cases hz0:z=0
 ·have hs0:=bH3 hz0
  rw[hs0]at ksg;refine gM hc qH ksg ⟨⟨.b rfl,.ec zM hFB rfl,trivial⟩,trivial⟩ (.i .i64 (.v 0)) 100 (λFS hFS=>?_);cbv;refine cG 45 rfl rfl 100 (λh=>absurd h zV) (λ_=>?_);cbv;refine gM hc zT kI ⟨.i rfl,trivial⟩ (.g [.b (.l b0),.ec 8 1,.ec 8 2]) 100 (λFC hFC=>?_);cbv;exact dL hc hG hR rfl ⟨⟨.b rfl,.ec (.head _) hFC rfl,.ec (.head _) hFC rfl,trivial⟩,.b rfl,trivial⟩
 have hg1:g≠1:=λe=>hno ⟨hz0,h0,h1,hg.symm.trans e⟩
 have hs0:=aT8 hz0
 refine gM hc qH ksg ⟨⟨.b rfl,.ec zM hFB rfl,trivial⟩,trivial⟩ (.i .i64 (.v sg)) 100 (λFS hFS=>?_);cbv;have e0:(BE.not (.eq (.v sg) (.l 0))).den=true:=by show(!decide (sg=0))=true;simp[hs0]
 refine cG 45 rfl rfl 100 (λ_=>?_) (λh=>absurd (e0.symm.trans h) zV);cbv;refine eB (R:=RG) hc tZ (λn0 D X μ a w aK H aG=>?_) 100 ?_
 ·obtain⟨v,u,rfl,e1,e2⟩:=bI aG;exact kcm H.xlt (((bM.ec (c:=.x R1) (F:=FB) zM hFB rfl).ok H.kf e1).2) (by rw[hR2];exact H.numRow rfl e2 hN hf dJ)
 cbv;refine cE hc (.i .i64 (.l 1)) pR (λn0 D X μ a w aK H aG=>?_) rfl 100 ?_
 ·obtain⟨v,u,rfl,e1,e2⟩:=bI aG;exact kc2 h0 hz0 hg1 H.xlt (H.val (R:=RG) zM e1) (H.val (R:=RO) zM e2)
 cbv;refine gM hc zT kI ⟨.i rfl,trivial⟩ (.g [.b (.l b0),.ec 9 1,.ec 9 2]) 100 (λFC hFC=>?_);cbv;exact dL hc hG hR rfl ⟨⟨.b rfl,.ec (.head _) hFC rfl,.ec (.head _) hFC rfl,trivial⟩,.b rfl,trivial⟩
theorem aSr:aB PP 111:=zK
theorem bDh {x y:Int}(hx:(aC x.natAbs).length<=2^39)(hy:(aC y.natAbs).length<=2^39):fD PP 111 [zIt x,zIt y] (.sg (zIt (x*y))):=by
 have kt:∀{v u:Value} {X:Nat->Prop} {w:World},(∀b,X b->b<w.heap.size)->(aI x.natAbs).p v X w->(aI y.natAbs).p u X w->Fn PP 112 [v,u] X w (aI (x.natAbs*y.natAbs)):=λhX h1 h2=>rV hx hy hX h1 h2
 have km:=aBd (b:=(decide (x<0) !=decide (y<0))) (b':=decide (x*y<0)) (n:=x.natAbs*y.natAbs) (by
  rw[Bool.eq_iff_iff,Bool.and_eq_true,bne_iff_ne,decide_eq_true_eq,decide_eq_true_eq,ne_eq,decide_eq_decide];simp only[ne_eq,Nat.mul_eq_zero];rcases Int.lt_trichotomy x 0 with h1 | h1 | h1<;>rcases Int.lt_trichotomy y 0 with h2 | h2 | h2
  ·have:=Int.mul_pos_of_neg_of_neg h1 h2;constructor<;>intro h<;>omega
  ·subst h2;simp
  ·have:=Int.mul_neg_of_neg_of_pos h1 h2;constructor<;>intro h<;>omega
  ·subst h1;simp
  ·subst h1;simp
  ·subst h1;simp
  ·have:=Int.mul_neg_of_pos_of_neg h1 h2;constructor<;>intro h<;>omega
  ·subst h2;simp
  ·have:=Int.mul_pos h1 h2;constructor<;>intro h<;>omega)
 unfold zIt;rw[Int.natAbs_mul];generalize decide (x*y<0)=b,decide (x<0)=b1,decide (y<0)=b2 at *;obtain⟨R1,hR1⟩:=nm (aI x.natAbs);obtain⟨R2,hR2⟩:=nm (aI y.natAbs);obtain⟨R3,hR3⟩:=nm (aI (x.natAbs*y.natAbs));have mA:∀{v:Value} {X:Nat->Prop} {w:World},R3.p v X w->v.oneCell'=true:=λh=>by rw[hR3]at h;exact dZ h
 unfold zRt at *;rw[<-hR3]at km kt |-;rw[<-hR1,<-hR2]at kt |-;clear hR1 hR2 hR3 hx hy;obtain⟨F1,hF1⟩:=nm (lR (.sg (.agg [.b (.l b1),.x R1])));obtain⟨F2,hF2⟩:=nm (lR (.sg (.agg [.b (.l b2),.x R2])));refine fU mixed tok Tryz.func111 rfl (by rfl) rfl [F1,F2] ⟨hF1,hF2,trivial⟩ λc G hG hc hR=>?_;obtain⟨K,hK⟩:=nm (nH 0 [F1,F2]);rw[<-hK];have m1:KF.at 0 F1∈K:=by rw[hK];exact .head _
 have m2:KF.at 1 F2∈K:=by rw[hK];exact .tail _ (.head _)
 apply zN hc;cbv;refine mP hc (R:=R3) kV (λD X μ a w aK H hv=>?_) 100 ?_
 ·obtain⟨v,u,rfl,e1,e2⟩:=bI hv;exact kt H.xlt (((bM.ec (c:=.x R1) (F:=F1) m1 hF1 rfl).ok H.kf e1).2) (((bM.ec (c:=.x R2) (F:=F2) m2 hF2 rfl).ok H.kf e2).2)
 cbv;refine jN hc jB km ⟨.b rfl,.e (.head _) mA,trivial⟩ (.g [.b (.l b),.ec 6 1]) 100 (λFB hFB=>?_);cbv;refine zE ?_;cbv;exact dL hc hG hR rfl ⟨.b rfl,.ec (.head _) hFB rfl,trivial⟩
def qC (q:Rat):List CF:=[.b (.l (decide (q.num<0))),.x (aI q.num.natAbs),.x (aI q.den)]
theorem aKm (q:Rat):∃b R1 R2,qC q=[.b (.l b),.x R1,.x R2]:=⟨_,_,_,rfl⟩
def vI (v:V3):RV1:=.agg (qC v.x++(qC v.y++qC v.z))
theorem iL:aB PP 56:=zK
theorem bIm {a b:Rat}(ha:sz a<=2^29)(hb:sz b<=2^29):fD PP 56 [.agg (qC a),.agg (qC b)] (.sg (.agg (qC (a*b)))):=by
 have a1:dl a.num.natAbs<=2^29:=lTr (Nat.le_max_left _ _) ha
 have a2:dl a.den<=2^29:=lTr (Nat.le_max_right _ _) ha
 have b1:dl b.num.natAbs<=2^29:=lTr (Nat.le_max_left _ _) hb
 have b2:dl b.den<=2^29:=lTr (Nat.le_max_right _ _) hb
 have c1:=cX a.num.natAbs
 have c2:=cX a.den
 have c3:=cX b.num.natAbs
 have c4:=cX b.den
 have kz:=bDh (x:=a.num) (y:=b.num) zW zW
 have kt:∀{v u:Value} {X:Nat->Prop} {w:World},(∀b,X b->b<w.heap.size)->(aI a.den).p v X w->(aI b.den).p u X w->Fn PP 112 [v,u] X w (aI (a.den*b.den)):=λhX h1 h2=>rV zW zW hX h1 h2
 have kl:=aH4 (z:=a.num*b.num) (d:=a.den*b.den) (Nat.mul_pos a.den_pos b.den_pos) (by rw[Int.natAbs_mul];have:=iV (lRf (aC a.num.natAbs).length) (lRf (aC b.num.natAbs).length);omega) (by have:=iV (lRf (aC a.den).length) (lRf (aC b.den).length);omega)
 rw[aMz]at kl;have kl:fD PP 110 [zIt (a.num*b.num),.one (.x (aI (a.den*b.den)))] (.sg (.agg (qC (a*b)))):=kl;unfold zIt zRt at kz kl;generalize a.num*b.num=z at *;obtain⟨b0,T1,T2,e0⟩:=aKm (a*b);rw[e0]at kl |-;unfold qC;obtain⟨R1,hR1⟩:=nm (aI a.num.natAbs);obtain⟨R2,hR2⟩:=nm (aI a.den);obtain⟨R3,hR3⟩:=nm (aI b.num.natAbs);obtain⟨R4,hR4⟩:=nm (aI b.den);obtain⟨R5,hR5⟩:=nm (aI (a.den*b.den));obtain⟨R6,hR6⟩:=nm (aI z.natAbs);have mA:∀{v:Value} {X:Nat->Prop} {w:World},R5.p v X w->v.oneCell'=true:=λh=>by rw[hR5]at h;exact dZ h
 rw[<-hR5]at kt kl;rw[<-hR6]at kz kl;rw[<-hR1,<-hR3]at kz |-;rw[<-hR2,<-hR4]at kt |-;generalize decide (a.num<0)=y1,decide (b.num<0)=y2,decide (z<0)=y3 at *;clear hR1 hR2 hR3 hR4 hR5 hR6 e0 a1 a2 b1 b2 c1 c2 c3 c4 ha hb;obtain⟨F1,hF1⟩:=nm (lR (.sg (.agg [.b (.l y1),.x R1,.x R2])));obtain⟨F2,hF2⟩:=nm (lR (.sg (.agg [.b (.l y2),.x R3,.x R4])));refine fU mixed tok Tryz.func56 rfl (by rfl) rfl [F1,F2] ⟨hF1,hF2,trivial⟩ λc G hG hc hR=>?_;obtain⟨K,hK⟩:=nm (nH 0 [F1,F2]);rw[<-hK];have m1:KF.at 0 F1∈K:=by rw[hK];exact .head _
 have m2:KF.at 1 F2∈K:=by rw[hK];exact .tail _ (.head _)
 apply zN hc;cbv;refine jN hc aSr kz ⟨⟨.b rfl,.ec m1 hF1 rfl,trivial⟩,⟨.b rfl,.ec m2 hF2 rfl,trivial⟩,trivial⟩ (.g [.b (.l y3),.ec 5 1]) 100 (λFB hFB=>?_);cbv;refine mP hc (R:=R5) kV (λD X μ a w aK H hv=>?_) 100 ?_
 ·obtain⟨v,u,rfl,e1,e2⟩:=bI hv;exact kt H.xlt (((bM.ec (c:=.x R2) (F:=F1) (.tail _ m1) hF1 rfl).ok H.kf e1).2) (((bM.ec (c:=.x R4) (F:=F2) (.tail _ m2) hF2 rfl).ok H.kf e2).2)
 cbv;refine jN hc zY kl ⟨⟨.b rfl,.ec (.tail _ (.head _)) hFB rfl,trivial⟩,.e (.head _) mA,trivial⟩ (.g [.b (.l b0),.ec 7 1,.ec 7 2]) 100 (λFC hFC=>?_);cbv;refine zE ?_;cbv;exact dL hc hG hR rfl ⟨.b rfl,.ec (.head _) hFC rfl,.ec (.head _) hFC rfl,trivial⟩
theorem aCo:aB PP 68:=zK
theorem bIo {a b:Rat}(ha:sz a<=2^29)(hb:sz b<=2^29):fD PP 68 [.agg (qC a),.agg (qC b)] (.sg (.agg (qC (a - b)))):=by
 have a1:dl a.num.natAbs<=2^29:=lTr (Nat.le_max_left _ _) ha
 have a2:dl a.den<=2^29:=lTr (Nat.le_max_right _ _) ha
 rw[<-qB]at hb;have b1:dl (-b).num.natAbs<=2^29:=lTr (Nat.le_max_left _ _) hb;have b2:dl (-b).den<=2^29:=lTr (Nat.le_max_right _ _) hb;have c1:=cX a.num.natAbs;have c2:=cX a.den;have c3:=cX (-b).num.natAbs;have c4:=cX (-b).den;have kn:fD PP 131 [.agg (qC b)] (.sg (.agg (qC (-b)))):=bIn b;have ka:fD PP 59 [.agg (qC a),.agg (qC (-b))] (.sg (.agg (qC (a+-b)))):=bFv zW zW zW zW;rw[<-Rat.sub_eq_add_neg]at ka;obtain⟨x1,R1,R2,e1⟩:=aKm a;obtain⟨x2,R3,R4,e2⟩:=aKm b;obtain⟨x3,R5,R6,e3⟩:=aKm (-b);obtain⟨x4,R7,R8,e4⟩:=aKm (a - b);rw[e1,e2,e4];rw[e2,e3]at kn;rw[e1,e3,e4]at ka;clear e1 e2 e3 e4 a1 a2 b1 b2 c1 c2 c3 c4 ha hb;obtain⟨F1,hF1⟩:=nm (lR (.sg (.agg [.b (.l x1),.x R1,.x R2])));obtain⟨F2,hF2⟩:=nm (lR (.sg (.agg [.b (.l x2),.x R3,.x R4])));refine fU mixed tok Tryz.func68 rfl (by rfl) rfl [F1,F2] ⟨hF1,hF2,trivial⟩ λc G hG hc hR=>?_;obtain⟨K,hK⟩:=nm (nH 0 [F1,F2]);rw[<-hK];have m1:KF.at 0 F1∈K:=by rw[hK];exact .head _
 have m2:KF.at 1 F2∈K:=by rw[hK];exact .tail _ (.head _)
 apply zN hc;cbv;refine jN hc bAh kn ⟨⟨.b rfl,.ec m2 hF2 rfl,.ec m2 hF2 rfl,trivial⟩,trivial⟩ (.g [.b (.l x3),.ec 5 1,.ec 5 2]) 100 (λFB hFB=>?_);cbv;refine jN hc kW ka ⟨⟨.b rfl,.ec (.tail _ m1) hF1 rfl,.ec (.tail _ m1) hF1 rfl,trivial⟩,⟨.b rfl,.ec (.head _) hFB rfl,.ec (.head _) hFB rfl,trivial⟩,trivial⟩ (.g [.b (.l x4),.ec 6 1,.ec 6 2]) 100 (λFC hFC=>?_);cbv;refine zE ?_;cbv;exact dL hc hG hR rfl ⟨.b rfl,.ec (.head _) hFC rfl,.ec (.head _) hFC rfl,trivial⟩
theorem bFw {a b:Rat}(ha:sz a<=2^29)(hb:sz b<=2^29):fD PP 59 [.agg (qC a),.agg (qC b)] (.sg (.agg (qC (a+b)))):=by
 have a1:dl a.num.natAbs<=2^29:=lTr (Nat.le_max_left _ _) ha
 have a2:dl a.den<=2^29:=lTr (Nat.le_max_right _ _) ha
 have b1:dl b.num.natAbs<=2^29:=lTr (Nat.le_max_left _ _) hb
 have b2:dl b.den<=2^29:=lTr (Nat.le_max_right _ _) hb
 have c1:=cX a.num.natAbs
 have c2:=cX a.den
 have c3:=cX b.num.natAbs
 have c4:=cX b.den
 exact bFv zW zW zW zW
theorem bIp {a:Rat}(ha:sz a<=2^29):fD PP 55 [.agg (qC a)] (.sg (.one (.s (.v (aA a))))):=by
 have a1:dl a.num.natAbs<=2^29:=lTr (Nat.le_max_left _ _) ha
 have a2:dl a.den<=2^29:=lTr (Nat.le_max_right _ _) ha
 have c1:=cX a.num.natAbs
 have c2:=cX a.den
 exact qTo zW zW zW
def aQ (a:ByteArray):Rat:=(sO a.data.toList).getD 0
theorem bCg {a:ByteArray}(hs:a.size<=2^34):fD PP 35 [.one (.s (.v a))] (.tp [.agg (qC (aQ a)),.one (.b (.l (cA a)))]):=by
 unfold cA aQ;cases h:sO a.data.toList with
 | none=>exact aQv hs h
 | some q=>
  have e:=qA h
  subst e;exact aUx (lTr (gS q) hs)
end Go.Ai
namespace Go.Ai
open Go Go.RowKit
def aF5:List (Nat × RV)->Nat->Option RV
 | [],_=>none
 | (j,R)::l,k=>if j==k then some R else aF5 l k
structure InK (K:List KF)(L:List (Nat × RV)):Prop where
 h:∀k R,aF5 L k=some R->KF.at k (lR R)∈K
def aJa (L:List (Nat × RV)):AV->Option CF
 | .s e=>some (.s e)
 | .b e=>some (.b e)
 | .i k e=>some (.i k e)
 | .ec k j=>match aF5 L k with
  | some R=>R.cells[j]?
  | none=>none
 | .xs a n m=>some (.x (eE (.slice a n m)))
 | _=>none
def aHa (L:List (Nat × RV)):List AV->Option (List CF)
 | []=>some []
 | a::l=>match aJa L a,aHa L l with
  | some c,some cs=>some (c::cs)
  | _,_=>none
def aLo (L:List (Nat × RV)):AV->Option RV1
 | .g l=>match aHa L l with
  | some cs=>some (.agg cs)
  | none=>none
 | a=>match aJa L a with
  | some c=>some (.one c)
  | none=>none
def aE4 (L:List (Nat × RV)):List AV->Option (List RV1)
 | []=>some []
 | a::l=>match aLo L a,aE4 L l with
  | some c,some cs=>some (c::cs)
  | _,_=>none
def aU4 (L:List (Nat × RV)):AV->Option RV
 | .t l=>match aE4 L l with
  | some rs=>some (.tp rs)
  | none=>none
 | a=>match aLo L a with
  | some r=>some (.sg r)
  | none=>none
section
variable {c:Cx}{P:Program}{ty:Nat->Option TyI}{nt:Nat}{K:List KF}{S:St}{L:List (Nat × RV)}
theorem aJb (hK:InK K L){a:AV}{cf:CF}(h:aJa L a=some cf):bM K a cf:=by
 cases a with
 | s e=>injection h with h;subst h;exact .s rfl
 | b e=>injection h with h;subst h;exact .b rfl
 | i k e=>injection h with h;subst h;exact .i rfl
 | ec k j=>
  simp only[aJa]at h;split at h
  ·rename_i R hR;exact .ec (hK.h k R hR) rfl h
  ·cases h
 | xs a n m=>injection h with h;subst h;exact .any λX μ w v _ hv=>by simp only[aD,Option.some.injEq]at hv;subst hv;exact⟨rfl,rfl⟩
 | _=>cases h
theorem aFf (hK:InK K L):∀{zas:List AV} {cs:List CF},aHa L zas=some cs->qZ K zas cs
 | [],cs,h=>by injection h with h;subst h;trivial
 | a::zas,cs,h=>by
  simp only[aHa]at h;split at h
  ·rename_i c' cs' h1 h2;injection h with h;subst h;exact⟨aJb hK h1,aFf hK h2⟩
  ·cases h
theorem aNx (hK:InK K L){a:AV}{r:RV1}(h:aLo L a=some r):sF K a r:=by
 have k:∀a:AV,(aLo L a=match aJa L a with | some c=>some (RV1.one c) | none=>none)->aLo L a=some r->sF K a r:=λa e h=>by
  rw[e]at h;split at h
  ·rename_i c' h1;injection h with h;subst h;have:=aJb hK h1;unfold sF;exact this
  ·cases h
 cases a with
 | g l=>
  simp only[aLo]at h;split at h
  ·rename_i cs h1;injection h with h;subst h;exact aFf hK h1
  ·cases h
 | _=>exact k _ rfl h
theorem wW (hK:InK K L):∀{zas:List AV} {rs:List RV1},aE4 L zas=some rs->pP K zas rs
 | [],rs,h=>by injection h with h;subst h;trivial
 | a::zas,rs,h=>by
  simp only[aE4]at h;split at h
  ·rename_i c' cs' h1 h2;injection h with h;subst h;exact⟨aNx hK h1,wW hK h2⟩
  ·cases h
theorem aX4 (hK:InK K L){a:AV}{R:RV}(h:aU4 L a=some R):aNu K a R:=by
 have k:∀a:AV,(aU4 L a=match aLo L a with | some c=>some (RV.sg c) | none=>none)->aU4 L a=some R->∃r,R=.sg r/\sF K a r:=λa e h=>by
  rw[e]at h;split at h
  ·rename_i c' h1;injection h with h;subst h;exact⟨_,rfl,aNx hK h1⟩
  ·cases h
 cases a with
 | t l=>
  simp only[aU4]at h;split at h
  ·rename_i cs h1;injection h with h;subst h;exact wW hK h1
  ·cases h
 | _=>obtain⟨r,rfl,h9⟩:=k _ rfl h;exact h9
theorem InK.cons (hK:InK K L)(n:Nat)(R:RV):InK (KF.at n (lR R)::K) ((n,R)::L):=⟨λk R' h=>by
 unfold aF5 at h;split at h
 ·rename_i e;injection h with h;subst h;rw[beq_iff_eq.1 e];exact .head _
 ·exact .tail _ (hK.h k R' h)⟩
def ecl (k:Nat):Nat->Nat->List AV
 | _,0=>[]
 | j,n+1=>.ec k j::ecl k (j+1) n
def cP (k j n:Nat):AV:=.g (ecl k j n)
theorem aUe {K:List KF}:InK K []:=⟨λk R h=>nomatch h⟩
theorem lK (s:SE):(BE.seq s s).den=true:=by simp[BE.den]
theorem xP (x:Int):(BE.eq (.v x) (.l x)).den=true:=by simp[BE.den,IE.den]
theorem bQ (hc:Ctx c P ty nt)(hK:InK K L)(av:Nat->AV){g:Nat}{avs:List AV}{all:Array Oper}{i:Nat}{k:List KI}{rs:List RV1}{R:RV}(hs:fD P g rs R)(hg:aB P g)(hav:R.av S.hp.length=av S.hp.length)(ha:aE4 L avs=some rs)(n:Nat)
  (h:∀K',InK K' ((S.hp.length,R)::L)->(∀f,f∈K->f∈K')->Goal c K' (run ty nt K' n (.ops all (i+1)::k) (S.putO (eX all i) (av S.hp.length) (some .e) S.ow) [])):Goal c K ⟨.cal g avs all i::k,S,[]⟩:=by
 exact gM (hav:=hav) hc hg hs (wW hK ha) _ n λF hF=>h _ (hF▸hK.cons _ _) λf hf=>.tail _ hf
theorem aS (hc:Ctx c P ty nt)(hK:InK K L)(av:Nat->AV){g:Nat}{avs:List AV}{all:Array Oper}{i n0:Nat}{K0:List KF}{k:List KI}{rs:List RV1}{R:RV}(hs:fD P g rs R)(hg:aB P g)(hav:R.av S.hp.length=av S.hp.length)(ha:aE4 L avs=some rs)(n:Nat)
  (h:∀K',InK K' ((S.hp.length,R)::L)->(∀f,f∈K->f∈K')->Goal c K' (run ty nt K' n (.dops all (i+1) n0 K0::k) (S.putO (eX all i) (av S.hp.length) (some .e) S.ow) [])):Goal c K ⟨.dcal g avs all i n0 K0::k,S,[]⟩:=by
 exact jN (hav:=hav) hc hg hs (wW hK ha) _ n λF hF=>h _ (hF▸hK.cons _ _) λf hf=>.tail _ hf
theorem cT (hc:Ctx c P ty nt)(hK:InK K L){fn:Func}{G:VF}{R:RV}(hG:G=lR R)(hR:aIl c fn G){av:AV}(h:nC ty S fn.results.toList=some av:=by exact rfl)(hr:aU4 L av=some R:=by exact rfl):Goal c K ⟨[],S,[]⟩:=
 dL hc hG hR h (aX4 hK hr)
def aXo:Nat->List RV1->List (Nat × RV)
 | _,[]=>[]
 | k,r::rs=>(k,.sg r)::aXo (k+1) rs
theorem aDa:∀rs:List RV1,aC9 (rs.map λr=>lR (.sg r)) rs
 | []=>trivial
 | r::rs=>⟨rfl,aDa rs⟩
theorem aOy:∀(rs:List RV1) (k j:Nat) (R:RV),aF5 (aXo k rs) j=some R->KF.at j (lR R)∈nH k (rs.map λr=>lR (.sg r))
 | [],k,j,R,h=>by cases h
 | r::rs,k,j,R,h=>by
  unfold aXo aF5 at h;split at h
  ·rename_i e;injection h with h;subst h;rw[<-beq_iff_eq.1 e];exact .head _
  ·exact .tail _ (aOy rs (k+1) j R h)
theorem dP (hm:P.follows .mixedOrders=true)(tok:∀t i,ty t=some i->TyOk P t i)(avs:List AV){g:Nat}{fn:Func}{code:Code}{rs:List RV1}{R:RV}
  (hf:P.funcs[g]?=some fn)    
  (h:∀(c:Cx) (G:VF) (K:List KF),G=lR R->InK K (aXo 0 rs)->Ctx c P ty nt->aIl c fn G->Goal c K ⟨[.code code],⟨oY 0 avs,List.replicate avs.length .e,[]⟩,[]⟩)(hb:fn.body=some code:=by exact rfl)(hav:aEt 0 rs=avs:=by exact rfl)(hnt:fn.ntmps=nt:=by exact rfl)(hn:Nat.ble rs.length fn.ntmps=true:=by exact rfl):fD P g rs R:=by
 subst hav;rw[aA8]at h;exact fU hm tok hf hb hn hnt _ (aDa rs) λc G hG hc hR=>h c G _ hG ⟨λk R h=>aOy rs 0 k R h⟩ hc hR
end
theorem pZ {c:Cx}{P:Program}{ty:Nat->Option TyI}{nt:Nat}{K:List KF}(hc:Ctx c P ty nt){ks:List KI}{S:St}{ob:List Obl}(h2:Goal c K ⟨ks,S,[]⟩)
  (h:iA ob:=by simp only[iA,Obl.ok,lo,hi,IE.den,aY,Int.toNat_natCast,Int.toNat_zero,and_true];omega):Goal c K ⟨ks,S,ob⟩:=aP hc h h2
theorem fH {c:Cx}{P:Program}{ty:Nat->Option TyI}{nt:Nat}{K:List KF}(hc:Ctx c P ty nt){x:Operand}{p q:Code}{k:List KI}{S:St}{e:BE}(b:Bool)(hb:e.den=b)(n:Nat)
  (h:Goal c K (run ty nt K n (.code (if b then p else q)::k) S []))(hx:fW S.sl x=some (.b e):=by exact rfl):Goal c K ⟨.code (.cond x p q)::k,S,[]⟩:=
 aE hx n (λh'=>by rw[hb]at h';subst h';exact h) (λh'=>by rw[hb]at h';subst h';exact h)
theorem dK {c:Cx}{P:Program}{ty:Nat->Option TyI}{nt:Nat}{K:List KF}(hc:Ctx c P ty nt){ks:List KI}{S:St}(d:Nat){e:BE}(b:Bool)(hb:e.den=b)(hp:match ks with | .cal ..::_=>false | .dcal ..::_=>false | _=>true)(hl:look S.sl d=some (.b e))(n:Nat)
  (h:Goal c K (run ty nt K n ks {S with sl:=(d,.b (.l b))::S.sl} [])):Goal c K ⟨ks,S,[]⟩:=
 cG d hp hl n (λh'=>by rw[hb]at h';subst h';exact h) (λh'=>by rw[hb]at h';subst h';exact h)
theorem aXb {x x':Nat}(h:x'=x+1)(μ:Mu):aD μ (.i .i64 ((IE.n x).add (.l 1)))=aD μ (.i .i64 (.n x')):=congrArg (λz=>some (Value.int .i64 z)) (by simp only[IE.den,h];omega)
def CF.hide:CF->CF
 | .b e=>.x (eE (.bool e.den))
 | c=>c
theorem CF.hide_ok {c:CF}{v:Value}{X:Nat->Prop}{w:World}:c.hide.ok v X w↔c.ok v X w:=by
 cases c with
 | b e=>
  show(v.oneCell'=true/\v=.bool e.den)↔v=.bool e.den
  exact⟨λh=>h.2,λh=>⟨by rw[h];rfl,h⟩⟩
 | _=>exact Iff.rfl
theorem aDh:∀{cs:List CF} {vs:List Value} {X:Nat->Prop} {w:World},jI (cs.map CF.hide) vs X w↔jI cs vs X w
 | [],[],_,_=>Iff.rfl
 | c::cs,v::vs,X,w=>and_congr CF.hide_ok (aDh (cs:=cs) (vs:=vs))
 | [],_::_,_,_=>Iff.rfl
 | _::_,[],_,_=>Iff.rfl
def RV1.hide:RV1->RV1
 | .agg cs=>.agg (cs.map CF.hide)
 | r=>r
theorem RV1.hide_p {r:RV1}{v:Value}{X:Nat->Prop}{w:World}:r.hide.p v X w↔r.p v X w:=by
 cases r with
 | one c=>exact Iff.rfl
 | agg cs=>exact exists_congr λvs=>and_congr Iff.rfl aDh
theorem rO:∀{rs:List RV1} {vs:List Value} {X:Nat->Prop} {w:World},kD (rs.map RV1.hide) vs X w↔kD rs vs X w
 | [],[],_,_=>Iff.rfl
 | c::cs,v::vs,X,w=>and_congr RV1.hide_p (rO (rs:=cs) (vs:=vs))
 | [],_::_,_,_=>Iff.rfl
 | _::_,[],_,_=>Iff.rfl
def RV.hide:RV->RV
 | .sg r=>.sg r.hide
 | .tp l=>.tp (l.map RV1.hide)
theorem RV.hide_p {R:RV}{v:Value}{X:Nat->Prop}{w:World}:R.hide.p v X w↔R.p v X w:=by
 cases R with
 | sg r=>exact RV1.hide_p
 | tp l=>exact exists_congr λvs=>and_congr Iff.rfl rO
theorem fD.hide {P:Program}{g:Nat}{rs:List RV1}{R:RV}(h:fD P g rs R):fD P g (rs.map RV1.hide) R.hide:=λargs X w hX hp=>
 (h args X w hX (rO.1 hp)).mono λv X w hr=>RV.hide_p.2 hr
theorem fD.unhide {P:Program}{g:Nat}{rs:List RV1}{R:RV}(h:fD P g (rs.map RV1.hide) R.hide):fD P g rs R:=λargs X w hX hp=>
 (h args X w hX (rO.2 hp)).mono λv X w hr=>RV.hide_p.1 hr
theorem fD.of2 {P:Program}{g:Nat}{A B C:VF}(h1:∀{v:Value} {X:Nat->Prop} {w:World},C.p v X w->v.oneCell'=true)(h:∀{v u:Value} {X:Nat->Prop} {w:World},(∀b,X b->b<w.heap.size)->A.p v X w->B.p u X w->Fn P g [v,u] X w C):fD P g [.one (.x A),.one (.x B)] (.sg (.one (.x C))):=λargs X w hX hp=>by
 match args,hp with
 | [v,u],⟨⟨_,hv⟩,⟨_,hu⟩,_⟩=>exact(h hX hv hu).mono λv X w hr=>⟨h1 hr,hr⟩
def aAt (P:Program)(g:Nat)(RS:VF)(args:List Value)(r:Value):Prop:=
 ∀(X:Nat->Prop) (w:World) (v:Value),(∀b,X b->b<w.heap.size)->RS.p v X w->Fn P g (v::args) X w (eE r)
section
variable {c:Cx}{P:Program}{ty:Nat->Option TyI}{nt:Nat}{K:List KF}{S:St}{RS:VF}{v r:Value}{g:Nat}{avs:List AV}{aK:List Value}
theorem aL8 {μ:Mu}{a:AV}{l:List AV}{vs:List Value}(h:aF μ (a::l)=some vs):∃u us,vs=u::us/\aD μ a=some u/\aF μ l=some us:=by
 simp only[aF]at h;split at h
 ·rename_i u us h1 h2;injection h with h;subst h;exact⟨_,_,rfl,h1,h2⟩
 ·cases h
theorem bD3 (hp:aAt P g RS aK r){x:AV}{n0:Nat}{D:Nat->Prop}{X:Nat->Prop}{μ:Mu}{a:Act}{w:World}{us:List Value}(H:PSim c K n0 D S X μ a w)(ha:aF hJ avs=some aK)(hx:∀u,aD μ x=some u->RS.p u X w)(hv:aF μ (x::avs)=some us):Fn P g us X w (eE r):=by
 obtain⟨u,us',rfl,e1,e2⟩:=aL8 hv;rw[cW ha]at e2;injection e2 with e2;subst e2
 exact hp _ _ _ H.xlt (hx u e1)
theorem rY (hc:Ctx c P ty nt)(hp:aAt P g RS aK r)(hg:aB P g)(hm:KF.cst v RS∈K)(av:AV){all:Array Oper}{i:Nat}{k:List KI}(n:Nat)
  (h:Goal c K (run ty nt K n (.ops all (i+1)::k) (S.putO (eX all i) av none S.ow) []))(ha:aF hJ avs=some aK:=by exact rfl)(hr:aD hJ av=some r:=by exact rfl):Goal c K ⟨.cal g (.q v::avs) all i::k,S,[]⟩:=
 cE hc av hg (λn0 D X μ a w us H hv=>bD3 hp H ha (λu hu=>by simp only[aD,Option.some.injEq]at hu;subst hu;exact H.cst hm) hv) hr n h
theorem aUz (hc:Ctx c P ty nt)(hp:aAt P g RS aK r)(hg:aB P g){kk:Nat}(hm:KF.at kk RS∈K)(av:AV){all:Array Oper}{i n0:Nat}{K0:List KF}{k:List KI}(ha:aF hJ avs=some aK)(hr:aD hJ av=some r)(n:Nat)
  (h:Goal c K (run ty nt K n (.dops all (i+1) n0 K0::k) (S.putO (eX all i) av none S.ow) [])):Goal c K ⟨.dcal g (.e kk::avs) all i n0 K0::k,S,[]⟩:=
 aYb hc av hg (λD X μ a w us H hv=>bD3 hp H ha (λu hu=>H.val hm hu) hv) hr n h
theorem aMc (hm:P.follows .mixedOrders=true)(tok:∀t i,ty t=some i->TyOk P t i){fn:Func}{code:Code}{args:List Value}(avs:List AV)
  (hf:P.funcs[g]?=some fn) (hb:fn.body=some code) (ha:aF hJ avs=some args) (hn:Nat.ble (args.length+1) fn.ntmps=true) (hnt:fn.ntmps=nt)
  (h:∀(c:Cx) (v:Value) (K:List KF),KF.cst v RS∈K->Ctx c P ty nt->aIl c fn (eE r)->Goal c K ⟨[.code code],⟨oY 0 (.q v::avs),[],[]⟩,[]⟩):aAt P g RS args r:=by
 intro X w v hX hv;refine bJ (K:=[KF.cst v RS]) hm tok (.q v::avs) hf hb (by simp only[aF,aD,ha]) (lbl hn) hnt hX (λf hf=>by simp only[List.mem_singleton]at hf;subst hf;exact hv) λc hc hR=>h c v _ (.head _) hc hR
theorem fJ (hc:Ctx c P ty nt){fn:Func}(hR:aIl c fn (eE r)){av:AV}(h:nC ty S fn.results.toList=some av:=by exact rfl)(hr:aD hJ av=some r:=by exact rfl):Goal c K ⟨[],S,[]⟩:=
 bB hc hR h λX μ a w u H hu=>by rw[fE hr]at hu;injection hu with hu;exact hu.symm
end
end Go.Ai
namespace Go.Ai
open Go Go.Proofs Go.Num V3
theorem aSd:aB PP 86:=zK
theorem bFs {x y:Rat}(hx:sz x<=2^29)(hy:sz y<=2^29):Pure PP 86 [.string (aA x),.string (aA y)] (.string (aA (x+y))):=by
 have h1:=aBi hx hy
 generalize aA (x+y)=r,aA x=sx,aA y=sy at *;refine zF [.s (.v sx),.s (.v sy)] Tryz.func86 λc hc hR=>?_;cbv;refine aR hc h1 mR rfl 100 ?_;cbv;exact zR
theorem bAf:aB PP 105:=zK
theorem bIk {x y:Rat}(hx:sz x<=2^29)(hy:sz y<=2^29):Pure PP 105 [.string (aA x),.string (aA y)] (.string (aA (x - y))):=by
 have h1:=bCh hx hy
 generalize aA (x - y)=r,aA x=sx,aA y=sy at *;refine zF [.s (.v sx),.s (.v sy)] Tryz.func105 λc hc hR=>?_;cbv;refine aR hc h1 aL0 rfl 100 ?_;cbv;exact zR
theorem aCm:aB PP 101:=zK
theorem bCb {x y:Rat}(hx:sz x<=2^29)(hy:sz y<=2^29):Pure PP 101 [.string (aA x),.string (aA y)] (.string (aA (x*y))):=by
 have h1:=aH6 hx hy
 generalize aA (x*y)=r,aA x=sx,aA y=sy at *;refine zF [.s (.v sx),.s (.v sy)] Tryz.func101 λc hc hR=>?_;cbv;refine aR hc h1 rE rfl 100 ?_;cbv;exact zR
theorem vS:aB PP 80:=zK
theorem aQp {x y:Rat}(h0:y≠0)(hx:sz x<=2^29)(hy:sz y<=2^29):Pure PP 80 [.string (aA x),.string (aA y)] (.string (aA (x/y))):=by
 have h1:=aXz h0 hx hy
 generalize aA (x/y)=r,aA x=sx,aA y=sy at *;refine zF [.s (.v sx),.s (.v sy)] Tryz.func80 λc hc hR=>?_;cbv;refine aR hc h1 aG3 rfl 100 ?_;cbv;exact zR
theorem aCn:aB PP 103:=zK
theorem bIj {x:Rat}(hx:sz x<=2^29):Pure PP 103 [.string (aA x)] (.bool (decide (0<x))):=by
 have h1:=yI (y:=0) hx sz0
 have e:=mK x
 rw[eS]at h1;generalize decide (0<x)=b at *;generalize jJ x 0=r at h1 e;generalize aA x=sx at *;refine zF [.s (.v sx)] Tryz.func103 λc hc hR=>?_;cbv;refine zC (.t [.i .i64 (.v r),.i .i64 (.l 0)]) h1 rD ?_;cbv;exact bR hc hR rfl (by show some (Value.bool (decide (0<r)))=_;rw[e])
theorem bCr {ls:List ByteArray}{v:Value}{X:Nat->Prop}{w:World}(h:(aH8 ls).p v X w):(dR ls.length ls).p v X w:=by
 obtain⟨b,ty,rfl,h2,h3⟩:=h;exact⟨some (b,0),ls.length,rfl,lRf _,h2,_,(ty,(0,0)),h3,λi x hx=>by simpa using hx⟩
theorem mJ:aB PP 144:=zK
theorem aM2 {ls:List ByteArray}(hs:∀a,a∈ls->a.size<=2^31)(hn:ls.length<=2^20):kH PP 144 ls (.bool (ls.all cA)):=by
 refine kH.of_fn (λX w v hX hv=>?_);have hv:=bCr hv;obtain⟨N,hN⟩:=nm (ls.length);rw[<-hN]at hv hn;obtain⟨R,hRR⟩:=nm (eE (.bool (ls.all cA)));obtain⟨K,hK⟩:=nm ([KF.cst v (dR N ls)]);rw[<-hRR];have fin:∀(r:Bool) {X:Nat->Prop} {μ:Mu} {w:World} {v:Value},ls.all cA=r->aD μ (.b (.l r))=some v->R.p v X w:=λr X μ w v h hv=>by
  rw[hRR,h,iT hv];rfl
 refine bJ mixed tok [.q v] (K:=K) Tryz.func144 rfl rfl (lbl rfl) rfl hX (by rw[hK];simp;exact hv) λc hc hR=>?_;refine jO 0 N N ls hN rfl rfl (λX μ a w v' H hv'=>cD H (by rw[hK];exact .head _) hv') (λf cap hf dJ=>?_);apply zN hc;cbv;let ι:={x:Nat//x<=N/\(ls.take x).all cA=true};let I:ι->St:=λx=>⟨[(5,.sl 0 0 (.n N) cap),(6,.i .i64 (.n N)),(7,.i .i64 (.n x.1))],[.xs N f],[]⟩
 let x0:ι:=⟨0,Nat.zero_le _,rfl⟩
 refine zU 1 (S':=I x0) (K':=K) zL (by subst hK;exact⟨⟨.head _,KFr.cst _ _ _⟩,trivial⟩) trivial ?_;refine bW hc I (λx=>N - x.1) x0 100 ?_;rintro p ⟨x,hx,cI⟩ hy;cbv;refine aE rfl 100 (λh=>?_) (λh=>?_)
 ·have hxN:x<N:=BE.ltn_t h
  obtain⟨a,ha⟩:∃a,ls[x]?=some a:=⟨ls[x]'zW,zA⟩;have k:=fY a (hs a (List.mem_of_getElem? ha));change Pure _ _ _ (.bool (cA a))at k;have e:=hf _ _ ha;obtain⟨x',hx'⟩:=nm (x+1);have et:cA a=true->(ls.take x').all cA=true:=λh=>by
   rw[hx',List.take_add_one,ha];simp only[Option.toList,List.all_append,cI,List.all_cons,h,List.all_nil,Bool.and_self]
  cbv;refine pZ hc ?_;have ea:∀{μ:Mu},aF μ [.s (.fn f 0 (.n x) 1 0)]=some [.string a]:=λ{μ}=>by
   simp only[aF,aD,SE.den,aY,IE.den,Int.toNat_natCast,Nat.mul_one,Nat.zero_add,Nat.add_zero,e]
  cases hb:cA a with
  | false=>
   rw[hb]at k;refine fT hc (.b (.l false)) k cB ea rfl 100 ?_;cbv;exact bB hc hR rfl (λX μ a' w v H hv=>fin false (by rw[<-Bool.not_eq_true,List.all_eq_true];exact λh=>by rw[h a (List.mem_of_getElem? ha)]at hb;cases hb) hv)
  | true=>
   rw[hb]at k;refine fT hc (.b (.l true)) k cB ea rfl 100 ?_;cbv;refine pZ hc ?_;exact zU 1 (S':=I ⟨x',zW,et hb⟩) (K':=K) ⟨zS,zS,⟨_,rfl,rfl,aXb hx'⟩,trivial⟩ (by subst hK;exact⟨⟨.head _,KFr.cst _ _ _⟩,trivial⟩) trivial (hy ⟨x',zW,et hb⟩ (by show N - x'<N - x;omega))
 ·have hxN:x=N:=by have:=BE.ltn_f h;omega
  cbv;exact bB hc hR rfl (λX μ a w v H hv=>fin true (by rw[hxN,hN,List.take_length]at cI;exact cI) hv)
theorem aXq:Pure PP 144 [.slice none 0 0] (.bool true):=by
 refine zF [.xs none 0 0] Tryz.func144 λc hc hR=>?_;cbv;refine aV 1 (λp hp=>?_);refine hp _ _ _ ?_;apply zN hc;cbv;refine aE rfl 100 (λh=>absurd h zV) (λh=>?_);cbv;exact zR
theorem aWp:aB PP 148:=zK
theorem aSm:aB PP 147:=zK
theorem bAl:aB PP 84:=zK
theorem bDb {g:Nat}(cg:aB PP g){a b d a' b' d' r1 r2 r3:ByteArray}(k1:Pure PP 83 [gT a b d] (.bool true))(k2:Pure PP 83 [gT a' b' d'] (.bool true))(h:Pure PP g [gT a b d,gT a' b' d'] (gT r1 r2 r3)):Pure PP 147 [.func (.func g) #[] #[],gT a b d,gT a' b' d'] (.tuple #[gT r1 r2 r3,.int .i64 0]):=by
 unfold gT at *;refine zF [.f (.func g) [] [],iI a b d,iI a' b' d'] Tryz.func147 λc hc hR=>?_;cbv;refine cO hc Tryz.func151 xG (λc' tm FR hFR hc' L=>?_);apply zN hc';cbv;refine aV 3 (λp hp=>?_);refine hp _ _ _ ?_;apply zN hc';cbv;refine aR hc' k1 dA rfl 100 ?_;cbv;refine hp _ _ _ ?_;apply zN hc';cbv;refine aR hc' k2 dA rfl 100 ?_;cbv;refine hp _ _ _ ?_;apply zN hc';cbv;refine cY hc' L hFR (.head _) ?_;apply zN hc;cbv;refine aR hc h cg rfl 100 ?_;cbv;exact zR
theorem bIv {u v:V3}(hu:u.le (2^29))(hv:v.le (2^29)):Pure PP 84 [gA u,gA v] (.tuple #[gA (u.sub v),.int .i64 0]):=by
 have k0:=aLn hu hv
 have e1:=dB hu
 have e2:=dB hv
 unfold gA at *;generalize aA (u.sub v).x=r1,aA (u.sub v).y=r2,aA (u.sub v).z=r3,aA u.x=a,aA u.y=b,aA u.z=d,aA v.x=a',aA v.y=b',aA v.z=d' at *;have k1:Pure PP 148 [gT a b d,gT a' b' d'] (gT r1 r2 r3):=by
  clear e1 e2;unfold gT at *;refine zF [iI a b d,iI a' b' d'] Tryz.func148 λc hc hR=>?_;cbv;refine aR hc k0 aCq rfl 100 ?_;cbv;exact zR
 have k2:=bDb aWp e1 e2 k1
 clear k0 k1 e1 e2;unfold gT at *;refine zF [iI a b d,iI a' b' d'] Tryz.func84 λc hc hR=>?_;cbv;refine aR hc k2 aSm rfl 100 ?_;cbv;exact zR
def iK (h t:ByteArray):Int:=if cA h&&cA t then(if At.ok ⟨aQ h,aQ t⟩then 0 else 2)else 1
theorem eL {a:ByteArray}(h:cA a=true):aA (aQ a)=a:=by
 unfold cA at h;obtain⟨q,e⟩:=Option.isSome_iff_exists.1 h;unfold aQ;rw[e];exact(qA e).symm
theorem aX {a:ByteArray}{n:Nat}(ha:a.size<=n)(hn:1<=n):sz (aQ a)<=n:=by
 unfold aQ;cases h:sO a.data.toList with
 | none=>exact lTr (gS 0) (by rw[eS];exact hn)
 | some q=>rw[qA h]at ha;exact lTr (gS q) ha
theorem aUr {h t:ByteArray}(hh:h.size<=2^20)(ht:t.size<=2^20):Pure PP 89 [.agg #[.string h,.string t]] (.int .i64 (iK h t)):=by
 unfold iK;cases hb:cA h&&cA t with
 | true=>
  obtain⟨h1,h2⟩:=Bool.and_eq_true_iff.1 hb;have k:=aNq (a:=⟨aQ h,aQ t⟩) ⟨lTr (aX hh zV) zV,lTr (aX ht zV) zV⟩;unfold atV at k;rw[eL h1,eL h2]at k;exact k
 | false=>
  have k0:=bC7 h t (lTr hh zV) (lTr ht zV)
  change Pure _ _ _ (.bool (cA h&&cA t))at k0
  rw[hb]at k0;refine zF [.g [.s (.v h),.s (.v t)]] Tryz.func89 λc hc hR=>?_;cbv;refine aR hc k0 vU rfl 100 ?_;cbv;exact zR
def frE:Value:=.agg #[.string ⟨#[]⟩,.string ⟨#[]⟩,.string ⟨#[]⟩,.string ⟨#[]⟩,.string ⟨#[]⟩,.string ⟨#[]⟩,.string ⟨#[]⟩,.string ⟨#[]⟩,.string ⟨#[]⟩]
theorem aO9 {h t:ByteArray}(hh:h.size<=2^20)(ht:t.size<=2^20)(he:iK h t≠0):Pure PP 34 [.agg #[.string h,.string t]] (.tuple #[frE,.int .i64 (iK h t)]):=by
 have k:=aUr hh ht
 generalize iK h t=e at *;refine zF [.g [.s (.v h),.s (.v t)]] Tryz.func34 λc hc hR=>?_;cbv;refine zC (.i .i64 (.v e)) k sU ?_;cbv;refine aE rfl 100 (λh=>?_) (λh=>absurd h (by simp[BE.den,IE.den,he]));cbv;exact zR
end Go.Ai
namespace Go.Ai
open Go Go.Proofs Go.Num V3
structure Hy where
 v:ByteArray
 cx:ByteArray
 cy:ByteArray
 cz:ByteArray
 ar:ByteArray
 ah:ByteArray
 sd:ByteArray
 al:ByteArray
 ac:ByteArray
 mi:ByteArray
def hyV (H:Hy):Value:=.agg #[.string H.v,.string H.cx,.string H.cy,.string H.cz,.string H.ar,.string H.ah,.string H.sd,.string H.al,.string H.ac,.string H.mi]
def hyA (H:Hy):AV:=.g [.s (.v H.v),.s (.v H.cx),.s (.v H.cy),.s (.v H.cz),.s (.v H.ar),.s (.v H.ah),.s (.v H.sd),.s (.v H.al),.s (.v H.ac),.s (.v H.mi)]
def Hy.l7 (H:Hy):List ByteArray:=[H.v,H.ar,H.ah,H.sd,H.al,H.ac,H.mi]
def Hy.ok (H:Hy):Bool:=H.l7.all cA&&(cA H.cx&&cA H.cy&&cA H.cz)
structure Hy.le (H:Hy)(n:Nat):Prop where
 v:H.v.size<=n
 cx:H.cx.size<=n
 cy:H.cy.size<=n
 cz:H.cz.size<=n
 ar:H.ar.size<=n
 ah:H.ah.size<=n
 sd:H.sd.size<=n
 al:H.al.size<=n
 ac:H.ac.size<=n
 mi:H.mi.size<=n
theorem Hy.ok_all {H:Hy}(h:H.ok=true):cA H.v=true/\cA H.cx=true/\cA H.cy=true/\cA H.cz=true/\cA H.ar=true/\cA H.ah=true/\cA H.sd=true/\cA H.al=true/\cA H.ac=true/\cA H.mi=true:=by
 simp only[Hy.ok,Hy.l7,List.all_cons,List.all_nil,Bool.and_eq_true,and_true]at h;obtain⟨⟨a,b,c,d,e,f,g⟩,⟨x,y⟩,z⟩:=h;exact⟨a,x,y,z,b,c,d,e,f,g⟩
theorem sT:aB PP 79:=zK
theorem aDw {H:Hy}(hs:H.le (2^20)):Pure PP 79 [hyV H] (.bool H.ok):=by
 have k1:=aM2 (ls:=H.l7) (λa ha=>by
  simp only[Hy.l7,List.mem_cons,List.not_mem_nil,or_false]at ha;have:=hs;cases this;rcases ha with h | h | h | h | h | h | h<;>rw[h]<;>omega) (by show 7<=_;decide)
 have k2:=aEj (lTr hs.cx zV) (lTr hs.cy zV) (lTr hs.cz zV)
 unfold Hy.ok;generalize H.l7.all cA=b1 at *;change Pure _ _ _ (.bool (cA H.cx&&cA H.cy&&cA H.cz))at k2;generalize (cA H.cx&&cA H.cy&&cA H.cz)=b2 at *;unfold gT at k2;clear hs;cases b1
 ·refine zF [hyA H] Tryz.func79 λc hc hR=>?_;cbv;refine iO hc (n:=7) (.b (.l false)) k1 mJ 100 ?_;cbv;exact zR
 ·refine zF [hyA H] Tryz.func79 λc hc hR=>?_;cbv;refine iO hc (n:=7) (.b (.l true)) k1 mJ 100 ?_;cbv;refine aR hc k2 dA rfl 100 ?_;cbv;exact zR
theorem aZi {a:ByteArray}(h:cA a=true):(BE.seq (.v a) (.v ⟨#[48]⟩)).den=decide (aQ a=0):=aKz (eL h).symm eS.symm
section
variable {a b:ByteArray}(ha:cA a=true)(hb:cA b=true)(sa:a.size<=2^28)(sb:b.size<=2^28)
include ha sa
theorem aPa:Pure PP 103 [.string a] (.bool (decide (0<aQ a))):=by
 have k:=bIj (x:=aQ a) (lTr (aX sa zV) zV)
 rw[eL ha]at k;exact k
include hb sb
theorem aUt:Pure PP 101 [.string a,.string b] (.string (aA (aQ a*aQ b))):=by
 have k:=bCb (x:=aQ a) (y:=aQ b) (lTr (aX sa zV) zV) (lTr (aX sb zV) zV)
 rw[eL ha,eL hb]at k;exact k
theorem aY9 (h0:aQ b≠0):Pure PP 80 [.string a,.string b] (.string (aA (aQ a/aQ b))):=by
 have k:=aQp (x:=aQ a) (y:=aQ b) h0 (lTr (aX sa zV) zV) (lTr (aX sb zV) zV)
 rw[eL ha,eL hb]at k;exact k
end
theorem uP (q:Rat):aQ (aA q)=q:=by unfold aQ;rw[dC];rfl
def aD0 (H:Hy):ByteArray × ByteArray × Int:=match H.ok,decide (aQ H.v=0)with
 | false,_=>(⟨#[]⟩,⟨#[]⟩,1)
 | true,true=>(⟨#[]⟩,⟨#[]⟩,16)
 | true,false=>(aA (aQ H.ac/aQ H.v),aA (aQ H.al/aQ H.v),0)
def rrV (x:ByteArray × ByteArray × Int):Value:=.tuple #[.string x.1,.string x.2.1,.int .i64 x.2.2]
theorem qG:aB PP 29:=zK
theorem aH3 {H:Hy}(hs:H.le (2^20)):Pure PP 29 [hyV H] (rrV (aD0 H)):=by
 have kw:=aDw hs
 have kd:H.ok=true->(BE.seq (.v H.v) (.v ⟨#[48]⟩)).den=decide (aQ H.v=0):=λh=>aZi (Hy.ok_all h).1
 have k1:H.ok=true->decide (aQ H.v=0)=false->_:=λh h0=>aY9 (a:=H.ac) (Hy.ok_all h).2.2.2.2.2.2.2.2.1 (Hy.ok_all h).1 (lTr hs.ac zV) (lTr hs.v zV) (of_decide_eq_false h0)
 have k2:H.ok=true->decide (aQ H.v=0)=false->_:=λh h0=>aY9 (a:=H.al) (Hy.ok_all h).2.2.2.2.2.2.2.1 (Hy.ok_all h).1 (lTr hs.al zV) (lTr hs.v zV) (of_decide_eq_false h0)
 unfold aD0;generalize aA (aQ H.ac/aQ H.v)=r1,aA (aQ H.al/aQ H.v)=r2,decide (aQ H.v=0)=z,H.ok=b at *;clear hs;cases b<;>cases z<;>(
  refine zF [hyA H] Tryz.func29 λc hc hR=>?_;cbv;refine aR hc kw sT rfl 100 ?_;cbv;try (refine fH hc _ (kd rfl) 100 ?_;cbv)
  try (refine uQ hc (k1 rfl rfl) vS 100 ?_;cbv)
  try (refine uQ hc (k2 rfl rfl) vS 100 ?_;cbv)
  try (refine zE ?_;cbv)
  exact zR)
theorem oD (h t:ByteArray):iK h t=0\/iK h t=1\/iK h t=2:=by
 unfold iK;split
 ·split
  ·exact .inl rfl
  ·exact .inr (.inr rfl)
 ·exact .inr (.inl rfl)
theorem aGu {h t:ByteArray}(e:iK h t=0):cA h=true/\cA t=true/\At.ok ⟨aQ h,aQ t⟩=true:=by
 unfold iK at e;split at e
 ·rename_i h1;split at e
  ·rename_i h2;obtain⟨a,b⟩:=Bool.and_eq_true_iff.1 h1;exact⟨a,b,h2⟩
  ·cases e
 ·cases e
def attV (h t:ByteArray):Value:=.agg #[.string h,.string t]
def gUp (H:Hy)(h t g1 g2 g3:ByteArray):Rat:=(At.up ⟨aQ h,aQ t⟩).dot ((⟨aQ H.cx,aQ H.cy,aQ H.cz⟩:V3).sub ⟨aQ g1,aQ g2,aQ g3⟩)
def yB (H:Hy)(h t g1 g2 g3:ByteArray):ByteArray × ByteArray × Int:=match H.ok&&(cA g1&&cA g2&&cA g3),decide (aQ H.v=0)with
 | false,_=>(⟨#[]⟩,⟨#[]⟩,1)
 | true,z=>if iK h t=0 then(match z with
  | true=>(⟨#[]⟩,⟨#[]⟩,16)
  | false=>(aA (aQ H.ac/aQ H.v+gUp H h t g1 g2 g3),aA (aQ H.al/aQ H.v+gUp H h t g1 g2 g3),0))else(⟨#[]⟩,⟨#[]⟩,iK h t)
theorem vT:aB PP 31:=zK
section
variable {H:Hy}{h t g1 g2 g3:ByteArray}(hs:H.le (2^20))(hh:h.size<=2^20)(ht:t.size<=2^20)(s1:g1.size<=2^20)(s2:g2.size<=2^20)(s3:g3.size<=2^20)
include hs hh ht s1 s2 s3
theorem aDp:sz (gUp H h t g1 g2 g3)<=2^27:=by
 have ha:(⟨aQ h,aQ t⟩:At).le (2^20):=⟨aX hh zV,aX ht zV⟩
 have hc:(⟨aQ H.cx,aQ H.cy,aQ H.cz⟩:V3).le (2^20):=⟨aX hs.cx zV,aX hs.cy zV,aX hs.cz zV⟩
 have hg:(⟨aQ g1,aQ g2,aQ g3⟩:V3).le (2^20):=⟨aX s1 zV,aX s2 zV,aX s3 zV⟩
 exact lTr (V3.sz_dot (At.le_up ha) (V3.le_sub hc hg)) zV
theorem aUs:Pure PP 31 [hyV H,attV h t,gT g1 g2 g3] (rrV (yB H h t g1 g2 g3)):=by
 have kw:=aDw hs
 have kv:=aEj (lTr s1 zV) (lTr s2 zV) (lTr s3 zV)
 change Pure _ _ _ (.bool (cA g1&&cA g2&&cA g3))at kv
 have kr:=aH3 hs
 have ke:iK h t≠0->_:=aO9 hh ht
 have ha:(⟨aQ h,aQ t⟩:At).le (2^20):=⟨aX hh zV,aX ht zV⟩
 have hc:(⟨aQ H.cx,aQ H.cy,aQ H.cz⟩:V3).le (2^20):=⟨aX hs.cx zV,aX hs.cy zV,aX hs.cz zV⟩
 have hg:(⟨aQ g1,aQ g2,aQ g3⟩:V3).le (2^20):=⟨aX s1 zV,aX s2 zV,aX s3 zV⟩
 have hu:=(At.le_up ha).mono (show 8*2^20+8<=2^26 by decide)
 have hd:=V3.le_sub hc hg
 have ko:iK h t=0->Pure PP 34 [attV h t] (.tuple #[aHn ⟨aQ h,aQ t⟩,.int .i64 0]):=λe=>by
  obtain⟨e1,e2,e3⟩:=aGu e;have k:=tOf (a:=⟨aQ h,aQ t⟩) ⟨lTr ha.1 zV,lTr ha.2 zV⟩ e3;unfold atV at k;rw[eL e1,eL e2]at k;exact k
 have kq:H.ok=true->(cA g1&&cA g2&&cA g3)=true->Pure PP 84 [gT H.cx H.cy H.cz,gT g1 g2 g3] (.tuple #[gA ((⟨aQ H.cx,aQ H.cy,aQ H.cz⟩:V3).sub ⟨aQ g1,aQ g2,aQ g3⟩),.int .i64 0]):=λho hg'=>by
  obtain⟨_,e1,e2,e3,_⟩:=Hy.ok_all ho;simp only[Bool.and_eq_true]at hg';have k:=bIv (hc.mono zV) (hg.mono zV);unfold gA at k;rw[eL e1,eL e2,eL e3,eL hg'.1.1,eL hg'.1.2,eL hg'.2]at k;exact k
 have kd:=bGa hu (hd.mono zV)
 have lg:=aDp hs hh ht s1 s2 s3
 have r0:∀a:ByteArray,a.size<=2^20->sz (aQ a/aQ H.v)<=2^21:=λa h=>lTr (kF _ _) (lTr (Nat.add_le_add (aX h (show 1<=2^20 by decide)) (aX hs.v (show 1<=2^20 by decide))) zV)
 have k1:=bFs (x:=aQ H.ac/aQ H.v) (y:=gUp H h t g1 g2 g3) (lTr (r0 _ hs.ac) zV) (lTr lg zV)
 have k2:=bFs (x:=aQ H.al/aQ H.v) (y:=gUp H h t g1 g2 g3) (lTr (r0 _ hs.al) zV) (lTr lg zV)
 change Pure _ _ _ (.tuple #[.string (aA (gUp H h t g1 g2 g3)),.int .i64 0])at kd
 unfold yB;unfold aD0 at kr;unfold gA attV aHn at *;clear r0 lg hd hu hg hc ha hs hh ht s1 s2 s3;generalize aA (aQ H.ac/aQ H.v+gUp H h t g1 g2 g3)=r1,aA (aQ H.al/aQ H.v+gUp H h t g1 g2 g3)=r2,aA (aQ H.ac/aQ H.v)=q1,aA (aQ H.al/aQ H.v)=q2,aA (gUp H h t g1 g2 g3)=u,(⟨aQ H.cx,aQ H.cy,aQ H.cz⟩:V3).sub ⟨aQ g1,aQ g2,aQ g3⟩=D at *;generalize aA D.x=d1,aA D.y=d2,aA D.z=d3,(⟨aQ h,aQ t⟩:At)=A at *;generalize aA A.ahead.x=a1,aA A.ahead.y=a2,aA A.ahead.z=a3,aA A.side.y=a4,aA A.side.z=a5,aA A.up.x=a6,aA A.up.y=a7,aA A.up.z=a8,decide (aQ H.v=0)=z,H.ok=b,(cA g1&&cA g2&&cA g3)=b2 at *;have he:=oD h t;generalize iK h t=e at *;unfold gT at *;cases b<;>cases b2<;>cases z<;>rcases he with he | he | he<;>subst he<;>(
  refine zF [hyA H,.g [.s (.v h),.s (.v t)],iI g1 g2 g3] Tryz.func31 λc hc hR=>?_;cbv;refine aR hc kw sT rfl 100 ?_;cbv;try (refine aR hc kv dA rfl 100 ?_;cbv)
  try ((first | refine aR hc (ko rfl) aCp rfl 100 ?_ | refine aR hc (ke zV) aCp rfl 100 ?_);cbv)
  try (refine aR hc kr qG rfl 100 ?_;cbv)
  try (refine aR hc (kq rfl rfl) bAl rfl 100 ?_;cbv)
  try (refine aR hc kd aSk rfl 100 ?_;cbv)
  try (refine aR hc k1 aSd rfl 100 ?_;cbv)
  try (refine aR hc k2 aSd rfl 100 ?_;cbv)
  exact zR)
end
def aMs (H:Hy)(d:ByteArray):ByteArray × Int:=match H.ok,cA d,decide (0<aQ d)with
 | true,true,true=>(aA (aQ d*aQ H.ar),0)
 | true,true,false=>(⟨#[]⟩,2)
 | _,_,_=>(⟨#[]⟩,1)
def aQ5 (H:Hy)(d m:ByteArray):ByteArray × Int:=match H.ok,cA d,cA m,decide (0<aQ d),decide (aQ H.ar=0)with
 | true,true,true,true,true=>(⟨#[]⟩,16)
 | true,true,true,true,false=>(aA (aQ m/(aQ d*aQ H.ar)),0)
 | true,true,true,false,_=>(⟨#[]⟩,2)
 | _,_,_,_,_=>(⟨#[]⟩,1)
def reV (x:ByteArray × Int):Value:=.tuple #[.string x.1,.int .i64 x.2]
theorem aCl:aB PP 100:=zK
theorem aSe:aB PP 42:=zK
theorem aOb:aB PP 44:=zK
theorem bAe:aB PP 46:=zK
theorem aB0 {a:ByteArray}(ha:a.size<=2^20):kH PP 144 [a] (.bool (cA a)):=by
 have k:=aM2 (ls:=[a]) (λx hx=>by simp only[List.mem_cons,List.not_mem_nil,or_false]at hx;subst hx;exact lTr ha zV) (by show 1<=_;decide)
 simpa using k
section
variable {H:Hy}{d m:ByteArray}(hs:H.le (2^20))(hd:d.size<=2^20)
include hs hd
theorem bFt:Pure PP 42 [hyV H,.string d] (reV (aMs H d)):=by
 have kw:=aDw hs
 have k0:=aXq
 have k1:=aB0 hd
 have kp:cA d=true->_:=λh=>aPa h (lTr hd zV)
 have km:cA d=true->H.ok=true->_:=λh h'=>aUt h (Hy.ok_all h').2.2.2.2.1 (lTr hd zV) (lTr hs.ar zV)
 unfold aMs;generalize aA (aQ d*aQ H.ar)=r,decide (0<aQ d)=z,cA d=b2,H.ok=b at *;clear hs hd;cases b<;>cases b2<;>cases z<;>(
  refine zF [hyA H,.s (.v d)] Tryz.func42 λc hc hR=>?_;cbv;refine cO hc Tryz.func100 aCl (λc' tm FR hFR hc' L=>?_);apply zN hc';cbv;refine aR hc' kw sT rfl 100 ?_;cbv;try (refine iO hc' (n:=1) (.b (.l _)) k1 mJ 100 ?_;cbv)
  try (refine aR hc' k0 mJ rfl 100 ?_;cbv)
  try (refine aR hc' (kp rfl) aCn rfl 100 ?_;cbv)
  refine cY hc' L hFR (.head _) ?_;apply zN hc;cbv;try (refine aR hc (km rfl rfl) aCm rfl 100 ?_;cbv)
  exact zR)
variable (hm:m.size<=2^20)
include hm
theorem aZa:Pure PP 44 [hyV H,.string d,.string m] (reV (aQ5 H d m)):=by
 have kw:=aDw hs
 have k1:=aB0 hd
 have k2:=aB0 hm
 have kp:cA d=true->_:=λh=>aPa h (lTr hd zV)
 have km:cA d=true->H.ok=true->_:=λh h'=>aUt h (Hy.ok_all h').2.2.2.2.1 (lTr hd zV) (lTr hs.ar zV)
 have kz:H.ok=true->(BE.seq (.v H.ar) (.v ⟨#[48]⟩)).den=decide (aQ H.ar=0):=λh=>aZi (Hy.ok_all h).2.2.2.2.1
 have kq:cA m=true->decide (0<aQ d)=true->decide (aQ H.ar=0)=false->Pure PP 80 [.string m,.string (aA (aQ d*aQ H.ar))] (.string (aA (aQ m/(aQ d*aQ H.ar)))):=λh1 h2 h3=>by
  have h2:=of_decide_eq_true h2
  have h3:=of_decide_eq_false h3
  have k:=aQp (x:=aQ m) (y:=aQ d*aQ H.ar) (λe=>by rcases Rat.mul_eq_zero.1 e with e | e<;>grind) (lTr (aX hm zV) zV) (lTr (sz_mm (aX hd (show 1<=2^20 by decide)) (aX hs.ar (show 1<=2^20 by decide))) zV)
  rw[eL h1]at k;exact k
 unfold aQ5;generalize aA (aQ m/(aQ d*aQ H.ar))=q,aA (aQ d*aQ H.ar)=r,decide (0<aQ d)=z,decide (aQ H.ar=0)=y,cA d=b2,cA m=b3,H.ok=b at *;clear hs hd hm;cases b<;>cases b2<;>cases b3<;>cases z<;>cases y<;>(
  refine zF [hyA H,.s (.v d),.s (.v m)] Tryz.func44 λc hc hR=>?_;cbv;refine cO hc Tryz.func100 aCl (λc' tm FR hFR hc' L=>?_);apply zN hc';cbv;refine aR hc' kw sT rfl 100 ?_;cbv;try (refine iO hc' (n:=1) (.b (.l _)) k1 mJ 100 ?_;cbv)
  try (refine iO hc' (n:=1) (.b (.l _)) k2 mJ 100 ?_;cbv)
  try (refine aR hc' (kp rfl) aCn rfl 100 ?_;cbv)
  refine cY hc' L hFR (.head _) ?_;apply zN hc;cbv;try (refine fH hc _ (kz rfl) 100 ?_;cbv)
  try (refine aR hc (km rfl rfl) aCm rfl 100 ?_;cbv)
  try (refine aR hc (kq rfl rfl rfl) vS rfl 100 ?_;cbv)
  exact zR)
end
def gAl (H:Hy)(h t g1 g2 g3:ByteArray):Rat:=aQ H.al/aQ H.v+gUp H h t g1 g2 g3
def aSv (H:Hy)(h t g1 g2 g3 d l:ByteArray):ByteArray × Int:=match H.ok&&(cA d&&[l,h,t].all cA),(cA g1&&cA g2&&cA g3),decide (0<aQ d),decide (0<aQ l),decide (iK h t=0),decide (aQ H.v=0)with
 | true,true,true,true,true,true=>(⟨#[]⟩,16)
 | true,true,true,true,true,false=>(aA (aQ d*aQ H.v*gAl H h t g1 g2 g3/aQ l),0)
 | true,true,_,_,_,_=>(⟨#[]⟩,2)
 | _,_,_,_,_,_=>(⟨#[]⟩,1)
section
variable {H:Hy}{h t g1 g2 g3 d l:ByteArray}(hs:H.le (2^20))(hh:h.size<=2^20)(ht:t.size<=2^20)(s1:g1.size<=2^20)(s2:g2.size<=2^20)(s3:g3.size<=2^20)(hd:d.size<=2^20)(hl:l.size<=2^20)
include hs hh ht s1 s2 s3 hd hl
theorem bIi:Pure PP 46 [hyV H,attV h t,gT g1 g2 g3,.string d,.string l] (reV (aSv H h t g1 g2 g3 d l)):=by
 have kw:=aDw hs
 have k1:=aB0 hd
 have k3:=aM2 (ls:=[l,h,t]) (λx hx=>by simp only[List.mem_cons,List.not_mem_nil,or_false]at hx;rcases hx with e | e | e<;>subst e<;>omega) (by show 3<=_;decide)
 have kp:cA d=true->_:=λh=>aPa h (lTr hd zV)
 have kl:cA l=true->_:=λh=>aPa h (lTr hl zV)
 have h3:[l,h,t].all cA=true->cA l=true:=λh=>by simp at h;exact h.1
 have kv:=aEj (lTr s1 (show 2^20<=2^31 by decide)) (lTr s2 (show 2^20<=2^31 by decide)) (lTr s3 (show 2^20<=2^31 by decide))
 change Pure _ _ _ (.bool (cA g1&&cA g2&&cA g3))at kv
 have kc:=aUr hh ht
 have km:=aUs hs hh ht s1 s2 s3
 have k5:cA d=true->H.ok=true->_:=λh h'=>aUt h (Hy.ok_all h').1 (lTr hd zV) (lTr hs.v zV)
 have la:sz (gAl H h t g1 g2 g3)<=2^28:=lTr (sz_aa (lTr (kF _ _) (Nat.add_le_add (aX hs.al (show 1<=2^20 by decide)) (aX hs.v (show 1<=2^20 by decide)))) (aDp hs hh ht s1 s2 s3)) zV
 have l5:sz (aQ d*aQ H.v)<=2^21:=lTr (sz_mm (aX hd (show 1<=2^20 by decide)) (aX hs.v (show 1<=2^20 by decide))) zV
 have k6:=bCb (x:=aQ d*aQ H.v) (y:=gAl H h t g1 g2 g3) (lTr l5 zV) (lTr la zV)
 have k7:cA l=true->decide (0<aQ l)=true->Pure PP 80 [.string (aA (aQ d*aQ H.v*gAl H h t g1 g2 g3)),.string l] (.string (aA (aQ d*aQ H.v*gAl H h t g1 g2 g3/aQ l))):=λh1 h2=>by
  have h2:=of_decide_eq_true h2
  have k:=aQp (x:=aQ d*aQ H.v*gAl H h t g1 g2 g3) (y:=aQ l) (by grind) (lTr (sz_mm l5 la) zV) (lTr (aX hl zV) zV)
  rw[eL h1]at k;exact k
 unfold yB at km;unfold aSv;change Pure _ _ _ (rrV (match H.ok&&(cA g1&&cA g2&&cA g3),decide (aQ H.v=0)with
  | false,_=>(⟨#[]⟩,⟨#[]⟩,1)
  | true,z=>if iK h t=0 then(match z with
   | true=>(⟨#[]⟩,⟨#[]⟩,16)
   | false=>(aA (aQ H.ac/aQ H.v+gUp H h t g1 g2 g3),aA (gAl H h t g1 g2 g3),0))else(⟨#[]⟩,⟨#[]⟩,iK h t)))at km
 unfold attV at *;clear la l5 hs hh ht s1 s2 s3 hd hl;generalize aA (aQ d*aQ H.v*gAl H h t g1 g2 g3/aQ l)=r1,aA (aQ d*aQ H.v*gAl H h t g1 g2 g3)=r2,aA (aQ d*aQ H.v)=r3,aA (gAl H h t g1 g2 g3)=r4,aA (aQ H.ac/aQ H.v+gUp H h t g1 g2 g3)=r5,decide (0<aQ d)=z,decide (0<aQ l)=y,decide (aQ H.v=0)=v at *;have he:=oD h t;generalize iK h t=e,[l,h,t].all cA=b3,cA d=b2,(cA g1&&cA g2&&cA g3)=b4,H.ok=b at *;unfold gT at *;cases b<;>cases b2<;>cases b3<;>cases z<;>(
  refine zF [hyA H,.g [.s (.v h),.s (.v t)],iI g1 g2 g3,.s (.v d),.s (.v l)] Tryz.func46 λc hc hR=>?_;cbv;refine cO hc Tryz.func100 aCl (λc' tm FR hFR hc' L=>?_);apply zN hc';cbv;refine aR hc' kw sT rfl 100 ?_;cbv;try (refine iO hc' (n:=1) (.b (.l _)) k1 mJ 100 ?_;cbv)
  try (refine iO hc' (n:=3) (.b (.l _)) k3 mJ 100 ?_;cbv)
  try (refine aR hc' (kp rfl) aCn rfl 100 ?_;cbv)
  refine cY hc' L hFR (.head _) ?_;apply zN hc;cbv;try exact zR)
 ·cases b4<;>(
   refine aR hc kv dA rfl 100 ?_;cbv;exact zR)
 ·cases b4
  ·refine aR hc kv dA rfl 100 ?_;cbv;exact zR
  ·refine aR hc kv dA rfl 100 ?_;cbv;cases y
   ·refine aR hc (kl (h3 rfl)) aCn rfl 100 ?_;cbv;exact zR
   ·refine aR hc (kl (h3 rfl)) aCn rfl 100 ?_;cbv;rcases he with he | he | he<;>subst he<;>(refine aR hc kc sU rfl 100 ?_;cbv)<;>try exact zR
    cases v<;>(refine aR hc km vT rfl 100 ?_;cbv)<;>try exact zR
    refine aR hc (k5 rfl rfl) aCm rfl 100 ?_;cbv;refine aR hc k6 aCm rfl 100 ?_;cbv;refine aR hc (k7 (h3 rfl) rfl) vS rfl 100 ?_;cbv;exact zR
end
end Go.Ai
