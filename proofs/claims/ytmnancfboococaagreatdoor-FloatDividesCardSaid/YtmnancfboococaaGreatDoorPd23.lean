/- Part 24: lemmas for garboardlaw17.FloatDivides -/
import Derived.Test.YtmnancfboococaaGreatDoorPd22
set_option linter.all false
namespace Go.Ai
open Go Go.Proofs Go.Num
theorem tA:aB PP 77:=zK
theorem tB:aB PP 119:=zK
def aFg:Prop:=∀{v u:Value} {X:Nat->Prop} {w:World} {n m:Nat},0<m->(aC n).length<=2^38->(aC m).length<=2^38->(∀b,X b->b<w.heap.size)->(aJ n).p v X w->(aJ m).p u X w->Fn PP 119 [v,u] X w (iT (aJ (n/m)) (aJ (n%m)))
theorem aUg {n:Nat}(h:(aC n).length<=2):n<18446744073709551616:=Nat.lt_of_lt_of_le (aT h) zV
theorem aNr {l:List Int}{N:Nat}(hN:N=l.length)(h:(BE.le (.n N) (.l 2)).den=true):l.length<=2:=by
 have h:=BE.le_t h;simp only[IE.den]at h;omega
theorem aAz (zP:aFg){v u:Value}{X:Nat->Prop}{w:World}{n m:Nat}(hbn:(aC n).length<=2^38)(hbm:(aC m).length<=2^38)(hX:∀b,X b->b<w.heap.size)(hv:(aJ n).p v X w)(hu:(aJ m).p u X w):
  Fn PP 77 [v,u] X w (aJ (Nat.gcd n m)):=by
 obtain⟨g,hg⟩:=nm (Nat.gcd n m);rw[<-hg];obtain⟨R,hRR⟩:=nm (aJ g);obtain⟨F,hF⟩:∃F:Value->Nat->KF,∀v n,F v n=KF.cst v (aJ n):=⟨λv n=>KF.cst v (aJ n),λ_ _=>rfl⟩;rw[<-hRR];refine bE mixed tok [.q v,.q u] (K:=[F v n,F u m]) Tryz.func77 rfl rfl (lbl rfl) rfl hX (by simp[hF];exact⟨hv,hu⟩) λc hc hR=>?_;apply zN hc;cbv;let ι:={x:GcdX//Nat.gcd x.n x.m=g/\(aC x.n).length<=2^38/\(aC x.m).length<=2^38};let I:ι->St:=λx=>⟨[(0,.q x.1.v),(1,.q x.1.u)],[],[]⟩
 let KK:ι->List KF:=λx=>[F x.1.v x.1.n,F x.1.u x.1.m]
 let x0:ι:=⟨⟨v,u,n,m⟩,hg.symm,hbn,hbm⟩
 refine zU 0 (S':=I x0) (K':=KK x0) zL ⟨⟨.head _,by rw[hF];exact KFr.cst _ _ _⟩,⟨.tail _ (.head _),by rw[hF];exact KFr.cst _ _ _⟩,trivial⟩ trivial ?_;refine aGr hc I KK (λx=>x.1.m) x0 ?_;rintro p ⟨⟨v,u,n,m⟩,hg,hbn,hbm⟩ hy;simp only at hg hbn hbm;obtain⟨K,hK⟩:=nm ([F v n,F u m]);have k1:KF.cst v (aJ n)∈K:=by rw[hK,<-hF];exact .head _
 have k2:KF.cst u (aJ m)∈K:=by rw[hK,<-hF];exact .tail _ (.head _)
 have kf:∀q,kQ q K K:=λq=>by rw[hK];exact⟨⟨.head _,by rw[hF];exact KFr.cst _ _ _⟩,⟨.tail _ (.head _),by rw[hF];exact KFr.cst _ _ _⟩,trivial⟩
 refine Goal.k hK ?_;refine cV 0 .u32 (aC n) rfl rfl (λX μ a w v' H hv'=>bZ H k1 hv') λf N cap hN hf cR=>?_;refine cV 1 .u32 (aC m) rfl rfl (λX μ a w v' H hv'=>bZ H k2 hv') λf' M aS hM hf' gO=>?_;apply zN hc;cbv;refine aE rfl 100 (λh=>?_) (λh=>?_)
 ·have hM0:0<M:=BE.ltn_t (i:=0) h
  have hm0:0<m:=Nat.pos_of_ne_zero λe=>by rw[e,bS]at hM;simp at hM;omega
  cbv;refine bV 15 rfl rfl 100 (λh1=>?_) (λh1=>?_)
  ·have hn2:=aNr hN h1
   cbv;refine aE rfl 100 (λh2=>?_) (λh2=>?_)
   ·have hm2:=aNr hM h2
    have aSm:=aUg hn2
    have aOy:=aUg hm2
    have bFq:g<18446744073709551616:=Nat.lt_of_le_of_lt (by rw[<-hg];exact Nat.gcd_le_right n hm0) aOy
    cbv;refine bK hc (.i .u64 (.n n)) (r:=.int .u64 n) aMk (λn0 D X μ a w aK H aI=>?_) 100 ?_
    ·obtain⟨v1,rfl,h1⟩:=aX aI;exact aX1 hn2 H.xlt (H.numRow rfl h1 hN hf cR)
    cbv;refine bK hc (.i .u64 (.n m)) (r:=.int .u64 m) aMk (λn0 D X μ a w aK H aI=>?_) 100 ?_
    ·obtain⟨v1,rfl,h1⟩:=aX aI;exact aX1 hm2 H.xlt (H.numRow rfl h1 hM hf' gO)
    cbv;let ιs:={x:Nat × Nat//Nat.gcd x.1 x.2=g/\x.1<18446744073709551616/\x.2<18446744073709551616};let Is:ιs->St:=λx=>⟨[(5,.i .u64 (.n x.1.1)),(6,.i .u64 (.n x.1.2))],[],[]⟩
    let xz:ιs:=⟨(n,m),hg,aSm,aOy⟩
    refine zU 0 (S':=Is xz) (K':=[]) zL trivial trivial ?_;refine aCr (λz:Nat=>z=g) (λz=>⟨[(5,.i .u64 (.n z))],[],[]⟩) rfl (λr hr=>?_) (λz hz=>?_)
    ·refine bQ hc Is (λx=>x.1.2) xz 100 ?_;rintro p' ⟨⟨x,y⟩,hgx,bAm,aKz⟩ hyg;simp only at hgx bAm aKz;cbv;refine aE rfl 100 (λh=>?_) (λh=>?_)
     ·have hy0:0<y:=Nat.pos_of_ne_zero (BE.eqnl_f (k:=0) (BE.not_t h))
      have o1:(Obl.nz (IE.n y)).ok:=bD4 hy0
      have e1:=aX3 x y
      cbv;refine aP hc ⟨o1,trivial⟩ ?_;refine cM hc _ 0 ?_;refine cM hc _ 0 ?_;refine zE ?_;cbv;exact zU 0 (S':=Is ⟨(y,x%y),(jZ hy0).trans hgx,aKz,Nat.lt_trans (Nat.mod_lt _ hy0) aKz⟩) (K':=[]) ⟨zS,zI rfl rfl e1,trivial⟩ trivial trivial (hyg _ (Nat.mod_lt _ hy0))
     ·have hy0:y=0:=BE.eqnl_t (k:=0) (BE.not_f h)
      have hxg:x=g:=by rw[<-hgx,hy0,Nat.gcd_zero_right]
      cbv;exact zU 0 (S':=⟨[(5,.i .u64 (.n x))],[],[]⟩) (K':=[]) zL trivial trivial (hr x hxg)
    ·subst hz;apply zN hc;cbv;refine dO hc (R:=R) aVc (λn0 D X μ a w aK H aI=>?_) 100 ?_
     ·obtain⟨v1,rfl,h1⟩:=aX aI;rw[bX h1,hRR];exact bD6 H.xlt (Int.natCast_nonneg _) (Int.ofNat_lt.2 bFq)
     cbv;refine aR hc hR rfl (λX μ a w v' H hv'=>?_);exact H.toP.val (.head _) hv'
   ·cbv;obtain⟨R1,hR1⟩:∃R,R=aJ (n/m):=⟨_,rfl⟩;obtain⟨R2,hR2⟩:∃R,R=aJ (n%m):=⟨_,rfl⟩;obtain⟨RP,hRP⟩:∃R,R=iT R1 R2:=⟨_,rfl⟩;refine dO hc (R:=RP) tB (λn0 D X μ a w aK H aI=>?_) 2 ?_
    ·obtain⟨v1,v2,rfl,h1,h2⟩:=bD aI;rw[hRP,hR1,hR2];exact zP hm0 hbn hbm H.xlt (H.numRow rfl h1 hN hf cR) (H.numRow rfl h2 hM hf' gO)
    cbv;refine lY 32 2 (R1:=R1) (R2:=R2) rfl rfl (hRP▸.head _) ?_;apply zN hc;cbv;refine yK 0 (aJ m) rfl rfl (λX μ a w v' H hv'=>H.toP.numRow rfl hv' hM hf' gO) λv1=>?_;refine yK 1 (aJ (n%m)) rfl rfl (λX μ a w v' H hv'=>by have h:=H.toP.val (R:=R2) (.tail _ (.tail _ (.head _))) hv';rw[hR2]at h;exact h) λu1=>?_;exact zU 0 (S':=I ⟨⟨v1,u1,m,n%m⟩,(jZ hm0).trans hg,hbm,lTr (bN (Nat.le_of_lt (Nat.mod_lt n hm0))) hbm⟩) (K':=KK ⟨⟨v1,u1,m,n%m⟩,(jZ hm0).trans hg,hbm,lTr (bN (Nat.le_of_lt (Nat.mod_lt n hm0))) hbm⟩) zL ⟨⟨by rw[hF];exact .tail _ (.head _),by rw[hF];exact KFr.cst _ _ _⟩,⟨by rw[hF];exact .head _,by rw[hF];exact KFr.cst _ _ _⟩,trivial⟩ trivial (hy _ (Nat.mod_lt n hm0))
  ·cbv;obtain⟨R1,hR1⟩:∃R,R=aJ (n/m):=⟨_,rfl⟩;obtain⟨R2,hR2⟩:∃R,R=aJ (n%m):=⟨_,rfl⟩;obtain⟨RP,hRP⟩:∃R,R=iT R1 R2:=⟨_,rfl⟩;refine dO hc (R:=RP) tB (λn0 D X μ a w aK H aI=>?_) 2 ?_
   ·obtain⟨v1,v2,rfl,h1,h2⟩:=bD aI;rw[hRP,hR1,hR2];exact zP hm0 hbn hbm H.xlt (H.numRow rfl h1 hN hf cR) (H.numRow rfl h2 hM hf' gO)
   cbv;refine lY 32 2 (R1:=R1) (R2:=R2) rfl rfl (hRP▸.head _) ?_;apply zN hc;cbv;refine yK 0 (aJ m) rfl rfl (λX μ a w v' H hv'=>H.toP.numRow rfl hv' hM hf' gO) λv1=>?_;refine yK 1 (aJ (n%m)) rfl rfl (λX μ a w v' H hv'=>by have h:=H.toP.val (R:=R2) (.tail _ (.tail _ (.head _))) hv';rw[hR2]at h;exact h) λu1=>?_;exact zU 0 (S':=I ⟨⟨v1,u1,m,n%m⟩,(jZ hm0).trans hg,hbm,lTr (bN (Nat.le_of_lt (Nat.mod_lt n hm0))) hbm⟩) (K':=KK ⟨⟨v1,u1,m,n%m⟩,(jZ hm0).trans hg,hbm,lTr (bN (Nat.le_of_lt (Nat.mod_lt n hm0))) hbm⟩) zL ⟨⟨by rw[hF];exact .tail _ (.head _),by rw[hF];exact KFr.cst _ _ _⟩,⟨by rw[hF];exact .head _,by rw[hF];exact KFr.cst _ _ _⟩,trivial⟩ trivial (hy _ (Nat.mod_lt n hm0))
 ·have hM0:M=0:=Nat.le_zero.1 (BE.ltn_f (i:=0) h)
  cbv;refine aR hc hR rfl (λX μ a w v' H hv'=>?_);have hm0:m=0:=tI (by rw[<-hM,hM0]);rw[hRR,<-hg,hm0,Nat.gcd_zero_right];exact H.toP.numRow rfl hv' hN hf cR
def qR (b:Bool)(n d:Nat):RV1:=.agg [.b (.l b),.x (aJ n),.x (aJ d)]
theorem xS:aB PP 62:=zK
theorem aI0 (zP:aFg){b:Bool}{n d:Nat}(hbn:(aC n).length<=2^38)(hbd:(aC d).length<=2^38)(hg:Nat.gcd n d=1):oC PP 62 [zRt b n,.one (.x (aJ d))] (.sg (qR b n d)):=by
 obtain⟨R1,hR1⟩:∃R,R=aJ n:=⟨_,rfl⟩;obtain⟨R2,hR2⟩:∃R,R=aJ d:=⟨_,rfl⟩;obtain⟨RG,hRG⟩:∃R,R=aJ 1:=⟨_,rfl⟩;obtain⟨F1,hF1⟩:∃F,F=lU (.sg (zRt b n)):=⟨_,rfl⟩;obtain⟨F2,hF2⟩:∃F,F=lU (.sg (.one (.x (aJ d)))):=⟨_,rfl⟩;have hz1:zRt b n=.agg [.b (.l b),.x R1]:=by rw[hR1];rfl
 have hz3:qR b n d=.agg [.b (.l b),.x R1,.x R2]:=by rw[hR1,hR2];rfl
 have hcm:∀{v u:Value} {X:Nat->Prop} {w:World},(∀b,X b->b<w.heap.size)->R1.p v X w->R2.p u X w->Fn PP 77 [v,u] X w RG:=λhX h1 h2=>by
  rw[hRG,<-hg];rw[hR1]at h1;rw[hR2]at h2;exact aAz zP hbn hbd hX h1 h2
 rw[hz1]at hF1 |-;rw[<-hR2]at hF2 |-;rw[hz3];clear hz1 hz3 hR1 hR2;refine eU mixed tok Tryz.func62 rfl (by rfl) rfl [F1,F2] ⟨hF1,hF2,trivial⟩ λc G hG hc hR=>?_;obtain⟨K,hK⟩:=nm (lT 0 [F1,F2]);rw[<-hK];have m1:KF.at 0 F1∈K:=by rw[hK];exact .head _
 have m2:KF.at 1 F2∈K:=by rw[hK];exact .tail _ (.head _)
 apply zN hc;cbv;refine dO (R:=RG) hc tA (λn0 D X μ a w aK H aI=>?_) 1 ?_
 ·obtain⟨v,u,rfl,e1,e2⟩:=bD aI;exact hcm H.xlt (((bJ.ec (c:=.x R1) (F:=F1) m1 hF1 rfl).ok H.kf e1).2) (((bJ.ec (c:=.x R2) (F:=F2) m2 hF2 rfl).ok H.kf e2).2)
 cbv;refine cV 5 .u32 (aC 1) rfl rfl (λX μ a w v' H hv'=>by have h:=H.toP.val (R:=RG) (.head _) hv';rw[hRG]at h;exact h) λf N cap hN hf cR=>?_;have hd1:aC 1=[1]:=by rw[bY zV];simp[bS]
 have hN1:N=1:=by rw[hN,hd1];rfl
 have hf0:f 0=1:=hf 0 1 (by rw[hd1];rfl)
 have e1:(BE.eq (.n N) (.l 1)).den=true:=by rw[hN1];rfl
 have o1:(Obl.ltE (.l 0) (.n N)).ok:=by rw[hN1];show _/\_;simp only[IE.den];omega
 have o2:(Obl.ix 0 (.l 0) 0 0 1 N).ok:=by show aV 0 (IE.l 0).den 0 0+1<=N;rw[hN1];decide
 apply zN hc;cbv;refine bV 17 rfl rfl 100 (λ_=>?_) (λh=>absurd (e1.symm.trans h) zV);cbv;have e0:(BE.eq (.fn f 0 (.l 0) 0 0) (.l 1)).den=true:=by
  show decide (f 0=1)=true
  rw[hf0];rfl
 refine aP hc ⟨o1,o2,trivial⟩ ?_;refine aE rfl 100 (λ_=>?_) (λh=>absurd (e0.symm.trans h) zV)
 ·cbv;refine dD hc hG hR rfl ⟨.b rfl,.ec zM hF1 rfl,.ec zM hF2 rfl,trivial⟩
theorem aGn (zP:aFg){b b':Bool}{n d g:Nat}(hbn:(aC n).length<=2^38)(hbd:(aC d).length<=2^38)(hg:Nat.gcd n d=g)(h1:1<g)(hlg:(aC g).length<=2^38)(hb:b'=(b&&decide (n/g≠0))):oC PP 62 [zRt b n,.one (.x (aJ d))] (.sg (qR b' (n/g) (d/g))):=by
 obtain⟨R1,hR1⟩:∃R,R=aJ n:=⟨_,rfl⟩;obtain⟨R2,hR2⟩:∃R,R=aJ d:=⟨_,rfl⟩;obtain⟨RG,hRG⟩:∃R,R=aJ g:=⟨_,rfl⟩;obtain⟨F1,hF1⟩:∃F,F=lU (.sg (zRt b n)):=⟨_,rfl⟩;obtain⟨F2,hF2⟩:∃F,F=lU (.sg (.one (.x (aJ d)))):=⟨_,rfl⟩;obtain⟨R3,hR3⟩:∃R,R=aJ (n/g):=⟨_,rfl⟩;obtain⟨R4,hR4⟩:∃R,R=aJ (d/g):=⟨_,rfl⟩;obtain⟨R5,hR5⟩:∃R,R=aJ (n%g):=⟨_,rfl⟩;obtain⟨R6,hR6⟩:∃R,R=aJ (d%g):=⟨_,rfl⟩;have hz1:zRt b n=.agg [.b (.l b),.x R1]:=by rw[hR1];rfl
 have hz3:qR b' (n/g) (d/g)=.agg [.b (.l b'),.x R3,.x R4]:=by rw[hR3,hR4];rfl
 have hcm:∀{v u:Value} {X:Nat->Prop} {w:World},(∀b,X b->b<w.heap.size)->R1.p v X w->R2.p u X w->Fn PP 77 [v,u] X w RG:=λhX h1 h2=>by
  rw[hRG,<-hg];rw[hR1]at h1;rw[hR2]at h2;exact aAz zP hbn hbd hX h1 h2
 have bDn:∀{v u:Value} {X:Nat->Prop} {w:World},(∀b,X b->b<w.heap.size)->R1.p v X w->(aJ g).p u X w->Fn PP 119 [v,u] X w (iT R3 R5):=λhX h1' h2=>by
  rw[hR3,hR5];rw[hR1]at h1';exact zP zW hbn hlg hX h1' h2
 have bDo:∀{v u:Value} {X:Nat->Prop} {w:World},(∀b,X b->b<w.heap.size)->R2.p v X w->(aJ g).p u X w->Fn PP 119 [v,u] X w (iT R4 R6):=λhX h1' h2=>by
  rw[hR4,hR6];rw[hR2]at h1';exact zP zW hbd hlg hX h1' h2
 have h3c:∀{v:Value} {X:Nat->Prop} {w:World},R3.p v X w->v.oneCell'=true:=λh=>by rw[hR3]at h;exact eJ h
 have h4c:∀{v:Value} {X:Nat->Prop} {w:World},R4.p v X w->v.oneCell'=true:=λh=>by rw[hR4]at h;exact eJ h
 have hmk:oC PP 115 [.one (.b (.l b)),.one (.x R3)] (.sg (.agg [.b (.l b'),.x R3])):=by rw[hR3];exact aC8 hb
 rw[hz1]at hF1 |-;rw[<-hR2]at hF2 |-;rw[hz3];clear hz1 hz3 hR1 hR2 hR3 hR5 hR6;refine eU mixed tok Tryz.func62 rfl (by rfl) rfl [F1,F2] ⟨hF1,hF2,trivial⟩ λc G hG hc hR=>?_;obtain⟨K,hK⟩:=nm (lT 0 [F1,F2]);rw[<-hK];have m1:KF.at 0 F1∈K:=by rw[hK];exact .head _
 have m2:KF.at 1 F2∈K:=by rw[hK];exact .tail _ (.head _)
 apply zN hc;cbv;refine dO (R:=RG) hc tA (λn0 D X μ a w aK H aI=>?_) 1 ?_
 ·obtain⟨v,u,rfl,e1,e2⟩:=bD aI;exact hcm H.xlt (((bJ.ec (c:=.x R1) (F:=F1) m1 hF1 rfl).ok H.kf e1).2) (((bJ.ec (c:=.x R2) (F:=F2) m2 hF2 rfl).ok H.kf e2).2)
 cbv;refine cV 5 .u32 (aC g) rfl rfl (λX μ a w v' H hv'=>by have h:=H.toP.val (R:=RG) (.head _) hv';rw[hRG]at h;exact h) λf N cap hN hf cR=>?_;obtain⟨RP1,aV1⟩:∃R,R=iT R3 R5:=⟨_,rfl⟩;obtain⟨RP2,aV2⟩:∃R,R=iT R4 R6:=⟨_,rfl⟩;have hN0:0<N:=by rw[hN,bY zW];simp
 have o1:(Obl.ltE (.l 0) (.n N)).ok:=by
  refine⟨zV,?_⟩;show(0:Int)<(N:Int)
  exact Int.ofNat_lt.2 hN0
 have o2:(Obl.ix 0 (.l 0) 0 0 1 N).ok:=by
  show aV 0 (IE.l 0).den 0 0+1<=N
  rw[show aV 0 (IE.l 0).den 0 0=0 from zV];exact hN0
 have hne:(BE.eq (.n N) (.l 1)).den=true->(BE.eq (.fn f 0 (.l 0) 0 0) (.l 1)).den=true->False:=λh1' h2'=>by
  have hN1:N=1:=BE.eqnl_t h1'
  have h2':f 0=1:=of_decide_eq_true (show decide (f 0=1)=true from h2')
  have h3:=aEb (n:=g) (by rw[<-hN,hN1];decide)
  have h4:=hf 0 _ h3
  have h5:g<1000000000^1:=aT (by rw[<-hN,hN1];exact lRf _)
  rw[h4]at h2';have h6:g%1000000000=1:=zW;rw[Nat.mod_eq_of_lt zW]at h6;omega
 apply zN hc;cbv;refine bV 17 rfl rfl 100 (λha=>?_) (λha=>?_)
 ·cbv;refine aP hc ⟨o1,o2,trivial⟩ ?_;refine aE rfl 100 (λh=>(hne ha h).elim) (λ_=>?_);cbv;refine dO (R:=RP1) hc tB (λn0 D X μ a w aK H aI=>?_) 2 ?_
  ·obtain⟨v,u,rfl,e1,e2⟩:=bD aI;rw[aV1];exact bDn H.xlt (((bJ.ec (c:=.x R1) (F:=F1) zM hF1 rfl).ok H.kf e1).2) (H.numRow rfl e2 hN hf cR)
  cbv;refine lY 26 6 (R1:=R3) (R2:=R5) rfl rfl (aV1▸.head _) ?_;apply zN hc;cbv;refine dO (R:=RP2) hc tB (λn0 D X μ a w aK H aI=>?_) 2 ?_
  ·obtain⟨v,u,rfl,e1,e2⟩:=bD aI;rw[aV2];exact bDo H.xlt (((bJ.ec (c:=.x R2) (F:=F2) zM hF2 rfl).ok H.kf e1).2) (H.numRow rfl e2 hN hf cR)
  cbv;refine lY 33 9 (R1:=R4) (R2:=R6) rfl rfl (aV2▸.head _) ?_;apply zN hc;cbv;refine fG hc lI hmk ⟨.b rfl,.e zM h3c,trivial⟩ (.g [.b (.l b'),.ec 12 1]) 100 (λFB hFB=>?_);cbv;refine cV 43 .u32 (aC (d/g)) rfl rfl (λX μ a w v' H hv'=>by have h:=H.toP.val (R:=R4) zM hv';rw[hR4]at h;exact h) λf2 N2 rG hN2 hf2 aR7=>?_;apply zN hc;cbv;exact aR hc hR rfl (λX μ a w v H hv=>by
   obtain⟨vs,q1,rfl⟩:=sA hv;obtain⟨v1,v2,v3,rfl,e1,e2,e3⟩:=eS q1;have h3:=H.toP.numRow rfl e3 hN2 hf2 aR7;rw[hG];exact⟨[v1,v2,v3],rfl,fW e1,(bJ.ec (c:=.x R3) (.head _) hFB rfl).ok H.toP.kf e2,⟨eJ h3,by rw[hR4];exact h3⟩,trivial⟩)
 ·cbv;refine dO (R:=RP1) hc tB (λn0 D X μ a w aK H aI=>?_) 2 ?_
  ·obtain⟨v,u,rfl,e1,e2⟩:=bD aI;rw[aV1];exact bDn H.xlt (((bJ.ec (c:=.x R1) (F:=F1) zM hF1 rfl).ok H.kf e1).2) (H.numRow rfl e2 hN hf cR)
  cbv;refine lY 26 6 (R1:=R3) (R2:=R5) rfl rfl (aV1▸.head _) ?_;apply zN hc;cbv;refine dO (R:=RP2) hc tB (λn0 D X μ a w aK H aI=>?_) 2 ?_
  ·obtain⟨v,u,rfl,e1,e2⟩:=bD aI;rw[aV2];exact bDo H.xlt (((bJ.ec (c:=.x R2) (F:=F2) zM hF2 rfl).ok H.kf e1).2) (H.numRow rfl e2 hN hf cR)
  cbv;refine lY 33 9 (R1:=R4) (R2:=R6) rfl rfl (aV2▸.head _) ?_;apply zN hc;cbv;refine fG hc lI hmk ⟨.b rfl,.e zM h3c,trivial⟩ (.g [.b (.l b'),.ec 12 1]) 100 (λFB hFB=>?_);cbv;refine cV 43 .u32 (aC (d/g)) rfl rfl (λX μ a w v' H hv'=>by have h:=H.toP.val (R:=R4) zM hv';rw[hR4]at h;exact h) λf2 N2 rG hN2 hf2 aR7=>?_;apply zN hc;cbv;exact aR hc hR rfl (λX μ a w v H hv=>by
   obtain⟨vs,q1,rfl⟩:=sA hv;obtain⟨v1,v2,v3,rfl,e1,e2,e3⟩:=eS q1;have h3:=H.toP.numRow rfl e3 hN2 hf2 aR7;rw[hG];exact⟨[v1,v2,v3],rfl,fW e1,(bJ.ec (c:=.x R3) (.head _) hFB rfl).ok H.toP.kf e2,⟨eJ h3,by rw[hR4];exact h3⟩,trivial⟩)
end Go.Ai
namespace Go.Ai
open Go
section
variable {c:Cx}{P:Program}{ty:Nat->Option TyI}{nt:Nat}{K:List KF}{S:St}
theorem aEz (hc:Ctx c P ty nt){all:Array Oper}{i:Nat}{k:List KI}(o:Oper)(ho:all[i]?=some o)(hg:guardOf all S.sl o=some true)(hd:cA nt o.dst=true){t e n cap:Nat}{x y:Operand}{ya:AV}{kd:IntKind}{a0:Option Addr}{ti ei:TyI}{l news:List Int}{ow':List OF}{bytes:Nat}{G:Option Addr->Nat->Nat->List Int->OF}(hG:∀a n cap l,G a n cap l=OF.row (.slice a n cap) c.B.heap.size e kd l)
  (hop:o.op=.call {callee:=.builtin .append,args:=#[x,y],argTypes:=#[t,t]}) (hx:fE S.sl x=some (.xs a0 n cap)) (hy:fE S.sl y=some ya) (how:S.ow=G a0 n cap l::ow')
  (hti:ty t=some ti) (hk:ti.kind=.slice e 1) (hei:ty e=some ei) (hag:ei.kind.agg=false) (hby:(P.info? e).map (·.bytes)=some bytes) (hle:(l.length+news.length)*bytes<=140737488355328) (h63:l.length+news.length<=9223372036854775807) (hne:1<=news.length)
  (hv:∀X μ a w v,Sim c K S X μ a w->aD μ ya=some v->∃ad c',v=.slice (some ad) news.length c'/\∀j z,news[j]?=some z->w.cell? (ad.add j)=some (.int kd z))
  (h:∀a' n' aS l',n'=l.length+news.length->l'=l++news->Goal c K ⟨.ops all (i+1)::k,S.putO o.dst (.xs a' n' aS) none (G a' n' aS l'::ow'),[]⟩):Goal c K ⟨.ops all i::k,S,[]⟩:=by
 refine sT hc o ho hg (ι:=RowZ) (K':=λ_=>K) (S':=λz=>S.putO o.dst (.xs z.a (l.length+news.length) z.cap) none (G z.a (l.length+news.length) z.cap (l++news)::ow')) (p:=λ_=>True) (λX μ a w H=>?_) (λz _=>h z.a (l.length+news.length) z.cap _ rfl rfl);have P':=H.toP;rw[hG]at how;have e1:=jH (aG H.toP hx (λ_ _=>trivial));obtain⟨ad,c',e2,iF⟩:=hv X μ a w _ H (aG H.toP hy (λ_ _=>trivial));have T:=c.tok t ti (by rw[hc.hty];exact hti);have hu:=T.und;rw[hk]at hu;obtain⟨u1,tj,u2,u3⟩:=hu;obtain⟨tj',z,h1,h2,h3,h4,h5⟩:=(c.tok e ei (by rw[hc.hty];exact hei)).info;rw[u2]at h1;injection h1 with h1;subst h1
 have hzs:z.cells.size=1:=by rw[cells_one (h5.2 hag)];rfl
 have hb2:tj.bytes=bytes:=by rw[<-hc.hP,u2]at hby;simpa using hby
 have hf0:OF.row (.slice a0 n cap) c.B.heap.size e kd l∈S.ow:=by rw[how];exact .head _
 obtain⟨hr0,hr1⟩:=P'.own.at_ _ hf0;have hr0:w.ownsRow c.B.heap.size e 1 (.slice a0 n cap) l.length (l.map (Value.int kd)):=hr0;obtain⟨v',w',q1,q2,q3,q4⟩:=aDu (P:=c.P) c.B.heap.size t o.type e tj z bytes u1 u2 h3 u3 hb2 hzs _ _ _ hr0 ad news.length c' (news.map (Value.int kd)) zA (λq u hq=>by
   rw[List.getElem?_map]at hq;cases hz:news[q]? with
   | none=>rw[hz]at hq;cases hq
   | some y=>rw[hz]at hq;injection hq with hq;rw[<-hq];exact iF q y hz) (λu hu=>by obtain⟨y,_,rfl⟩:=List.mem_map.1 hu;rfl) (by simpa[maxLen]using h63) hle P'.bel.size
 have hv':∃a' aS,v'=.slice a' (l.length+news.length) aS:=by
  rcases q2.2 with⟨h6,h7⟩ | ⟨g,aS,cur,h6,_⟩
  ·omega
  ·exact⟨_,_,h6⟩
 obtain⟨a',aS,rfl⟩:=hv';refine⟨⟨a',aS⟩,.slice a' (l.length+news.length) aS,w',X,μ,trivial,?_,?_⟩
 ·rw[<-hc.hP];simp only[execOp,hop,resolve,invoke,builtin,Sem.run_bind,Sem.run_pure,Result.andThen_ok,List.map_toArray,List.map_cons,List.map_nil,e1,e2];rw[q1];rfl
 ·have hap:=P'.own.apart
  rw[how]at hap;simp only[hG];refine aGt (r:=(Value.slice a0 n cap).ownBlock) (by rw[hc.hnt];exact hd) H q3 (by simpa using q2) (λf hf=>by rw[how];exact .tail _ hf) (List.Pairwise.of_cons hap) (λb hb=>⟨_,hf0,hb⟩) (λf hf b hb hb'=>List.rel_of_pairwise_cons hap hf b hb hb') q4 ?_;rcases q4 with h6 | h6
  ·exact .inr h6
  ·exact .inl (World.ownsRow.lt q2 _ h6).2
theorem aPl {kd:IntKind}{l:List Int}{v:Value}{X:Nat->Prop}{w:World}(h:(lX kd l).p v X w)(hne:1<=l.length):∃ad c',v=.slice (some ad) l.length c'/\∀j z,l[j]?=some z->w.cell? (ad.add j)=some (.int kd z):=by
 obtain⟨a,cap,rfl,_,h3⟩:=h;match a,h3 with
 | none,h3=>rw[h3.1]at hne;simp at hne
 | some (b,o),⟨h3,cs,ty,h4,h5⟩=>exact⟨⟨b,o,none⟩,cap,rfl,λj z hz=>by simp[add_eq,World.cell?,h4,h5 j z hz]⟩
theorem aP3 {kd:IntKind}{j bt:Nat}{e1 e2:IE}(hj:S.hp[j]?=some (.c bt [.i kd e1,.i kd e2])){X:Nat->Prop}{μ:Mu}{a:Act}{w:World}{v:Value}(H:Sim c K S X μ a w)(hv:aD μ (.sl j 0 (.l 2) 2)=some v):
  ∃ad c',v=.slice (some ad) [e1.den,e2.den].length c'/\∀j z,[e1.den,e2.den][j]?=some z->w.cell? (ad.add j)=some (.int kd z):=by
 have P':=H.toP
 obtain⟨b,o1,hb1,e2'⟩:=lM hv (by simp[IE.den]);simp only[IE.den]at e2';obtain⟨m,hm1,hm2⟩:=uG hb1;have hok:=P'.heap j _ m hj hm1;match m,hm2,hok,hm1 with
 | .own b',hm2,hok,hm1=>
  simp only[MV.at,Option.some.injEq,Prod.mk.injEq]at hm2;obtain⟨rfl,rfl⟩:=hm2;obtain⟨vs,hvs,rB⟩:=hok;simp only[aF,aD,Option.some.injEq]at hvs;subst hvs;refine⟨_,_,e2',λq z hq=>?_⟩;match q,hq with
  | 0,hq=>simp at hq;subst hq;simp[add_eq,World.cell?,rB]
  | 1,hq=>simp at hq;subst hq;simp[add_eq,World.cell?,rB]
  | q+2,hq=>simp at hq
theorem bBd {ks:List KI}(d k:Nat){bt n:Nat}{kd:IntKind}{G:Option Addr->Nat->Nat->List Int->OF}(hG:∀a n cap l,G a n cap l=OF.row (.slice a n cap) c.B.heap.size bt kd l){cells:List AV}{news:List Int}{l:List (Nat × AV)}{K':List KF}(hp:iJ ks=true)(hk:S.hp[k]?=some (.c bt cells))(hd:look S.sl d=some (.sl k 0 (.l (n:Int)) n))(iF:aF iN cells=some (news.map (Value.int kd)))(aIf:news.length=n)(h63:n<=9223372036854775807)(hl:aDq S k l)(hb:(S.hp.set k .e).all (Blk.fr k)=true)(hK:aA8 k K K')(hO:aDp k S.ow)
  (h:∀b,Goal c K' ⟨ks,⟨(d,.xs (some ⟨b,0,none⟩) n n)::l,S.hp.set k .e,G (some ⟨b,0,none⟩) n n news::S.ow⟩,[]⟩):Goal c K ⟨ks,S,[]⟩:=by
 simp only[hG]at h;refine fT (ι:=Nat) (K':=λ_=>K') (S':=λb=>⟨(d,.xs (some ⟨b,0,none⟩) n n)::l,S.hp.set k .e,OF.row (.slice (some ⟨b,0,none⟩) n n) c.B.heap.size bt kd news::S.ow⟩) (p:=λ_=>True) hp (λX μ a w H=>?_) (λb _=>h b);have P:=H.toP;have hkl:k<S.hp.length:=(List.getElem?_eq_some_iff.1 hk).1;obtain⟨m,hm⟩:=P.all k hkl;have hok:=P.heap k _ m hk hm;match m,hok,hm with
 | .own b,hok,hm=>
 obtain⟨vs,hvs,hbk⟩:=hok;have aV8:news.map (Value.int kd)=vs:=by rw[cZ iF]at hvs;injection hvs
 have hvl:vs.length=cells.length:=aW hvs
 have hlen:(S.hp.set k .e).length=S.hp.length:=zA
 have eE:∀j b',(μ.upd k (.val undef)) j=some (.own b')->j≠k/\μ j=some (.own b'):=λj b' hj=>by
  by_cases e:j=k
  ·subst e;rw[Mu.upd_same]at hj;injection hj with hj;cases hj
  ·rw[(fH e).2.2]at hj;exact⟨e,hj⟩
 refine⟨b,X,μ.upd k (.val undef),trivial,⟨⟨P.dfr,P.size,?_,?_,?_,?_,?_,P.xlt,P.xnew,P.xold,P.bel,?_,?_⟩,?_⟩⟩
 ·intro t av _ ht;by_cases e:d=t
  ·subst e;rw[bH]at ht;injection ht with ht;subst ht
   obtain⟨v,e1,e2⟩:=P.slots d _ trivial hd;have hv:v=.slice (some ⟨b,0,none⟩) n n:=by
    obtain⟨q,h1,h2,h3,h4⟩:=mE e1;simp only[atS,hm,MV.atS,Option.bind_some,Option.some.injEq]at h1;subst h1;simpa[IE.den]using h2
   exact⟨v,by rw[hv];rfl,e2⟩
  ·rw[bB e]at ht;obtain⟨a',e1,e2,e3⟩:=hl.look t av ht;obtain⟨v,e4,e5⟩:=P.slots t a' trivial e1;exact⟨v,by rw[wA _ e2,<-e3 μ];exact e4,e5⟩
 ·intro j bj m hj hmj;by_cases e:j=k
  ·subst e;rw[Mu.upd_same]at hmj;injection hmj with hmj;subst hmj
   have hse:(S.hp.set j .e)[j]?=some .e:=by simp[hkl]
   have hj:some Blk.e=some bj:=hse.symm.trans hj
   injection hj with hj;subst hj;trivial
  ·rw[(fH e).2.2]at hmj;have hfr:bj.fr k=true:=List.all_eq_true.1 hb _ (List.mem_of_getElem? hj);rw[List.getElem?_set_ne (λe'=>e e'.symm)]at hj;exact Blk.ok_fr hfr (P.heap j bj m hj hmj)
 ·intro j hj;rw[hlen]at hj;by_cases e:j=k
  ·subst e;exact⟨_,Mu.upd_same _ _ _⟩
  ·obtain⟨m,hm⟩:=P.all j hj;exact⟨m,by rw[(fH e).2.2];exact hm⟩
 ·intro j j' b' h1 h2;exact P.inj j j' b' (eE _ _ h1).2 (eE _ _ h2).2
 ·intro j b' h1;exact P.loc j b' (eE _ _ h1).2
 ·intro f hf;obtain⟨h1,h2⟩:=hK.mem f hf;exact h2.out _ _ _ _ (P.kf f h1)
 ·obtain⟨l1,l2,l3⟩:=P.loc k b hm;refine⟨λf hf=>?_,List.Pairwise.cons (λg hg j hj=>?_) ?_⟩
  ·rcases List.mem_cons.1 hf with e | e
   ·subst e;subst aIf;refine⟨⟨zA,.inr ⟨b,news.length,vs.toArray,rfl,l1,hbk,lRf _,by simpa[maxLen]using h63,by rw[<-aV8];simp,by rw[<-aV8];exact List.take_of_length_le zA⟩⟩,λj hj=>?_⟩;have hj:j=b:=(Option.some.inj hj).symm;subst hj;exact⟨l1,l3,l2,λk' hk'=>(eE _ _ hk').1 (P.inj _ _ _ (eE _ _ hk').2 hm)⟩
   ·obtain⟨h1,h2⟩:=P.own.at_ f e;obtain⟨h3,h4⟩:=(hO.mem f e).out μ w undef h1;refine⟨h3,λj hj=>?_⟩;obtain⟨q1,q2,q3,q4⟩:=h2 j ((h4 j).1 hj);exact⟨q1,q2,q3,λk' hk'=>q4 k' (eE _ _ hk').2⟩
  ·have hj:j=b:=(Option.some.inj hj).symm
   subst hj;intro hg';obtain⟨h1,h2⟩:=P.own.at_ g hg;exact(h2 j ((((hO.mem g hg).out μ w undef h1).2 j).1 hg')).2.2.2 k hm
  ·refine P.own.apart.imp_of_mem λ{f g} hf hg hq j hj hj'=>?_;exact hq j ((((hO.mem f hf).out μ w undef (P.own.at_ f hf).1).2 j).1 hj) ((((hO.mem g hg).out μ w undef (P.own.at_ g hg).1).2 j).1 hj')
 ·intro j hj;rw[hlen]at hj;have e:j≠k:=zW;rw[(fH e).2.2];exact H.dom j hj
theorem aPr {ks:List KI}(k n:Nat){bt:Nat}{kd:IntKind}{l l':List Int}(hp:okc ks=true)(hk:S.hp[k]?=some (.w bt kd l))(hl':l'=l.take n)
  (h:Goal c K ⟨ks,{S with hp:=S.hp.set k (.w bt kd l')},[]⟩):Goal c K ⟨ks,S,[]⟩:=by
 subst hl';refine oN hp (λX μ a w H=>?_) h rfl;have P:=H.toP;have hkl:k<S.hp.length:=(List.getElem?_eq_some_iff.1 hk).1;refine⟨X,μ,⟨⟨P.dfr,P.size,P.slots,?_,?_,P.inj,P.loc,P.xlt,P.xnew,P.xold,P.bel,P.kf,P.own⟩,?_⟩⟩
 ·intro j bj m hj hm;by_cases e:k=j
  ·subst e;have hse:(S.hp.set k (.w bt kd (l.take n)))[k]?=some (.w bt kd (l.take n)):=by simp[hkl]
   have hj:some (Blk.w bt kd (l.take n))=some bj:=hse.symm.trans hj
   injection hj with hj;subst hj
   have hok:=P.heap k _ m hk hm
   match m,hok with
   | .own b,⟨rest,hok⟩=>exact⟨(l.drop n).map (Value.int kd)++rest,by rw[<-List.append_assoc,<-List.map_append,List.take_append_drop];exact hok⟩
  ·have hj:(S.hp.set k (.w bt kd (l.take n)))[j]?=some bj:=hj
   rw[List.getElem?_set_ne e]at hj;exact P.heap j bj m hj hm
 ·intro j hj;exact P.all j (by simpa using hj)
 ·intro j hj;exact H.dom j (by simpa using hj)
end
end Go.Ai
namespace Go.Num
open Go.Lib
def leD:Nat->Nat->List Int
 | 0,_=>[]
 | j+1,n=>((48+n%10:Nat):Int)::leD j (n/10)
theorem tN:∀(j n:Nat),(leD j n).length=j
 | 0,_=>rfl
 | j+1,n=>by simp[leD,tN j]
theorem aIo:∀(j n:Nat),leD (j+1) n=leD j n++[((48+n/10^j%10:Nat):Int)]
 | 0,n=>by simp[leD]
 | j+1,n=>by
  rw[leD,aIo j (n/10),leD,List.cons_append,Nat.div_div_eq_div_mul,Nat.pow_succ,Nat.mul_comm 10]
theorem aS0:∀(j n:Nat) (x:Int),x∈leD j n->48<=x/\x<=57
 | j+1,n,x,h=>by
  rw[leD]at h;rcases List.mem_cons.1 h with h | h
  ·omega
  ·exact aS0 j _ x h
theorem aBu {d:Nat}(h:d<10):(UInt8.ofNat (48+d)).toNat=48+d:=by
 simp only[UInt8.toNat_ofNat'];omega
theorem aNc:∀(j n:Nat),1<=j->n<10^j->10^(j - 1)<=n\/j=1->(leD j n).reverse=(decDigits n).map λc=>((c.toNat:Nat):Int)
 | 1,n,_,h,_=>by
  have h:n<10:=by simpa using h
  rw[bO h];simp only[leD,List.reverse_cons,List.reverse_nil,List.nil_append,List.map_cons,List.map_nil];rw[aBu zW];congr 2;omega
 | j+2,n,_,h,h'=>by
  have h':10^(j+1)<=n:=by
   rcases h' with h' | h'
   ·exact h'
   ·omega
  rw[Nat.pow_succ]at h h';have hp:0<10^j:=Nat.pow_pos zV;have h10:¬n<10:=zW;rw[dY h10,leD,List.reverse_cons,aNc (j+1) (n/10) zW (by rw[Nat.pow_succ]at h |-;omega) (.inl (by show 10^j<=n/10;omega)),List.map_append];simp only[List.map_cons,List.map_nil];rw[aBu zW]
theorem aZi {x k:Nat}(h:k<9):x%1000000000/10^k%10=x/10^k%10:=by
 match k,h with
 | 0,_=>simp
 | 1,_=>simp;omega
 | 2,_=>simp;omega
 | 3,_=>simp;omega
 | 4,_=>simp;omega
 | 5,_=>simp;omega
 | 6,_=>simp;omega
 | 7,_=>simp;omega
 | 8,_=>simp;omega
theorem aAt:∀(i n:Nat),(aC n).getD i 0=((n/1000000000^i%1000000000:Nat):Int)
 | i,0=>by rw[bS];simp
 | 0,n+1=>by rw[bY zW];simp
 | i+1,n+1=>by
  rw[bY zW,List.getD_cons_succ,aAt i,Nat.div_div_eq_div_mul,Nat.pow_succ,Nat.mul_comm (1000000000:Nat)]
def Tx (n N i:Nat)(out:List Int):Prop:=(i<N/\out=leD (9*i) n)\/(i=N/\∃L,1<=L/\L<=9*N/\out=leD L n/\n<10^L/\10^(L - 1)<=n)
structure Ty (n N i k:Nat)(w:Int)(out:List Int):Prop where
 hi:i<N
 hk:k<=9
 out:out=leD (9*i+k) n
 w:w=((n/1000000000^i%1000000000/10^k:Nat):Int)
 low:i+1=N->k=0\/10^(9*i+k - 1)<=n
theorem bAy (i:Nat):(1000000000:Nat)^i=10^(9*i):=by rw[Nat.pow_mul]
theorem Ty.init {n N i:Nat}{w:Int}{out:List Int}(h:Tx n N i out)(hi:i<N)(hw:w=(aC n).getD i 0):Ty n N i 0 w out:=by
 rcases h with⟨_,h⟩ | ⟨h,_⟩
 ·exact⟨hi,zW,h,by rw[hw,aAt];simp,λ_=>.inl rfl⟩
 ·omega
theorem Ty.step {n N i k:Nat}{w:Int}{out:List Int}(h:Ty n N i k w out)(hN:(aC n).length=N)(hk:k<9)(hc:i+1<N\/0<w):Ty n N i (k+1) (w/10) (out++[48+w%10])/\0<=w/\w<1000000000:=by
 have e:10^(9*i+k)=1000000000^i*10^k:=by rw[bAy,Nat.pow_add]
 have hb:n/1000000000^i%1000000000/10^k<1000000000:=Nat.lt_of_le_of_lt (Nat.div_le_self _ _) (Nat.mod_lt _ zV)
 have hd:=aZi (x:=n/1000000000^i) hk
 have hw0:0<=w/\w<1000000000:=by
  have hw:=h.w
  generalize n/1000000000^i%1000000000/10^k=W at *;omega
 refine⟨⟨h.hi,hk,?_,?_,λhN'=>.inr ?_⟩,hw0⟩
 ·rw[show 9*i+(k+1)=(9*i+k)+1 from rfl,aIo,<-h.out,e,<-Nat.div_div_eq_div_mul,<-hd,h.w];congr 2
 ·rw[h.w,Nat.pow_succ,<-Nat.div_div_eq_div_mul];rfl
 ·rw[show 9*i+(k+1) - 1=9*i+k by omega];rcases hc with hc | hc
  ·omega
  ·rw[h.w]at hc;have h1:n/1000000000^i%1000000000/10^k<=n/1000000000^i/10^k:=Nat.div_le_div_right (Nat.mod_le _ _);rw[Nat.div_div_eq_div_mul,<-e]at h1;have h2:0<n/10^(9*i+k):=zW;exact(Nat.div_pos_iff.1 h2).2
theorem Ty.done {n N i k:Nat}{w:Int}{out:List Int}(h:Ty n N i k w out)(hN:(aC n).length=N)(hc:k=9\/(i+1=N/\w=0)):Tx n N (i+1) out:=by
 have hlt:n<1000000000^N:=aT zW
 rcases Nat.lt_or_ge (i+1) N with h1 | h1
 ·left
  have hk:k=9:=zW
  exact⟨h1,by rw[h.out,hk];rfl⟩
 ·right
  have hi:=h.hi
  have hN':i+1=N:=zW
  refine⟨hN',9*i+k,?_,?_,h.out,?_,?_⟩
  ·have:k≠0:=λhk0=>by
    rcases hc with hc | ⟨_,hc⟩
    ·omega
    ·have aSs:=xI (m:=n) (k:=i) zW
     have:=h.w
     rw[aAt]at aSs;rw[hk0,Nat.pow_zero,Nat.div_one]at this;generalize n/1000000000^i%1000000000=W at *;omega
   omega
  ·have:=h.hk;omega
  ·rcases hc with hc | ⟨_,hc⟩
   ·rw[hc,show 9*i+9=9*(i+1) by omega,<-bAy,hN'];exact hlt
   ·have e:10^(9*i+k)=1000000000^i*10^k:=by rw[bAy,Nat.pow_add]
    have hw:=h.w
    have h2:n/1000000000^i<1000000000:=(Nat.div_lt_iff_lt_mul (Nat.pow_pos zV)).2 (by rw[<-hN',Nat.pow_succ,Nat.mul_comm]at hlt;exact hlt)
    rw[Nat.mod_eq_of_lt h2,Nat.div_div_eq_div_mul,<-e]at hw;have h3:n/10^(9*i+k)=0:=zW;rcases Nat.div_eq_zero_iff.1 h3 with h4 | h4
    ·have:0<10^(9*i+k):=Nat.pow_pos zV
     omega
    ·exact h4
  ·rcases h.low hN' with hk0 | h1
   ·exact absurd hk0 (λhk0=>by
     rcases hc with hc | ⟨_,hc⟩
     ·omega
     ·have aSs:=xI (m:=n) (k:=i) zW
      have:=h.w
      rw[aAt]at aSs;rw[hk0,Nat.pow_zero,Nat.div_one]at this;generalize n/1000000000^i%1000000000=W at *;omega)
   ·exact h1
theorem Tx.done {n N:Nat}{out:List Int}(h:Tx n N N out):out.reverse=(decDigits n).map (λc=>((c.toNat:Nat):Int))/\1<=out.length/\out.length<=9*N/\∀x,x∈out->48<=x/\x<=57:=by
 rcases h with⟨h,_⟩ | ⟨_,L,h1,h2,rfl,h3,h4⟩
 ·omega
 ·exact⟨aNc L n h1 h3 (.inl h4),by rw[tN];exact h1,by rw[tN];exact h2,aS0 L n⟩
theorem Tx.len {n N i:Nat}{out:List Int}(h:Tx n N i out):out.length<=9*i:=by
 rcases h with⟨_,rfl⟩ | ⟨hi,L,h1,h2,rfl,_⟩
 ·rw[tN];exact lRf _
 ·rw[tN,hi];exact h2
structure Sw (out l:List Int)(i:Nat):Prop where
 len:l.length=out.length
 hi:2*i<=out.length
 at_:∀t,t<out.length->l.getD t 0=if t<i\/out.length - i<=t then out.getD (out.length - 1 - t) 0 else out.getD t 0
theorem Sw.init (out:List Int):Sw out out 0:=⟨rfl,zW,λt ht=>by rw[if_neg zW]⟩
theorem aH7 (l:List Int)(i j:Nat)(x:Int):(l.set i x).getD j 0=if i=j/\i<l.length then x else l.getD j 0:=by
 simp only[List.getD_eq_getElem?_getD,List.getElem?_set];split
 ·rename_i h;subst h;split
  ·rename_i h2;rw[if_pos ⟨rfl,h2⟩];rfl
  ·rename_i h2;rw[if_neg (λh=>h2 h.2)];simp[List.getElem?_eq_none (zW:l.length<=i)]
 ·rename_i h;rw[if_neg (λh'=>h h'.1)]
theorem Sw.step {out l:List Int}{i k:Nat}(h:Sw out l i)(hk:k+i+1=out.length)(hik:i<k):Sw out ((l.set i (l.getD k 0)).set k (l.getD i 0)) (i+1):=by
 have hl:=h.len
 have a1:=h.at_ i zW
 have a2:=h.at_ k zW
 rw[if_neg zW]at a1 a2;refine⟨by simp[hl],zW,λt ht=>?_⟩;rw[aH7,aH7,List.length_set];by_cases e1:k=t
 ·subst e1;rw[if_pos ⟨rfl,zW⟩,if_pos zW,a1,show out.length - 1 - k=i by omega]
 ·rw[if_neg (λh=>e1 h.1)];by_cases e2:i=t
  ·subst e2;rw[if_pos ⟨rfl,zW⟩,if_pos zW,a2,show out.length - 1 - i=k by omega]
  ·rw[if_neg (λh=>e2 h.1),h.at_ t ht];by_cases e3:t<i\/out.length - i<=t
   ·rw[if_pos e3,if_pos zW]
   ·rw[if_neg e3,if_neg zW]
theorem Sw.done {out l:List Int}{i:Nat}(h:Sw out l i)(hi:out.length<=2*i+1):l=out.reverse:=by
 have hl:=h.len
 have hi':=h.hi
 refine List.ext_getElem? λt=>?_;rcases Nat.lt_or_ge t out.length with ht | ht
 ·have a:=h.at_ t ht
  rw[List.getElem?_eq_getElem zW,List.getElem?_reverse ht,List.getElem?_eq_getElem zW];simp only[List.getD_eq_getElem?_getD]at a;rw[List.getElem?_eq_getElem (zW:t<l.length)]at a;simp only[Option.getD_some]at a;rw[a];by_cases e3:t<i\/out.length - i<=t
  ·rw[if_pos e3,List.getElem?_eq_getElem zW];rfl
  ·rw[if_neg e3,List.getElem?_eq_getElem ht];have:out.length - 1 - t=t:=zW;simp only[this];rfl
 ·rw[List.getElem?_eq_none zW,List.getElem?_eq_none (by simpa using ht)]
theorem Kn.init2 {n m f k T:Nat}{U z:List Int}(hw:Wd U)(hv:val U=(n*f:Nat))(hz:z=List.replicate T 0)(hk:(aC m).length=k)(h1:1<=k)(hf:1<=f)(hT:T+k=U.length)(hl:U.length=(aC n).length+1):
  Kn (n*f:Nat) (m*f:Nat) k T U z:=by
 refine⟨hw,by rw[hz];exact mN T,by rw[hz,List.length_replicate];omega,?_,?_⟩
 ·rw[hz,List.drop_of_length_le zA,hv];simp[val]
 ·have h2:=jO (l:=U) (q:=T) zW
  have h3:=cH (hw.take T)
  have h4:=cH (hw.drop T)
  apply Classical.byContradiction;intro hc;have hc:((m*f:Nat):Int)<=val (U.drop T):=zW;obtain⟨d,hd⟩:∃d:Nat,val (U.drop T)=d:=⟨(val (U.drop T)).toNat,zW⟩;rw[hd]at hc h2;have hc:m*f<=d:=zW;have h5:1000000000^T*d<=n*f:=by
   have:((1000000000^T*d:Nat):Int)=(1000000000:Int)^T*d:=zA
   omega
  have hn:n<1000000000^(aC n).length:=aT (lRf _)
  have hm:1000000000^(k - 1)<=m:=by
   apply Classical.byContradiction;intro h;have:=bM (n:=m) (k:=k - 1) zW;omega
  have h6:1000000000^T*(m*f)<=n*f:=lTr (Nat.mul_le_mul_left _ hc) h5
  rw[<-Nat.mul_assoc]at h6;have h7:1000000000^T*m<=n:=Nat.le_of_mul_le_mul_right h6 zW;have h8:1000000000^T*1000000000^(k - 1)<=n:=lTr (Nat.mul_le_mul_left _ hm) h7;rw[<-Nat.pow_add,show T+(k - 1)=(aC n).length by omega]at h8;omega
end Go.Num
