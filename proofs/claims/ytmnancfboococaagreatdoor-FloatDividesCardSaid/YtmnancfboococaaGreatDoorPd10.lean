/- Part 11: lemmas for garboardlaw17.FloatDivides -/
import Derived.Test.YtmnancfboococaaGreatDoorPd9
set_option linter.all false
namespace Go.Ai
open Go Go.Proofs Go.Num
theorem aFs:aB PP 246:=zK
theorem aC5 {v u:Value}{X:Nat->Prop}{w:World}{n m:Nat}(hbn:(aC n).length<=2^39)(hbm:(aC m).length<=2^39)(hX:∀b,X b->b<w.heap.size)(hv:(aJ n).p v X w)(hu:(aJ m).p u X w):
  Fn PP 246 [v,u] X w (aJ (n*m)):=by
 obtain⟨R,hRR⟩:=nm (aJ (n*m));obtain⟨K,hK⟩:=nm ([KF.cst v (aJ n),KF.cst u (aJ m)]);rw[<-hRR];refine bE mixed tok [.q v,.q u] (K:=K) Tryz.func246 rfl rfl (lbl rfl) rfl hX (by subst hK;simp;exact⟨hv,hu⟩) λc hc hR=>?_;refine cV 0 .u32 (aC n) rfl rfl (λX μ a w v' H hv'=>bZ H (by simp[hK]) hv') λf N cap hN hf cR=>?_;refine cV 1 .u32 (aC m) rfl rfl (λX μ a w v' H hv'=>bZ H (by simp[hK]) hv') λf' M aS hM hf' gO=>?_;have hfw:∀i,i<N->f i=(aC n).getD i 0:=λi hi=>by
  have:=List.getElem?_eq_getElem (l:=aC n) (i:=i) zW
  rw[hf i _ this,List.getD_eq_getElem?_getD,this];rfl
 have aB6:∀i,i<M->f' i=(aC m).getD i 0:=λi hi=>by
  have:=List.getElem?_eq_getElem (l:=aC m) (i:=i) zW
  rw[hf' i _ this,List.getD_eq_getElem?_getD,this];rfl
 have hbN:N<=2^39:=zW
 have hbM:M<=2^39:=zW
 have kf:∀q,kQ q K K:=λq=>by subst hK;exact⟨⟨.head _,KFr.cst _ _ _⟩,⟨.tail _ (.head _),KFr.cst _ _ _⟩,trivial⟩
 have cS:∀(kd:IntKind) (e:IE) (z:Int),e.den=z->lo kd<=z/\z<=hi kd->(Obl.inR kd e).ok:=λkd e z he hz=>by show _/\_;rw[he];exact hz
 have nz:(Obl.nz (IE.l 1000000000)).ok:=by show _≠_;simp[IE.den]
 have q0:(Obl.inR .i64 ((IE.n N).add (IE.n M))).ok:=cS _ _ ((N:Int)+M) rfl zX
 apply zN hc;cbv;refine aP hc ⟨q0,trivial⟩ ?_;refine qS hc _ .u32 cF ?_ ?_ ?_ (λT z hT hz=>?_)
 ·simp only[IE.den];omega
 ·simp only[IE.den];omega
 ·simp only[IE.den];omega
 have hT:T=N+M:=by simp only[IE.den]at hT;omega
 have hz0:z=List.replicate ((aC n).length+(aC m).length) 0:=by rw[hz,hT,hN,hM]
 have mul0:Mul n m 0 0 z 0:=by rw[hz0];exact Mul.init
 apply zN hc;cbv;let ι:={x:Nat × List Int//Mul n m x.1 0 x.2 0/\x.1<=N};let I:ι->St:=λx=>⟨[(0,.sl 0 0 (.n N) cap),(1,.sl 1 0 (.n M) aS),(5,.sl 2 0 (.n T) T),(17,.sl 0 0 (.n N) cap),(18,.i .i64 (.n N)),(19,.i .i64 (.n x.1.1))],[.xi .u32 N f,.xi .u32 M f',.r 138 .u32 x.1.2],[]⟩
 let x0:ι:=⟨(0,z),mul0,Nat.zero_le _⟩
 refine zU 3 (S':=I x0) (K':=K) zL (kf _) trivial ?_;refine bQ hc I (λx=>N - x.1.1) x0 100 ?_;rintro p ⟨⟨i,out⟩,hMu,aSd⟩ hy;simp only at hMu aSd;have hlen:=hMu.len;cbv;refine aE rfl 100 (λh=>?_) (λh=>?_)
 ·have h:(i:Int)<(N:Int):=BE.lt_t h
  have hiN:i<N:=Int.ofNat_lt.1 h
  have hga:=bA (bF n) i
  obtain⟨ga,gW⟩:=nm ((aC n).getD i 0);rw[<-gW]at hga;have hix:aV 0 (IE.n i).den 1 0=i:=by simp only[aV,IE.den];omega
  have g1:(IE.fn f 0 (IE.n i) 1 0).den=ga:=by show f (aV 0 (IE.n i).den 1 0)=ga;rw[hix,hfw i hiN,gW]
  have o1:(Obl.ltE (IE.n i) (IE.n N)).ok:=by show _/\_;simp only[IE.den];omega
  have o2:(Obl.ix 0 (IE.n i) 1 0 1 N).ok:=by show _<=_;rw[hix];omega
  let κ:={x:Nat × List Int × Int//Mul n m i x.1 x.2.1 x.2.2/\x.1<=M}
  let J:κ->St:=λx=>⟨[(0,.sl 0 0 (.n N) cap),(1,.sl 1 0 (.n M) aS),(5,.sl 2 0 (.n T) T),(6,.i .i64 (.n i)),(7,.i .u32 (.v ga)),(8,.i .u64 (.v x.1.2.2)),(17,.sl 0 0 (.n N) cap),(18,.i .i64 (.n N)),(19,.i .i64 (.n i)),(24,.sl 1 0 (.n M) aS),(25,.i .i64 (.n M)),(26,.i .i64 (.n x.1.1))],[.xi .u32 N f,.xi .u32 M f',.r 138 .u32 x.1.2.1],[]⟩
  let y0:κ:=⟨(0,out,0),hMu,Nat.zero_le _⟩
  cbv;refine aP hc ⟨o1,o2,trivial⟩ ?_;refine zU 3 (S':=J y0) (K':=K) ⟨zS,zS,zS,zS,zI rfl rfl g1,zL⟩ (kf _) trivial ?_;refine bQ hc J (λx=>M - x.1.1) y0 100 ?_;rintro p' ⟨⟨k,ot,cr⟩,hMk,hk⟩ hyk;simp only at hMk hk;have hlk:=hMk.len;have hcr:=hMk.c;cbv;refine aE rfl 100 (λh=>?_) (λh=>?_)
  ·have h:(k:Int)<(M:Int):=BE.lt_t h
   have hkM:k<M:=Int.ofNat_lt.1 h
   have hgb:=bA (bF m) k
   obtain⟨gb,lQ⟩:=nm ((aC m).getD k 0);rw[<-lQ]at hgb;have hog:=bA hMk.wd (i+k);obtain⟨og,aB8⟩:=nm (ot.getD (i+k) 0);rw[<-aB8]at hog;obtain⟨pr,hpr⟩:=nm (ga*gb);have bDp:0<=pr/\pr<=999999999*999999999:=by
    rw[hpr];exact⟨Int.mul_nonneg hga.1 hgb.1,Int.mul_le_mul zW zW hgb.1 zW⟩
   obtain⟨x2,hx2⟩:=nm (cr+(pr+og));have aDj:0<=x2/\x2<=999999998000000001+1999999998:=zW;obtain⟨c0,hc0⟩:=nm (x2/1000000000);obtain⟨k',hk'⟩:=nm (k+1);have hst:=hMk.step (x:=x2) zW zW (by rw[hx2,hpr,gW,lQ,aB8]);rw[<-hc0,<-hk']at hst;have aId:aV 0 (IE.n k).den 1 0=k:=by simp only[aV,IE.den];omega
   have hik:aV 0 ((IE.n i).add (IE.n k)).den 1 0=i+k:=by simp only[aV,IE.den];omega
   have g2:(IE.fn f' 0 (IE.n k) 1 0).den=gb:=by show f' (aV 0 (IE.n k).den 1 0)=gb;rw[aId,aB6 k hkM,lQ]
   have g3:(IE.nth ot 0 ((IE.n i).add (IE.n k)) 1 0).den=og:=by show ot.getD (aV 0 ((IE.n i).add (IE.n k)).den 1 0) 0=og;rw[hik,aB8]
   have m1:((IE.v ga).mul (IE.fn f' 0 (IE.n k) 1 0)).den=pr:=by show ga*(IE.fn f' 0 (IE.n k) 1 0).den=pr;rw[g2,hpr]
   have a1:(((IE.v ga).mul (IE.fn f' 0 (IE.n k) 1 0)).add (IE.nth ot 0 ((IE.n i).add (IE.n k)) 1 0)).den=pr+og:=by show((IE.v ga).mul (IE.fn f' 0 (IE.n k) 1 0)).den+(IE.nth ot 0 ((IE.n i).add (IE.n k)) 1 0).den=_;rw[m1,g3]
   have a2:((IE.v cr).add (((IE.v ga).mul (IE.fn f' 0 (IE.n k) 1 0)).add (IE.nth ot 0 ((IE.n i).add (IE.n k)) 1 0))).den=x2:=by show cr+(((IE.v ga).mul (IE.fn f' 0 (IE.n k) 1 0)).add (IE.nth ot 0 ((IE.n i).add (IE.n k)) 1 0)).den=_;rw[a1,hx2]
   have r1:(((IE.v cr).add (((IE.v ga).mul (IE.fn f' 0 (IE.n k) 1 0)).add (IE.nth ot 0 ((IE.n i).add (IE.n k)) 1 0))).rem (IE.l 1000000000)).den=x2%1000000000:=by
    show((IE.v cr).add (((IE.v ga).mul (IE.fn f' 0 (IE.n k) 1 0)).add (IE.nth ot 0 ((IE.n i).add (IE.n k)) 1 0))).den.tmod 1000000000=_
    rw[a2,Int.tmod_eq_emod_of_nonneg aDj.1]
   have d1:(((IE.v cr).add (((IE.v ga).mul (IE.fn f' 0 (IE.n k) 1 0)).add (IE.nth ot 0 ((IE.n i).add (IE.n k)) 1 0))).quo (IE.l 1000000000)).den=c0:=by
    show((IE.v cr).add (((IE.v ga).mul (IE.fn f' 0 (IE.n k) 1 0)).add (IE.nth ot 0 ((IE.n i).add (IE.n k)) 1 0))).den.tdiv 1000000000=_
    rw[a2,Int.tdiv_eq_ediv_of_nonneg aDj.1,hc0]
   have p1:(Obl.ltE (IE.n k) (IE.n M)).ok:=by show _/\_;simp only[IE.den];omega
   have p2:(Obl.ix 0 (IE.n k) 1 0 1 M).ok:=by show _<=_;rw[aId];omega
   have p3:(Obl.inR .u64 (IE.v ga)).ok:=cS _ _ ga rfl zX
   have p4:=cS .u64 _ _ g2 zX
   have p5:=cS .u64 _ _ m1 zX
   have p6:(Obl.inR .i64 ((IE.n i).add (IE.n k))).ok:=cS _ _ ((i:Int)+k) rfl zX
   have p7:(Obl.ltE ((IE.n i).add (IE.n k)) (IE.n T)).ok:=by show _/\_;simp only[IE.den];omega
   have hlt:aV 0 ((IE.n i).add (IE.n k)).den 1 0<ot.length:=by rw[hik,hlk];omega
   have p9:=cS .u64 _ _ g3 zX
   have p10:=cS .u64 _ _ a1 zX
   have p11:=cS .u64 _ _ a2 zX
   have p12:=cS .u32 _ _ r1 zX
   have p13:=cS .u64 _ _ d1 zX
   have p14:(Obl.inR .i64 ((IE.n k).add (IE.l 1))).ok:=cS _ _ ((k:Int)+1) rfl zX
   have s1:((IE.n k).add (IE.l 1)).den=(IE.n k').den:=by simp only[IE.den,hk'];omega
   have aSe:k'<=M:=zW
   have hmk:M - k'<M - k:=zW
   cbv;refine aP hc ⟨p1,p2,p3,p4,p5,p6,p7,hlt,p9,p10,p11,p6,nz,p12,p7,trivial⟩ ?_;refine jF hc _ (r:=(2,138,.u32,ot,aV 0 ((IE.n i).add (IE.n k)).den 1 0,(((IE.v cr).add (((IE.v ga).mul (IE.fn f' 0 (IE.n k) 1 0)).add (IE.nth ot 0 ((IE.n i).add (IE.n k)) 1 0))).rem (IE.l 1000000000)))) hlt (λl' hl'=>?_);have hl':l'=ot.set (i+k) (x2%1000000000):=by rw[hl',<-hik,<-r1]
   have hst:Mul n m i k' l' c0:=by rw[hl'];exact hst
   apply zN hc;cbv;refine aP hc ⟨nz,p13,p14,trivial⟩ ?_;refine zU 3 (S':=J ⟨(k',l',c0),hst,aSe⟩) (K':=K) ⟨zS,zS,zS,zS,zS,zI rfl rfl d1,zS,zS,zS,zS,zS,zI rfl rfl s1,trivial⟩ (kf _) trivial (hyk _ hmk)
  ·have h:¬(k:Int)<(M:Int):=BE.lt_f h
   have hkM:k=(aC m).length:=zW
   have hMk:Mul n m i (aC m).length ot cr:=by rw[<-hkM];exact hMk
   have jI:=hMk.row zW
   rw[<-hM]at jI;have hik:aV 0 ((IE.n i).add (IE.n M)).den 1 0=i+M:=by simp only[aV,IE.den];omega
   have p1:(Obl.inR .i64 ((IE.n i).add (IE.n M))).ok:=cS _ _ ((i:Int)+M) rfl zX
   have p2:(Obl.inR .u32 (IE.v cr)).ok:=cS _ _ cr rfl zX
   have p3:(Obl.ltE ((IE.n i).add (IE.n M)) (IE.n T)).ok:=by show _/\_;simp only[IE.den];omega
   have hlt:aV 0 ((IE.n i).add (IE.n M)).den 1 0<ot.length:=by rw[hik,hlk];omega
   have p4:(Obl.inR .i64 ((IE.n i).add (IE.l 1))).ok:=cS _ _ ((i:Int)+1) rfl zX
   obtain⟨i',hi'⟩:=nm (i+1);rw[<-hi']at jI;have s1:((IE.n i).add (IE.l 1)).den=(IE.n i').den:=by simp only[IE.den,hi'];omega
   have aDg:i'<=N:=zW
   have hmi:N - i'<N - i:=zW
   cbv;refine aP hc ⟨p1,p2,p3,trivial⟩ ?_;refine jF hc _ (r:=(2,138,.u32,ot,aV 0 ((IE.n i).add (IE.n M)).den 1 0,IE.v cr)) hlt (λl' hl'=>?_);have hl':l'=ot.set (i+M) cr:=by rw[hl',<-hik];rfl
   have jI:Mul n m i' 0 l' 0:=by rw[hl'];exact jI
   apply zN hc;cbv;refine aP hc ⟨p4,trivial⟩ ?_;refine zU 3 (S':=I ⟨(i',l'),jI,aDg⟩) (K':=K) ⟨zS,zS,zS,zS,zS,zI rfl rfl s1,trivial⟩ (kf _) trivial (hy _ hmi)
 ·have h:¬(i:Int)<(N:Int):=BE.lt_f h
  have hiN:i=(aC n).length:=zW
  have hMu:Mul n m (aC n).length 0 out 0:=by rw[<-hiN];exact hMu
  have sG:=hMu.done
  have kL:out.length=T:=by rw[hlen,hT,hN,hM]
  have hlb:out.length<=2^40:=zW
  cbv;refine pO 2 rfl (λg N' hN' hg=>?_);refine dO (R:=R) hc rV (λn0 D X μ a w aK H aI=>?_) 100 ?_
  ·obtain⟨v1,rfl,h1⟩:=aX aI;have h2:=H.row (l:=out) rfl h1 (by rw[kL];rfl) (λj y hj=>by rw[Nat.zero_add];exact hg j y hj) zW zW;rw[hRR,<-sG];exact lF hMu.wd hlb H.xlt h2
  cbv;exact aR hc hR rfl (λX μ a w v H hv=>H.toP.val (k:=3) (R:=R) (.head _) hv)
theorem aP0 {v u:Value}{X:Nat->Prop}{w:World}{n m:Nat}(hbn:(aC n).length<=2^39)(hbm:(aC m).length<=2^39)(hX:∀b,X b->b<w.heap.size)(hv:(aJ n).p v X w)(hu:(aJ m).p u X w):
  FnO PP 246 [v,u] X w 138 .u32 (aC (n*m)):=by
 obtain⟨K,hK⟩:=nm ([KF.cst v (aJ n),KF.cst u (aJ m)]);refine aVu mixed tok [.q v,.q u] (K:=K) Tryz.func246 rfl rfl (lbl rfl) rfl hX (by subst hK;simp;exact⟨hv,hu⟩) λc hc hR=>?_;refine cV 0 .u32 (aC n) rfl rfl (λX μ a w v' H hv'=>bZ H (by simp[hK]) hv') λf N cap hN hf cR=>?_;refine cV 1 .u32 (aC m) rfl rfl (λX μ a w v' H hv'=>bZ H (by simp[hK]) hv') λf' M aS hM hf' gO=>?_;have hfw:∀i,i<N->f i=(aC n).getD i 0:=λi hi=>by
  have:=List.getElem?_eq_getElem (l:=aC n) (i:=i) zW
  rw[hf i _ this,List.getD_eq_getElem?_getD,this];rfl
 have aB6:∀i,i<M->f' i=(aC m).getD i 0:=λi hi=>by
  have:=List.getElem?_eq_getElem (l:=aC m) (i:=i) zW
  rw[hf' i _ this,List.getD_eq_getElem?_getD,this];rfl
 have hbN:N<=2^39:=zW
 have hbM:M<=2^39:=zW
 have kf:∀q,kQ q K K:=λq=>by subst hK;exact⟨⟨.head _,KFr.cst _ _ _⟩,⟨.tail _ (.head _),KFr.cst _ _ _⟩,trivial⟩
 have cS:∀(kd:IntKind) (e:IE) (z:Int),e.den=z->lo kd<=z/\z<=hi kd->(Obl.inR kd e).ok:=λkd e z he hz=>by show _/\_;rw[he];exact hz
 have nz:(Obl.nz (IE.l 1000000000)).ok:=by show _≠_;simp[IE.den]
 have q0:(Obl.inR .i64 ((IE.n N).add (IE.n M))).ok:=cS _ _ ((N:Int)+M) rfl zX
 apply zN hc;cbv;refine aP hc ⟨q0,trivial⟩ ?_;refine qS hc _ .u32 cF ?_ ?_ ?_ (λT z hT hz=>?_)
 ·simp only[IE.den];omega
 ·simp only[IE.den];omega
 ·simp only[IE.den];omega
 have hT:T=N+M:=by simp only[IE.den]at hT;omega
 have hz0:z=List.replicate ((aC n).length+(aC m).length) 0:=by rw[hz,hT,hN,hM]
 have mul0:Mul n m 0 0 z 0:=by rw[hz0];exact Mul.init
 apply zN hc;cbv;let ι:={x:Nat × List Int//Mul n m x.1 0 x.2 0/\x.1<=N};let I:ι->St:=λx=>⟨[(0,.sl 0 0 (.n N) cap),(1,.sl 1 0 (.n M) aS),(5,.sl 2 0 (.n T) T),(17,.sl 0 0 (.n N) cap),(18,.i .i64 (.n N)),(19,.i .i64 (.n x.1.1))],[.xi .u32 N f,.xi .u32 M f',.r 138 .u32 x.1.2],[]⟩
 let x0:ι:=⟨(0,z),mul0,Nat.zero_le _⟩
 refine zU 3 (S':=I x0) (K':=K) zL (kf _) trivial ?_;refine bQ hc I (λx=>N - x.1.1) x0 100 ?_;rintro p ⟨⟨i,out⟩,hMu,aSd⟩ hy;simp only at hMu aSd;have hlen:=hMu.len;cbv;refine aE rfl 100 (λh=>?_) (λh=>?_)
 ·have h:(i:Int)<(N:Int):=BE.lt_t h
  have hiN:i<N:=Int.ofNat_lt.1 h
  have hga:=bA (bF n) i
  obtain⟨ga,gW⟩:=nm ((aC n).getD i 0);rw[<-gW]at hga;have hix:aV 0 (IE.n i).den 1 0=i:=by simp only[aV,IE.den];omega
  have g1:(IE.fn f 0 (IE.n i) 1 0).den=ga:=by show f (aV 0 (IE.n i).den 1 0)=ga;rw[hix,hfw i hiN,gW]
  have o1:(Obl.ltE (IE.n i) (IE.n N)).ok:=by show _/\_;simp only[IE.den];omega
  have o2:(Obl.ix 0 (IE.n i) 1 0 1 N).ok:=by show _<=_;rw[hix];omega
  let κ:={x:Nat × List Int × Int//Mul n m i x.1 x.2.1 x.2.2/\x.1<=M}
  let J:κ->St:=λx=>⟨[(0,.sl 0 0 (.n N) cap),(1,.sl 1 0 (.n M) aS),(5,.sl 2 0 (.n T) T),(6,.i .i64 (.n i)),(7,.i .u32 (.v ga)),(8,.i .u64 (.v x.1.2.2)),(17,.sl 0 0 (.n N) cap),(18,.i .i64 (.n N)),(19,.i .i64 (.n i)),(24,.sl 1 0 (.n M) aS),(25,.i .i64 (.n M)),(26,.i .i64 (.n x.1.1))],[.xi .u32 N f,.xi .u32 M f',.r 138 .u32 x.1.2.1],[]⟩
  let y0:κ:=⟨(0,out,0),hMu,Nat.zero_le _⟩
  cbv;refine aP hc ⟨o1,o2,trivial⟩ ?_;refine zU 3 (S':=J y0) (K':=K) ⟨zS,zS,zS,zS,zI rfl rfl g1,zL⟩ (kf _) trivial ?_;refine bQ hc J (λx=>M - x.1.1) y0 100 ?_;rintro p' ⟨⟨k,ot,cr⟩,hMk,hk⟩ hyk;simp only at hMk hk;have hlk:=hMk.len;have hcr:=hMk.c;cbv;refine aE rfl 100 (λh=>?_) (λh=>?_)
  ·have h:(k:Int)<(M:Int):=BE.lt_t h
   have hkM:k<M:=Int.ofNat_lt.1 h
   have hgb:=bA (bF m) k
   obtain⟨gb,lQ⟩:=nm ((aC m).getD k 0);rw[<-lQ]at hgb;have hog:=bA hMk.wd (i+k);obtain⟨og,aB8⟩:=nm (ot.getD (i+k) 0);rw[<-aB8]at hog;obtain⟨pr,hpr⟩:=nm (ga*gb);have bDp:0<=pr/\pr<=999999999*999999999:=by
    rw[hpr];exact⟨Int.mul_nonneg hga.1 hgb.1,Int.mul_le_mul zW zW hgb.1 zW⟩
   obtain⟨x2,hx2⟩:=nm (cr+(pr+og));have aDj:0<=x2/\x2<=999999998000000001+1999999998:=zW;obtain⟨c0,hc0⟩:=nm (x2/1000000000);obtain⟨k',hk'⟩:=nm (k+1);have hst:=hMk.step (x:=x2) zW zW (by rw[hx2,hpr,gW,lQ,aB8]);rw[<-hc0,<-hk']at hst;have aId:aV 0 (IE.n k).den 1 0=k:=by simp only[aV,IE.den];omega
   have hik:aV 0 ((IE.n i).add (IE.n k)).den 1 0=i+k:=by simp only[aV,IE.den];omega
   have g2:(IE.fn f' 0 (IE.n k) 1 0).den=gb:=by show f' (aV 0 (IE.n k).den 1 0)=gb;rw[aId,aB6 k hkM,lQ]
   have g3:(IE.nth ot 0 ((IE.n i).add (IE.n k)) 1 0).den=og:=by show ot.getD (aV 0 ((IE.n i).add (IE.n k)).den 1 0) 0=og;rw[hik,aB8]
   have m1:((IE.v ga).mul (IE.fn f' 0 (IE.n k) 1 0)).den=pr:=by show ga*(IE.fn f' 0 (IE.n k) 1 0).den=pr;rw[g2,hpr]
   have a1:(((IE.v ga).mul (IE.fn f' 0 (IE.n k) 1 0)).add (IE.nth ot 0 ((IE.n i).add (IE.n k)) 1 0)).den=pr+og:=by show((IE.v ga).mul (IE.fn f' 0 (IE.n k) 1 0)).den+(IE.nth ot 0 ((IE.n i).add (IE.n k)) 1 0).den=_;rw[m1,g3]
   have a2:((IE.v cr).add (((IE.v ga).mul (IE.fn f' 0 (IE.n k) 1 0)).add (IE.nth ot 0 ((IE.n i).add (IE.n k)) 1 0))).den=x2:=by show cr+(((IE.v ga).mul (IE.fn f' 0 (IE.n k) 1 0)).add (IE.nth ot 0 ((IE.n i).add (IE.n k)) 1 0)).den=_;rw[a1,hx2]
   have r1:(((IE.v cr).add (((IE.v ga).mul (IE.fn f' 0 (IE.n k) 1 0)).add (IE.nth ot 0 ((IE.n i).add (IE.n k)) 1 0))).rem (IE.l 1000000000)).den=x2%1000000000:=by
    show((IE.v cr).add (((IE.v ga).mul (IE.fn f' 0 (IE.n k) 1 0)).add (IE.nth ot 0 ((IE.n i).add (IE.n k)) 1 0))).den.tmod 1000000000=_
    rw[a2,Int.tmod_eq_emod_of_nonneg aDj.1]
   have d1:(((IE.v cr).add (((IE.v ga).mul (IE.fn f' 0 (IE.n k) 1 0)).add (IE.nth ot 0 ((IE.n i).add (IE.n k)) 1 0))).quo (IE.l 1000000000)).den=c0:=by
    show((IE.v cr).add (((IE.v ga).mul (IE.fn f' 0 (IE.n k) 1 0)).add (IE.nth ot 0 ((IE.n i).add (IE.n k)) 1 0))).den.tdiv 1000000000=_
    rw[a2,Int.tdiv_eq_ediv_of_nonneg aDj.1,hc0]
   have p1:(Obl.ltE (IE.n k) (IE.n M)).ok:=by show _/\_;simp only[IE.den];omega
   have p2:(Obl.ix 0 (IE.n k) 1 0 1 M).ok:=by show _<=_;rw[aId];omega
   have p3:(Obl.inR .u64 (IE.v ga)).ok:=cS _ _ ga rfl zX
   have p4:=cS .u64 _ _ g2 zX
   have p5:=cS .u64 _ _ m1 zX
   have p6:(Obl.inR .i64 ((IE.n i).add (IE.n k))).ok:=cS _ _ ((i:Int)+k) rfl zX
   have p7:(Obl.ltE ((IE.n i).add (IE.n k)) (IE.n T)).ok:=by show _/\_;simp only[IE.den];omega
   have hlt:aV 0 ((IE.n i).add (IE.n k)).den 1 0<ot.length:=by rw[hik,hlk];omega
   have p9:=cS .u64 _ _ g3 zX
   have p10:=cS .u64 _ _ a1 zX
   have p11:=cS .u64 _ _ a2 zX
   have p12:=cS .u32 _ _ r1 zX
   have p13:=cS .u64 _ _ d1 zX
   have p14:(Obl.inR .i64 ((IE.n k).add (IE.l 1))).ok:=cS _ _ ((k:Int)+1) rfl zX
   have s1:((IE.n k).add (IE.l 1)).den=(IE.n k').den:=by simp only[IE.den,hk'];omega
   have aSe:k'<=M:=zW
   have hmk:M - k'<M - k:=zW
   cbv;refine aP hc ⟨p1,p2,p3,p4,p5,p6,p7,hlt,p9,p10,p11,p6,nz,p12,p7,trivial⟩ ?_;refine jF hc _ (r:=(2,138,.u32,ot,aV 0 ((IE.n i).add (IE.n k)).den 1 0,(((IE.v cr).add (((IE.v ga).mul (IE.fn f' 0 (IE.n k) 1 0)).add (IE.nth ot 0 ((IE.n i).add (IE.n k)) 1 0))).rem (IE.l 1000000000)))) hlt (λl' hl'=>?_);have hl':l'=ot.set (i+k) (x2%1000000000):=by rw[hl',<-hik,<-r1]
   have hst:Mul n m i k' l' c0:=by rw[hl'];exact hst
   apply zN hc;cbv;refine aP hc ⟨nz,p13,p14,trivial⟩ ?_;refine zU 3 (S':=J ⟨(k',l',c0),hst,aSe⟩) (K':=K) ⟨zS,zS,zS,zS,zS,zI rfl rfl d1,zS,zS,zS,zS,zS,zI rfl rfl s1,trivial⟩ (kf _) trivial (hyk _ hmk)
  ·have h:¬(k:Int)<(M:Int):=BE.lt_f h
   have hkM:k=(aC m).length:=zW
   have hMk:Mul n m i (aC m).length ot cr:=by rw[<-hkM];exact hMk
   have jI:=hMk.row zW
   rw[<-hM]at jI;have hik:aV 0 ((IE.n i).add (IE.n M)).den 1 0=i+M:=by simp only[aV,IE.den];omega
   have p1:(Obl.inR .i64 ((IE.n i).add (IE.n M))).ok:=cS _ _ ((i:Int)+M) rfl zX
   have p2:(Obl.inR .u32 (IE.v cr)).ok:=cS _ _ cr rfl zX
   have p3:(Obl.ltE ((IE.n i).add (IE.n M)) (IE.n T)).ok:=by show _/\_;simp only[IE.den];omega
   have hlt:aV 0 ((IE.n i).add (IE.n M)).den 1 0<ot.length:=by rw[hik,hlk];omega
   have p4:(Obl.inR .i64 ((IE.n i).add (IE.l 1))).ok:=cS _ _ ((i:Int)+1) rfl zX
   obtain⟨i',hi'⟩:=nm (i+1);rw[<-hi']at jI;have s1:((IE.n i).add (IE.l 1)).den=(IE.n i').den:=by simp only[IE.den,hi'];omega
   have aDg:i'<=N:=zW
   have hmi:N - i'<N - i:=zW
   cbv;refine aP hc ⟨p1,p2,p3,trivial⟩ ?_;refine jF hc _ (r:=(2,138,.u32,ot,aV 0 ((IE.n i).add (IE.n M)).den 1 0,IE.v cr)) hlt (λl' hl'=>?_);have hl':l'=ot.set (i+M) cr:=by rw[hl',<-hik];rfl
   have jI:Mul n m i' 0 l' 0:=by rw[hl'];exact jI
   apply zN hc;cbv;refine aP hc ⟨p4,trivial⟩ ?_;refine zU 3 (S':=I ⟨(i',l'),jI,aDg⟩) (K':=K) ⟨zS,zS,zS,zS,zS,zI rfl rfl s1,trivial⟩ (kf _) trivial (hy _ hmi)
 ·have h:¬(i:Int)<(N:Int):=BE.lt_f h
  have hiN:i=(aC n).length:=zW
  have hMu:Mul n m (aC n).length 0 out 0:=by rw[<-hiN];exact hMu
  have sG:=hMu.done
  have kL:out.length=T:=by rw[hlen,hT,hN,hM]
  have hlb:out.length<=2^40:=zW
  obtain⟨Q,hQ⟩:=nm ((eH out).length);have bE8:Q<=T:=by have:=(qZ out).1;omega
  have hdg:aC (n*m)=eH out:=by rw[nX hMu.wd,sG]
  have bE9:T<=maxLen:=by simp only[maxLen];omega
  have hsz:(out.map (Value.int .u32)).toArray.size=T*1:=by simp[kL]
  have htk:(out.map (Value.int .u32)).toArray.toList.take (Q*1)=(aC (n*m)).map (Value.int .u32):=by rw[hdg,Nat.mul_one,hQ,<-vL out,<-List.map_take];simp[vL]
  have hQd:Q=(aC (n*m)).length:=by rw[hdg,hQ]
  have hoT:(IE.n T).den=(out.length:Int):=by rw[kL];rfl
  cbv;refine bEf hc (.sl 2 0 (.n Q) T) rV (λn0 D X μ a w aK H aI=>?_) 100 ?_
  ·obtain⟨v1,rfl,h1⟩:=aX aI;obtain⟨b,e1,e2,e3,e4,e5⟩:=H.rowOwn rfl h1 hoT (Nat.le_of_eq kL);refine⟨λx=>X x\/x=b,aPk v1 Q,by rw[hQ];exact aUf hlb (λy hy=>hy.elim (H.xlt y) (λe=>e▸e2)) e3,?_⟩;refine(iE (len:=.n Q) (a:=some (b,0)) (by simp[atS,e5,MV.atS]) (by simp[IE.den]) (λe=>by cases e)).trans ?_;rw[e1];simp[aPk,IE.den]
  cbv;refine bBh hc hR rfl (λX μ a w v H hv=>?_);obtain⟨mm,hmm⟩:=H.toP.all 2 (Nat.lt_succ_self 2);have hok:=H.toP.heap 2 _ mm rfl hmm;match mm,hmm,hok with
  | .own b,hmm,hok=>
   have hok:w.heap[b]?=some (.cells (out.map (Value.int .u32)).toArray 138 (0,0)):=hok
   obtain⟨l1,l2,l3⟩:=H.toP.loc 2 b hmm;have hv2:v=.slice (some ⟨b,0,none⟩) Q T:=by
    have:=(iE (μ:=μ) (k:=2) (off:=0) (len:=.n Q) (cap:=T) (a:=some (b,0)) (by simp[atS,hmm,MV.atS]) (by simp[IE.den]) (λe=>by cases e))
    rw[this]at hv;injection hv with hv;rw[<-hv];simp[IE.den]
   subst hv2;refine⟨⟨zA,.inr ⟨b,T,_,by rw[hQd],l1,hok,by rw[<-hQd];exact bE8,bE9,hsz,by rw[<-hQd];exact htk⟩⟩,λb' hb'=>?_⟩;simp only[Value.ownBlock,Option.some.injEq]at hb';subst hb';exact l2
theorem bB7:aB PP 281:=zK
theorem aMc {v:Value}{X:Nat->Prop}{w:World}{n m:Nat}(hm0:0<m)(hm1:m<1000000000)(hbn:(aC n).length<=2^39)(hX:∀b,X b->b<w.heap.size)(hv:(aJ n).p v X w):
  Fn PP 281 [v,.int .u64 (m:Int)] X w (iT (aJ (n/m)) (aJ (n%m))):=by
 have hmI:0<(m:Int)/\(m:Int)<1000000000:=zW
 obtain⟨R1,hR1⟩:∃R,R=aJ (n/m):=⟨_,rfl⟩;obtain⟨R2,hR2⟩:∃R,R=aJ (n%m):=⟨_,rfl⟩;obtain⟨R,hRR⟩:=nm (iT (aJ (n/m)) (aJ (n%m)));obtain⟨K,hK⟩:=nm ([KF.cst v (aJ n)]);rw[<-hRR];refine bE mixed tok [.q v,.i .u64 (.n m)] (K:=K) Tryz.func281 rfl rfl (lbl rfl) rfl hX (by subst hK;simp;exact hv) λc hc hR=>?_;refine cV 0 .u32 (aC n) rfl rfl (λX μ a w v' H hv'=>bZ H (by simp[hK]) hv') λf N cap hN hf cR=>?_;have hfw:∀i,i<N->f i=(aC n).getD i 0:=λi hi=>by
  have:=List.getElem?_eq_getElem (l:=aC n) (i:=i) zW
  rw[hf i _ this,List.getD_eq_getElem?_getD,this];rfl
 have hbN:N<=2^39:=zW
 have kf:∀q,kQ q K K:=λq=>by subst hK;exact⟨⟨.head _,KFr.cst _ _ _⟩,trivial⟩
 have cS:∀(kd:IntKind) (e:IE) (z:Int),e.den=z->lo kd<=z/\z<=hi kd->(Obl.inR kd e).ok:=λkd e z he hz=>by show _/\_;rw[he];exact hz
 have q0:(Obl.inR .i64 ((IE.n N).sub (IE.l 1))).ok:=cS _ _ ((N:Int) - 1) rfl zX
 apply zN hc;cbv;refine qS hc _ .u32 cF ?_ ?_ ?_ (λT z hT hz=>?_)
 ·simp only[IE.den];omega
 ·simp only[IE.den];omega
 ·simp only[IE.den];omega
 have hT:T=N:=by simp only[IE.den]at hT;omega
 subst hT;have hz0:z=List.replicate (aC n).length 0:=by rw[hz,hN]
 have dv0:Dv n m T z 0:=by rw[hz0,hN];exact Dv.init zW
 apply zN hc;cbv;refine aP hc ⟨q0,trivial⟩ ?_;let ι:={x:Nat × List Int × Int//Dv n m x.1 x.2.1 x.2.2/\x.1<=T};let I:ι->St:=λx=>⟨[(0,.sl 0 0 (.n T) cap),(1,.i .u64 (.n m)),(6,.sl 1 0 (.n T) T),(7,.i .u64 (.v x.1.2.2)),(8,.i .i64 (.sub (.n x.1.1) (.l 1)))],[.xi .u32 T f,.r 138 .u32 x.1.2.1],[]⟩
 let x0:ι:=⟨(T,z,0),dv0,lRf _⟩
 refine zU 2 (S':=I x0) (K':=K) zL (kf _) trivial ?_;refine bQ hc I (λx=>x.1.1) x0 100 ?_;rintro p ⟨⟨k,out,rest⟩,hD,hk⟩ hy;simp only at hD hk;have hlen:=hD.len;have hrs:=hD.r;cbv;refine aE rfl 100 (λh=>?_) (λh=>?_)
 ·have h:(0:Int)<=(k:Int) - 1:=BE.le_t h
  obtain⟨q,hq⟩:∃q,q+1=k:=⟨k - 1,zW⟩;have hqT:q<T:=zW;have hqk:q<k:=zW;have hga:=bA (bF n) q;obtain⟨ga,gW⟩:=nm ((aC n).getD q 0);rw[<-gW]at hga;obtain⟨x,hx⟩:=nm (rest*1000000000+ga);obtain⟨x',hx'⟩:=nm (x/(m:Int));obtain⟨r',hr'⟩:=nm (x%(m:Int));obtain⟨hst,hb1,hb2⟩:=Dv.step (x:=x) (q:=q) (by rw[hq];exact hD) hmI.2 zW (by rw[hx,gW]);rw[<-hx']at hst hb1 hb2;rw[<-hr']at hst;have hxb:0<=x/\x<=1000000000000000000:=zW;have hix:aV 0 ((IE.n k).sub (IE.l 1)).den 1 0=q:=by simp only[aV,IE.den];omega
  have g1:(IE.fn f 0 ((IE.n k).sub (IE.l 1)) 1 0).den=ga:=by show f (aV 0 ((IE.n k).sub (IE.l 1)).den 1 0)=ga;rw[hix,hfw q hqT,gW]
  have m1:((IE.v rest).mul (IE.l 1000000000)).den=rest*1000000000:=rfl
  have a1:(((IE.v rest).mul (IE.l 1000000000)).add (IE.fn f 0 ((IE.n k).sub (IE.l 1)) 1 0)).den=x:=by show rest*1000000000+(IE.fn f 0 ((IE.n k).sub (IE.l 1)) 1 0).den=x;rw[g1,hx]
  have d1:((((IE.v rest).mul (IE.l 1000000000)).add (IE.fn f 0 ((IE.n k).sub (IE.l 1)) 1 0)).quo (IE.n m)).den=x':=by
   show(((IE.v rest).mul (IE.l 1000000000)).add (IE.fn f 0 ((IE.n k).sub (IE.l 1)) 1 0)).den.tdiv (m:Int)=x'
   rw[a1,Int.tdiv_eq_ediv_of_nonneg hxb.1,hx']
  have r1:((((IE.v rest).mul (IE.l 1000000000)).add (IE.fn f 0 ((IE.n k).sub (IE.l 1)) 1 0)).rem (IE.n m)).den=r':=by
   show(((IE.v rest).mul (IE.l 1000000000)).add (IE.fn f 0 ((IE.n k).sub (IE.l 1)) 1 0)).den.tmod (m:Int)=r'
   rw[a1,Int.tmod_eq_emod_of_nonneg hxb.1,hr']
  have p1:=cS .u64 _ _ m1 zX
  have p2:(Obl.ltE ((IE.n k).sub (IE.l 1)) (IE.n T)).ok:=by show _/\_;simp only[IE.den];omega
  have p3:(Obl.ix 0 ((IE.n k).sub (IE.l 1)) 1 0 1 T).ok:=by show _<=_;rw[hix];omega
  have p4:=cS .u64 _ _ g1 zX
  have p5:=cS .u64 _ _ a1 zX
  have nzm:(Obl.nz (IE.n m)).ok:=by show(m:Int)≠0;omega
  have p6:=cS .u64 _ _ d1 zX
  have p7:=cS .u32 _ _ d1 zX
  have hlt:aV 0 ((IE.n k).sub (IE.l 1)).den 1 0<out.length:=by rw[hix,hlen];omega
  have p8:(Obl.inR .i64 (((IE.n k).sub (IE.l 1)).sub (IE.l 1))).ok:=cS _ _ ((k:Int) - 1 - 1) rfl zX
  have s1:(((IE.n k).sub (IE.l 1)).sub (IE.l 1)).den=((IE.n q).sub (IE.l 1)).den:=by simp only[IE.den];omega
  have bAf:q<=T:=zW
  cbv;refine aP hc ⟨p1,p2,p3,p4,p5,nzm,p6,p7,p2,trivial⟩ ?_;refine jF hc _ (r:=(1,138,.u32,out,aV 0 ((IE.n k).sub (IE.l 1)).den 1 0,((((IE.v rest).mul (IE.l 1000000000)).add (IE.fn f 0 ((IE.n k).sub (IE.l 1)) 1 0)).quo (IE.n m)))) hlt (λl' hl'=>?_);have hl':l'=out.set q x':=by rw[hl',<-hix,<-d1]
  have hst:Dv n m q l' r':=by rw[hl'];exact hst
  apply zN hc;cbv;refine aP hc ⟨nzm,p8,trivial⟩ ?_;refine zU 2 (S':=I ⟨(q,l',r'),hst,bAf⟩) (K':=K) ⟨zS,zS,zS,zI rfl rfl r1,zI rfl rfl s1,trivial⟩ (kf _) trivial (hy _ hqk)
 ·have h:¬(0:Int)<=(k:Int) - 1:=BE.le_f h
  have hk0:k=0:=zW
  have hD:Dv n m 0 out rest:=by rw[<-hk0];exact hD
  obtain⟨e1,e2⟩:=hD.done;have hlb:out.length<=2^40:=zW;have kL:out.length=T:=by rw[hlen,hN]
  have bGa:rest<1000000000000000000:=zW
  cbv;refine pO 1 rfl (λg N' hN' hg=>?_);refine dO (R:=R1) hc rV (λn0 D X μ a w aK H aI=>?_) 100 ?_
  ·obtain⟨v1,rfl,h1⟩:=aX aI;have h2:=H.row (l:=out) rfl h1 (by rw[kL];rfl) (λj y hj=>by rw[Nat.zero_add];exact hg j y hj) zW zW;rw[hR1,<-e1];exact lF hD.wd hlb H.xlt h2
  cbv;refine dO (R:=R2) hc aQu (λn0 D X μ a w aK H aI=>?_) 100 ?_
  ·obtain⟨v1,rfl,h1⟩:=aX aI;injection h1 with h1;subst h1
   rw[hR2,<-e2];exact wQ H.xlt hrs.1 bGa
  cbv;refine aR hc hR rfl (λX μ a w v H hv=>?_);simp only[aD]at hv;split at hv
  ·rename_i vs hvs;injection hv with hv
   obtain⟨v1,v2,rfl,h1,h2⟩:=bD hvs;have k1:=H.toP.val (k:=2) (R:=R1) (.tail _ (.head _)) h1;have k2:=H.toP.val (k:=3) (R:=R2) (.head _) h2;rw[hRR,<-hv];exact⟨v1,v2,rfl,by rw[hR1]at k1;exact k1,by rw[hR2]at k2;exact k2⟩
  ·cases hv
end Go.Ai
namespace Go.Num
structure Est (U V W T P:Int):Prop where
 p:0<P
 v1:W*P<=V
 v2:V<(W+1)*P
 u1:T*P<=U
 u2:U<(T+1)*P
theorem Est.low {U V W T P q:Int}(h:Est U V W T P)(hq:0<=q)(hU:q*V<=U):q*W<=T:=by
 have a:q*(W*P)<=q*V:=Int.mul_le_mul_of_nonneg_left h.v1 hq
 rw[<-Int.mul_assoc]at a;have b:(q*W)*P<(T+1)*P:=by have:=h.u2;omega
 have:=Int.lt_of_mul_lt_mul_right b (by have:=h.p;omega)
 omega
theorem Est.high {U V W T P g:Int}(h:Est U V W T P)(hg:0<=g)(hgt:g*W<=T)(hgp:g*P<=V):(g - 1)*V<=U:=by
 have a:g*V<=g*((W+1)*P):=Int.mul_le_mul_of_nonneg_left (by have:=h.v2;omega) hg
 have b:(g*W)*P<=T*P:=Int.mul_le_mul_of_nonneg_right hgt (by have:=h.p;omega)
 have e1:g*((W+1)*P)=(g*W)*P+g*P:=by grind
 have e2:(g - 1)*V=g*V - V:=by grind
 have:=h.u1
 omega
structure Gs (v1 v2 top u2 q g rest:Int):Prop where
 e:g*v1+rest=top
 r:0<=rest
 q:q<=g
theorem aV0 {U V v1 v2 top u2 P q:Int}(h:Est U V (v1*1000000000+v2) (top*1000000000+u2) P)(hv1:0<v1)(hv2:0<=v2)(hu2:0<=u2/\u2<1000000000)(ht:0<=top)(hq:0<=q)(hU:q*V<=U):
  Gs v1 v2 top u2 q (top/v1) (top%v1):=by
 refine⟨by have:=Int.emod_add_mul_ediv top v1;rw[Int.mul_comm];omega,Int.emod_nonneg _ zW,?_⟩;have h1:=h.low hq hU;have h2:q*(v1*1000000000+v2)=(q*v1)*1000000000+q*v2:=by grind
 have h3:0<=q*v2:=Int.mul_nonneg hq hv2
 have h4:q*v1<=top:=zW
 exact(Int.le_ediv_iff_mul_le hv1).2 h4
theorem Gs.step {U V v1 v2 top u2 P q g rest : Int} (h : Est U V (v1 * 1000000000 + v2) (top * 1000000000 + u2) P) (hs : Gs v1 v2 top u2 q g rest) (hv1 : 0 < v1) (hU : q * V <= U) (hq : 0 <= q) (hqB : q < 1000000000)
    (hc : 1000000000 <= g \/ rest * 1000000000 + u2 < g * v2) : Gs v1 v2 top u2 q (g - 1) (rest + v1) := by
  refine ⟨by have := hs.e; have e : (g - 1) * v1 = g * v1 - v1 := by grind
             omega, by have := hs.r; omega, ?_⟩
  rcases hc with hc | hc
  · omega
  · apply Classical.byContradiction
    intro hlt;have hgq : g = q := by have := hs.q; omega
    subst hgq;have h1 := h.low hq hU
    have h2 : g * (v1 * 1000000000 + v2) = (g * v1) * 1000000000 + g * v2 := by grind
    have := hs.e
    omega
theorem Gs.done {U V v1 v2 top u2 P q g rest:Int}(h:Est U V (v1*1000000000+v2) (top*1000000000+u2) P)(hs:Gs v1 v2 top u2 q g rest)(hv1:500000000<=v1)(hv2:0<=v2/\v2<1000000000)(hu2:0<=u2)(hV:0<V)(hUV:U<1000000000*V)(hUq:U<(q+1)*V)(hq:0<=q)
  (hc:(g<1000000000/\g*v2<=rest*1000000000+u2)\/1000000000<=rest):q<=g/\g<=q+1/\g<1000000000:=by
 have hp:=h.p
 have hg0:0<=g:=by have:=hs.q;omega
 have hgB:g<1000000000:=by
  rcases hc with hc | hc
  ·exact hc.1
  ·apply Classical.byContradiction;intro hge;have h1:top*1000000000*P<=U:=by
    have:top*1000000000*P<=(top*1000000000+u2)*P:=Int.mul_le_mul_of_nonneg_right zW zW
    have:=h.u1;omega
   have h2:V<(v1+1)*1000000000*P:=by
    have:(v1*1000000000+v2+1)*P<=(v1+1)*1000000000*P:=Int.mul_le_mul_of_nonneg_right zW zW
    have:=h.v2;omega
   have h3:top*1000000000*P<((v1+1)*1000000000*1000000000)*P:=by
    have e:((v1+1)*1000000000*1000000000)*P=1000000000*((v1+1)*1000000000*P):=by grind
    rw[e];omega
   have h4:=Int.lt_of_mul_lt_mul_right h3 zW
   have h5:1000000000*v1<=g*v1:=Int.mul_le_mul_of_nonneg_right zW zW
   have:=hs.e
   omega
 have hgv:g*v2<=rest*1000000000+u2:=by
  rcases hc with hc | hc
  ·exact hc.2
  ·have:g*v2<=1000000000*1000000000:=Int.mul_le_mul zW zW hv2.1 zW
   omega
 have hgt:g*(v1*1000000000+v2)<=top*1000000000+u2:=by
  have e:g*(v1*1000000000+v2)=(g*v1)*1000000000+g*v2:=by grind
  have:=hs.e
  omega
 have hgp:g*P<=V:=by
  have h1:g*P<=(v1*1000000000+v2)*P:=Int.mul_le_mul_of_nonneg_right zW zW
  have:=h.v1;omega
 have hh:=h.high hg0 hgt hgp
 refine⟨hs.q,?_,hgB⟩;apply Classical.byContradiction;intro hlt;have h1:(q+1)*V<=(g - 1)*V:=Int.mul_le_mul_of_nonneg_right zW zW;omega
theorem gV (u:List Int)(j i:Nat)(d:Int):((u.set (j+i) d).drop j).take i=(u.drop j).take i:=by
 apply List.ext_getElem?;intro t;rw[List.getElem?_take,List.getElem?_take];split
 ·rw[List.getElem?_drop,List.getElem?_drop,List.getElem?_set_ne zW]
 ·rfl
theorem getD_drop (u:List Int)(j i:Nat):(u.drop j).getD i 0=u.getD (j+i) 0:=by
 rw[List.getD_eq_getElem?_getD,List.getD_eq_getElem?_getD,List.getElem?_drop]
structure Sm (u0 u v:List Int)(j i:Nat)(g carry borrow:Int):Prop where
 wd:Wd u
 len:u.length=u0.length
 same:∀t,(t<j\/j+i<=t)->u.getD t 0=u0.getD t 0
 v:val ((u.drop j).take i)=val ((u0.drop j).take i) - g*val (v.take i)+1000000000^i*(carry+borrow)
 c:0<=carry/\carry<1000000000
 b:borrow=0\/borrow=1
theorem Sm.init {u v:List Int}(hu:Wd u)(j:Nat)(g:Int):Sm u u v j 0 g 0 0:=
 ⟨hu,rfl,λ_ _=>rfl,by simp[val],zW,.inl rfl⟩
theorem Sm.step {u0 u v:List Int}{j i:Nat}{g carry borrow p d:Int}(h:Sm u0 u v j i g carry borrow)(hv:Wd v)(hg:0<=g/\g<1000000000)(hi:j+i<u0.length)(hp:p=g*v.getD i 0+carry)(hd:d=u.getD (j+i) 0 - p%1000000000 - borrow):
  (0<=p/\p<=999999999999999999)/\(-1000000000<=d/\d<1000000000)/\(d<0->Sm u0 (u.set (j+i) (d+1000000000)) v j (i+1) g (p/1000000000) 1)/\(¬d<0->Sm u0 (u.set (j+i) d) v j (i+1) g (p/1000000000) 0):=by
 have h1:=bA hv i
 have h2:=bA h.wd (j+i)
 have hc:=h.c
 have hb:=h.b
 have hpb:0<=g*v.getD i 0/\g*v.getD i 0<=999999999*999999999:=⟨Int.mul_nonneg hg.1 h1.1,Int.mul_le_mul zW zW h1.1 zW⟩
 have hp1:0<=p/\p<=999999999*999999999+999999999:=zW
 have hlt:j+i<u.length:=by rw[h.len];exact hi
 have key:∀(d' b':Int),d'=d+1000000000*b'->0<=d'/\d'<1000000000->(b'=0\/b'=1)->Sm u0 (u.set (j+i) d') v j (i+1) g (p/1000000000) b':=by
  intro d' b' e1 e2 e3;refine⟨h.wd.set e2,by simp[h.len],λt ht=>?_,?_,zW,e3⟩
  ·rw[eA _ zW];exact h.same t zW
  ·have t1:=bL (l:=(u.set (j+i) d').drop j) i
   rw[gV,getD_drop,jM _ hlt,h.v]at t1;have t2:=bL (l:=u0.drop j) i;rw[getD_drop,<-h.same (j+i) zW]at t2;have t3:=bL (l:=v) i;rw[t1,t2,t3,Int.pow_succ];have hdm:p%1000000000+1000000000*(p/1000000000)=p:=Int.emod_add_mul_ediv p 1000000000;generalize p/1000000000=y,p%1000000000=r,val (List.take i (List.drop j u0))=A,val (List.take i v)=C,v.getD i 0=a,u.getD (j+i) 0=b at *;grind
 refine⟨zW,zW,λaZ7=>?_,λhge=>?_⟩
 ·exact key _ 1 zW zW (.inr rfl)
 ·exact key _ 0 zW zW (.inl rfl)
structure Ad (u0 u v:List Int)(j i:Nat)(up:Int):Prop where
 wd:Wd u
 len:u.length=u0.length
 same:∀t,(t<j\/j+i<=t)->u.getD t 0=u0.getD t 0
 v:val ((u.drop j).take i)+1000000000^i*up=val ((u0.drop j).take i)+val (v.take i)
 c:up=0\/up=1
theorem Ad.init {u v:List Int}(hu:Wd u)(j:Nat):Ad u u v j 0 0:=⟨hu,rfl,λ_ _=>rfl,by simp[val],.inl rfl⟩
theorem Ad.step {u0 u v:List Int}{j i:Nat}{up x:Int}(h:Ad u0 u v j i up)(hv:Wd v)(hi:j+i<u0.length)(hx:x=up+(u.getD (j+i) 0+v.getD i 0)):
  (0<=x/\x<=1999999999)/\Ad u0 (u.set (j+i) (x%1000000000)) v j (i+1) (x/1000000000):=by
 have h1:=bA hv i
 have h2:=bA h.wd (j+i)
 have hc:=h.c
 have hlt:j+i<u.length:=by rw[h.len];exact hi
 refine⟨zW,h.wd.set zW,by simp[h.len],λt ht=>?_,?_,zW⟩
 ·rw[eA _ zW];exact h.same t zW
 ·have t1:=bL (l:=(u.set (j+i) (x%1000000000)).drop j) i
  rw[gV,getD_drop,jM _ hlt]at t1;have t2:=bL (l:=u0.drop j) i;rw[getD_drop,<-h.same (j+i) zW]at t2;have t3:=bL (l:=v) i;have hv0:=h.v;rw[t1,t2,t3,Int.pow_succ];have hdm:x%1000000000+1000000000*(x/1000000000)=x:=Int.emod_add_mul_ediv x 1000000000;generalize x/1000000000=y,x%1000000000=r,val (List.take i (List.drop j u))=A',val (List.take i (List.drop j u0))=A,val (List.take i v)=C,v.getD i 0=a,u.getD (j+i) 0=b at *;grind
theorem aO0 {s last U V g q B:Int}(hs:0<=s/\s<B)(e:s+B*last=U - g*V)(hq:q*V<=U)(hq':U<(q+1)*V)(hV:V<=B)(hV0:0<V)(hg:q<=g)(hg':g<=q+1):(last=0/\g=q)\/(last=-1/\g=q+1):=by
 have h1:(q+1)*V=q*V+V:=by grind
 have hc:g=q\/g=q+1:=zW
 have hB:0<B:=zW
 rcases hc with hc | hc
 ·subst hc;left;refine⟨?_,rfl⟩;have h2:B*last<B*1:=zW;have h3:B*(-1)<B*last:=zW;have:=Int.lt_of_mul_lt_mul_left h2 zW;have:=Int.lt_of_mul_lt_mul_left h3 zW;omega
 ·subst hc;right;refine⟨?_,rfl⟩;have h2:B*last<B*0:=zW;have h3:B*(-2)<B*last:=zW;have:=Int.lt_of_mul_lt_mul_left h2 zW;have:=Int.lt_of_mul_lt_mul_left h3 zW;omega
theorem pH {u u':List Int}(hl:u'.length=u.length){t:Nat}(h:u'.getD t 0=u.getD t 0):u'[t]?=u[t]?:=by
 rcases Nat.lt_or_ge t u.length with hlt | hge
 ·rw[List.getElem?_eq_getElem hlt,List.getElem?_eq_getElem zW];rw[List.getD_eq_getElem?_getD,List.getD_eq_getElem?_getD,List.getElem?_eq_getElem hlt,List.getElem?_eq_getElem zW]at h;simpa using h
 ·rw[List.getElem?_eq_none hge,List.getElem?_eq_none zW]
theorem aAj {u u':List Int}(hl:u'.length=u.length){j:Nat}(h:∀t,t<j->u'.getD t 0=u.getD t 0):u'.take j=u.take j:=by
 apply List.ext_getElem?;intro t;rw[List.getElem?_take,List.getElem?_take];split
 ·rename_i ht;exact pH hl (h t ht)
 ·rfl
theorem aAf {u u':List Int}(hl:u'.length=u.length){j:Nat}(h:∀t,j<=t->u'.getD t 0=u.getD t 0):u'.drop j=u.drop j:=by
 apply List.ext_getElem?;intro t;rw[List.getElem?_drop,List.getElem?_drop];exact pH hl (h _ zW)
structure Kn (U0 V:Int)(k:Nat)(j:Nat)(u qs:List Int):Prop where
 wu:Wd u
 wq:Wd qs
 len:u.length=qs.length+k
 tot:val u+V*(1000000000^j*val (qs.drop j))=U0
 rem:val (u.drop j)<V
theorem Kn.seg {U0 V:Int}{k j:Nat}{u qs:List Int}(h:Kn U0 V k (j+1) u qs)(hV:V<=1000000000^k)(hj:j<qs.length):
  val (u.drop (j+k+1))=0/\val (u.drop j)=val ((u.drop j).take k)+1000000000^k*u.getD (j+k) 0/\val (u.drop j)<1000000000*V/\0<=val (u.drop j):=by
 have hlt:j<u.length:=by have:=h.len;omega
 have e1:u[j]?=some (u.getD j 0):=by rw[List.getD_eq_getElem?_getD,List.getElem?_eq_getElem hlt];rfl
 have h1:=bA h.wu j
 have h2:val (u.drop j)<1000000000*V:=by rw[nY e1];have:=h.rem;omega
 have h3:=cH (h.wu.drop j)
 have hlen:k+1<=(u.drop j).length:=by rw[List.length_drop,h.len];omega
 have e2:=jO (l:=u.drop j) (q:=k+1) hlen
 rw[List.drop_drop,bL,getD_drop,show j+(k+1)=j+k+1 from zW]at e2;have h4:=cH (h.wu.drop (j+k+1));have h5:=cH ((h.wu.drop j).take k);have h6:=bA h.wu (j+k);have hp:(0:Int)<1000000000^k:=Int.pow_pos zW;have h0:val (u.drop (j+k+1))=0:=by
  apply Classical.byContradiction;intro hne;have h7:(1000000000:Int)^(k+1)*1<=1000000000^(k+1)*val (u.drop (j+k+1)):=Int.mul_le_mul_of_nonneg_left zW (by rw[Int.pow_succ];omega);have h8:0<=1000000000^k*u.getD (j+k) 0:=Int.mul_nonneg zW h6.1;rw[Int.pow_succ]at h7 e2;omega
 rw[h0]at e2;exact⟨h0,zW,h2,h3⟩
theorem Kn.step {U0 V:Int}{k j:Nat}{u u' qs:List Int}{q:Int}(h:Kn U0 V k (j+1) u qs)(hV:V<=1000000000^k)(hj:j<qs.length)
  (hq:0<=q/\q<1000000000) (hqU:q*V<=val (u.drop j)) (hUq:val (u.drop j)<(q+1)*V) (wu:Wd u') (hl:u'.length=u.length) (lW:∀t,t<j->u'.getD t 0=u.getD t 0) (bC7:∀t,j+k<t->u'.getD t 0=u.getD t 0)
  (aSs:u'.getD (j+k) 0=0) (tX:val ((u'.drop j).take k)=val (u.drop j) - q*V):Kn U0 V k j u' (qs.set j q):=by
 obtain⟨h0,h1,h2,h3⟩:=h.seg hV hj;have hlt:j<u.length:=by have:=h.len;omega
 have kL:k+1<=(u'.drop j).length:=by rw[List.length_drop,hl,h.len];omega
 have e2:=jO (l:=u'.drop j) (q:=k+1) kL
 rw[List.drop_drop,bL,getD_drop,show j+(k+1)=j+k+1 from zW,aSs,aAf (j:=j+k+1) hl (λt ht=>bC7 t zW),h0,tX]at e2;have e3:val (u'.drop j)=val (u.drop j) - q*V:=zW;have e4:=jO (l:=u') (q:=j) zW;have e5:=jO (l:=u) (q:=j) zW;rw[aAj hl lW,e3]at e4;have e6:(qs.set j q)[j]?=some q:=by simp[hj]
 have e7:val ((qs.set j q).drop j)=q+1000000000*val (qs.drop (j+1)):=by rw[nY e6,List.drop_set_of_lt zW]
 have ex:(q+1)*V=q*V+V:=by grind
 refine⟨wu,h.wq.set hq,by rw[hl,h.len];simp,?_,by rw[e3];omega⟩;have ht:=h.tot;rw[e7,e4,<-ht,e5,Int.pow_succ];grind
theorem Kn.done {U0 V:Int}{k:Nat}{u qs:List Int}(h:Kn U0 V k 0 u qs)(hV:0<V):val qs=U0/V/\val u=U0%V:=by
 have ht:=h.tot
 have hr:=h.rem
 rw[List.drop_zero]at ht hr;have h0:=cH h.wu;have e:U0=val u+V*val qs:=by rw[<-ht];simp
 constructor
 ·rw[e,Int.add_mul_ediv_left _ _ zW,Int.ediv_eq_zero_of_lt h0 hr];omega
 ·rw[e,Int.add_mul_emod_self_left,Int.emod_eq_of_lt h0 hr]
theorem aEj {t f:Int}(ht:1<=t/\t<1000000000)(hf:f=1000000000/(t+1)):1<=f/\f<1000000000/\f*(t+1)<=1000000000/\500000000<=f*t:=by
 have hp:(0:Int)<t+1:=zW
 have h1:1<=f:=by rw[hf];exact(Int.le_ediv_iff_mul_le hp).2 zW
 have h2:f*(t+1)<=1000000000:=by rw[hf];exact Int.ediv_mul_le _ zW
 have h3:f*(t+1)=f*t+f:=by grind
 have h4:1000000000<(f+1)*(t+1):=by rw[hf];exact Int.lt_ediv_add_one_mul_self _ hp
 have h5:(f+1)*(t+1)=f*t+f+t+1:=by grind
 have h6:f*1<=f*t:=Int.mul_le_mul_of_nonneg_left ht.1 zW
 refine⟨h1,zW,h2,?_⟩;have h7:0<=(f - 1)*(t - 1):=Int.mul_nonneg zW zW;have h8:(f - 1)*(t - 1)=f*t - f - t+1:=by grind
 omega
theorem xJ {m k:Nat}(hk:(aC m).length=k+1):(m:Int)=val ((aC m).take k)+1000000000^k*(aC m).getD k 0/\0<=val ((aC m).take k)/\val ((aC m).take k)<1000000000^k:=by
 have h1:=bL (l:=aC m) k
 rw[List.take_of_length_le zW,cQ]at h1;have h2:=jL ((bF m).take k);rw[List.length_take,hk,Nat.min_eq_left zW]at h2;exact⟨h1,cH ((bF m).take k),h2⟩
theorem xI {m k:Nat}(hk:(aC m).length=k+1):1<=(aC m).getD k 0:=by
 obtain⟨h1,h2,h3⟩:=xJ hk;have h4:=bA (bF m) k;apply Classical.byContradiction;intro hne;have h0:(aC m).getD k 0=0:=zW;rw[h0,Int.mul_zero,Int.add_zero]at h1;have h5:((1000000000^k:Nat):Int)=(1000000000:Int)^k:=zA;have:=bM (n:=m) (k:=k) zW;omega
theorem aWf {m k:Nat}{f:Nat}(hk:(aC m).length=k+1)(hf:(f:Int)=1000000000/((aC m).getD k 0+1)):
  (aC (m*f)).length=k+1/\500000000<=(aC (m*f)).getD k 0/\1<=f/\f<1000000000:=by
 obtain⟨h1,h2,h3⟩:=xJ hk;have ht:=xI hk;have ht':=bA (bF m) k;obtain⟨f1,f2,f3,f4⟩:=aEj ⟨ht,ht'.2⟩ hf;generalize (aC m).getD k 0=t,val ((aC m).take k)=low at *;have hB:(0:Int)<1000000000^k:=Int.pow_pos zW;have hc:((1000000000^k:Nat):Int)=(1000000000:Int)^k:=zA;have hc1:((1000000000^(k+1):Nat):Int)=(1000000000:Int)^k*1000000000:=by simp[Int.pow_succ]
 have e:((m*f:Nat):Int)=low*f+1000000000^k*(f*t):=by
  rw[Int.natCast_mul,h1];grind
 have g1:low*f<=1000000000^k*f - f:=by
  have:(low+1)*f<=1000000000^k*f:=Int.mul_le_mul_of_nonneg_right zW zW
  have e2:(low+1)*f=low*f+f:=by grind
  omega
 have g0:0<=low*f:=Int.mul_nonneg h2 zW
 have g2:(1000000000:Int)^k*(f*t+f)<=1000000000^k*1000000000:=by
  have e3:(f:Int)*(t+1)=f*t+f:=by grind
  exact Int.mul_le_mul_of_nonneg_left zW zW
 have e4:(1000000000:Int)^k*(f*t+f)=1000000000^k*(f*t)+1000000000^k*f:=by grind
 have g3:1000000000^k*500000000<=1000000000^k*(f*t):=Int.mul_le_mul_of_nonneg_left f4 zW
 have hup:(aC (m*f)).length<=k+1:=bM zW
 have hlo:k+1<=(aC (m*f)).length:=by
  apply Classical.byContradiction;intro hlt;have:=aT (n:=m*f) (k:=k) zW;omega
 have hlen:(aC (m*f)).length=k+1:=zW
 refine⟨hlen,?_,zW,zW⟩;obtain⟨q1,q2,q3⟩:=xJ hlen;have q4:1000000000^k*500000000<1000000000^k*((aC (m*f)).getD k 0+1):=by
  have e5:(1000000000:Int)^k*((aC (m*f)).getD k 0+1)=1000000000^k*(aC (m*f)).getD k 0+1000000000^k:=by grind
  omega
 have:=Int.lt_of_mul_lt_mul_left q4 zW
 omega
end Go.Num
namespace Go.Num
theorem aCl (k:Nat):(0:Int)<1000000000^k:=Int.pow_pos zW
theorem rA (l:List Int):val (l++[0])=val l:=by rw[val_append];simp[val]
theorem Kn.init {n m k T:Nat}{U z:List Int}(hU:U=aC n++[0])(hz:z=List.replicate T 0)(hk:(aC m).length=k)(h1:1<=k)(ht:500000000<=(aC m).getD (k - 1) 0)(hT:T+k=U.length):Kn n m k T U z:=by
 have wU:Wd U:=by rw[hU];exact(bF n).append (λx hx=>by simp at hx;omega)
 obtain⟨j,rfl⟩:∃j,k=j+1:=⟨k - 1,zW⟩;refine⟨wU,by rw[hz];exact mN T,by rw[hz,List.length_replicate];omega,?_,?_⟩
 ·rw[hz,List.drop_of_length_le zA,hU,rA,cQ];simp[val]
 ·have hl:T+j=(aC n).length:=by rw[hU,List.length_append,List.length_singleton]at hT;omega
  have e:U.drop T=(aC n).drop T++[0]:=by rw[hU,List.drop_append_of_le_length zW]
  rw[e,rA];have h2:=jL ((bF n).drop T);rw[List.length_drop,show(aC n).length - T=j by omega]at h2;obtain⟨q1,q2,q3⟩:=xJ hk;rw[Nat.add_sub_cancel]at ht;have h3:(1000000000:Int)^j*1<=1000000000^j*(aC m).getD j 0:=Int.mul_le_mul_of_nonneg_left zW (by have:=aCl j;omega);omega
theorem Kn.qlen {U0 V:Int}{k j T:Nat}{u qs:List Int}(h:Kn U0 V k j u qs)(hT:T+k=u.length):qs.length=T:=by have:=h.len;omega
theorem aUr {v:List Int}{i:Nat}:val (v.take (i+2))=val (v.take i)+1000000000^i*(v.getD (i+1) 0*1000000000+v.getD i 0):=by
 rw[bL,bL,Int.pow_succ];grind
theorem aUs {v:List Int}{i:Nat}:val (v.take (i+3))=val (v.take i)+1000000000^i*((v.getD (i+2) 0*1000000000+v.getD (i+1) 0)*1000000000+v.getD i 0):=by
 rw[bL,bL,bL,Int.pow_succ,Int.pow_succ];grind
structure Rd (U0:Int)(m k j:Nat)(u qs v:List Int)(v1 v2 top u0 u2 q P:Int):Prop where
 kn:Kn U0 m k (j+1) u qs
 hj:j<qs.length
 hv:v=aC m
 hk:v.length=k
 e1:v1=v.getD (k - 1) 0
 e2:v2=v.getD (k - 2) 0
 e3:top=u.getD (j+k) 0*1000000000+u.getD (j+k - 1) 0
 e0:u0=u.getD (j+k) 0
 e4:u2=u.getD (j+k - 2) 0
 b1:500000000<=v1/\v1<1000000000
 b2:0<=v2/\v2<1000000000
 b3:0<=top/\top<1000000000000000000
 b4:0<=u2/\u2<1000000000
 q0:0<=q/\q<1000000000
 qv:q*m<=val (u.drop j)/\val (u.drop j)<(q+1)*m
 est:Est (val (u.drop j)) m (v1*1000000000+v2) (top*1000000000+u2) P
 vB:(m:Int)<=1000000000^k
 v0:(0:Int)<m
 uB:val (u.drop j)<1000000000*m
 seg:val (u.drop j)=val ((u.drop j).take k)+1000000000^k*u.getD (j+k) 0
theorem Rd.mk' {U0:Int}{m k j:Nat}{u qs v:List Int}(h:Kn U0 m k (j+1) u qs)(hj:j<qs.length)(hv:v=aC m)(hk:v.length=k)(h2:2<=k)(ht:500000000<=v.getD (k - 1) 0):
  ∃v1 v2 top u0 u2 q P,Rd U0 m k j u qs v v1 v2 top u0 u2 q P:=by
 obtain⟨i,rfl⟩:∃i,k=i+2:=⟨k - 2,zW⟩;rw[show i+2 - 1=i+1 by omega]at ht;have wv:Wd v:=by rw[hv];exact bF m
 have hVB:(m:Int)<=1000000000^(i+2):=by
  have:=jL (bF m);rw[cQ,<-hv,hk]at this;omega
 obtain⟨s0,s1,s2,s3⟩:=h.seg hVB hj;have em:(m:Int)=val (v.take i)+1000000000^i*(v.getD (i+1) 0*1000000000+v.getD i 0):=by
  rw[<-aUr,List.take_of_length_le zW,hv,cQ]
 have eu:val (u.drop j)=val ((u.drop j).take i)+1000000000^i*((u.getD (j+(i+2)) 0*1000000000+u.getD (j+(i+2) - 1) 0)*1000000000+u.getD (j+(i+2) - 2) 0):=by
  have:=aUs (v:=u.drop j) (i:=i)
  rw[getD_drop,getD_drop,getD_drop,bL,getD_drop,<-s1]at this;rw[this,show j+(i+2) - 1=j+(i+1) by omega,show j+(i+2) - 2=j+i by omega]
 have w1:=bA wv (i+1)
 have w2:=bA wv i
 have w3:=bA h.wu (j+(i+2))
 have w4:=bA h.wu (j+(i+2) - 1)
 have w5:=bA h.wu (j+(i+2) - 2)
 have l1:=jL (wv.take i)
 have l2:=jL ((h.wu.drop j).take i)
 have n1:=cH (wv.take i)
 have n2:=cH ((h.wu.drop j).take i)
 have hlu:i<=(u.drop j).length:=by rw[List.length_drop,h.len];omega
 rw[List.length_take,Nat.min_eq_left zW]at l1 l2;have hP:=aCl i;have em':(m:Int)≥1:=by
  have:(1000000000:Int)^i*1<=1000000000^i*(v.getD (i+1) 0*1000000000+v.getD i 0):=Int.mul_le_mul_of_nonneg_left zW zW
  omega
 have hm0:(0:Int)<m:=zW
 refine⟨v.getD (i+1) 0,v.getD i 0,_,_,u.getD (j+(i+2) - 2) 0,val (u.drop j)/m,1000000000^i,h,hj,hv,hk,rfl,rfl,rfl,rfl,rfl,⟨ht,w1.2⟩,w2,zW,w5,?_,?_,?_,hVB,hm0,s2,s1⟩
 ·refine⟨Int.ediv_nonneg s3 zW,?_⟩;exact Int.ediv_lt_of_lt_mul hm0 zW
 ·refine⟨Int.ediv_mul_le _ zW,Int.lt_ediv_add_one_mul_self _ hm0⟩
 ·refine⟨hP,?_,?_,?_,?_⟩
  ·rw[em];rw[Int.mul_comm];omega
  ·rw[em];rw[show(v.getD (i+1) 0*1000000000+v.getD i 0+1)*1000000000^i=1000000000^i*(v.getD (i+1) 0*1000000000+v.getD i 0)+1000000000^i by grind];omega
  ·rw[eu];rw[Int.mul_comm];omega
  ·rw[eu];generalize (u.getD (j+(i+2)) 0*1000000000+u.getD (j+(i+2) - 1) 0)*1000000000+u.getD (j+(i+2) - 2) 0=T;rw[show(T+1)*1000000000^i=1000000000^i*T+1000000000^i by grind];omega
section
variable {U0:Int}{m k j:Nat}{u qs v:List Int}{v1 v2 top u0 u2 q P:Int}
theorem Rd.gs (h:Rd U0 m k j u qs v v1 v2 top u0 u2 q P):Gs v1 v2 top u2 q (top/v1) (top%v1):=
 aV0 h.est (by have:=h.b1;omega) h.b2.1 h.b4 h.b3.1 h.q0.1 h.qv.1
theorem Rd.gbd (h:Rd U0 m k j u qs v v1 v2 top u0 u2 q P){g rest:Int}(hg:Gs v1 v2 top u2 q g rest):0<=g/\g<=2000000000/\0<=g*v2/\g*v2<=2000000000000000000/\0<=rest/\rest<=1000000000000000000:=by
 have h1:=h.b1
 have h2:=h.b2
 have h3:=h.b3
 have hq:=h.q0
 have e:=hg.e
 have r:=hg.r
 have g0:0<=g:=by have:=hg.q;omega
 have gv:0<=g*v1:=Int.mul_nonneg g0 zW
 have g1:g<=2000000000:=by
  apply Classical.byContradiction;intro hc;have:2000000001*500000000<=g*v1:=Int.mul_le_mul zW h1.1 zW g0;omega
 have g2:g*v2<=2000000000*1000000000:=Int.mul_le_mul g1 zW h2.1 zW
 have g3:0<=g*v2:=Int.mul_nonneg g0 h2.1
 omega
theorem Rd.gdone (h:Rd U0 m k j u qs v v1 v2 top u0 u2 q P){g rest:Int}(hg:Gs v1 v2 top u2 q g rest)(hc:(g<1000000000/\g*v2<=rest*1000000000+u2)\/1000000000<=rest):q<=g/\g<=q+1/\0<=g/\g<1000000000:=by
 have:=hg.done h.est h.b1.1 h.b2 h.b4.1 h.v0 h.uB h.qv.2 h.q0.1 hc
 have:=h.q0
 omega
theorem Rd.gstep (h:Rd U0 m k j u qs v v1 v2 top u0 u2 q P){g rest:Int}(hg:Gs v1 v2 top u2 q g rest)(hc:1000000000<=g\/rest*1000000000+u2<g*v2):Gs v1 v2 top u2 q (g - 1) (rest+v1)/\1<=g:=by
 refine⟨hg.step h.est (by have:=h.b1;omega) h.qv.1 h.q0.1 h.q0.2 hc,?_⟩;rcases hc with hc | hc
 ·omega
 ·apply Classical.byContradiction;intro h0;have g0:g=0:=by have:=(h.gbd hg).1;omega
  subst g0;have:=hg.r;have:=h.b4;omega
theorem Rd.last (h:Rd U0 m k j u qs v v1 v2 top u0 u2 q P){u':List Int}{g carry borrow last:Int}(hs:Sm u u' v j k g carry borrow)(hg:q<=g/\g<=q+1)(hl:last=u'.getD (j+k) 0 - carry - borrow):
  (last=0/\g=q/\Kn U0 m k j (u'.set (j+k) 0) (qs.set j g))\/(last=-1/\g=q+1/\val ((u'.drop j).take k)=1000000000^k+(val (u.drop j) - q*m) - m):=by
 have hj:=h.hj
 have hlen:=h.kn.len
 have hsv:=hs.v
 have htk:v.take k=v:=List.take_of_length_le (by rw[h.hk];exact lRf _)
 have hvv:val v=m:=by rw[h.hv,cQ]
 rw[htk,hvv]at hsv;have aB9:=hs.same (j+k) (.inr (lRf _));have hs0:=cH ((hs.wd.drop j).take k);have hs1:=jL ((hs.wd.drop j).take k);rw[List.length_take,List.length_drop,hs.len,Nat.min_eq_left zW]at hs1;have aGa:=h.seg;have e:val ((u'.drop j).take k)+1000000000^k*last=val (u.drop j) - g*m:=by
  rw[hl,aB9];rw[hsv,aGa];generalize (1000000000:Int)^k=B,val ((u.drop j).take k)=A,u.getD (j+k) 0=t;grind
 have key:=aO0 ⟨hs0,hs1⟩ e h.qv.1 h.qv.2 h.vB h.v0 hg.1 hg.2
 rcases key with⟨k1,k2⟩ | ⟨k1,k2⟩
 ·left
  refine⟨k1,k2,?_⟩;subst k2;rw[k1]at e;refine h.kn.step h.vB hj h.q0 h.qv.1 h.qv.2 (hs.wd.set zW) (by rw[List.length_set,hs.len]) (λt ht=>?_) (λt ht=>?_) (jM _ (by rw[hs.len];omega)) ?_
  ·rw[eA _ zW];exact hs.same t (.inl ht)
  ·rw[eA _ zW];exact hs.same t (.inr zW)
  ·rw[gV];omega
 ·right
  refine⟨k1,k2,?_⟩;rw[k1,k2]at e;have:(q+1)*(m:Int)=q*m+m:=by grind
  omega
theorem Rd.back (h:Rd U0 m k j u qs v v1 v2 top u0 u2 q P){u1 u':List Int}{carry borrow up:Int}(hs:Sm u u1 v j k (q+1) carry borrow)(hv':val ((u1.drop j).take k)=1000000000^k+(val (u.drop j) - q*m) - m)(ha:Ad u1 u' v j k up):
  up=1/\Kn U0 m k j (u'.set (j+k) 0) (qs.set j q):=by
 have hj:=h.hj
 have hlen:=h.kn.len
 have hav:=ha.v
 have htk:v.take k=v:=List.take_of_length_le (by rw[h.hk];exact lRf _)
 have hvv:val v=m:=by rw[h.hv,cQ]
 rw[htk,hvv,hv']at hav;have hs0:=cH ((ha.wd.drop j).take k);have hs1:=jL ((ha.wd.drop j).take k);rw[List.length_take,List.length_drop,ha.len,hs.len,Nat.min_eq_left zW]at hs1;have hq:=h.qv;have hq1:(q+1)*(m:Int)=q*m+m:=by grind
 have hB:=h.vB
 have hu:up=1:=by
  rcases ha.c with e | e
  ·subst e;rw[Int.mul_zero]at hav;omega
  ·exact e
 refine⟨hu,?_⟩;subst hu;rw[Int.mul_one]at hav;refine h.kn.step h.vB hj h.q0 h.qv.1 h.qv.2 (ha.wd.set zW) (by rw[List.length_set,ha.len,hs.len]) (λt ht=>?_) (λt ht=>?_) (jM _ (by rw[ha.len,hs.len];omega)) ?_
 ·rw[eA _ zW,ha.same t (.inl ht)];exact hs.same t (.inl ht)
 ·rw[eA _ zW,ha.same t (.inr zW)];exact hs.same t (.inr zW)
 ·rw[gV];omega
end
end Go.Num
