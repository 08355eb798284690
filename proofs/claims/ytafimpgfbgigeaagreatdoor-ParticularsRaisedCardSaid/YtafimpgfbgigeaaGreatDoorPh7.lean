/- Part 8: lemmas for the particulars laws -/
import Derived.Test.YtafimpgfbgigeaaGreatDoorPh6
set_option linter.all false
namespace Go.Ai
open Go Go.Proofs Go.Num
theorem aG5:aB PP 270:=zK
theorem aEh {v u:Value}{X:Nat->Prop}{w:World}{n m:Nat}(hbn:(aC n).length<=2^39)(hbm:(aC m).length<=2^39)(hX:∀b,X b->b<w.heap.size)(hv:(aI n).p v X w)(hu:(aI m).p u X w):
  Fn PP 270 [v,u] X w (aI (n*m)):=by
 obtain⟨R,hRR⟩:=nm (aI (n*m));obtain⟨K,hK⟩:=nm ([KF.cst v (aI n),KF.cst u (aI m)]);rw[<-hRR];refine bJ mixed tok [.q v,.q u] (K:=K) Tryz.func270 rfl rfl (lbl rfl) rfl hX (by subst hK;simp;exact⟨hv,hu⟩) λc hc hR=>?_;refine dE 0 .u32 (aC n) rfl rfl (λX μ a w v' H hv'=>cD H (by simp[hK]) hv') λf N cap hN hf dJ=>?_;refine dE 1 .u32 (aC m) rfl rfl (λX μ a w v' H hv'=>cD H (by simp[hK]) hv') λf' M aU hM hf' gY=>?_;have hfw:∀i,i<N->f i=(aC n).getD i 0:=λi hi=>by
  have:=List.getElem?_eq_getElem (l:=aC n) (i:=i) zW
  rw[hf i _ this,List.getD_eq_getElem?_getD,this];rfl
 have aDg:∀i,i<M->f' i=(aC m).getD i 0:=λi hi=>by
  have:=List.getElem?_eq_getElem (l:=aC m) (i:=i) zW
  rw[hf' i _ this,List.getD_eq_getElem?_getD,this];rfl
 have hbN:N<=2^39:=zW
 have hbM:M<=2^39:=zW
 have kf:∀q,lT q K K:=λq=>by subst hK;exact⟨⟨.head _,KFr.cst _ _ _⟩,⟨.tail _ (.head _),KFr.cst _ _ _⟩,trivial⟩
 have cU:∀(kd:IntKind) (e:IE) (z:Int),e.den=z->lo kd<=z/\z<=hi kd->(Obl.inR kd e).ok:=λkd e z he hz=>by show _/\_;rw[he];exact hz
 have nz:(Obl.nz (IE.l 1000000000)).ok:=by show _≠_;simp[IE.den]
 have q0:(Obl.inR .i64 ((IE.n N).add (IE.n M))).ok:=cU _ _ ((N:Int)+M) rfl zX
 apply zN hc;cbv;refine aP hc ⟨q0,trivial⟩ ?_;refine rZ hc _ .u32 cJ ?_ ?_ ?_ (λT z hT hz=>?_)
 ·simp only[IE.den];omega
 ·simp only[IE.den];omega
 ·simp only[IE.den];omega
 have hT:T=N+M:=by simp only[IE.den]at hT;omega
 have hz0:z=List.replicate ((aC n).length+(aC m).length) 0:=by rw[hz,hT,hN,hM]
 have mul0:Mul n m 0 0 z 0:=by rw[hz0];exact Mul.init
 apply zN hc;cbv;let ι:={x:Nat × List Int//Mul n m x.1 0 x.2 0/\x.1<=N};let I:ι->St:=λx=>⟨[(0,.sl 0 0 (.n N) cap),(1,.sl 1 0 (.n M) aU),(5,.sl 2 0 (.n T) T),(17,.sl 0 0 (.n N) cap),(18,.i .i64 (.n N)),(19,.i .i64 (.n x.1.1))],[.xi .u32 N f,.xi .u32 M f',.r 145 .u32 x.1.2],[]⟩
 let x0:ι:=⟨(0,z),mul0,Nat.zero_le _⟩
 refine zU 3 (S':=I x0) (K':=K) zL (kf _) trivial ?_;refine bW hc I (λx=>N - x.1.1) x0 100 ?_;rintro p ⟨⟨i,out⟩,hMu,aTu⟩ hy;simp only at hMu aTu;have hlen:=hMu.len;cbv;refine aE rfl 100 (λh=>?_) (λh=>?_)
 ·have h:(i:Int)<(N:Int):=BE.lt_t h
  have hiN:i<N:=Int.ofNat_lt.1 h
  have hga:=bA (bG n) i
  obtain⟨ga,iM⟩:=nm ((aC n).getD i 0);rw[<-iM]at hga;have hix:aY 0 (IE.n i).den 1 0=i:=by simp only[aY,IE.den];omega
  have g1:(IE.fn f 0 (IE.n i) 1 0).den=ga:=by show f (aY 0 (IE.n i).den 1 0)=ga;rw[hix,hfw i hiN,iM]
  have o1:(Obl.ltE (IE.n i) (IE.n N)).ok:=by show _/\_;simp only[IE.den];omega
  have o2:(Obl.ix 0 (IE.n i) 1 0 1 N).ok:=by show _<=_;rw[hix];omega
  let κ:={x:Nat × List Int × Int//Mul n m i x.1 x.2.1 x.2.2/\x.1<=M}
  let J:κ->St:=λx=>⟨[(0,.sl 0 0 (.n N) cap),(1,.sl 1 0 (.n M) aU),(5,.sl 2 0 (.n T) T),(6,.i .i64 (.n i)),(7,.i .u32 (.v ga)),(8,.i .u64 (.v x.1.2.2)),(17,.sl 0 0 (.n N) cap),(18,.i .i64 (.n N)),(19,.i .i64 (.n i)),(24,.sl 1 0 (.n M) aU),(25,.i .i64 (.n M)),(26,.i .i64 (.n x.1.1))],[.xi .u32 N f,.xi .u32 M f',.r 145 .u32 x.1.2.1],[]⟩
  let y0:κ:=⟨(0,out,0),hMu,Nat.zero_le _⟩
  cbv;refine aP hc ⟨o1,o2,trivial⟩ ?_;refine zU 3 (S':=J y0) (K':=K) ⟨zS,zS,zS,zS,zI rfl rfl g1,zL⟩ (kf _) trivial ?_;refine bW hc J (λx=>M - x.1.1) y0 100 ?_;rintro p' ⟨⟨k,ot,cr⟩,hMk,hk⟩ hyk;simp only at hMk hk;have hlk:=hMk.len;have hcr:=hMk.c;cbv;refine aE rfl 100 (λh=>?_) (λh=>?_)
  ·have h:(k:Int)<(M:Int):=BE.lt_t h
   have hkM:k<M:=Int.ofNat_lt.1 h
   have hgb:=bA (bG m) k
   obtain⟨gb,mN⟩:=nm ((aC m).getD k 0);rw[<-mN]at hgb;have hog:=bA hMk.wd (i+k);obtain⟨og,aDj⟩:=nm (ot.getD (i+k) 0);rw[<-aDj]at hog;obtain⟨pr,hpr⟩:=nm (ga*gb);have bE9:0<=pr/\pr<=999999999*999999999:=by
    rw[hpr];exact⟨Int.mul_nonneg hga.1 hgb.1,Int.mul_le_mul zW zW hgb.1 zW⟩
   obtain⟨x2,hx2⟩:=nm (cr+(pr+og));have aEs:0<=x2/\x2<=999999998000000001+1999999998:=zW;obtain⟨c0,hc0⟩:=nm (x2/1000000000);obtain⟨k',hk'⟩:=nm (k+1);have hst:=hMk.step (x:=x2) zW zW (by rw[hx2,hpr,iM,mN,aDj]);rw[<-hc0,<-hk']at hst;have aJz:aY 0 (IE.n k).den 1 0=k:=by simp only[aY,IE.den];omega
   have hik:aY 0 ((IE.n i).add (IE.n k)).den 1 0=i+k:=by simp only[aY,IE.den];omega
   have g2:(IE.fn f' 0 (IE.n k) 1 0).den=gb:=by show f' (aY 0 (IE.n k).den 1 0)=gb;rw[aJz,aDg k hkM,mN]
   have g3:(IE.nth ot 0 ((IE.n i).add (IE.n k)) 1 0).den=og:=by show ot.getD (aY 0 ((IE.n i).add (IE.n k)).den 1 0) 0=og;rw[hik,aDj]
   have m1:((IE.v ga).mul (IE.fn f' 0 (IE.n k) 1 0)).den=pr:=by show ga*(IE.fn f' 0 (IE.n k) 1 0).den=pr;rw[g2,hpr]
   have a1:(((IE.v ga).mul (IE.fn f' 0 (IE.n k) 1 0)).add (IE.nth ot 0 ((IE.n i).add (IE.n k)) 1 0)).den=pr+og:=by show((IE.v ga).mul (IE.fn f' 0 (IE.n k) 1 0)).den+(IE.nth ot 0 ((IE.n i).add (IE.n k)) 1 0).den=_;rw[m1,g3]
   have a2:((IE.v cr).add (((IE.v ga).mul (IE.fn f' 0 (IE.n k) 1 0)).add (IE.nth ot 0 ((IE.n i).add (IE.n k)) 1 0))).den=x2:=by show cr+(((IE.v ga).mul (IE.fn f' 0 (IE.n k) 1 0)).add (IE.nth ot 0 ((IE.n i).add (IE.n k)) 1 0)).den=_;rw[a1,hx2]
   have r1:(((IE.v cr).add (((IE.v ga).mul (IE.fn f' 0 (IE.n k) 1 0)).add (IE.nth ot 0 ((IE.n i).add (IE.n k)) 1 0))).rem (IE.l 1000000000)).den=x2%1000000000:=by
    show((IE.v cr).add (((IE.v ga).mul (IE.fn f' 0 (IE.n k) 1 0)).add (IE.nth ot 0 ((IE.n i).add (IE.n k)) 1 0))).den.tmod 1000000000=_
    rw[a2,Int.tmod_eq_emod_of_nonneg aEs.1]
   have d1:(((IE.v cr).add (((IE.v ga).mul (IE.fn f' 0 (IE.n k) 1 0)).add (IE.nth ot 0 ((IE.n i).add (IE.n k)) 1 0))).quo (IE.l 1000000000)).den=c0:=by
    show((IE.v cr).add (((IE.v ga).mul (IE.fn f' 0 (IE.n k) 1 0)).add (IE.nth ot 0 ((IE.n i).add (IE.n k)) 1 0))).den.tdiv 1000000000=_
    rw[a2,Int.tdiv_eq_ediv_of_nonneg aEs.1,hc0]
   have p1:(Obl.ltE (IE.n k) (IE.n M)).ok:=by show _/\_;simp only[IE.den];omega
   have p2:(Obl.ix 0 (IE.n k) 1 0 1 M).ok:=by show _<=_;rw[aJz];omega
   have p3:(Obl.inR .u64 (IE.v ga)).ok:=cU _ _ ga rfl zX
   have p4:=cU .u64 _ _ g2 zX
   have p5:=cU .u64 _ _ m1 zX
   have p6:(Obl.inR .i64 ((IE.n i).add (IE.n k))).ok:=cU _ _ ((i:Int)+k) rfl zX
   have p7:(Obl.ltE ((IE.n i).add (IE.n k)) (IE.n T)).ok:=by show _/\_;simp only[IE.den];omega
   have hlt:aY 0 ((IE.n i).add (IE.n k)).den 1 0<ot.length:=by rw[hik,hlk];omega
   have p9:=cU .u64 _ _ g3 zX
   have p10:=cU .u64 _ _ a1 zX
   have p11:=cU .u64 _ _ a2 zX
   have p12:=cU .u32 _ _ r1 zX
   have p13:=cU .u64 _ _ d1 zX
   have p14:(Obl.inR .i64 ((IE.n k).add (IE.l 1))).ok:=cU _ _ ((k:Int)+1) rfl zX
   have s1:((IE.n k).add (IE.l 1)).den=(IE.n k').den:=by simp only[IE.den,hk'];omega
   have aTv:k'<=M:=zW
   have hmk:M - k'<M - k:=zW
   cbv;refine aP hc ⟨p1,p2,p3,p4,p5,p6,p7,hlt,p9,p10,p11,p6,nz,p12,p7,trivial⟩ ?_;refine jV hc _ (r:=(2,145,.u32,ot,aY 0 ((IE.n i).add (IE.n k)).den 1 0,(((IE.v cr).add (((IE.v ga).mul (IE.fn f' 0 (IE.n k) 1 0)).add (IE.nth ot 0 ((IE.n i).add (IE.n k)) 1 0))).rem (IE.l 1000000000)))) hlt (λl' hl'=>?_);have hl':l'=ot.set (i+k) (x2%1000000000):=by rw[hl',<-hik,<-r1]
   have hst:Mul n m i k' l' c0:=by rw[hl'];exact hst
   apply zN hc;cbv;refine aP hc ⟨nz,p13,p14,trivial⟩ ?_;refine zU 3 (S':=J ⟨(k',l',c0),hst,aTv⟩) (K':=K) ⟨zS,zS,zS,zS,zS,zI rfl rfl d1,zS,zS,zS,zS,zS,zI rfl rfl s1,trivial⟩ (kf _) trivial (hyk _ hmk)
  ·have h:¬(k:Int)<(M:Int):=BE.lt_f h
   have hkM:k=(aC m).length:=zW
   have hMk:Mul n m i (aC m).length ot cr:=by rw[<-hkM];exact hMk
   have lG:=hMk.row zW
   rw[<-hM]at lG;have hik:aY 0 ((IE.n i).add (IE.n M)).den 1 0=i+M:=by simp only[aY,IE.den];omega
   have p1:(Obl.inR .i64 ((IE.n i).add (IE.n M))).ok:=cU _ _ ((i:Int)+M) rfl zX
   have p2:(Obl.inR .u32 (IE.v cr)).ok:=cU _ _ cr rfl zX
   have p3:(Obl.ltE ((IE.n i).add (IE.n M)) (IE.n T)).ok:=by show _/\_;simp only[IE.den];omega
   have hlt:aY 0 ((IE.n i).add (IE.n M)).den 1 0<ot.length:=by rw[hik,hlk];omega
   have p4:(Obl.inR .i64 ((IE.n i).add (IE.l 1))).ok:=cU _ _ ((i:Int)+1) rfl zX
   obtain⟨i',hi'⟩:=nm (i+1);rw[<-hi']at lG;have s1:((IE.n i).add (IE.l 1)).den=(IE.n i').den:=by simp only[IE.den,hi'];omega
   have aEp:i'<=N:=zW
   have hmi:N - i'<N - i:=zW
   cbv;refine aP hc ⟨p1,p2,p3,trivial⟩ ?_;refine jV hc _ (r:=(2,145,.u32,ot,aY 0 ((IE.n i).add (IE.n M)).den 1 0,IE.v cr)) hlt (λl' hl'=>?_);have hl':l'=ot.set (i+M) cr:=by rw[hl',<-hik];rfl
   have lG:Mul n m i' 0 l' 0:=by rw[hl'];exact lG
   apply zN hc;cbv;refine aP hc ⟨p4,trivial⟩ ?_;refine zU 3 (S':=I ⟨(i',l'),lG,aEp⟩) (K':=K) ⟨zS,zS,zS,zS,zS,zI rfl rfl s1,trivial⟩ (kf _) trivial (hy _ hmi)
 ·have h:¬(i:Int)<(N:Int):=BE.lt_f h
  have hiN:i=(aC n).length:=zW
  have hMu:Mul n m (aC n).length 0 out 0:=by rw[<-hiN];exact hMu
  have tI:=hMu.done
  have lQ:out.length=T:=by rw[hlen,hT,hN,hM]
  have hlb:out.length<=2^40:=zW
  cbv;refine qV 2 rfl (λg N' hN' hg=>?_);refine eB (R:=R) hc sW (λn0 D X μ a w aK H aG=>?_) 100 ?_
  ·obtain⟨v1,rfl,h1⟩:=bN aG;have h2:=H.row (l:=out) rfl h1 (by rw[lQ];rfl) (λj y hj=>by rw[Nat.zero_add];exact hg j y hj) zW zW;rw[hRR,<-tI];exact mD hMu.wd hlb H.xlt h2
  cbv;exact bB hc hR rfl (λX μ a w v H hv=>H.toP.val (k:=3) (R:=R) (.head _) hv)
theorem aRe {v u:Value}{X:Nat->Prop}{w:World}{n m:Nat}(hbn:(aC n).length<=2^39)(hbm:(aC m).length<=2^39)(hX:∀b,X b->b<w.heap.size)(hv:(aI n).p v X w)(hu:(aI m).p u X w):
  FnO PP 270 [v,u] X w 145 .u32 (aC (n*m)):=by
 obtain⟨K,hK⟩:=nm ([KF.cst v (aI n),KF.cst u (aI m)]);refine aW3 mixed tok [.q v,.q u] (K:=K) Tryz.func270 rfl rfl (lbl rfl) rfl hX (by subst hK;simp;exact⟨hv,hu⟩) λc hc hR=>?_;refine dE 0 .u32 (aC n) rfl rfl (λX μ a w v' H hv'=>cD H (by simp[hK]) hv') λf N cap hN hf dJ=>?_;refine dE 1 .u32 (aC m) rfl rfl (λX μ a w v' H hv'=>cD H (by simp[hK]) hv') λf' M aU hM hf' gY=>?_;have hfw:∀i,i<N->f i=(aC n).getD i 0:=λi hi=>by
  have:=List.getElem?_eq_getElem (l:=aC n) (i:=i) zW
  rw[hf i _ this,List.getD_eq_getElem?_getD,this];rfl
 have aDg:∀i,i<M->f' i=(aC m).getD i 0:=λi hi=>by
  have:=List.getElem?_eq_getElem (l:=aC m) (i:=i) zW
  rw[hf' i _ this,List.getD_eq_getElem?_getD,this];rfl
 have hbN:N<=2^39:=zW
 have hbM:M<=2^39:=zW
 have kf:∀q,lT q K K:=λq=>by subst hK;exact⟨⟨.head _,KFr.cst _ _ _⟩,⟨.tail _ (.head _),KFr.cst _ _ _⟩,trivial⟩
 have cU:∀(kd:IntKind) (e:IE) (z:Int),e.den=z->lo kd<=z/\z<=hi kd->(Obl.inR kd e).ok:=λkd e z he hz=>by show _/\_;rw[he];exact hz
 have nz:(Obl.nz (IE.l 1000000000)).ok:=by show _≠_;simp[IE.den]
 have q0:(Obl.inR .i64 ((IE.n N).add (IE.n M))).ok:=cU _ _ ((N:Int)+M) rfl zX
 apply zN hc;cbv;refine aP hc ⟨q0,trivial⟩ ?_;refine rZ hc _ .u32 cJ ?_ ?_ ?_ (λT z hT hz=>?_)
 ·simp only[IE.den];omega
 ·simp only[IE.den];omega
 ·simp only[IE.den];omega
 have hT:T=N+M:=by simp only[IE.den]at hT;omega
 have hz0:z=List.replicate ((aC n).length+(aC m).length) 0:=by rw[hz,hT,hN,hM]
 have mul0:Mul n m 0 0 z 0:=by rw[hz0];exact Mul.init
 apply zN hc;cbv;let ι:={x:Nat × List Int//Mul n m x.1 0 x.2 0/\x.1<=N};let I:ι->St:=λx=>⟨[(0,.sl 0 0 (.n N) cap),(1,.sl 1 0 (.n M) aU),(5,.sl 2 0 (.n T) T),(17,.sl 0 0 (.n N) cap),(18,.i .i64 (.n N)),(19,.i .i64 (.n x.1.1))],[.xi .u32 N f,.xi .u32 M f',.r 145 .u32 x.1.2],[]⟩
 let x0:ι:=⟨(0,z),mul0,Nat.zero_le _⟩
 refine zU 3 (S':=I x0) (K':=K) zL (kf _) trivial ?_;refine bW hc I (λx=>N - x.1.1) x0 100 ?_;rintro p ⟨⟨i,out⟩,hMu,aTu⟩ hy;simp only at hMu aTu;have hlen:=hMu.len;cbv;refine aE rfl 100 (λh=>?_) (λh=>?_)
 ·have h:(i:Int)<(N:Int):=BE.lt_t h
  have hiN:i<N:=Int.ofNat_lt.1 h
  have hga:=bA (bG n) i
  obtain⟨ga,iM⟩:=nm ((aC n).getD i 0);rw[<-iM]at hga;have hix:aY 0 (IE.n i).den 1 0=i:=by simp only[aY,IE.den];omega
  have g1:(IE.fn f 0 (IE.n i) 1 0).den=ga:=by show f (aY 0 (IE.n i).den 1 0)=ga;rw[hix,hfw i hiN,iM]
  have o1:(Obl.ltE (IE.n i) (IE.n N)).ok:=by show _/\_;simp only[IE.den];omega
  have o2:(Obl.ix 0 (IE.n i) 1 0 1 N).ok:=by show _<=_;rw[hix];omega
  let κ:={x:Nat × List Int × Int//Mul n m i x.1 x.2.1 x.2.2/\x.1<=M}
  let J:κ->St:=λx=>⟨[(0,.sl 0 0 (.n N) cap),(1,.sl 1 0 (.n M) aU),(5,.sl 2 0 (.n T) T),(6,.i .i64 (.n i)),(7,.i .u32 (.v ga)),(8,.i .u64 (.v x.1.2.2)),(17,.sl 0 0 (.n N) cap),(18,.i .i64 (.n N)),(19,.i .i64 (.n i)),(24,.sl 1 0 (.n M) aU),(25,.i .i64 (.n M)),(26,.i .i64 (.n x.1.1))],[.xi .u32 N f,.xi .u32 M f',.r 145 .u32 x.1.2.1],[]⟩
  let y0:κ:=⟨(0,out,0),hMu,Nat.zero_le _⟩
  cbv;refine aP hc ⟨o1,o2,trivial⟩ ?_;refine zU 3 (S':=J y0) (K':=K) ⟨zS,zS,zS,zS,zI rfl rfl g1,zL⟩ (kf _) trivial ?_;refine bW hc J (λx=>M - x.1.1) y0 100 ?_;rintro p' ⟨⟨k,ot,cr⟩,hMk,hk⟩ hyk;simp only at hMk hk;have hlk:=hMk.len;have hcr:=hMk.c;cbv;refine aE rfl 100 (λh=>?_) (λh=>?_)
  ·have h:(k:Int)<(M:Int):=BE.lt_t h
   have hkM:k<M:=Int.ofNat_lt.1 h
   have hgb:=bA (bG m) k
   obtain⟨gb,mN⟩:=nm ((aC m).getD k 0);rw[<-mN]at hgb;have hog:=bA hMk.wd (i+k);obtain⟨og,aDj⟩:=nm (ot.getD (i+k) 0);rw[<-aDj]at hog;obtain⟨pr,hpr⟩:=nm (ga*gb);have bE9:0<=pr/\pr<=999999999*999999999:=by
    rw[hpr];exact⟨Int.mul_nonneg hga.1 hgb.1,Int.mul_le_mul zW zW hgb.1 zW⟩
   obtain⟨x2,hx2⟩:=nm (cr+(pr+og));have aEs:0<=x2/\x2<=999999998000000001+1999999998:=zW;obtain⟨c0,hc0⟩:=nm (x2/1000000000);obtain⟨k',hk'⟩:=nm (k+1);have hst:=hMk.step (x:=x2) zW zW (by rw[hx2,hpr,iM,mN,aDj]);rw[<-hc0,<-hk']at hst;have aJz:aY 0 (IE.n k).den 1 0=k:=by simp only[aY,IE.den];omega
   have hik:aY 0 ((IE.n i).add (IE.n k)).den 1 0=i+k:=by simp only[aY,IE.den];omega
   have g2:(IE.fn f' 0 (IE.n k) 1 0).den=gb:=by show f' (aY 0 (IE.n k).den 1 0)=gb;rw[aJz,aDg k hkM,mN]
   have g3:(IE.nth ot 0 ((IE.n i).add (IE.n k)) 1 0).den=og:=by show ot.getD (aY 0 ((IE.n i).add (IE.n k)).den 1 0) 0=og;rw[hik,aDj]
   have m1:((IE.v ga).mul (IE.fn f' 0 (IE.n k) 1 0)).den=pr:=by show ga*(IE.fn f' 0 (IE.n k) 1 0).den=pr;rw[g2,hpr]
   have a1:(((IE.v ga).mul (IE.fn f' 0 (IE.n k) 1 0)).add (IE.nth ot 0 ((IE.n i).add (IE.n k)) 1 0)).den=pr+og:=by show((IE.v ga).mul (IE.fn f' 0 (IE.n k) 1 0)).den+(IE.nth ot 0 ((IE.n i).add (IE.n k)) 1 0).den=_;rw[m1,g3]
   have a2:((IE.v cr).add (((IE.v ga).mul (IE.fn f' 0 (IE.n k) 1 0)).add (IE.nth ot 0 ((IE.n i).add (IE.n k)) 1 0))).den=x2:=by show cr+(((IE.v ga).mul (IE.fn f' 0 (IE.n k) 1 0)).add (IE.nth ot 0 ((IE.n i).add (IE.n k)) 1 0)).den=_;rw[a1,hx2]
   have r1:(((IE.v cr).add (((IE.v ga).mul (IE.fn f' 0 (IE.n k) 1 0)).add (IE.nth ot 0 ((IE.n i).add (IE.n k)) 1 0))).rem (IE.l 1000000000)).den=x2%1000000000:=by
    show((IE.v cr).add (((IE.v ga).mul (IE.fn f' 0 (IE.n k) 1 0)).add (IE.nth ot 0 ((IE.n i).add (IE.n k)) 1 0))).den.tmod 1000000000=_
    rw[a2,Int.tmod_eq_emod_of_nonneg aEs.1]
   have d1:(((IE.v cr).add (((IE.v ga).mul (IE.fn f' 0 (IE.n k) 1 0)).add (IE.nth ot 0 ((IE.n i).add (IE.n k)) 1 0))).quo (IE.l 1000000000)).den=c0:=by
    show((IE.v cr).add (((IE.v ga).mul (IE.fn f' 0 (IE.n k) 1 0)).add (IE.nth ot 0 ((IE.n i).add (IE.n k)) 1 0))).den.tdiv 1000000000=_
    rw[a2,Int.tdiv_eq_ediv_of_nonneg aEs.1,hc0]
   have p1:(Obl.ltE (IE.n k) (IE.n M)).ok:=by show _/\_;simp only[IE.den];omega
   have p2:(Obl.ix 0 (IE.n k) 1 0 1 M).ok:=by show _<=_;rw[aJz];omega
   have p3:(Obl.inR .u64 (IE.v ga)).ok:=cU _ _ ga rfl zX
   have p4:=cU .u64 _ _ g2 zX
   have p5:=cU .u64 _ _ m1 zX
   have p6:(Obl.inR .i64 ((IE.n i).add (IE.n k))).ok:=cU _ _ ((i:Int)+k) rfl zX
   have p7:(Obl.ltE ((IE.n i).add (IE.n k)) (IE.n T)).ok:=by show _/\_;simp only[IE.den];omega
   have hlt:aY 0 ((IE.n i).add (IE.n k)).den 1 0<ot.length:=by rw[hik,hlk];omega
   have p9:=cU .u64 _ _ g3 zX
   have p10:=cU .u64 _ _ a1 zX
   have p11:=cU .u64 _ _ a2 zX
   have p12:=cU .u32 _ _ r1 zX
   have p13:=cU .u64 _ _ d1 zX
   have p14:(Obl.inR .i64 ((IE.n k).add (IE.l 1))).ok:=cU _ _ ((k:Int)+1) rfl zX
   have s1:((IE.n k).add (IE.l 1)).den=(IE.n k').den:=by simp only[IE.den,hk'];omega
   have aTv:k'<=M:=zW
   have hmk:M - k'<M - k:=zW
   cbv;refine aP hc ⟨p1,p2,p3,p4,p5,p6,p7,hlt,p9,p10,p11,p6,nz,p12,p7,trivial⟩ ?_;refine jV hc _ (r:=(2,145,.u32,ot,aY 0 ((IE.n i).add (IE.n k)).den 1 0,(((IE.v cr).add (((IE.v ga).mul (IE.fn f' 0 (IE.n k) 1 0)).add (IE.nth ot 0 ((IE.n i).add (IE.n k)) 1 0))).rem (IE.l 1000000000)))) hlt (λl' hl'=>?_);have hl':l'=ot.set (i+k) (x2%1000000000):=by rw[hl',<-hik,<-r1]
   have hst:Mul n m i k' l' c0:=by rw[hl'];exact hst
   apply zN hc;cbv;refine aP hc ⟨nz,p13,p14,trivial⟩ ?_;refine zU 3 (S':=J ⟨(k',l',c0),hst,aTv⟩) (K':=K) ⟨zS,zS,zS,zS,zS,zI rfl rfl d1,zS,zS,zS,zS,zS,zI rfl rfl s1,trivial⟩ (kf _) trivial (hyk _ hmk)
  ·have h:¬(k:Int)<(M:Int):=BE.lt_f h
   have hkM:k=(aC m).length:=zW
   have hMk:Mul n m i (aC m).length ot cr:=by rw[<-hkM];exact hMk
   have lG:=hMk.row zW
   rw[<-hM]at lG;have hik:aY 0 ((IE.n i).add (IE.n M)).den 1 0=i+M:=by simp only[aY,IE.den];omega
   have p1:(Obl.inR .i64 ((IE.n i).add (IE.n M))).ok:=cU _ _ ((i:Int)+M) rfl zX
   have p2:(Obl.inR .u32 (IE.v cr)).ok:=cU _ _ cr rfl zX
   have p3:(Obl.ltE ((IE.n i).add (IE.n M)) (IE.n T)).ok:=by show _/\_;simp only[IE.den];omega
   have hlt:aY 0 ((IE.n i).add (IE.n M)).den 1 0<ot.length:=by rw[hik,hlk];omega
   have p4:(Obl.inR .i64 ((IE.n i).add (IE.l 1))).ok:=cU _ _ ((i:Int)+1) rfl zX
   obtain⟨i',hi'⟩:=nm (i+1);rw[<-hi']at lG;have s1:((IE.n i).add (IE.l 1)).den=(IE.n i').den:=by simp only[IE.den,hi'];omega
   have aEp:i'<=N:=zW
   have hmi:N - i'<N - i:=zW
   cbv;refine aP hc ⟨p1,p2,p3,trivial⟩ ?_;refine jV hc _ (r:=(2,145,.u32,ot,aY 0 ((IE.n i).add (IE.n M)).den 1 0,IE.v cr)) hlt (λl' hl'=>?_);have hl':l'=ot.set (i+M) cr:=by rw[hl',<-hik];rfl
   have lG:Mul n m i' 0 l' 0:=by rw[hl'];exact lG
   apply zN hc;cbv;refine aP hc ⟨p4,trivial⟩ ?_;refine zU 3 (S':=I ⟨(i',l'),lG,aEp⟩) (K':=K) ⟨zS,zS,zS,zS,zS,zI rfl rfl s1,trivial⟩ (kf _) trivial (hy _ hmi)
 ·have h:¬(i:Int)<(N:Int):=BE.lt_f h
  have hiN:i=(aC n).length:=zW
  have hMu:Mul n m (aC n).length 0 out 0:=by rw[<-hiN];exact hMu
  have tI:=hMu.done
  have lQ:out.length=T:=by rw[hlen,hT,hN,hM]
  have hlb:out.length<=2^40:=zW
  obtain⟨Q,hQ⟩:=nm ((fA out).length);have bGx:Q<=T:=by have:=(sD out).1;omega
  have hdg:aC (n*m)=fA out:=by rw[oV hMu.wd,tI]
  have bGy:T<=maxLen:=by simp only[maxLen];omega
  have hsz:(out.map (Value.int .u32)).toArray.size=T*1:=by simp[lQ]
  have htk:(out.map (Value.int .u32)).toArray.toList.take (Q*1)=(aC (n*m)).map (Value.int .u32):=by rw[hdg,Nat.mul_one,hQ,<-wP out,<-List.map_take];simp[wP]
  have hQd:Q=(aC (n*m)).length:=by rw[hdg,hQ]
  have hoT:(IE.n T).den=(out.length:Int):=by rw[lQ];rfl
  cbv;refine bF0 hc (.sl 2 0 (.n Q) T) sW (λn0 D X μ a w aK H aG=>?_) 100 ?_
  ·obtain⟨v1,rfl,h1⟩:=bN aG;obtain⟨b,e1,e2,e3,e4,e5⟩:=H.rowOwn rfl h1 hoT (Nat.le_of_eq lQ);refine⟨λx=>X x\/x=b,aQz v1 Q,by rw[hQ];exact aVt hlb (λy hy=>hy.elim (H.xlt y) (λe=>e▸e2)) e3,?_⟩;refine(iU (len:=.n Q) (a:=some (b,0)) (by simp[atS,e5,MV.atS]) (by simp[IE.den]) (λe=>by cases e)).trans ?_;rw[e1];simp[aQz,IE.den]
  cbv;refine bCv hc hR rfl (λX μ a w v H hv=>?_);obtain⟨mm,hmm⟩:=H.toP.all 2 (Nat.lt_succ_self 2);have hok:=H.toP.heap 2 _ mm rfl hmm;match mm,hmm,hok with
  | .own b,hmm,hok=>
   have hok:w.heap[b]?=some (.cells (out.map (Value.int .u32)).toArray 145 (0,0)):=hok
   obtain⟨l1,l2,l3⟩:=H.toP.loc 2 b hmm;have hv2:v=.slice (some ⟨b,0,none⟩) Q T:=by
    have:=(iU (μ:=μ) (k:=2) (off:=0) (len:=.n Q) (cap:=T) (a:=some (b,0)) (by simp[atS,hmm,MV.atS]) (by simp[IE.den]) (λe=>by cases e))
    rw[this]at hv;injection hv with hv;rw[<-hv];simp[IE.den]
   subst hv2;refine⟨⟨zA,.inr ⟨b,T,_,by rw[hQd],l1,hok,by rw[<-hQd];exact bGx,bGy,hsz,by rw[<-hQd];exact htk⟩⟩,λb' hb'=>?_⟩;simp only[Value.ownBlock,Option.some.injEq]at hb';subst hb';exact l2
theorem bDr:aB PP 305:=zK
theorem aN2 {v:Value}{X:Nat->Prop}{w:World}{n m:Nat}(hm0:0<m)(hm1:m<1000000000)(hbn:(aC n).length<=2^39)(hX:∀b,X b->b<w.heap.size)(hv:(aI n).p v X w):
  Fn PP 305 [v,.int .u64 (m:Int)] X w (jG (aI (n/m)) (aI (n%m))):=by
 have hmI:0<(m:Int)/\(m:Int)<1000000000:=zW
 obtain⟨R1,hR1⟩:=nm (aI (n/m));obtain⟨R2,hR2⟩:=nm (aI (n%m));obtain⟨R,hRR⟩:=nm (jG (aI (n/m)) (aI (n%m)));obtain⟨K,hK⟩:=nm ([KF.cst v (aI n)]);rw[<-hRR];refine bJ mixed tok [.q v,.i .u64 (.n m)] (K:=K) Tryz.func305 rfl rfl (lbl rfl) rfl hX (by subst hK;simp;exact hv) λc hc hR=>?_;refine dE 0 .u32 (aC n) rfl rfl (λX μ a w v' H hv'=>cD H (by simp[hK]) hv') λf N cap hN hf dJ=>?_;have hfw:∀i,i<N->f i=(aC n).getD i 0:=λi hi=>by
  have:=List.getElem?_eq_getElem (l:=aC n) (i:=i) zW
  rw[hf i _ this,List.getD_eq_getElem?_getD,this];rfl
 have hbN:N<=2^39:=zW
 have kf:∀q,lT q K K:=λq=>by subst hK;exact⟨⟨.head _,KFr.cst _ _ _⟩,trivial⟩
 have cU:∀(kd:IntKind) (e:IE) (z:Int),e.den=z->lo kd<=z/\z<=hi kd->(Obl.inR kd e).ok:=λkd e z he hz=>by show _/\_;rw[he];exact hz
 have q0:(Obl.inR .i64 ((IE.n N).sub (IE.l 1))).ok:=cU _ _ ((N:Int) - 1) rfl zX
 apply zN hc;cbv;refine rZ hc _ .u32 cJ ?_ ?_ ?_ (λT z hT hz=>?_)
 ·simp only[IE.den];omega
 ·simp only[IE.den];omega
 ·simp only[IE.den];omega
 have hT:T=N:=by simp only[IE.den]at hT;omega
 subst hT;have hz0:z=List.replicate (aC n).length 0:=by rw[hz,hN]
 have dv0:Dv n m T z 0:=by rw[hz0,hN];exact Dv.init zW
 apply zN hc;cbv;refine aP hc ⟨q0,trivial⟩ ?_;let ι:={x:Nat × List Int × Int//Dv n m x.1 x.2.1 x.2.2/\x.1<=T};let I:ι->St:=λx=>⟨[(0,.sl 0 0 (.n T) cap),(1,.i .u64 (.n m)),(6,.sl 1 0 (.n T) T),(7,.i .u64 (.v x.1.2.2)),(8,.i .i64 (.sub (.n x.1.1) (.l 1)))],[.xi .u32 T f,.r 145 .u32 x.1.2.1],[]⟩
 let x0:ι:=⟨(T,z,0),dv0,lRf _⟩
 refine zU 2 (S':=I x0) (K':=K) zL (kf _) trivial ?_;refine bW hc I (λx=>x.1.1) x0 100 ?_;rintro p ⟨⟨k,out,rest⟩,hD,hk⟩ hy;simp only at hD hk;have hlen:=hD.len;have hrs:=hD.r;cbv;refine aE rfl 100 (λh=>?_) (λh=>?_)
 ·have h:(0:Int)<=(k:Int) - 1:=BE.le_t h
  obtain⟨q,hq⟩:∃q,q+1=k:=⟨k - 1,zW⟩;have hqT:q<T:=zW;have hqk:q<k:=zW;have hga:=bA (bG n) q;obtain⟨ga,iM⟩:=nm ((aC n).getD q 0);rw[<-iM]at hga;obtain⟨x,hx⟩:=nm (rest*1000000000+ga);obtain⟨x',hx'⟩:=nm (x/(m:Int));obtain⟨r',hr'⟩:=nm (x%(m:Int));obtain⟨hst,hb1,hb2⟩:=Dv.step (x:=x) (q:=q) (by rw[hq];exact hD) hmI.2 zW (by rw[hx,iM]);rw[<-hx']at hst hb1 hb2;rw[<-hr']at hst;have hxb:0<=x/\x<=1000000000000000000:=zW;have hix:aY 0 ((IE.n k).sub (IE.l 1)).den 1 0=q:=by simp only[aY,IE.den];omega
  have g1:(IE.fn f 0 ((IE.n k).sub (IE.l 1)) 1 0).den=ga:=by show f (aY 0 ((IE.n k).sub (IE.l 1)).den 1 0)=ga;rw[hix,hfw q hqT,iM]
  have m1:((IE.v rest).mul (IE.l 1000000000)).den=rest*1000000000:=rfl
  have a1:(((IE.v rest).mul (IE.l 1000000000)).add (IE.fn f 0 ((IE.n k).sub (IE.l 1)) 1 0)).den=x:=by show rest*1000000000+(IE.fn f 0 ((IE.n k).sub (IE.l 1)) 1 0).den=x;rw[g1,hx]
  have d1:((((IE.v rest).mul (IE.l 1000000000)).add (IE.fn f 0 ((IE.n k).sub (IE.l 1)) 1 0)).quo (IE.n m)).den=x':=by
   show(((IE.v rest).mul (IE.l 1000000000)).add (IE.fn f 0 ((IE.n k).sub (IE.l 1)) 1 0)).den.tdiv (m:Int)=x'
   rw[a1,Int.tdiv_eq_ediv_of_nonneg hxb.1,hx']
  have r1:((((IE.v rest).mul (IE.l 1000000000)).add (IE.fn f 0 ((IE.n k).sub (IE.l 1)) 1 0)).rem (IE.n m)).den=r':=by
   show(((IE.v rest).mul (IE.l 1000000000)).add (IE.fn f 0 ((IE.n k).sub (IE.l 1)) 1 0)).den.tmod (m:Int)=r'
   rw[a1,Int.tmod_eq_emod_of_nonneg hxb.1,hr']
  have p1:=cU .u64 _ _ m1 zX
  have p2:(Obl.ltE ((IE.n k).sub (IE.l 1)) (IE.n T)).ok:=by show _/\_;simp only[IE.den];omega
  have p3:(Obl.ix 0 ((IE.n k).sub (IE.l 1)) 1 0 1 T).ok:=by show _<=_;rw[hix];omega
  have p4:=cU .u64 _ _ g1 zX
  have p5:=cU .u64 _ _ a1 zX
  have nzm:(Obl.nz (IE.n m)).ok:=by show(m:Int)≠0;omega
  have p6:=cU .u64 _ _ d1 zX
  have p7:=cU .u32 _ _ d1 zX
  have hlt:aY 0 ((IE.n k).sub (IE.l 1)).den 1 0<out.length:=by rw[hix,hlen];omega
  have p8:(Obl.inR .i64 (((IE.n k).sub (IE.l 1)).sub (IE.l 1))).ok:=cU _ _ ((k:Int) - 1 - 1) rfl zX
  have s1:(((IE.n k).sub (IE.l 1)).sub (IE.l 1)).den=((IE.n q).sub (IE.l 1)).den:=by simp only[IE.den];omega
  have bBu:q<=T:=zW
  cbv;refine aP hc ⟨p1,p2,p3,p4,p5,nzm,p6,p7,p2,trivial⟩ ?_;refine jV hc _ (r:=(1,145,.u32,out,aY 0 ((IE.n k).sub (IE.l 1)).den 1 0,((((IE.v rest).mul (IE.l 1000000000)).add (IE.fn f 0 ((IE.n k).sub (IE.l 1)) 1 0)).quo (IE.n m)))) hlt (λl' hl'=>?_);have hl':l'=out.set q x':=by rw[hl',<-hix,<-d1]
  have hst:Dv n m q l' r':=by rw[hl'];exact hst
  apply zN hc;cbv;refine aP hc ⟨nzm,p8,trivial⟩ ?_;refine zU 2 (S':=I ⟨(q,l',r'),hst,bBu⟩) (K':=K) ⟨zS,zS,zS,zI rfl rfl r1,zI rfl rfl s1,trivial⟩ (kf _) trivial (hy _ hqk)
 ·have h:¬(0:Int)<=(k:Int) - 1:=BE.le_f h
  have hk0:k=0:=zW
  have hD:Dv n m 0 out rest:=by rw[<-hk0];exact hD
  obtain⟨e1,e2⟩:=hD.done;have hlb:out.length<=2^40:=zW;have lQ:out.length=T:=by rw[hlen,hN]
  have bHz:rest<1000000000000000000:=zW
  cbv;refine qV 1 rfl (λg N' hN' hg=>?_);refine eB (R:=R1) hc sW (λn0 D X μ a w aK H aG=>?_) 100 ?_
  ·obtain⟨v1,rfl,h1⟩:=bN aG;have h2:=H.row (l:=out) rfl h1 (by rw[lQ];rfl) (λj y hj=>by rw[Nat.zero_add];exact hg j y hj) zW zW;rw[hR1,<-e1];exact mD hD.wd hlb H.xlt h2
  cbv;refine eB (R:=R2) hc aSc (λn0 D X μ a w aK H aG=>?_) 100 ?_
  ·obtain⟨v1,rfl,h1⟩:=bN aG;injection h1 with h1;subst h1
   rw[hR2,<-e2];exact yF H.xlt hrs.1 bHz
  cbv;refine bB hc hR rfl (λX μ a w v H hv=>?_);simp only[aD]at hv;split at hv
  ·rename_i vs hvs;injection hv with hv
   obtain⟨v1,v2,rfl,h1,h2⟩:=bI hvs;have k1:=H.toP.val (k:=2) (R:=R1) (.tail _ (.head _)) h1;have k2:=H.toP.val (k:=3) (R:=R2) (.head _) h2;rw[hRR,<-hv];exact⟨v1,v2,rfl,by rw[hR1]at k1;exact k1,by rw[hR2]at k2;exact k2⟩
  ·cases hv
end Go.Ai
namespace Go.Ai
open Go Go.RowKit
theorem BE.ltn_t {i n:Nat}(h:(BE.lt (.n i) (.n n)).den=true):i<n:=Int.ofNat_lt.1 (BE.lt_t h)
theorem BE.ltn_f {i n:Nat}(h:(BE.lt (.n i) (.n n)).den=false):n<=i:=Nat.le_of_not_lt λe=>BE.lt_f h (Int.ofNat_lt.2 e)
theorem BE.eqn_t {i n:Nat}(h:(BE.eq (.n i) (.n n)).den=true):i=n:=Int.ofNat.inj (BE.eq_t h)
theorem BE.eqnl_t {i k:Nat}(h:(BE.eq (.n i) (.l k)).den=true):i=k:=Int.ofNat.inj (BE.eq_t h)
theorem BE.eqnl_f {i k:Nat}(h:(BE.eq (.n i) (.l k)).den=false):i≠k:=λe=>BE.eq_f h (by rw[e];rfl)
theorem BE.pre_t {k:Nat}(h:(BE.le (.l 0) (.sub (.n k) (.l 1))).den=true):0<k:=by have h:=BE.le_t h;simp only[IE.den]at h;omega
theorem BE.pre_f {k:Nat}(h:(BE.le (.l 0) (.sub (.n k) (.l 1))).den=false):k=0:=by have h:=BE.le_f h;simp only[IE.den]at h;omega
theorem aS6 {c:Cx}{K:List KF}{ks:List KI}{S':St}{G:Prop}(f:Goal c K ⟨ks,S',[]⟩->G)(g:Goal c K ⟨ks,S',[]⟩):G:=f g
theorem Goal.k {c:Cx}{K K':List KF}{r:Cfg}(h:K'=K)(g:Goal c K' r):Goal c K r:=h▸g
theorem oO {c:Cx}{K:List KF}{k:List KI}{S:St}(hk:jT k=true)(h:Goal c K ⟨k,S,[]⟩):bH c K k S:=by
 have:=h.so
 match k,hk,this with
 | [],_,h=>exact h
 | .code _::_,_,h=>exact h
 | .ops _ _::_,_,h=>exact h
 | .blk _::_,_,h=>exact h
 | .hole _::_,_,h=>exact h
 | .ord _ _::_,_,h=>exact h
theorem aD4 {c:Cx}{K:List KF}{κ:Type}(E:κ->Prop)(J:κ->St){x:Code}{id:Nat}{k:List KI}{S:St}(hk:jT k=true)
  (h2:∀r,(∀z,E z->Goal c K ⟨.hole r::k,J z,[]⟩)->Goal c K ⟨.code x::.blk id::.hole r::k,S,[]⟩)
  (h1:∀z,E z->Goal c K ⟨k,J z,[]⟩):Goal c K ⟨.code x::.blk id::k,S,[]⟩:=by
 let r:Act->World->Prop:=λa w=>aO c.F c.P c.R k .normal a w
 have hr:∀z,E z->Goal c K ⟨.hole r::k,J z,[]⟩:=λz hz=>.mk0 (λX μ a w H=>by simpa[aO,r]using oO hk (h1 z hz) X μ a w H)
 have h3:=(h2 r hr).so
 refine .mk0 (λX μ a w H=>?_);have h3:=h3 X μ a w H;simp only[aO]at h3 |-;refine wpIn_mono h3 λe a w hq=>?_;cases e
 case exit j=>
  simp only[aO]at hq |-;split<;>rename_i hj
  ·rw[if_pos hj]at hq;simpa[r]using hq
  ·rw[if_neg hj]at hq;simpa using hq
 all_goals simpa[aO,r]using hq
theorem aYe {c:Cx}{K:List KF}{κ:Type}(E:κ->Prop)(J:κ->St){x:Code}{k:List KI}{S:St}(hk:jT k=true)
  (h2:∀r,(∀z,E z->Goal c K ⟨.hole r::k,J z,[]⟩)->Goal c K ⟨.code x::.hole r::k,S,[]⟩)
  (h1:∀z,E z->Goal c K ⟨k,J z,[]⟩):Goal c K ⟨.code x::k,S,[]⟩:=by
 let r:Act->World->Prop:=λa w=>aO c.F c.P c.R k .normal a w
 have hr:∀z,E z->Goal c K ⟨.hole r::k,J z,[]⟩:=λz hz=>.mk0 (λX μ a w H=>by simpa[aO,r]using oO hk (h1 z hz) X μ a w H)
 have h3:=(h2 r hr).so
 refine .mk0 (λX μ a w H=>?_);have h3:=h3 X μ a w H;simp only[aO]at h3 |-;refine wpIn_mono h3 λe a w hq=>?_;cases e<;>simpa[aO,r]using hq
theorem dH {c:Cx}{P:Program}{ty:Nat->Option TyI}{nt:Nat}{K:List KF}(hc:Ctx c P ty nt){all:Array Oper}{i n0:Nat}{K0:List KF}{k:List KI}{S:St}(o:Oper){r:Rs}(n:Nat)
  (h:Goal c K (run ty nt K n (.dops all (i+1) n0 K0::k) (S.put o.dst r.av r.nb) []))(ho:all[i]?=some o:=by exact rfl)(hg:guardOf all S.sl o=some true:=by exact rfl)(hd:cM nt o.dst=true:=by exact rfl)(hr:fop ty n0 (fl S o) o.op=some r:=by exact rfl)(hob:r.ob=[]:=by exact rfl):Goal c K ⟨.dops all i n0 K0::k,S,[]⟩:=by
 have hs:=dX hc n h
 refine .mk0 (show DPath c all n0 K0 k i S K from ?_);refine DPath.op (Kn:=[]) (ow:=(fl S o).ow) ho hg (by rw[hc.hnt];exact hd) (lA (r:=r) (by rw[hc.hty];exact hr) (by rw[hob];trivial) (λt ht=>by simp only[xL,eG,List.mem_append];exact .inl (fV (by simpa using ht)))) (λ_=>rfl) ?_ hs;rw[show(if cF o then(fl S o).ow else S.ow)=S.ow by unfold fl;split<;>rfl];exact Wk.refl _
inductive RV1 | one (c:CF) | agg (cs:List CF)
inductive RV | sg (r:RV1) | tp (l:List RV1)
def jI:List CF->List Value->(Nat->Prop)->World->Prop
 | [],[],_,_=>True
 | c::cs,v::vs,X,w=>c.ok v X w/\jI cs vs X w
 | _,_,_,_=>False
def RV1.p:RV1->Value->(Nat->Prop)->World->Prop
 | .one c,v,X,w=>c.ok v X w
 | .agg cs,v,X,w=>∃vs,v=.agg vs.toArray/\jI cs vs X w
def kD:List RV1->List Value->(Nat->Prop)->World->Prop
 | [],[],_,_=>True
 | r::rs,v::vs,X,w=>r.p v X w/\kD rs vs X w
 | _,_,_,_=>False
def RV.p:RV->Value->(Nat->Prop)->World->Prop
 | .sg r,v,X,w=>r.p v X w
 | .tp l,v,X,w=>∃vs,v=.tuple vs.toArray/\kD l vs X w
def RV1.cells:RV1->List CF
 | .one c=>[c]
 | .agg cs=>cs
def RV.cells:RV->List CF
 | .sg r=>r.cells
 | .tp l=>l.flatMap RV1.cells
section
variable {X X':Nat->Prop}{w w':World}
theorem aFe (hs:∀k,X k->X' k)(hw:∀k,X k->w'.heap[k]?=w.heap[k]?):∀{cs:List CF} {vs:List Value},jI cs vs X w->jI cs vs X' w'
 | [],[],_=>trivial
 | c::cs,v::vs,h=>⟨CF.ok_st hs hw h.1,aFe hs hw h.2⟩
 | [],_::_,h=>h.elim
 | _::_,[],h=>h.elim
theorem RV1.p_st (hs:∀k,X k->X' k)(hw:∀k,X k->w'.heap[k]?=w.heap[k]?){r:RV1}{v:Value}(h:r.p v X w):r.p v X' w':=by
 cases r with
 | one c=>exact CF.ok_st hs hw h
 | agg cs=>obtain⟨vs,h1,h2⟩:=h;exact⟨vs,h1,aFe hs hw h2⟩
theorem aF9 (hs:∀k,X k->X' k)(hw:∀k,X k->w'.heap[k]?=w.heap[k]?):∀{rs:List RV1} {vs:List Value},kD rs vs X w->kD rs vs X' w'
 | [],[],_=>trivial
 | c::cs,v::vs,h=>⟨RV1.p_st hs hw h.1,aF9 hs hw h.2⟩
 | [],_::_,h=>h.elim
 | _::_,[],h=>h.elim
theorem RV.p_st (hs:∀k,X k->X' k)(hw:∀k,X k->w'.heap[k]?=w.heap[k]?){r:RV}{v:Value}(h:r.p v X w):r.p v X' w':=by
 cases r with
 | sg r=>exact RV1.p_st hs hw h
 | tp l=>obtain⟨vs,h1,h2⟩:=h;exact⟨vs,h1,aF9 hs hw h2⟩
theorem aCs:∀{cs:List CF} {vs:List Value},jI cs vs X w->∀(j:Nat) (c:CF),cs[j]?=some c->∃v,vs[j]?=some v/\c.ok v X w
 | [],[],_,j,c,hj=>by simp at hj
 | d::cs,v::vs,h,0,c,hj=>by simp at hj;subst hj;exact⟨v,rfl,h.1⟩
 | d::cs,v::vs,h,j+1,c,hj=>by simp at hj |-;exact aCs h.2 j c hj
 | [],_::_,h,_,_,_=>h.elim
 | _::_,[],h,_,_,_=>h.elim
theorem vD:∀{cs:List CF} {vs:List Value},jI cs vs X w->vs.length=cs.length
 | [],[],_=>rfl
 | d::cs,v::vs,h=>by simp[vD h.2]
 | [],_::_,h=>h.elim
 | _::_,[],h=>h.elim
theorem vA:∀{cs ds:List CF} {vs us:List Value},jI cs vs X w->jI ds us X w->jI (cs++ds) (vs++us) X w
 | [],ds,[],us,_,h=>h
 | c::cs,ds,v::vs,us,h,h'=>⟨h.1,vA h.2 h'⟩
 | [],_,_::_,_,h,_=>h.elim
 | _::_,_,[],_,h,_=>h.elim
theorem RV1.cells_p {r:RV1}{v:Value}(h:r.p v X w):jI r.cells v.cells.toList X w:=by
 cases r with
 | one c=>
  have h:c.ok v X w:=h
  rw[cells_one (CF.ok_one h)];exact⟨h,trivial⟩
 | agg cs=>obtain⟨vs,rfl,h2⟩:=h;simpa[RV1.cells,Value.cells]using h2
theorem aPc:∀{rs:List RV1} {vs:List Value},kD rs vs X w->jI (rs.flatMap RV1.cells) (vs.flatMap λv=>v.cells.toList) X w
 | [],[],_=>trivial
 | r::rs,v::vs,h=>by simp only[List.flatMap_cons];exact vA (RV1.cells_p h.1) (aPc h.2)
 | [],_::_,h=>h.elim
 | _::_,[],h=>h.elim
theorem aFz {v:Value}(h:∀vs,v≠.tuple vs):qM v=v.cells.toList:=by
 cases v<;>first | rfl | exact absurd rfl (h _)
theorem RV1.not_tuple {r:RV1}{v:Value}(h:r.p v X w)(vs:Array Value):v≠.tuple vs:=by
 intro e;subst e;cases r with
 | one c=>have h1:=CF.ok_one (show c.ok _ X w from h);cases h1
 | agg cs=>obtain⟨us,h1,_⟩:=h;cases h1
theorem RV.cells_p {R:RV}{v:Value}(h:R.p v X w):jI R.cells (qM v) X w:=by
 cases R with
 | sg r=>rw[aFz (RV1.not_tuple h)];exact RV1.cells_p h
 | tp l=>obtain⟨vs,rfl,h2⟩:=h;simpa[RV.cells,qM]using aPc h2
end
def lR (R:RV):VF:=⟨R.p,λ_ _ _ _ _ hs hw h=>RV.p_st hs hw h⟩
def CF.av (k j:Nat):CF->AV
 | .s e=>.s e
 | .b e=>.b e
 | .i kd e=>.i kd e
 | .x _=>.ec k j
def aWr (k:Nat):Nat->List CF->List AV
 | _,[]=>[]
 | j,c::cs=>c.av k j::aWr k (j+1) cs
def RV1.av (k j:Nat):RV1->AV
 | .one c=>c.av k j
 | .agg cs=>.g (aWr k j cs)
def tAV (k:Nat):Nat->List RV1->List AV
 | _,[]=>[]
 | j,r::rs=>r.av k j::tAV k (j+r.cells.length) rs
def RV.av (k:Nat):RV->AV
 | .sg r=>r.av k 0
 | .tp l=>.t (tAV k 0 l)
section
variable {X:Nat->Prop}{w:World}{μ:Mu}
theorem aOj {k j:Nat}{c:CF}{v u:Value}(hm:μ k=some (.val v))(hj:(qM v)[j]?=some u)(h:c.ok u X w):aD μ (c.av k j)=some u:=by
 cases c with
 | s e=>have h:u=_:=h;subst h;rfl
 | b e=>have h:u=_:=h;subst h;rfl
 | i kd e=>have h:u=_:=h;subst h;rfl
 | x R=>
  simp only[CF.av,aD,hm,cellV,hj];rw[if_pos h.1]
theorem aJe {k:Nat}{v:Value}(hm:μ k=some (.val v)):∀{cs:List CF} {us:List Value} {j:Nat} {rest:List Value},(qM v).drop j=us++rest->jI cs us X w->aF μ (aWr k j cs)=some us
 | [],[],j,rest,_,_=>rfl
 | c::cs,u::us,j,rest,hd,h=>by
  have h1:(qM v)[j]?=some u:=by
   have:=congrArg (·[0]?) hd
   simpa[List.getElem?_drop]using this
  have h2:(qM v).drop (j+1)=us++rest:=by
   have:=congrArg (List.drop 1) hd
   simpa[List.drop_drop]using this
  simp only[aWr,aF,aOj hm h1 h.1,aJe hm h2 h.2]
 | [],_::_,_,_,_,h=>h.elim
 | _::_,[],_,_,_,h=>h.elim
theorem aKy {k:Nat}{v:Value}(hm:μ k=some (.val v)){r:RV1}{u:Value}{j:Nat}{rest:List Value}(hd:(qM v).drop j=u.cells.toList++rest)(h:r.p u X w):aD μ (r.av k j)=some u:=by
 cases r with
 | one c=>
  have h:c.ok u X w:=h
  rw[cells_one (CF.ok_one h)]at hd;have h1:(qM v)[j]?=some u:=by
   have:=congrArg (·[0]?) hd
   simpa[List.getElem?_drop]using this
  exact aOj hm h1 h
 | agg cs=>
  obtain⟨vs,rfl,h2⟩:=h;have:=aJe hm (by simpa[Value.cells]using hd) h2;simp only[RV1.av,aD,this]
theorem aVp {k:Nat}{v:Value}(hm:μ k=some (.val v)):∀{rs:List RV1} {us:List Value} {j:Nat},(qM v).drop j=us.flatMap (λv=>v.cells.toList)->kD rs us X w->aF μ (tAV k j rs)=some us
 | [],[],j,_,_=>rfl
 | r::rs,u::us,j,hd,h=>by
  rw[List.flatMap_cons]at hd;have h2:(qM v).drop (j+r.cells.length)=us.flatMap (λv=>v.cells.toList):=by
   have:=congrArg (List.drop u.cells.toList.length) hd
   rw[List.drop_drop,List.drop_left]at this;rw[<-this,<-vD (RV1.cells_p h.1)]
  simp only[tAV,aF,aKy hm hd h.1,aVp hm h2 h.2]
 | [],_::_,_,_,h=>h.elim
 | _::_,[],_,_,h=>h.elim
theorem aPi {k:Nat}{v:Value}(hm:μ k=some (.val v)){R:RV}(h:R.p v X w):aD μ (R.av k)=some v:=by
 cases R with
 | sg r=>exact aKy hm (rest:=[]) (by rw[aFz (RV1.not_tuple h)];simp) h
 | tp l=>
  obtain⟨vs,rfl,h2⟩:=h;have:=aVp hm (j:=0) (by simp[qM]) h2;simp only[RV.av,aD,this]
end
section
variable {c:Cx}{P:Program}{ty:Nat->Option TyI}{nt:Nat}{K:List KF}{S:St}{X:Nat->Prop}{μ:Mu}{a:Act}{w:World}{n0:Nat}{D:Nat->Prop}
inductive bM (K:List KF):AV->CF->Prop
 | s {e e':SE} (h:e.den=e'.den):bM K (.s e) (.s e')
 | b {e e':BE} (h:e.den=e'.den):bM K (.b e) (.b e')
 | i {k:IntKind} {e e':IE} (h:e.den=e'.den):bM K (.i k e) (.i k e')
 | ec {k j:Nat} {F:VF} {R:RV} {c:CF} (m:KF.at k F∈K) (hF:F=lR R) (h:R.cells[j]?=some c):bM K (.ec k j) c
 | sx {e:SE} {R:VF} (h:∀X w,R.p (.string e.den) X w):bM K (.s e) (.x R)
 | any {av:AV} {c:CF} (h:∀X μ w v,(∀f,f∈K->f.p X μ w)->aD μ av=some v->c.ok v X w):bM K av c
theorem bM.ok {av:AV}{cf:CF}{v:Value}(h:bM K av cf)(hK:∀f,f∈K->f.p X μ w)(hv:aD μ av=some v):cf.ok v X w:=by
 cases h with
 | s h=>rw[dW hv,h];rfl
 | b h=>rw[iT hv,h];rfl
 | i h=>rw[bY hv,h];rfl
 | sx h=>rw[dW hv];exact⟨rfl,h X w⟩
 | any h=>exact h X μ w v hK hv
 | ec m hF h=>
  obtain⟨u,h1,h2⟩:=hK _ m;rw[hF]at h2;have h2:RV.p _ u X w:=h2;obtain⟨x,q1,q2⟩:=aCs (RV.cells_p h2) _ _ h;simp only[aD,h1,cellV,q1]at hv;rw[if_pos (CF.ok_one q2)]at hv;injection hv with hv;subst hv;exact q2
def qZ (K:List KF):List AV->List CF->Prop
 | [],[]=>True
 | a::zas,c::cs=>bM K a c/\qZ K zas cs
 | _,_=>False
def sF (K:List KF):AV->RV1->Prop
 | a,.one c=>bM K a c
 | .g l,.agg cs=>qZ K l cs
 | _,_=>False
def pP (K:List KF):List AV->List RV1->Prop
 | [],[]=>True
 | a::zas,r::rs=>sF K a r/\pP K zas rs
 | _,_=>False
theorem qZ.ok (hK:∀f,f∈K->f.p X μ w):∀{zas:List AV} {cs:List CF} {vs:List Value},qZ K zas cs->aF μ zas=some vs->jI cs vs X w
 | [],[],vs,_,hv=>by simp[aF]at hv;subst hv;trivial
 | a::zas,c::cs,vs,h,hv=>by
  simp only[aF]at hv;split at hv
  ·rename_i v us h1 h2;injection hv with hv;subst hv
   exact⟨h.1.ok hK h1,qZ.ok hK h.2 h2⟩
  ·cases hv
 | [],_::_,_,h,_=>h.elim
 | _::_,[],_,h,_=>h.elim
theorem sF.ok (hK:∀f,f∈K->f.p X μ w){av:AV}{r:RV1}{v:Value}(h:sF K av r)(hv:aD μ av=some v):r.p v X w:=by
 cases r with
 | one c=>unfold sF at h;exact bM.ok h hK hv
 | agg cs=>
  cases av with
  | g l=>
   obtain⟨vs,h1,rfl⟩:=tA hv;exact⟨vs,rfl,qZ.ok hK h h1⟩
  | _=>exact h.elim
theorem pP.ok (hK:∀f,f∈K->f.p X μ w):∀{zas:List AV} {rs:List RV1} {vs:List Value},pP K zas rs->aF μ zas=some vs->kD rs vs X w
 | [],[],vs,_,hv=>by simp[aF]at hv;subst hv;trivial
 | a::zas,r::rs,vs,h,hv=>by
  simp only[aF]at hv;split at hv
  ·rename_i v us h1 h2;injection hv with hv;subst hv
   exact⟨sF.ok hK h.1 h1,pP.ok hK h.2 h2⟩
  ·cases hv
 | [],_::_,_,h,_=>h.elim
 | _::_,[],_,h,_=>h.elim
def fD (P:Program)(g:Nat)(rs:List RV1)(R:RV):Prop:=
 ∀args X w,(∀b,X b->b<w.heap.size)->kD rs args X w->Fn P g args X w (lR R)
theorem aJc {o:Oper}{g:Nat}{avs:List AV}{rs:List RV1}{R:RV}{F:VF}(hF:F=lR R)(h:iS S.sl o.op=some (g,avs))(hD:∀t,Operand.tmp t∈o.op.operands->D t)(hg:aB c.P g)
  (hs:fD c.P g rs R) (ha:pP K avs rs):Cert c K n0 D S o (R.av S.hp.length) (some .e) [KF.at S.hp.length F] S.ow:=by
 intro X μ a w next Q H hfr hn
 obtain⟨aK,h1,h2⟩:=sZ H h hD hg;refine qY h2 (Calls.mono (hs aK X w H.xlt (ha.ok H.kf h1) H.glob) ?_);rintro e w' ⟨v,X',rfl,hb,hs,hx,hr⟩;refine⟨v,rfl,?_⟩;refine hn X' (μ.upd S.hp.length (.val v)) v w' ⟨hb.mono H.bel.size,λb hb' _=>hb.block b hb',aPi (X:=X') (w:=w') (Mu.upd_same _ _ _) hr,⟨.val v,rfl,trivial,λb e=>by cases e⟩,hs,λb hb'=>(hx b hb').imp id .inl,
  H.own.keep (Mu.le_upd (hfr rfl)) hb.size hb.block (λb hb'=>(hx b hb').imp id (·.1)) (λk b hk=>?_)⟩ (λf hf'=>?_)
 ·unfold Mu.upd at hk;split at hk
  ·injection hk with hk;cases hk
  ·exact .inl hk
 ·simp only[List.mem_singleton]at hf';subst hf';exact⟨v,Mu.upd_same _ _ _,by rw[hF];exact hr⟩
theorem gM (hc:Ctx c P ty nt){g:Nat}{avs:List AV}{all:Array Oper}{i:Nat}{k:List KI}{rs:List RV1}{R:RV}(hg:aB P g)(hs:fD P g rs R)(ha:pP K avs rs)(av:AV)(n:Nat)
  (h:∀F,F=lR R->Goal c (KF.at S.hp.length F::K) (run ty nt (KF.at S.hp.length F::K) n (.ops all (i+1)::k) (S.putO (eX all i) av (some .e) S.ow) []))(hav:R.av S.hp.length=av:=by exact rfl):Goal c K ⟨.cal g avs all i::k,S,[]⟩:=by
 subst hav;exact .mk0 (aAk (Kn:=[KF.at S.hp.length (lR R)]) (λo n0 D ho hD _=>aJc rfl ho hD (hc.hP▸hg) (hc.hP▸hs) ha) (dX hc n (h _ rfl)))
theorem jN (hc:Ctx c P ty nt){g:Nat}{avs:List AV}{all:Array Oper}{i n0:Nat}{K0:List KF}{k:List KI}{rs:List RV1}{R:RV}(hg:aB P g)(hs:fD P g rs R)(ha:pP K avs rs)(av:AV)(n:Nat)
  (h:∀F,F=lR R->Goal c (KF.at S.hp.length F::K) (run ty nt (KF.at S.hp.length F::K) n (.dops all (i+1) n0 K0::k) (S.putO (eX all i) av (some .e) S.ow) []))(hav:R.av S.hp.length=av:=by exact rfl):Goal c K ⟨.dcal g avs all i n0 K0::k,S,[]⟩:=by
 subst hav;exact .mk0 (uO (Kn:=[KF.at S.hp.length (lR R)]) (λo D ho hD=>aJc rfl ho hD (hc.hP▸hg) (hc.hP▸hs) ha) (dX hc n (h _ rfl)))
def aEt:Nat->List RV1->List AV
 | _,[]=>[]
 | k,r::rs=>r.av k 0::aEt (k+1) rs
def nH:Nat->List VF->List KF
 | _,[]=>[]
 | k,F::Fs=>KF.at k F::nH (k+1) Fs
def aC9:List VF->List RV1->Prop
 | [],[]=>True
 | F::Fs,r::rs=>F=lR (.sg r)/\aC9 Fs rs
 | _,_=>False
theorem aJ5:∀(rs:List RV1) (k j:Nat),(aEt k rs)[j]?=(rs[j]?).map λr=>r.av (k+j) 0
 | [],k,j=>by simp[aEt]
 | r::rs,k,0=>by simp[aEt]
 | r::rs,k,j+1=>by simp only[aEt,List.getElem?_cons_succ,aJ5 rs (k+1) j];congr 2;funext r;congr 1;omega
theorem aA8:∀(rs:List RV1) (k:Nat),(aEt k rs).length=rs.length
 | [],_=>rfl
 | r::rs,k=>by simp[aEt,aA8 rs (k+1)]
theorem aJ6:∀(Fs:List VF) (rs:List RV1) (k:Nat),aC9 Fs rs->∀f,f∈nH k Fs->∃j r,rs[j]?=some r/\f=KF.at (k+j) (lR (.sg r))
 | [],_,k,_,f,hf=>by cases hf
 | F::Fs,r::rs,k,h,f,hf=>by
  rcases List.mem_cons.1 hf with e | e
  ·exact⟨0,r,rfl,by rw[e,h.1];rfl⟩
  ·obtain⟨j,r',h1,h2⟩:=aJ6 Fs rs (k+1) h.2 f e;exact⟨j+1,r',by simpa using h1,by rw[h2,show k+1+j=k+(j+1) by omega]⟩
 | _::_,[],_,h,_,_=>h.elim
theorem wJ:∀{rs:List RV1} {vs:List Value},kD rs vs X w->∀(j:Nat) (r:RV1),rs[j]?=some r->∃v,vs[j]?=some v/\r.p v X w
 | [],[],_,j,r,hj=>by simp at hj
 | d::rs,v::vs,h,0,r,hj=>by simp at hj;subst hj;exact⟨v,rfl,h.1⟩
 | d::rs,v::vs,h,j+1,r,hj=>by simp at hj |-;exact wJ h.2 j r hj
 | [],_::_,h,_,_,_=>h.elim
 | _::_,[],h,_,_,_=>h.elim
theorem pY:∀{rs:List RV1} {vs:List Value},kD rs vs X w->vs.length=rs.length
 | [],[],_=>rfl
 | d::rs,v::vs,h=>by simp[pY h.2]
 | [],_::_,h=>h.elim
 | _::_,[],h=>h.elim
theorem aBb:∀(l:List Value) (i t:Nat) (v:Value),l[t]?=some v->look (oY i (l.map AV.q)) (i+t)=some (.q v)
 | [],i,t,v,h=>by simp at h
 | u::l,i,0,v,h=>by simp at h;subst h;simp[oY,look]
 | u::l,i,t+1,v,h=>by
  simp at h;have:=aBb l (i+1) t v h;rw[show i+1+t=i+(t+1) by omega]at this;simp only[List.map_cons,oY];rw[bE zW];exact this
theorem aOm:∀(l:List Value),aF hJ (l.map AV.q)=some l
 | []=>rfl
 | v::l=>by simp only[List.map_cons,aF,aD,aOm l]
def aWz:List Value->List RV1->List KF
 | v::vs,r::rs=>KF.cst v (lR (.sg r))::aWz vs rs
 | _,_=>[]
theorem aS2:∀{args:List Value} {rs:List RV1},kD rs args X w->∀f,f∈aWz args rs->f.p X μ w
 | [],[],_,f,hf=>by cases hf
 | v::vs,r::rs,h,f,hf=>by
  rcases List.mem_cons.1 hf with e | e
  ·subst e;exact h.1
  ·exact aS2 h.2 f e
 | [],_::_,h,_,_=>h.elim
 | _::_,[],h,_,_=>h.elim
theorem aFl:∀{args:List Value} {rs:List RV1},args.length=rs.length->(∀f,f∈aWz args rs->f.p X μ w)->kD rs args X w
 | [],[],_,_=>trivial
 | v::vs,r::rs,hl,h=>⟨h _ (.head _),aFl (by simpa using hl) (λf hf=>h f (.tail _ hf))⟩
theorem bC2 {args:List Value}{rs:List RV1}{K0:List KF}(H:Sim c K0 ⟨oY 0 (args.map AV.q),[],[]⟩ X μ a w)(hp:kD rs args X w)(Fs:List VF)(hF:aC9 Fs rs):
  Sim c (nH 0 Fs) ⟨oY 0 (aEt 0 rs),List.replicate rs.length .e,[]⟩ X (λk=>(args[k]?).map MV.val) a w:=by
 have P:=H.toP
 have hlen:=pY hp
 refine⟨⟨P.dfr,P.size,?_,?_,?_,?_,?_,P.xlt,P.xnew,P.xold,P.bel,?_,OwnOk.nil _ _ _ _⟩,?_⟩
 ·intro t av _ ht;obtain⟨_,h2⟩:=nZ _ _ _ _ ht;rw[Nat.sub_zero,aJ5]at h2;cases hr:rs[t]? with
  | none=>rw[hr]at h2;cases h2
  | some r=>
   rw[hr]at h2;simp only[Option.map_some,Option.some.injEq,Nat.zero_add]at h2;subst h2;obtain⟨v,q1,q2⟩:=wJ hp t r hr;have hl:=aBb args 0 t v q1;rw[Nat.zero_add]at hl;obtain⟨u,e1,e2⟩:=P.slots t _ trivial hl;simp only[aD,Option.some.injEq]at e1;subst e1;exact⟨v,aPi (R:=.sg r) (by simp[q1]) q2,e2⟩
 ·intro k blk m hk hm;simp only[Option.map_eq_some_iff]at hm;obtain⟨v,_,rfl⟩:=hm;rw[List.getElem?_replicate]at hk;split at hk
  ·injection hk with hk;subst hk;exact trivial
  ·cases hk
 ·intro k hk;simp only[List.length_replicate]at hk;exact⟨.val args[k],by simp[List.getElem?_eq_getElem (show k<args.length by omega)]⟩
 ·intro k k' b h1 h2;simp only[Option.map_eq_some_iff]at h1;obtain⟨v,_,h⟩:=h1;cases h
 ·intro k b h1;simp only[Option.map_eq_some_iff]at h1;obtain⟨v,_,h⟩:=h1;cases h
 ·intro f hf;obtain⟨j,r,h1,rfl⟩:=aJ6 Fs rs 0 hF f hf;obtain⟨v,q1,q2⟩:=wJ hp j r h1;exact⟨v,by simp[q1],q2⟩
 ·intro k hk;simp only[List.length_replicate]at hk;simp[List.getElem?_eq_none (show args.length<=k by omega)]
theorem fU (hm:P.follows .mixedOrders=true)(tok:∀t i,ty t=some i->TyOk P t i){g:Nat}{fn:Func}{code:Code}{rs:List RV1}{R:RV}
  (hf:P.funcs[g]?=some fn) (hb:fn.body=some code) (hn:Nat.ble rs.length fn.ntmps=true) (hnt:fn.ntmps=nt) (Fs:List VF) (hF:aC9 Fs rs)
  (h:∀(c:Cx) (G:VF),G=lR R->Ctx c P ty nt->aIl c fn G->Goal c (nH 0 Fs) ⟨[.code code],⟨oY 0 (aEt 0 rs),List.replicate rs.length .e,[]⟩,[]⟩):fD P g rs R:=by
 intro args X w hx hp;have hlen:=pY hp;refine bJ (K:=aWz args rs) hm tok (args.map AV.q) hf hb (aOm args) (by rw[hlen];exact lbl hn) hnt hx (aS2 hp) λc hc hR=>?_;have h':=(h c _ rfl hc hR).so;refine .mk0 (λX' μ a w' H=>?_);exact h' X' _ a w' (bC2 H (aFl hlen H.toP.kf) Fs hF)
def aNu (K:List KF):AV->RV->Prop
 | .t l,.tp rs=>pP K l rs
 | a,.sg r=>sF K a r
 | _,_=>False
theorem aNu.ok (hK:∀f,f∈K->f.p X μ w){av:AV}{R:RV}{v:Value}(h:aNu K av R)(hv:aD μ av=some v):R.p v X w:=by
 cases R with
 | sg r=>
  have h:sF K av r:=by cases av<;>exact h
  exact sF.ok hK h hv
 | tp rs=>
  cases av with
  | t l=>
   obtain⟨vs,h1,rfl⟩:=rJ hv;exact⟨vs,rfl,pP.ok hK h h1⟩
  | _=>exact h.elim
theorem dL (hc:Ctx c P ty nt){fn:Func}{G:VF}{R:RV}(hG:G=lR R)(hR:aIl c fn G){av:AV}(h:nC ty S fn.results.toList=some av)(hr:aNu K av R):Goal c K ⟨[],S,[]⟩:=by
 subst hG;exact bB hc hR h λX μ a w v H hv=>hr.ok H.toP.kf hv
end
end Go.Ai
