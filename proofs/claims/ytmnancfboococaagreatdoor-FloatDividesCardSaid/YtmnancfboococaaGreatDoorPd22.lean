/- Part 23: lemmas for garboardlaw17.FloatDivides -/
import Derived.Test.YtmnancfboococaaGreatDoorPd21
set_option linter.all false
namespace Go.Ai
open Go Go.Proofs Go.Num
theorem aXl:aB PP 162:=zK
theorem oby {v:Value}{X:Nat->Prop}{w:World}{n m:Nat}(hm0:0<m)(hm1:m<1000000000)(hbn:(aC n).length<=2^39)(hX:∀b,X b->b<w.heap.size)(hv:(aJ n).p v X w):
  Fn PP 162 [v,.int .u32 (m:Int)] X w (iT (aJ (n/m)) (dN (.int .u32 (n%m:Nat)))):=by
 have hmI:0<(m:Int)/\(m:Int)<1000000000:=zW
 obtain⟨R1,hR1⟩:∃R,R=aJ (n/m):=⟨_,rfl⟩;obtain⟨R2,hR2⟩:∃R,R=dN (.int .u32 (n%m:Nat)):=⟨_,rfl⟩;obtain⟨R,hRR⟩:=nm (iT (aJ (n/m)) (dN (.int .u32 (n%m:Nat))));obtain⟨K,hK⟩:=nm ([KF.cst v (aJ n)]);rw[<-hRR];refine bE mixed tok [.q v,.i .u32 (.n m)] (K:=K) Tryz.func162 rfl rfl (lbl rfl) rfl hX (by subst hK;simp;exact hv) λc hc hR=>?_;refine cV 0 .u32 (aC n) rfl rfl (λX μ a w v' H hv'=>bZ H (by simp[hK]) hv') λf N cap hN hf cR=>?_;have hfw:∀i,i<N->f i=(aC n).getD i 0:=λi hi=>by
  have:=List.getElem?_eq_getElem (l:=aC n) (i:=i) zW
  rw[hf i _ this,List.getD_eq_getElem?_getD,this];rfl
 have hbN:N<=2^39:=zW
 have kf:∀q,kQ q K K:=λq=>by subst hK;exact⟨⟨.head _,KFr.cst _ _ _⟩,trivial⟩
 have cS:∀(kd:IntKind) (e:IE) (z:Int),e.den=z->lo kd<=z/\z<=hi kd->(Obl.inR kd e).ok:=λkd e z he hz=>by show _/\_;rw[he];exact hz
 have q0:(Obl.inR .i64 ((IE.n N).sub (IE.l 1))).ok:=cS _ _ ((N:Int) - 1) rfl zX
 apply zN hc;cbv;refine qS hc _ .u32 cF ?_ ?_ ?_ (λT z hT hz=>?_)
 ·simp only[IE.den];omega
 ·simp only[IE.den];omega
 ·simp only[IE.den];omega
 have hT:T=N:=by simp only[IE.den]at hT;omega
 subst hT;have hz0:z=List.replicate (aC n).length 0:=by rw[hz,hN]
 have dv0:Dv n m T z 0:=by rw[hz0,hN];exact Dv.init zW
 apply zN hc;cbv;refine aP hc ⟨q0,trivial⟩ ?_;let ι:={x:Nat × List Int × Int//Dv n m x.1 x.2.1 x.2.2/\x.1<=T};let I:ι->St:=λx=>⟨[(0,.sl 0 0 (.n T) cap),(1,.i .u32 (.n m)),(6,.sl 1 0 (.n T) T),(7,.i .u64 (.v x.1.2.2)),(8,.i .i64 (.sub (.n x.1.1) (.l 1)))],[.xi .u32 T f,.r 138 .u32 x.1.2.1],[]⟩
 let x0:ι:=⟨(T,z,0),dv0,lRf _⟩
 refine zU 2 (S':=I x0) (K':=K) zL (kf _) trivial ?_;refine bQ hc I (λx=>x.1.1) x0 100 ?_;rintro p ⟨⟨k,out,rest⟩,hD,hk⟩ hy;simp only at hD hk;have hlen:=hD.len;have hrs:=hD.r;cbv;refine aE rfl 100 (λh=>?_) (λh=>?_)
 ·have h:(0:Int)<=(k:Int) - 1:=BE.le_t h
  obtain⟨q,hq⟩:∃q,q+1=k:=⟨k - 1,zW⟩;have hqT:q<T:=zW;have hqk:q<k:=zW;have hga:=bA (bF n) q;obtain⟨ga,gW⟩:=nm ((aC n).getD q 0);rw[<-gW]at hga;obtain⟨x,hx⟩:=nm (rest*1000000000+ga);obtain⟨x',hx'⟩:=nm (x/(m:Int));obtain⟨r',hr'⟩:=nm (x%(m:Int));obtain⟨hst,hb1,hb2⟩:=Dv.step (x:=x) (q:=q) (by rw[hq];exact hD) hmI.2 zW (by rw[hx,gW]);rw[<-hx']at hst hb1 hb2;rw[<-hr']at hst;have hxb:0<=x/\x<=1000000000000000000:=zW;have hix:aV 0 ((IE.n k).sub (IE.l 1)).den 1 0=q:=by simp only[aV,IE.den];omega
  have g1:(IE.fn f 0 ((IE.n k).sub (IE.l 1)) 1 0).den=ga:=by show f (aV 0 ((IE.n k).sub (IE.l 1)).den 1 0)=ga;rw[hix,hfw q hqT,gW]
  have m1:((IE.v rest).mul (IE.l 1000000000)).den=rest*1000000000:=rfl
  have a1:(((IE.v rest).mul (IE.l 1000000000)).add (IE.fn f 0 ((IE.n k).sub (IE.l 1)) 1 0)).den=x:=by show rest*1000000000+(IE.fn f 0 ((IE.n k).sub (IE.l 1)) 1 0).den=x;rw[g1,hx]
  have d1:((((IE.v rest).mul (IE.l 1000000000)).add (IE.fn f 0 ((IE.n k).sub (IE.l 1)) 1 0)).quo (IE.n m)).den=x':=by
   show(((IE.v rest).mul (IE.l 1000000000)).add (IE.fn f 0 ((IE.n k).sub (IE.l 1)) 1 0)).den.tdiv (m:Int)=x'
   rw[a1,Int.tdiv_eq_ediv_of_nonneg hxb.1,hx']
  have r1:((((IE.v rest).mul (IE.l 1000000000)).add (IE.fn f 0 ((IE.n k).sub (IE.l 1)) 1 0)).rem (IE.n m)).den=r':=by
   show(((IE.v rest).mul (IE.l 1000000000)).add (IE.fn f 0 ((IE.n k).sub (IE.l 1)) 1 0)).den.tmod (m:Int)=r'
   rw[a1,Int.tmod_eq_emod_of_nonneg hxb.1,hr']
  have p1:=cS .u64 _ _ m1 zX
  have p2:(Obl.ltE ((IE.n k).sub (IE.l 1)) (IE.n T)).ok:=by show _/\_;simp only[IE.den];omega
  have p3:(Obl.ix 0 ((IE.n k).sub (IE.l 1)) 1 0 1 T).ok:=by show _<=_;rw[hix];omega
  have p4:=cS .u64 _ _ g1 zX
  have p5:=cS .u64 _ _ a1 zX
  have nzm:(Obl.nz (IE.n m)).ok:=by show(m:Int)≠0;omega
  have pm:(Obl.inR .u64 (.n m)).ok:=cS _ _ (m:Int) rfl zX
  have p6:=cS .u64 _ _ d1 zX
  have p7:=cS .u32 _ _ d1 zX
  have hlt:aV 0 ((IE.n k).sub (IE.l 1)).den 1 0<out.length:=by rw[hix,hlen];omega
  have p8:(Obl.inR .i64 (((IE.n k).sub (IE.l 1)).sub (IE.l 1))).ok:=cS _ _ ((k:Int) - 1 - 1) rfl zX
  have s1:(((IE.n k).sub (IE.l 1)).sub (IE.l 1)).den=((IE.n q).sub (IE.l 1)).den:=by simp only[IE.den];omega
  have bAf:q<=T:=zW
  cbv;refine zO ?_;refine jF hc _ (r:=(1,138,.u32,out,aV 0 ((IE.n k).sub (IE.l 1)).den 1 0,((((IE.v rest).mul (IE.l 1000000000)).add (IE.fn f 0 ((IE.n k).sub (IE.l 1)) 1 0)).quo (IE.n m)))) hlt (λl' hl'=>?_);have hl':l'=out.set q x':=by rw[hl',<-hix,<-d1]
  have hst:Dv n m q l' r':=by rw[hl'];exact hst
  apply zN hc;cbv;refine zO ?_;refine zU 2 (S':=I ⟨(q,l',r'),hst,bAf⟩) (K':=K) ⟨zS,zS,zS,zI rfl rfl r1,zI rfl rfl s1,trivial⟩ (kf _) trivial (hy _ hqk)
 ·have h:¬(0:Int)<=(k:Int) - 1:=BE.le_f h
  have hk0:k=0:=zW
  have hD:Dv n m 0 out rest:=by rw[<-hk0];exact hD
  obtain⟨e1,e2⟩:=hD.done;have hlb:out.length<=2^40:=zW;have kL:out.length=T:=by rw[hlen,hN]
  have hrm:=Int.lt_trans hrs.2 hmI.2
  have pr:(Obl.inR .u32 (.v rest)).ok:=cS _ _ rest rfl (by simp only[lo,hi];exact⟨hrs.1,zW⟩)
  have hr2:rest=((n%m:Nat):Int):=by rw[<-e2];exact(Int.toNat_of_nonneg hrs.1).symm
  cbv;refine pO 1 rfl (λg N' hN' hg=>?_);refine dO (R:=R1) hc lH (λn0 D X μ a w aK H aI=>?_) 100 ?_
  ·obtain⟨v1,rfl,h1⟩:=aX aI;have h2:=H.row (l:=out) rfl h1 (by rw[kL];rfl) (λj y hj=>by rw[Nat.zero_add];exact hg j y hj) zW zW;rw[hR1,<-e1];exact gI hD.wd hlb H.xlt h2
  cbv;refine zO ?_;refine aR hc hR rfl (λX μ a w v H hv=>?_);simp only[aD]at hv;split at hv
  ·rename_i vs hvs;injection hv with hv
   obtain⟨v1,v2,rfl,h1,h2⟩:=bD hvs;have k1:=H.toP.val (k:=2) (R:=R1) (.head _) h1;simp only[aD,IE.den]at h2;injection h2 with h2
   rw[hRR,<-hv];exact⟨v1,v2,rfl,by rw[hR1]at k1;exact k1,by rw[<-h2,hr2];rfl⟩
  ·cases hv
theorem nG:aB PP 64:=zK
theorem vD {v u:Value}{X:Nat->Prop}{w:World}{n m:Nat}(hbn:(aC n).length<=2^39)(hbm:(aC m).length<=2^39)(hX:∀b,X b->b<w.heap.size)(hv:(aJ n).p v X w)(hu:(aJ m).p u X w):
  Fn PP 64 [v,u] X w (aJ (n*m)):=by
 obtain⟨R,hRR⟩:=nm (aJ (n*m));obtain⟨K,hK⟩:=nm ([KF.cst v (aJ n),KF.cst u (aJ m)]);rw[<-hRR];refine bE mixed tok [.q v,.q u] (K:=K) Tryz.func64 rfl rfl (lbl rfl) rfl hX (by subst hK;simp;exact⟨hv,hu⟩) λc hc hR=>?_;refine cV 0 .u32 (aC n) rfl rfl (λX μ a w v' H hv'=>bZ H (by simp[hK]) hv') λf N cap hN hf cR=>?_;refine cV 1 .u32 (aC m) rfl rfl (λX μ a w v' H hv'=>bZ H (by simp[hK]) hv') λf' M aS hM hf' gO=>?_;have hfw:∀i,i<N->f i=(aC n).getD i 0:=λi hi=>by
  have:=List.getElem?_eq_getElem (l:=aC n) (i:=i) zW
  rw[hf i _ this,List.getD_eq_getElem?_getD,this];rfl
 have aB6:∀i,i<M->f' i=(aC m).getD i 0:=λi hi=>by
  have:=List.getElem?_eq_getElem (l:=aC m) (i:=i) zW
  rw[hf' i _ this,List.getD_eq_getElem?_getD,this];rfl
 have hbN:N<=2^39:=zW
 have hbM:M<=2^39:=zW
 have kf:∀q,kQ q K K:=λq=>by subst hK;exact⟨⟨.head _,KFr.cst _ _ _⟩,⟨.tail _ (.head _),KFr.cst _ _ _⟩,trivial⟩
 have cS:∀(kd:IntKind) (e:IE) (z:Int),e.den=z->lo kd<=z/\z<=hi kd->(Obl.inR kd e).ok:=λkd e z he hz=>by show _/\_;rw[he];exact hz
 have nz:(Obl.nz (IE.l 1000000000)).ok:=by show _≠_;simp[IE.den]
 have q0:(Obl.inR .i64 ((IE.n N).add (IE.n M))).ok:=cS _ _ ((N:Int)+M) rfl zX
 have bDi:N=0\/M=0->∀{X:Nat->Prop} {w:World},(lX .u32 (aC (n*m))).p (.slice none 0 0) X w:=λh X w=>by
  have e:n*m=0:=by
   rcases h with h | h
   ·have:n=0:=by
     apply Classical.byContradiction;intro hn;have:=bY hn;rw[this]at hN;simp at hN;omega
    rw[this,Nat.zero_mul]
   ·have:m=0:=by
     apply Classical.byContradiction;intro hn;have:=bY hn;rw[this]at hM;simp at hM;omega
    rw[this,Nat.mul_zero]
  rw[e,bS];exact⟨none,0,rfl,zA,rfl,rfl⟩
 have fnil:N=0\/M=0->∀{X:Nat->Prop} {w:World} {μ:Mu} {v:Value},aD μ (.xs none 0 0)=some v->R.p v X w:=λh X w μ v hv=>by
  simp only[aD]at hv;injection hv with hv
  rw[hRR,<-hv];exact bDi h
 apply zN hc;cbv;refine bV 13 rfl rfl 100 (λh=>?_) (λh=>?_)
 ·have h0:N=0:=by have:=of_decide_eq_true (show decide ((N:Int)=0)=true from h);omega
  cbv;exact aR hc hR rfl (λX μ a w v H hv=>fnil (.inl h0) (μ:=μ) hv)
 cbv;refine aE rfl 100 (λh=>?_) (λh=>?_)
 ·have h0:M=0:=by have:=of_decide_eq_true (show decide ((M:Int)=0)=true from h);omega
  cbv;exact aR hc hR rfl (λX μ a w v H hv=>fnil (.inr h0) (μ:=μ) hv)
 cbv;refine aP hc ⟨q0,trivial⟩ ?_;refine qS hc _ .u32 cF ?_ ?_ ?_ (λT z hT hz=>?_)
 ·simp only[IE.den];omega
 ·simp only[IE.den];omega
 ·simp only[IE.den];omega
 have hT:T=N+M:=by simp only[IE.den]at hT;omega
 have hz0:z=List.replicate ((aC n).length+(aC m).length) 0:=by rw[hz,hT,hN,hM]
 have mul0:Mul n m 0 0 z 0:=by rw[hz0];exact Mul.init
 apply zN hc;cbv;let ι:={x:Nat × List Int//Mul n m x.1 0 x.2 0/\x.1<=N};let I:ι->St:=λx=>⟨[(0,.sl 0 0 (.n N) cap),(1,.sl 1 0 (.n M) aS),(5,.sl 2 0 (.n T) T),(6,.i .i64 (.n x.1.1))],[.xi .u32 N f,.xi .u32 M f',.r 138 .u32 x.1.2],[]⟩
 let x0:ι:=⟨(0,z),mul0,Nat.zero_le _⟩
 refine zU 3 (S':=I x0) (K':=K) zL (kf _) trivial ?_;refine bQ hc I (λx=>N - x.1.1) x0 100 ?_;rintro p ⟨⟨i,out⟩,hMu,aSd⟩ hy;simp only at hMu aSd;have hlen:=hMu.len;cbv;refine aE rfl 100 (λh=>?_) (λh=>?_)
 ·have h:(i:Int)<(N:Int):=BE.lt_t h
  have hiN:i<N:=Int.ofNat_lt.1 h
  have hga:=bA (bF n) i
  obtain⟨ga,gW⟩:=nm ((aC n).getD i 0);rw[<-gW]at hga;have hix:aV 0 (IE.n i).den 1 0=i:=by simp only[aV,IE.den];omega
  have g1:(IE.fn f 0 (IE.n i) 1 0).den=ga:=by show f (aV 0 (IE.n i).den 1 0)=ga;rw[hix,hfw i hiN,gW]
  have o1:(Obl.ltE (IE.n i) (IE.n N)).ok:=by show _/\_;simp only[IE.den];omega
  have o2:(Obl.ix 0 (IE.n i) 1 0 1 N).ok:=by show _<=_;rw[hix];omega
  let κ:={x:Nat × List Int × Int//Mul n m i x.1 x.2.1 x.2.2/\x.1<=M}
  let J:κ->St:=λx=>⟨[(0,.sl 0 0 (.n N) cap),(1,.sl 1 0 (.n M) aS),(5,.sl 2 0 (.n T) T),(6,.i .i64 (.n i)),(7,.i .u64 (.v x.1.2.2)),(8,.i .i64 (.n x.1.1))],[.xi .u32 N f,.xi .u32 M f',.r 138 .u32 x.1.2.1],[]⟩
  let y0:κ:=⟨(0,out,0),hMu,Nat.zero_le _⟩
  cbv;refine zU 3 (S':=J y0) (K':=K) zL (kf _) trivial ?_;refine bQ hc J (λx=>M - x.1.1) y0 100 ?_;rintro p' ⟨⟨k,ot,cr⟩,hMk,hk⟩ hyk;simp only at hMk hk;have hlk:=hMk.len;have hcr:=hMk.c;cbv;refine aE rfl 100 (λh=>?_) (λh=>?_)
  ·have h:(k:Int)<(M:Int):=BE.lt_t h
   have hkM:k<M:=Int.ofNat_lt.1 h
   have hgb:=bA (bF m) k
   obtain⟨gb,lQ⟩:=nm ((aC m).getD k 0);rw[<-lQ]at hgb;have hog:=bA hMk.wd (i+k);obtain⟨og,aB8⟩:=nm (ot.getD (i+k) 0);rw[<-aB8]at hog;obtain⟨pr,hpr⟩:=nm (ga*gb);have bDp:0<=pr/\pr<=999999999*999999999:=by
    rw[hpr];exact⟨Int.mul_nonneg hga.1 hgb.1,Int.mul_le_mul zW zW hgb.1 zW⟩
   obtain⟨x2,hx2⟩:=nm (cr+(pr+og));have aDj:0<=x2/\x2<=999999998000000001+1999999998:=zW;obtain⟨c0,hc0⟩:=nm (x2/1000000000);obtain⟨k',hk'⟩:=nm (k+1);have hst:=hMk.step (x:=x2) zW zW (by rw[hx2,hpr,gW,lQ,aB8]);rw[<-hc0,<-hk']at hst;have aId:aV 0 (IE.n k).den 1 0=k:=by simp only[aV,IE.den];omega
   have hik:aV 0 ((IE.n i).add (IE.n k)).den 1 0=i+k:=by simp only[aV,IE.den];omega
   have g2:(IE.fn f' 0 (IE.n k) 1 0).den=gb:=by show f' (aV 0 (IE.n k).den 1 0)=gb;rw[aId,aB6 k hkM,lQ]
   have g3:(IE.nth ot 0 ((IE.n i).add (IE.n k)) 1 0).den=og:=by show ot.getD (aV 0 ((IE.n i).add (IE.n k)).den 1 0) 0=og;rw[hik,aB8]
   have m1:((IE.fn f 0 (IE.n i) 1 0).mul (IE.fn f' 0 (IE.n k) 1 0)).den=pr:=by show(IE.fn f 0 (IE.n i) 1 0).den*(IE.fn f' 0 (IE.n k) 1 0).den=pr;rw[g1,g2,hpr]
   have a1:((IE.nth ot 0 ((IE.n i).add (IE.n k)) 1 0).add ((IE.fn f 0 (IE.n i) 1 0).mul (IE.fn f' 0 (IE.n k) 1 0))).den=pr+og:=by show(IE.nth ot 0 ((IE.n i).add (IE.n k)) 1 0).den+((IE.fn f 0 (IE.n i) 1 0).mul (IE.fn f' 0 (IE.n k) 1 0)).den=_;rw[m1,g3];omega
   have a2:(((IE.nth ot 0 ((IE.n i).add (IE.n k)) 1 0).add ((IE.fn f 0 (IE.n i) 1 0).mul (IE.fn f' 0 (IE.n k) 1 0))).add (IE.v cr)).den=x2:=by show((IE.nth ot 0 ((IE.n i).add (IE.n k)) 1 0).add ((IE.fn f 0 (IE.n i) 1 0).mul (IE.fn f' 0 (IE.n k) 1 0))).den+cr=_;rw[a1,hx2];omega
   have r1:((((IE.nth ot 0 ((IE.n i).add (IE.n k)) 1 0).add ((IE.fn f 0 (IE.n i) 1 0).mul (IE.fn f' 0 (IE.n k) 1 0))).add (IE.v cr)).rem (IE.l 1000000000)).den=x2%1000000000:=by
    show(((IE.nth ot 0 ((IE.n i).add (IE.n k)) 1 0).add ((IE.fn f 0 (IE.n i) 1 0).mul (IE.fn f' 0 (IE.n k) 1 0))).add (IE.v cr)).den.tmod 1000000000=_
    rw[a2,Int.tmod_eq_emod_of_nonneg aDj.1]
   have d1:((((IE.nth ot 0 ((IE.n i).add (IE.n k)) 1 0).add ((IE.fn f 0 (IE.n i) 1 0).mul (IE.fn f' 0 (IE.n k) 1 0))).add (IE.v cr)).quo (IE.l 1000000000)).den=c0:=by
    show(((IE.nth ot 0 ((IE.n i).add (IE.n k)) 1 0).add ((IE.fn f 0 (IE.n i) 1 0).mul (IE.fn f' 0 (IE.n k) 1 0))).add (IE.v cr)).den.tdiv 1000000000=_
    rw[a2,Int.tdiv_eq_ediv_of_nonneg aDj.1,hc0]
   have p0:=cS .u64 _ _ g1 zX
   have p1:(Obl.ltE (IE.n k) (IE.n M)).ok:=by show _/\_;simp only[IE.den];omega
   have p2:(Obl.ix 0 (IE.n k) 1 0 1 M).ok:=by show _<=_;rw[aId];omega
   have p3:(Obl.inR .u64 (IE.v ga)).ok:=cS _ _ ga rfl zX
   have p4:=cS .u64 _ _ g2 zX
   have p5:=cS .u64 _ _ m1 zX
   have p6:(Obl.inR .i64 ((IE.n i).add (IE.n k))).ok:=cS _ _ ((i:Int)+k) rfl zX
   have p7:(Obl.ltE ((IE.n i).add (IE.n k)) (IE.n T)).ok:=by show _/\_;simp only[IE.den];omega
   have hlt:aV 0 ((IE.n i).add (IE.n k)).den 1 0<ot.length:=by rw[hik,hlk];omega
   have bHi:(Obl.ix 0 ((IE.n i).add (IE.n k)) 1 0 1 ot.length).ok:=hlt
   have p9:=cS .u64 _ _ g3 zX
   have p10:=cS .u64 _ _ a1 zX
   have p11:=cS .u64 _ _ a2 zX
   have p12:=cS .u32 _ _ r1 zX
   have p13:=cS .u64 _ _ d1 zX
   have p14:(Obl.inR .i64 ((IE.n k).add (IE.l 1))).ok:=cS _ _ ((k:Int)+1) rfl zX
   have s1:((IE.n k).add (IE.l 1)).den=(IE.n k').den:=by simp only[IE.den,hk'];omega
   have aSe:k'<=M:=zW
   have hmk:M - k'<M - k:=zW
   cbv;refine zO ?_;refine cM hc _ 0 ?_;cbv;refine zE ?_;cbv;refine zO ?_;refine jF hc _ (r:=(2,138,.u32,ot,aV 0 ((IE.n i).add (IE.n k)).den 1 0,((((IE.nth ot 0 ((IE.n i).add (IE.n k)) 1 0).add ((IE.fn f 0 (IE.n i) 1 0).mul (IE.fn f' 0 (IE.n k) 1 0))).add (IE.v cr)).rem (IE.l 1000000000)))) hlt (λl' hl'=>?_);have hl':l'=ot.set (i+k) (x2%1000000000):=by rw[hl',<-hik,<-r1]
   have hst:Mul n m i k' l' c0:=by rw[hl'];exact hst
   apply zN hc;cbv;refine zO ?_;refine zU 3 (S':=J ⟨(k',l',c0),hst,aSe⟩) (K':=K) ⟨zS,zS,zS,zS,zI rfl rfl d1,zI rfl rfl s1,trivial⟩ (kf _) trivial (hyk _ hmk)
  ·have h:¬(k:Int)<(M:Int):=BE.lt_f h
   have hkM:k=(aC m).length:=zW
   have hMk:Mul n m i (aC m).length ot cr:=by rw[<-hkM];exact hMk
   have jI:=hMk.row zW
   rw[<-hM]at jI;have hik:aV 0 ((IE.n i).add (IE.n M)).den 1 0=i+M:=by simp only[aV,IE.den];omega
   have p1:(Obl.inR .i64 ((IE.n i).add (IE.n M))).ok:=cS _ _ ((i:Int)+M) rfl zX
   have p2:(Obl.inR .u32 (IE.v cr)).ok:=cS _ _ cr rfl zX
   have p3:(Obl.ltE ((IE.n i).add (IE.n M)) (IE.n T)).ok:=by show _/\_;simp only[IE.den];omega
   have hlt:aV 0 ((IE.n i).add (IE.n M)).den 1 0<ot.length:=by rw[hik,hlk];omega
   have p4:(Obl.inR .i64 ((IE.n i).add (IE.l 1))).ok:=cS _ _ ((i:Int)+1) rfl zX
   obtain⟨i',hi'⟩:=nm (i+1);rw[<-hi']at jI;have s1:((IE.n i).add (IE.l 1)).den=(IE.n i').den:=by simp only[IE.den,hi'];omega
   have aDg:i'<=N:=zW
   have hmi:N - i'<N - i:=zW
   cbv;refine zO ?_;refine jF hc _ (r:=(2,138,.u32,ot,aV 0 ((IE.n i).add (IE.n M)).den 1 0,IE.v cr)) hlt (λl' hl'=>?_);have hl':l'=ot.set (i+M) cr:=by rw[hl',<-hik];rfl
   have jI:Mul n m i' 0 l' 0:=by rw[hl'];exact jI
   apply zN hc;cbv;refine zO ?_;refine zU 3 (S':=I ⟨(i',l'),jI,aDg⟩) (K':=K) ⟨zS,zS,zS,zI rfl rfl s1,trivial⟩ (kf _) trivial (hy _ hmi)
 ·have h:¬(i:Int)<(N:Int):=BE.lt_f h
  have hiN:i=(aC n).length:=zW
  have hMu:Mul n m (aC n).length 0 out 0:=by rw[<-hiN];exact hMu
  have sG:=hMu.done
  have kL:out.length=T:=by rw[hlen,hT,hN,hM]
  have hlb:out.length<=2^40:=zW
  cbv;refine pO 2 rfl (λg N' hN' hg=>?_);refine dO (R:=R) hc lH (λn0 D X μ a w aK H aI=>?_) 100 ?_
  ·obtain⟨v1,rfl,h1⟩:=aX aI;have h2:=H.row (l:=out) rfl h1 (by rw[kL];rfl) (λj y hj=>by rw[Nat.zero_add];exact hg j y hj) zW zW;rw[hRR,<-sG];exact gI hMu.wd hlb H.xlt h2
  cbv;exact aR hc hR rfl (λX μ a w v H hv=>H.toP.val (k:=3) (R:=R) (.head _) hv)
theorem aVc:aB PP 126:=zK
theorem aMk:aB PP 125:=zK
theorem bD6 {X:Nat->Prop}{w:World}{x:Int}(hX:∀b,X b->b<w.heap.size)(h0:0<=x)(h1:x<18446744073709551616):Fn PP 126 [.int .u64 x] X w (aJ x.toNat):=by
 obtain⟨R,hRR⟩:=nm (aJ x.toNat);rw[<-hRR];obtain⟨y,hy⟩:=nm (x/1000000000);have e1:x.tmod 1000000000=x%1000000000:=Int.tmod_eq_emod_of_nonneg h0;have e2:x.tdiv 1000000000=y:=by rw[hy];exact Int.tdiv_eq_ediv_of_nonneg h0
 have hy0:0<=y/\y<18446744074:=zW
 have e3:y.tmod 1000000000=y%1000000000:=Int.tmod_eq_emod_of_nonneg hy0.1
 have e4:y.tdiv 1000000000=y/1000000000:=Int.tdiv_eq_ediv_of_nonneg hy0.1
 have cS:∀(kd:IntKind) (e:IE) (z:Int),e.den=z->lo kd<=z/\z<=hi kd->(Obl.inR kd e).ok:=λkd e z he hz=>by show _/\_;rw[he];exact hz
 have nz:(Obl.nz (IE.l 1000000000)).ok:=by show _≠_;simp[IE.den]
 have d1:(IE.rem (.v x) (.l 1000000000)).den=x%1000000000:=e1
 have d2:(IE.quo (.v x) (.l 1000000000)).den=y:=e2
 have d3:(IE.rem (.quo (.v x) (.l 1000000000)) (.l 1000000000)).den=y%1000000000:=by show(IE.quo (.v x) (.l 1000000000)).den.tmod 1000000000=_;rw[d2,e3]
 have d4:(IE.quo (.quo (.v x) (.l 1000000000)) (.l 1000000000)).den=y/1000000000:=by show(IE.quo (.v x) (.l 1000000000)).den.tdiv 1000000000=_;rw[d2,e4]
 have p1:=cS .u32 _ _ d1 zX
 have p2:=cS .u64 _ _ d2 zX
 have p3:=cS .u32 _ _ d3 zX
 have p4:=cS .u64 _ _ d4 zX
 have p5:=cS .u32 _ _ d4 zX
 have hl:Wd [x%1000000000,y%1000000000,y/1000000000]:=Wd.mk zW (Wd.mk zW (Wd.mk zW Wd.nil))
 have hv:val [x%1000000000,y%1000000000,y/1000000000]=x:=by simp only[val];omega
 refine bE mixed tok [.i .u64 (.v x)] (K:=[]) Tryz.func126 rfl rfl (lbl rfl) rfl hX (λf hf=>by cases hf) λc hc hR=>?_;apply zN hc;cbv;refine zO ?_;refine yJ 0 .u32 rfl rfl rfl λf hf=>?_;have f0:=(hf 0 _ rfl).trans d1;have f1:=(hf 1 _ rfl).trans d3;have f2:=(hf 2 _ rfl).trans d4;cbv;refine dO (R:=R) hc lH (λn0 D X μ a w aK H aI=>?_) 100 ?_
 ·obtain⟨v,rfl,hv'⟩:=aX aI;have h3:=H.row (l:=[x%1000000000,y%1000000000,y/1000000000]) rfl hv' rfl (λi y hy=>by
   match i,hy with
   | 0,hy=>simp at hy;subst hy;exact f0
   | 1,hy=>simp at hy;subst hy;exact f1
   | 2,hy=>simp at hy;subst hy;exact f2) (lRf _) (lRf _)
  have:=gI hl zA H.xlt h3
  rw[hv]at this;rw[hRR];exact this
 cbv;exact aR hc hR rfl (λX μ a w v H hv=>H.toP.val (k:=1) (.head _) hv)
theorem aX1 {v:Value}{X:Nat->Prop}{w:World}{n:Nat}(hbn:(aC n).length<=2)(hX:∀b,X b->b<w.heap.size)(hv:(aJ n).p v X w):
  Fn PP 125 [v] X w (dN (.int .u64 n)):=by
 obtain⟨R,hRR⟩:=nm (dN (.int .u64 n));obtain⟨K,hK⟩:=nm ([KF.cst v (aJ n)]);rw[<-hRR];have bHk:n<1000000000^2:=aT hbn;refine bE mixed tok [.q v] (K:=K) Tryz.func125 rfl rfl (lbl rfl) rfl hX (by subst hK;simp;exact hv) λc hc hR=>?_;refine cV 0 .u32 (aC n) rfl rfl (λX μ a w v' H hv'=>bZ H (by simp[hK]) hv') λf N cap hN hf cR=>?_;have hN2:N<=2:=zW;have cS:∀(kd:IntKind) (e:IE) (z:Int),e.den=z->lo kd<=z/\z<=hi kd->(Obl.inR kd e).ok:=λkd e z he hz=>by show _/\_;rw[he];exact hz
 have q0:(Obl.inR .i64 ((IE.n N).sub (IE.l 1))).ok:=cS _ _ ((N:Int) - 1) rfl zX
 have kf:kQ 1 K K:=by subst hK;exact⟨⟨.head _,KFr.cst _ _ _⟩,trivial⟩
 have hdb:∀k,val ((aC n).drop k)<1000000000^((aC n).length - k)/\0<=val ((aC n).drop k):=λk=>by
  have:=jL ((bF n).drop k)
  rw[List.length_drop]at this;exact⟨this,cH ((bF n).drop k)⟩
 have hv0:val ((aC n).drop 0)=n:=by rw[List.drop_zero,cQ]
 apply zN hc;cbv;refine aP hc ⟨q0,trivial⟩ ?_;let ι:={x:Nat × Int//x.2=val ((aC n).drop x.1)/\x.1<=N};let I:ι->St:=λx=>⟨[(0,.sl 0 0 (.n N) cap),(3,.i .u64 (.v x.1.2)),(4,.i .i64 (.sub (.n x.1.1) (.l 1)))],[.xi .u32 N f],[]⟩
 let x0:ι:=⟨(N,0),by rw[List.drop_of_length_le zW];rfl,lRf _⟩
 refine zU 1 (S':=I x0) (K':=K) zL kf trivial ?_;refine bQ hc I (λx=>x.1.1) x0 100 ?_;rintro p ⟨⟨k,z⟩,hz,hk⟩ hy;simp only at hz hk;cbv;refine aE rfl 100 (λh=>?_) (λh=>?_)
 ·have h:(0:Int)<=(k:Int) - 1:=BE.le_t h
  obtain⟨q,hq⟩:∃q,q+1=k:=⟨k - 1,zW⟩;have hqN:q<N:=zW;have hqk:q<k:=zW;have hqg:(aC n)[q]?=some (aC n)[q]:=zA;have hst:=nY hqg;rw[hq,<-hz]at hst;have hwn:=bF n (aC n)[q] (List.getElem_mem _);obtain⟨ga,hga⟩:=nm ((aC n)[q]);rw[<-hga]at hst hwn;have hix:aV 0 ((IE.n k).sub (IE.l 1)).den 1 0=q:=by simp only[aV,IE.den];omega
  have g1:(IE.fn f 0 ((IE.n k).sub (IE.l 1)) 1 0).den=ga:=by show f (aV 0 ((IE.n k).sub (IE.l 1)).den 1 0)=ga;rw[hix,hf q _ hqg,hga]
  obtain⟨z',hz'⟩:=nm (val ((aC n).drop q));rw[<-hz']at hst;have hdq:=hdb q;rw[<-hz']at hdq;have hdk:=hdb k;rw[<-hz]at hdk;have hpw:(1000000000:Int)^((aC n).length - q)<=1000000000^2:=aWj zW;have hz1:0<=z'/\z'<1000000000000000000:=zW;have hz0:0<=z/\z<1000000000000000000:=zW;have m1:((IE.v z).mul (IE.l 1000000000)).den=z*1000000000:=rfl;have a1:(((IE.v z).mul (IE.l 1000000000)).add (IE.fn f 0 ((IE.n k).sub (IE.l 1)) 1 0)).den=z':=by show z*1000000000+(IE.fn f 0 ((IE.n k).sub (IE.l 1)) 1 0).den=z';rw[g1,hst];omega
  have p1:=cS .u64 _ _ m1 zX
  have p2:(Obl.ltE ((IE.n k).sub (IE.l 1)) (IE.n N)).ok:=by show _/\_;simp only[IE.den];omega
  have p3:(Obl.ix 0 ((IE.n k).sub (IE.l 1)) 1 0 1 N).ok:=by show _<=_;rw[hix];omega
  have p4:=cS .u64 _ _ g1 zX
  have p5:=cS .u64 _ _ a1 zX
  have p8:(Obl.inR .i64 (((IE.n k).sub (IE.l 1)).sub (IE.l 1))).ok:=cS _ _ ((k:Int) - 1 - 1) rfl zX
  have s1:(((IE.n k).sub (IE.l 1)).sub (IE.l 1)).den=((IE.n q).sub (IE.l 1)).den:=by simp only[IE.den];omega
  have bF9:q<=N:=zW
  cbv;refine zO ?_;exact zU 1 (S':=I ⟨(q,z'),hz',bF9⟩) (K':=K) ⟨zS,zI rfl rfl a1,zI rfl rfl s1,trivial⟩ kf trivial (hy _ hqk)
 ·have h:¬(0:Int)<=(k:Int) - 1:=BE.le_f h
  have hk0:k=0:=zW
  have hzn:z=n:=by rw[hz,hk0,hv0]
  cbv;refine aR hc hR rfl (λX μ a w v H hv=>?_);simp only[aD,IE.den]at hv;injection hv with hv
  rw[hRR,<-hv,hzn];exact rfl
theorem pB:aB PP 72:=zK
theorem aGi (s:ByteArray)(hs:s.size<=2^60):Pure PP 72 [.string s] (.bool (isNat s.data.toList)):=by
 obtain⟨res,lS⟩:=nm (isNat s.data.toList);obtain⟨l,hl⟩:=nm (s.data.toList);rw[<-lS];rw[<-hl]at lS;have hlen:l.length=s.size:=by rw[hl];rfl
 obtain⟨n,hn⟩:=nm (l.length);have hsz:(IE.len (.v s)).den=(IE.n n).den:=by show((s.size:Nat):Int)=_;rw[hn,hlen];rfl
 refine aH mixed tok [.s (.v s)] Tryz.func72 rfl rfl rfl λc hc hR=>?_;apply zN hc;cbv;let ι:={k:Nat//k<=n/\(l.take k).all mI=true};let I:ι->St:=λx=>⟨[(0,.s (.v s)),(3,.i .i64 (.n x.1))],[],[]⟩
 let x0:ι:=⟨0,Nat.zero_le _,rfl⟩
 refine zU 0 (S':=I x0) (K':=[]) zL trivial trivial ?_;refine bQ hc I (λx=>n - x.1) x0 100 ?_;rintro p ⟨k,hk,cI⟩ hy;have uX:(BE.lt (.n k) (.len (.v s))).den=decide (k<n):=by
  show decide ((k:Int)<(IE.len (.v s)).den)=_
  rw[hsz];exact decide_eq_decide.2 (by simp only[IE.den];omega)
 cbv;refine aE rfl 100 (λh=>?_) (λh=>?_)
 ·have hkn:k<n:=of_decide_eq_true (uX.symm.trans h)
  obtain⟨k',hk'⟩:=nm (k+1);have o2:(Obl.ltE (.n k) (.len (.v s))).ok:=by show _/\_;rw[hsz];simp only[IE.den];omega
  have o3:(Obl.inR .i64 (.add (.n k) (.l 1))).ok:=by show lo _<=_/\_<=hi _;simp only[lo,hi,IE.den];omega
  have hi1:((IE.n k).add (IE.l 1)).den=(IE.n k').den:=by simp only[IE.den,hk'];omega
  have aSf:k'<=n:=zW
  have hms:n - k'<n - k:=zW
  have hkl:k<l.length:=zW
  have hno:¬mI (l.getD k 0)=true->res=false:=λh=>by rw[lS];exact aL6 hkl h
  have bAn:mI (l.getD k 0)=true->(l.take k').all mI=true:=λh=>by rw[hk'];exact aG2 hkl cI h
  have hlt:=aMd hl (i:=.n k) (k:=k) (by simp[IE.den]) 48
  have hgt:=aNd hl (i:=.n k) (k:=k) (by simp[IE.den]) 57
  cbv;refine zO ?_;refine bV 14 rfl rfl 100 (λh=>?_) (λh=>?_)
  ·have h:=of_decide_eq_true (hlt.symm.trans h)
   have hf:=hno (λhd=>by have:=uY.1 hd;omega)
   subst hf;cbv;exact bR hc hR (av:=.b (.l false)) rfl rfl
  ·have h:=of_decide_eq_false (hlt.symm.trans h)
   cbv;refine zO ?_;refine aE rfl 100 (λh2=>?_) (λh2=>?_)
   ·have h2:=of_decide_eq_true (hgt.symm.trans h2)
    have hf:=hno (λhd=>by have:=uY.1 hd;omega)
    subst hf;cbv;exact bR hc hR (av:=.b (.l false)) rfl rfl
   ·have h2:=of_decide_eq_false (hgt.symm.trans h2)
    have hd:=bAn (uY.2 ⟨zW,zW⟩)
    cbv;refine zO ?_;exact zU 0 (S':=I ⟨k',aSf,hd⟩) (K':=[]) ⟨zS,zI rfl rfl hi1,trivial⟩ trivial trivial (hy _ hms)
 ·have hkn:¬k<n:=of_decide_eq_false (uX.symm.trans h)
  have hkl:k=l.length:=zW
  have hd:(l.take l.length).all mI=true:=by rw[<-hkl];exact cI
  have hd':l.all mI=true:=by rwa [List.take_of_length_le (lRf _)]at hd
  have h1:(BE.eq (.len (.v s)) (.l 1)).den=decide (l.length=1):=by
   show decide ((IE.len (.v s)).den=1)=_
   rw[hsz];exact decide_eq_decide.2 (by simp only[IE.den];omega)
  have l1:=aK5 hl 1
  have e48:(BE.eq (.byte (.v s) (.l 0)) (.l 48)).den=decide (l.getD 0 0=48):=by
   simp only[BE.den];exact decide_eq_decide.2 (by rw[jS (k:=0) rfl,<-hl];exact aYe)
  have n48:(BE.not (.eq (.byte (.v s) (.l 0)) (.l 48))).den=decide (l.getD 0 0≠48):=by
   show(!(BE.eq (.byte (.v s) (.l 0)) (.l 48)).den)=_
   rw[e48];by_cases h:l.getD 0 0=48<;>simp[h]
  clear hy;cbv;refine bV 23 rfl rfl 100 (λh2=>?_) (λh2=>?_)
  ·have h2:=of_decide_eq_true (h1.symm.trans h2)
   have hf:res=true:=by rw[lS];simp[isNat,hd',h2]
   subst hf;cbv;exact bR hc hR (av:=.b (.l true)) rfl rfl
  ·have h2:=of_decide_eq_false (h1.symm.trans h2)
   cbv;refine bV 27 rfl rfl 100 (λh3=>?_) (λh3=>?_)
   ·have h3:=of_decide_eq_true (l1.symm.trans h3)
    have o1:(Obl.ltE (.l 0) (.len (.v s))).ok:=by show _/\_;rw[hsz];simp only[IE.den];omega
    have hf:res=decide (l.getD 0 0≠48):=by rw[lS];simp[isNat,hd',h2,h3]
    cbv;refine zO ?_;exact bR hc hR rfl (by rw[hf,<-n48];rfl)
   ·have h3:=of_decide_eq_false (l1.symm.trans h3)
    have hf:res=false:=by rw[lS];simp[isNat,h2,h3]
    subst hf;cbv;exact bR hc hR (av:=.b (.l false)) rfl rfl
def zRt (b:Bool)(n:Nat):RV1:=.agg [.b (.l b),.x (aJ n)]
theorem aYi {b:Bool}{n:Nat}{u:Value}{X:Nat->Prop}{w:World}(h:(aJ n).p u X w):(zRt b n).p (.agg #[.bool b,u]) X w:=
 ⟨[.bool b,u],rfl,rfl,⟨eJ h,h⟩,trivial⟩
theorem xW:aB PP 65:=zK
theorem aN4 {b:Bool}{n:Nat}{r:Int}(hr:r=if b then -1 else if n=0 then 0 else 1):oC PP 65 [zRt b n] (.sg (.one (.i .i64 (.v r)))):=by
 obtain⟨R1,hR1⟩:∃R,R=aJ n:=⟨_,rfl⟩;have hz:zRt b n=.agg [.b (.l b),.x R1]:=by rw[hR1];rfl
 obtain⟨F,hF⟩:=nm (lU (.sg (zRt b n)));rw[hz]at hF |-;refine eU mixed tok Tryz.func65 rfl (by rfl) rfl [F] ⟨hF,trivial⟩ λc G hG hc hR=>?_;cases b with
 | true=>
  apply zN hc;cbv;exact dD hc hG hR rfl (.i hr.symm)
 | false=>
  apply zN hc;cbv;refine cV 6 .u32 (aC n) rfl rfl (λX μ a w v' H hv'=>by
   have h:=aL8 (R:=.sg (.agg [.b (.l false),.x R1])) H (.head _) hF rfl hv'
   rw[hR1]at h;exact h) λf N cap hN hf cR=>?_
  apply zN hc;cbv;refine aE rfl 100 (λh=>?_) (λh=>?_)
  ·have h:=BE.lt_t h
   cbv;refine dD hc hG hR rfl (.i ?_);rw[hr];have:n≠0:=λe=>by rw[e,bS]at hN;rw[hN]at h;exact absurd h zV
   simp[this];rfl
  ·have h:=BE.lt_f h
   cbv;refine dD hc hG hR rfl (.i ?_);rw[hr];have:n=0:=tI (by simp only[IE.den]at h;omega);simp[this];rfl
theorem lI:aB PP 115:=zK
theorem aC8 {b b':Bool}{n:Nat}(hb:b'=(b&&decide (n≠0))):oC PP 115 [.one (.b (.l b)),.one (.x (aJ n))] (.sg (zRt b' n)):=by
 obtain⟨R1,hR1⟩:∃R,R=aJ n:=⟨_,rfl⟩;obtain⟨F,hF⟩:=nm (lU (.sg (.one (.x R1))));obtain⟨F0,hF0⟩:∃F,F=lU (.sg (.one (.b (.l b)))):=⟨_,rfl⟩;obtain⟨rs,hrs⟩:=nm (RV.sg (zRt b' n));rw[<-hrs,<-hR1];refine eU mixed tok Tryz.func115 rfl (by rfl) rfl [F0,F] ⟨hF0,hF,trivial⟩ λc G hG hc hR=>?_;obtain⟨K,hK⟩:=nm (lT 0 [F0,F]);rw[<-hK];refine cV 1 .u32 (aC n) rfl rfl (λX μ a w v' H hv'=>by
   have h:=aL8 (R:=.sg (.one (.x R1))) H (by rw[hK];exact .tail _ (.head _)) hF rfl hv'
   rw[hR1]at h;exact h) λf N cap hN hf cR=>?_
 have kH:∀{x:Bool} {X:Nat->Prop} {w:World} {u:Value},x=b'->(aJ n).p u X w->G.p (.agg #[.bool x,u]) X w:=λhx hu=>by
  rw[hG,hrs,hx];exact aYi hu
 have aAh:∀{x:BE} {S:St} {X:Nat->Prop} {μ:Mu} {a:Act} {w:World} {v:Value},Sim c K S X μ a w->S.hp[2]?=some (.xi .u32 N f)->x.den=b'->aD μ (.g [.b x,.sl 2 0 (.n N) cap])=some v->G.p v X w:=by
  intro x S X μ a w v H hk hx hv;obtain⟨vs,h1,rfl⟩:=sA hv;obtain⟨v1,v2,rfl,e1,e2⟩:=bD h1;rw[fW e1];exact kH hx (H.toP.row hk e2 (by simp[IE.den,hN]) (λi x hx=>by rw[Nat.zero_add];exact hf i x hx) zW zW)
 have hlt:(BE.lt (.l 0) (.n N)).den=(true&&decide (n≠0)):=by
  show decide ((0:Int)<(N:Int))=_
  rw[Bool.true_and];refine decide_eq_decide.2 ⟨λh e=>?_,λh=>?_⟩
  ·rw[e,bS]at hN;rw[hN]at h;exact absurd h zV
  ·rw[hN,bY h];simp only[List.length_cons];omega
 cases b with
 | true=>
  have hx:=hlt.trans hb.symm
  apply zN hc;cbv;exact aR hc hR rfl (λX μ a w v H hv=>aAh H rfl hx hv)
 | false=>
  have hx:(BE.l false).den=b':=hb.symm
  apply zN hc;cbv;exact aR hc hR rfl (λX μ a w v H hv=>aAh H rfl hx hv)
theorem aYd {b:UInt8}:(b.toNat:Int)=45↔b=45:=by
 constructor
 ·intro h;apply UInt8.toNat_inj.1;show b.toNat=45
  omega
 ·intro h;subst h;rfl
theorem aWr {l:List UInt8}(h:l.getD 0 0=45)(hl:1<l.length):(wT l).isSome=(decide (l≠[45,48])&&isNat (l.drop 1)):=by
 cases l with
 | nil=>simp at hl
 | cons c t=>
  have hc:c=45:=h
  subst hc;simp only[wT,List.drop_succ_cons,List.drop_zero];by_cases h1:isNat t=true<;>by_cases h2:t=[48]<;>simp[h1,h2]
theorem aWs {l:List UInt8}(h:¬(1<l.length/\l.getD 0 0=45)):(wT l).isSome=isNat l:=by
 by_cases h1:∃t,l=45::t
 ·obtain⟨t,rfl⟩:=h1;have:t=[]:=by
   cases t with
   | nil=>rfl
   | cons d t=>exact absurd ⟨zA,rfl⟩ h
  subst this;rfl
 ·rw[aA2 (λt e=>h1 ⟨t,e⟩)];by_cases h2:isNat l=true<;>simp[h2]
theorem aEa {s:ByteArray}{l:List UInt8}(hl:l=s.data.toList):((SE.v s).sub (.l 1) (.len (.v s))).den.data.toList=l.drop 1:=by
 have hsz:s.size=l.length:=by rw[hl];rfl
 show(s.extract 1 (IE.len (.v s)).den.toNat).data.toList=_
 have hlq:(IE.len (.v s)).den.toNat=l.length:=by show((s.size:Nat):Int).toNat=_;rw[hsz,Int.toNat_natCast]
 rw[hlq,ByteArray.data_extract,Array.toList_extract,List.extract_eq_take_drop,<-hl,List.take_of_length_le (by rw[List.length_drop];omega)]
theorem aOm (s:ByteArray):((SE.v s).sub (.l 1) (.len (.v s))).den.size<=s.size:=by
 show(s.extract 1 (IE.len (.v s)).den.toNat).size<=_
 have hlq:(IE.len (.v s)).den.toNat=s.size:=by show((s.size:Nat):Int).toNat=_;rw[Int.toNat_natCast]
 rw[ByteArray.size_extract,hlq];omega
theorem aMy {s:ByteArray}(h:1<=s.size):(Obl.slc (.l 1) (.len (.v s)) (.v s)).ok:=by
 have hlq:(IE.len (.v s)).den=(s.size:Int):=rfl
 refine⟨zV,?_,?_⟩
 ·rw[hlq];simp only[IE.den];omega
 ·rw[hlq];exact Int.le_refl _
theorem aBh:aB PP 71:=zK
theorem aU0 (s:ByteArray)(hs:s.size<=2^60):Pure PP 71 [.string s] (.bool (wT s.data.toList).isSome):=by
 obtain⟨res,lS⟩:=nm ((wT s.data.toList).isSome);rw[<-lS];obtain⟨l,hl⟩:=nm (s.data.toList);rw[<-hl]at lS;have hlen:l.length=s.size:=by rw[hl];rfl
 have l1:=aK5 hl 1
 have hv:=aGi s hs
 obtain⟨rv,hrv⟩:∃r,r=isNat s.data.toList:=⟨_,rfl⟩;rw[<-hrv]at hv;have yD:¬(1<l.length/\l.getD 0 0=45)->rv=res:=λh=>by rw[lS,hrv,<-hl,aWs h]
 have e45:(BE.eq (.byte (.v s) (.l 0)) (.l 45)).den=decide (l.getD 0 0=45):=by
  simp only[BE.den];exact decide_eq_decide.2 (by rw[jS (k:=0) rfl,<-hl];exact aYd)
 have aF9:1<l.length->l.getD 0 0=45->res=(decide (l≠[45,48])&&isNat (l.drop 1)):=λh1 h2=>by rw[lS,aWr h2 h1]
 refine aH mixed tok [.s (.v s)] Tryz.func71 rfl rfl rfl λc hc hR=>?_;apply zN hc;cbv;refine bV 6 rfl rfl 100 (λh=>?_) (λh=>?_)
 ·have h:=of_decide_eq_true (l1.symm.trans h)
  have o1:(Obl.ltE (.l 0) (.len (.v s))).ok:=by show _/\_;simp only[IE.den,SE.den];omega
  cbv;refine aP hc ⟨o1,trivial⟩ ?_;refine aE rfl 100 (λh2=>?_) (λh2=>?_)
  ·have h2:=of_decide_eq_true (e45.symm.trans h2)
   have hr:=aF9 h h2
   have e48:(BE.not (.seq (.v s) (.v ⟨#[45,48]⟩))).den=decide (l≠[45,48]):=by
    show(!(BE.seq (.v s) (.v ⟨#[45,48]⟩)).den)=_
    rw[aLs,<-hl];simp
   cbv;refine bV 13 rfl rfl 100 (λh3=>?_) (λh3=>?_)
   ·have h3:=e48.symm.trans h3
    rw[h3,Bool.true_and]at hr;have hv2:Pure PP 72 [.string ((SE.v s).sub (.l 1) (.len (.v s))).den] (.bool res):=by
     have:=aGi ((SE.v s).sub (.l 1) (.len (.v s))).den (lTr (aOm s) hs)
     rwa [aEa hl,<-hr]at this
    have o2:=aMy (s:=s) (by omega)
    cbv;refine aP hc ⟨o2,trivial⟩ ?_;refine zC (.b (.l res)) hv2 pB ?_;cbv;exact bR hc hR (av:=.b (.l res)) rfl rfl
   ·have h3:=e48.symm.trans h3
    rw[h3,Bool.false_and]at hr;subst hr;cbv;exact bR hc hR (av:=.b (.l false)) rfl rfl
  ·have h2:=of_decide_eq_false (e45.symm.trans h2)
   have hr:=yD (λe=>h2 e.2)
   cbv;refine zC (.b (.l rv)) hv pB ?_;cbv;exact bR hc hR (av:=.b (.l rv)) rfl (by rw[<-hr];rfl)
 ·have h:=of_decide_eq_false (l1.symm.trans h)
  have hr:=yD (λe=>h e.1)
  cbv;refine zC (.b (.l rv)) hv pB ?_;cbv;exact bR hc hR (av:=.b (.l rv)) rfl (by rw[<-hr];rfl)
theorem aAn:aB PP 74:=zK
theorem aPb {l:List UInt8}{p j:Nat}(hp:p<=j)(hj:j<l.length):dZ 0 ((l.take (j+1)).drop p)=10*dZ 0 ((l.take j).drop p)+((l.getD j 0).toNat - 48):=by
 have e:(l.take (j+1)).drop p=(l.take j).drop p++[l.getD j 0]:=by
  rw[List.take_succ_eq_append_getElem hj,List.drop_append_of_le_length (by rw[List.length_take];omega)];congr 2;simp[hj]
 rw[e,oH,fX,jB]
theorem aWh {l:List UInt8}(h:l.all mI=true){p j:Nat}(hpj:j<=p+9):dZ 0 ((l.take j).drop p)<1000000000:=by
 have h1:=aM0 ((l.take j).drop p) (xM (xN h j) _)
 have h2:((l.take j).drop p).length<=9:=by simp;omega
 exact Nat.lt_of_lt_of_le h1 (Nat.pow_le_pow_right zV h2:_<=10^9)
theorem aWi {l:List UInt8}(h:l.all mI=true){qm j:Nat}(h1:qm<=j)(hj:j<l.length)(h9:j<qm+9){V V' b:Int}(hV:V=(dZ 0 ((l.take j).drop qm):Int))(hV':V'=(dZ 0 ((l.take (j+1)).drop qm):Int))(hb:b=((l.getD j 0).toNat:Int)):
  0<=10*V/\10*V<=4294967295/\0<=b - 48/\b - 48<=9/\10*V+(b - 48)=V'/\0<=V'/\V'<=999999999:=by
 have hps:=aPb (l:=l) (p:=qm) (j:=j) h1 hj
 have bF7:=aWh h (p:=qm) (j:=j+1) zW
 have hd:mI (l.getD j 0)=true:=by
  have hg:l.getD j 0=l[j]:=by simp[hj]
  rw[hg];exact List.all_eq_true.1 h _ (List.getElem_mem hj)
 have hd2:=uY.1 hd
 rw[hps]at hV' bF7;omega
structure FrX where
 a:Option Addr
 cap:Nat
 k:Nat
 z:Int
 out:List Int
set_option maxHeartbeats 0 in
theorem aS5 {X:Nat->Prop}{w:World}{n:Nat}(hbn:dl n<=2^38)(hX:∀b,X b->b<w.heap.size):Fn PP 74 [.string (aL n)] X w (aJ n):=by
 obtain⟨R,hRR⟩:=nm (aJ n);obtain⟨l,hl⟩:=nm (Lib.decDigits n);have cI:l.all mI=true:=by rw[hl];exact gT n
 have tX:dZ 0 l=n:=by rw[hl];exact cX n
 have hlen:l.length<=2^38:=by rw[hl];exact hbn
 rw[<-hRR];obtain⟨s,hs0⟩:=nm (aL n);have hsl:l=s.data.toList:=by rw[hs0,cT,<-hl]
 have hsz:s.size=l.length:=by rw[hsl];rfl
 rw[<-hs0];have cS:∀(kd:IntKind) (e:IE) (z:Int),e.den=z->lo kd<=z/\z<=hi kd->(Obl.inR kd e).ok:=λkd e z he hz=>by show _/\_;rw[he];exact hz
 refine bE mixed tok [.s (.v s)] (K:=[]) Tryz.func74 rfl rfl (lbl rfl) rfl hX (λf hf=>by cases hf) λc hc hR=>?_;obtain⟨G,hG⟩:∃G:Option Addr->Nat->Nat->List Int->OF,∀a n cap l,G a n cap l=OF.row (.slice a n cap) c.B.heap.size 138 .u32 l:=⟨λa n cap l=>OF.row (.slice a n cap) c.B.heap.size 138 .u32 l,λ_ _ _ _=>rfl⟩;refine sU hG rfl ?_;apply zN hc;cbv;let ι:={x:FrX//RdS l x.z.toNat x.out/\x.k=x.out.length/\-9<=x.z};let I:ι->St:=λx=>⟨[(0,.s (.v s)),(3,.xs x.1.a x.1.k x.1.cap),(4,.i .i64 (.v x.1.z))],[],[G x.1.a x.1.k x.1.cap x.1.out]⟩
 let x0:ι:=⟨⟨none,0,0,l.length,[]⟩,by rw[Int.toNat_natCast];exact RdS.init l,rfl,by show(-9:Int)<=(l.length:Int);omega⟩
 have kof:∀a i cp out,aA9 0 [G a i cp out]:=λa i cp out=>⟨by rw[hG];exact OFr.row _ _ _ _ _ _,trivial⟩
 have e0:(IE.len (.v s)).den=(l.length:Int):=by show((s.size:Nat):Int)=_;rw[hsz]
 refine zU 0 (S':=I x0) (K':=[]) ⟨zS,zS,zI rfl rfl e0,trivial⟩ trivial (kof _ _ _ _) ?_;refine bQ hc I (λx=>x.1.z.toNat) x0 100 ?_;rintro p ⟨⟨a,cap,k,z,out⟩,hr,hk,hz9⟩ hy;simp only at hr hk hz9;obtain⟨q,hq⟩:=nm (z.toNat);rw[<-hq]at hr;have bDq:q<=2^38:=lTr hr.le hlen;have cJ:=λh=>hr.step cI h;have hle:=hr.le;have hrn:=hr.n;obtain⟨qm,hqm⟩:=nm (q - 9);rw[<-hqm]at cJ;cbv;refine aE rfl 100 (λh=>?_) (λh=>?_)
 ·have hz0:(0:Int)<z:=BE.lt_t h
  have hzq:z=(q:Int):=zW
  have hq0:0<q:=zW
  have cJ:=cJ hq0
  have emx:(IE.max (.l 0) (.sub (.v z) (.l 9))).den=(IE.n qm).den:=by
   show(if(0:Int)<z - 9 then z - 9 else 0)=(qm:Int)
   split<;>omega
  have o1:(Obl.inR .i64 (.sub (.v z) (.l 9))).ok:=cS _ _ (z - 9) rfl zX
  let κ:={x:Nat//qm<=x/\x<=q}
  obtain⟨W,hW⟩:∃W:Nat->Int,∀j,W j=(dZ 0 ((l.take j).drop qm):Int):=⟨_,λ_=>rfl⟩;let J:κ->St:=λx=>⟨[(0,.s (.v s)),(3,.xs a k cap),(4,.i .i64 (.v z)),(5,.i .u32 (.v (W x.1))),(6,.i .i64 (.n x.1))],[],[G a k cap out]⟩
  let y0:κ:=⟨qm,lRf _,zW⟩
  have W0:(0:Int)=W qm:=by rw[hW,List.drop_of_length_le (by rw[List.length_take];omega)];rfl
  cbv;refine zO ?_;refine zU 0 (S':=J y0) (K':=[]) ⟨zS,zS,zS,zI rfl rfl W0,zI rfl rfl emx,trivial⟩ trivial (kof _ _ _ _) ?_;refine bQ hc J (λx=>q - x.1) y0 100 ?_;rintro p2 ⟨j,hj1,hj2⟩ hh;have hWj:=hW j;cbv;refine aE rfl 100 (λh=>?_) (λh=>?_)
  ·have hjz:(j:Int)<z:=BE.lt_t h
   have hjq:j<q:=zW
   have hjl:j<l.length:=zW
   obtain⟨j',hj'⟩:=nm (j+1);have aZu:=hW j';rw[hj']at aZu;rw[<-hj']at aZu;obtain⟨b,hb⟩:∃b:Int,b=((l.getD j 0).toNat:Int):=⟨_,rfl⟩;obtain⟨t1,t2,t3,t4,t5,t6,t7⟩:=aWi (V':=W j') cI hj1 hjl zW hWj (by rw[aZu,hj']) hb;obtain⟨V,hV⟩:=nm (W j);have eb:(IE.byte (.v s) (.n j)).den=b:=by rw[hb,hsl];exact jS (by simp[IE.den])
   have g1:(IE.sub (.byte (.v s) (.n j)) (.l 48)).den=b - 48:=by show(IE.byte (.v s) (.n j)).den - 48=_;rw[eb]
   have m1:(IE.mul (.l 10) (.v (W j))).den=10*W j:=rfl
   have a1:(IE.add (.mul (.l 10) (.v (W j))) (.sub (.byte (.v s) (.n j)) (.l 48))).den=W j':=by
    show(IE.mul (.l 10) (.v (W j))).den+(IE.sub (.byte (.v s) (.n j)) (.l 48)).den=_
    rw[m1,g1,t5]
   have p1:=cS .u32 _ _ m1 (by simp only[lo,hi];exact⟨t1,t2⟩)
   have p2:(Obl.ltE (.n j) (.len (.v s))).ok:=by show _/\_;rw[e0];exact⟨Int.natCast_nonneg j,Int.ofNat_lt.2 hjl⟩
   have p3:=cS .u8 _ _ g1 (by simp only[lo,hi];exact⟨t3,Int.le_trans t4 zV⟩)
   have p4:=cS .u32 _ _ g1 (by simp only[lo,hi];exact⟨t3,Int.le_trans t4 zV⟩)
   have p5:=cS .u32 _ _ a1 (by simp only[lo,hi];exact⟨t6,Int.le_trans t7 zV⟩)
   have p6:(Obl.inR .i64 (.add (.n j) (.l 1))).ok:=cS _ _ ((j:Int)+1) rfl zX
   have s1:((IE.n j).add (IE.l 1)).den=(IE.n j').den:=by simp only[IE.den,hj'];omega
   have hyx:=hh ⟨j',zW,zW⟩ (by show q - j'<q - j;omega)
   cbv;refine zO ?_;exact zU 0 (S':=J ⟨j',zW,zW⟩) (K':=[]) ⟨zS,zS,zS,zI rfl rfl a1,zI rfl rfl s1,trivial⟩ trivial (kof _ _ _ _) hyx
  ·have hjz:¬(j:Int)<z:=BE.lt_f h
   have hjq:j=q:=zW
   have hWq:W j=(dZ 0 ((l.take q).drop qm):Int):=by rw[hWj,hjq]
   have hlb:(out.length+1)*4<=140737488355328:=zW
   have pI:out.length+1<=9223372036854775807:=zW
   have ez:(z - 9).toNat=qm:=zW
   have hq9:(z - 9).toNat<q:=zW
   have hz':-9<=z - 9:=zW
   have p7:(Obl.inR .i64 (.sub (.v z) (.l 9))).ok:=o1
   clear hh;cbv;refine eX hc _ rfl rfl rfl hG rfl rfl rfl rfl rfl rfl rfl rfl rfl cF hlb pI (λa' n' aS l' hn' hl'=>?_);have hl':l'=out++[(dZ 0 ((l.take q).drop qm):Int)]:=hl'.trans (congrArg (λz=>out++[z]) hWq);apply zN hc;cbv;refine zO ?_;exact zU 0 (S':=I ⟨⟨a',aS,n',z - 9,l'⟩,by show RdS l (z - 9).toNat l';rw[ez,hl'];exact cJ,by rw[hl',hn'];simp,hz'⟩) (K':=[]) zL trivial (kof _ _ _ _) (hy _ (by rw[<-hq];exact hq9))
 ·have hz0:¬(0:Int)<z:=BE.lt_f h
  have hq0:q=0:=zW
  have hr0:RdS l 0 out:=by rw[<-hq0];exact hr
  have hv:=hr0.done
  rw[tX]at hv;cbv;refine mZ (hG _ _ _ _) ?_;refine dO hc (R:=R) lH (λn0 D X μ a w aK H aI=>?_) 100 ?_
  ·obtain⟨v1,rfl,h1⟩:=aX aI;have h1:=jH h1;rw[h1,hRR,<-hv];exact gI hr0.wd (by have:=hr.n;omega) H.xlt (H.cst (.head _))
  cbv;refine aR hc hR rfl (λX μ a w v' H hv'=>?_);exact H.toP.val (.head _) hv'
end Go.Ai
namespace Go.Ai
open Go Go.Proofs Go.Num
open Go.Lib
abbrev zIt (z:Int):RV1:=zRt (decide (z<0)) z.natAbs
theorem itoa_neg {z:Int}(h:z<0):itoa z=45::decDigits z.natAbs:=by unfold itoa;rw[if_pos h]
theorem aCc {z:Int}(h:¬z<0):itoa z=decDigits z.natAbs:=by unfold itoa;rw[if_neg h];congr 1;omega
theorem ba_eq {a b:ByteArray}(h:a.data.toList=b.data.toList):a=b:=by
 cases a;cases b;congr 1;exact Array.toList_inj.1 h
theorem aUz {c:Cx}{K:List KF}{S:St}{X:Nat->Prop}{μ:Mu}{a:Act}{w:World}(H:Sim c K S X μ a w){k N cap n:Nat}{f:Nat->Int}{x:BE}{b:Bool}{v:Value}(hk:S.hp[k]?=some (.xi .u32 N f))(hN:N=(aC n).length)(hf:∀i y,(aC n)[i]?=some y->f i=y)(cR:N<=cap)(hx:x.den=b)
  (hv:aD μ (.g [.b x,.sl k 0 (.n N) cap])=some v):(zRt b n).p v X w:=by
 obtain⟨vs,h1,rfl⟩:=sA hv;obtain⟨v1,v2,rfl,e1,e2⟩:=bD h1;rw[fW e1,hx];exact aYi (H.toP.row hk e2 (by simp[IE.den,hN]) (λi y hy=>by rw[Nat.zero_add];exact hf i y hy) zW zW)
theorem aMq:aB PP 73:=zK
theorem aYj {z:Int}(hz:dl z.natAbs<=2^38):oC PP 73 [.one (.s (.v (aY z)))] (.sg (zIt z)):=by
 intro args X w hX hp;match args,hp with
 | [_],⟨rfl,_⟩=>
 obtain⟨b,hb⟩:=nm (decide (z<0));obtain⟨n,hn⟩:=nm (z.natAbs);obtain⟨R1,hR1⟩:∃R,R=aJ n:=⟨_,rfl⟩;obtain⟨R,hRR⟩:=nm (lU (.sg (zIt z)));rw[<-hRR];have kH:∀{X:Nat->Prop} {w:World} {v:Value},(zRt b n).p v X w->R.p v X w:=λh=>by
  rw[hRR];rw[hb,hn]at h;exact h
 have hF:∀{X:Nat->Prop} {w:World},(∀b,X b->b<w.heap.size)->Fn PP 74 [.string (aL n)] X w R1:=λh=>by rw[hR1];exact aS5 (by rw[hn];exact hz) h
 obtain⟨s,hs⟩:=nm (aY z);have hl:itoa z=s.data.toList:=by rw[hs,cW]
 show Fn PP _ [.string (aY z)] X w R
 rw[<-hs];have e45:(BE.eq (.byte (.v s) (.l 0)) (.l 45)).den=decide ((itoa z).getD 0 0=45):=by
  simp only[BE.den];exact decide_eq_decide.2 (by rw[jS (k:=0) rfl,<-hl];exact aYd)
 have hsz:(itoa z).length=s.size:=by rw[hl];rfl
 have hpl:0<(itoa z).length:=by
  by_cases h:z<0
  ·rw[itoa_neg h];simp
  ·rw[aCc h];exact List.length_pos_iff.2 (gG _)
 have o1:(Obl.ltE (.l 0) (.len (.v s))).ok:=by
  have:(IE.len (.v s)).den=(s.size:Int):=rfl
  show _/\_;rw[this];simp only[IE.den];omega
 have o2:=aMy (s:=s) zW
 refine bE mixed tok [.s (.v s)] (K:=[]) Tryz.func73 rfl rfl (lbl rfl) rfl hX (λf hf=>by cases hf) λc hc hR=>?_;apply zN hc;cbv;refine aP hc ⟨o1,trivial⟩ ?_;refine aE rfl 100 (λh2=>?_) (λh2=>?_)
 ·have h2:=of_decide_eq_true (e45.symm.trans h2)
  have aF9:z<0:=Classical.byContradiction λe=>by
   rw[aCc e]at h2;cases hd:decDigits z.natAbs with
   | nil=>exact gG _ hd
   | cons x t=>rw[hd]at h2;exact aHy _ t (by rw[hd,show x=45 from h2])
  have hbt:(BE.l true).den=b:=by rw[hb];simp[aF9,BE.den]
  have hcut:((SE.v s).sub (.l 1) (.len (.v s))).den=aL n:=ba_eq (by rw[aEa hl,itoa_neg aF9,cT,hn];rfl)
  cbv;refine aP hc ⟨o2,trivial⟩ ?_;refine dO (R:=R1) hc aAn (λn0 D X μ a w aK H aI=>?_) 100 ?_
  ·obtain⟨v,rfl,hv'⟩:=aX aI;rw[dP hv',hcut];exact hF H.xlt
  cbv;refine cV 8 .u32 (aC n) rfl rfl (λX μ a w v' H hv'=>by
   have h:=H.toP.val (R:=R1) (.head _) hv'
   rw[hR1]at h;exact h) λf N cap hN hf cR=>?_
  apply zN hc;cbv;exact aR hc hR rfl (λX μ a w v H hv=>kH (aUz H rfl hN hf cR hbt hv))
 ·have h2:=of_decide_eq_false (e45.symm.trans h2)
  have yD:¬z<0:=λe=>h2 (by rw[itoa_neg e];rfl)
  have hbt:(BE.l false).den=b:=by rw[hb];simp[yD,BE.den]
  have hst:s=aL n:=ba_eq (by rw[<-hl,aCc yD,cT,hn])
  cbv;refine dO (R:=R1) hc aAn (λn0 D X μ a w aK H aI=>?_) 100 ?_
  ·obtain⟨v,rfl,hv'⟩:=aX aI;rw[dP hv'];show Fn PP _ [.string s] X w R1
   rw[hst];exact hF H.xlt
  cbv;refine cV 11 .u32 (aC n) rfl rfl (λX μ a w v' H hv'=>by
   have h:=H.toP.val (R:=R1) (.head _) hv'
   rw[hR1]at h;exact h) λf N cap hN hf cR=>?_
  apply zN hc;cbv;exact aR hc hR rfl (λX μ a w v H hv=>kH (aUz H rfl hN hf cR hbt hv))
theorem bJ.e {K:List KF}{k:Nat}{R:VF}(hm:KF.at k R∈K)(h1:∀{v:Value} {X:Nat->Prop} {w:World},R.p v X w->v.oneCell'=true):bJ K (.e k) (.x R):=
 .any λX μ w v hK hv=>by
  obtain⟨u,h2,h3⟩:=hK _ hm;have:aD μ (.e k)=some u:=by simp[aD,h2]
  rw[this]at hv;injection hv with hv;subst hv
  exact⟨h1 h3,h3⟩
theorem aMp:aB PP 118:=zK
theorem aL4 {b b':Bool}{n m:Nat}(hbn:(aC n).length<2^39)(hbm:(aC m).length<2^39)(hb:b'=(b&&decide (n+m≠0))):oC PP 118 [zRt b n,zRt b m] (.sg (zRt b' (n+m))):=by
 obtain⟨R1,hR1⟩:∃R,R=aJ n:=⟨_,rfl⟩;obtain⟨R2,hR2⟩:∃R,R=aJ m:=⟨_,rfl⟩;obtain⟨R3,hR3⟩:∃R,R=aJ (n+m):=⟨_,rfl⟩;obtain⟨F1,hF1⟩:∃F,F=lU (.sg (zRt b n)):=⟨_,rfl⟩;obtain⟨F2,hF2⟩:∃F,F=lU (.sg (zRt b m)):=⟨_,rfl⟩;have hmk:oC PP 115 [.one (.b (.l b)),.one (.x R3)] (.sg (.agg [.b (.l b'),.x R3])):=by rw[hR3];exact aC8 hb
 have hz1:zRt b n=.agg [.b (.l b),.x R1]:=by rw[hR1];rfl
 have hz2:zRt b m=.agg [.b (.l b),.x R2]:=by rw[hR2];rfl
 have hz3:zRt b' (n+m)=.agg [.b (.l b'),.x R3]:=by rw[hR3];rfl
 have hp:∀{v u:Value} {X:Nat->Prop} {w:World},(∀b,X b->b<w.heap.size)->R1.p v X w->R2.p u X w->Fn PP 160 [v,u] X w R3:=λhX h1 h2=>by
  rw[hR3];rw[hR1]at h1;rw[hR2]at h2;exact bD5 hbn hbm hX h1 h2
 have h1c:∀{v:Value} {X:Nat->Prop} {w:World},R3.p v X w->v.oneCell'=true:=λh=>by rw[hR3]at h;exact eJ h
 rw[hz1]at hF1 |-;rw[hz2]at hF2 |-;rw[hz3];clear hz1 hz2 hz3 hR1 hR2 hR3 hb;refine eU mixed tok Tryz.func118 rfl (by rfl) rfl [F1,F2] ⟨hF1,hF2,trivial⟩ λc G hG hc hR=>?_;obtain⟨K,hK⟩:=nm (lT 0 [F1,F2]);rw[<-hK];have hbb:(BE.beq (.l b) (.l b)).den=true:=by cases b<;>rfl
 apply zN hc;cbv;refine aE rfl 100 (λ_=>?_) (λh=>absurd (hbb.symm.trans h) zV);cbv;apply zN hc;cbv;refine iK (R:=R3) hc aVb (λD X μ a w aK H aI=>?_) 100 ?_
 ·obtain⟨v,u,rfl,e1,e2⟩:=bD aI;exact hp H.xlt (((bJ.ec (c:=.x R1) (F:=F1) (by rw[hK];exact .head _) hF1 rfl).ok H.kf e1).2) (((bJ.ec (c:=.x R2) (F:=F2) (by rw[hK];exact .tail _ (.head _)) hF2 rfl).ok H.kf e2).2)
 cbv;refine cY hc lI hmk ⟨.b rfl,.e (.head _) h1c,trivial⟩ (.g [.b (.l b'),.ec 6 1]) 100 (λFB hFB=>?_);cbv;refine zE ?_;cbv;exact dD hc hG hR rfl ⟨.b rfl,.ec (.head _) hFB rfl,trivial⟩
theorem aL3 {b b':Bool}{n m r:Nat}(hbn:(aC n).length<2^39)(hbm:(aC m).length<2^39)(hr:r=if m<=n then n - m else m - n)(hb:b'=((if m<=n then b else !b)&&decide (r≠0))):oC PP 118 [zRt b n,zRt (!b) m] (.sg (zRt b' r)):=by
 obtain⟨R1,hR1⟩:∃R,R=aJ n:=⟨_,rfl⟩;obtain⟨R2,hR2⟩:∃R,R=aJ m:=⟨_,rfl⟩;obtain⟨R3,hR3⟩:∃R,R=aJ r:=⟨_,rfl⟩;obtain⟨nb,hnb⟩:∃x,x= !b:=⟨_,rfl⟩;rw[<-hnb]at hb |-;obtain⟨F1,hF1⟩:∃F,F=lU (.sg (zRt b n)):=⟨_,rfl⟩;obtain⟨F2,hF2⟩:∃F,F=lU (.sg (zRt nb m)):=⟨_,rfl⟩;have hmk:∀x:Bool,b'=(x&&decide (r≠0))->oC PP 115 [.one (.b (.l x)),.one (.x R3)] (.sg (.agg [.b (.l b'),.x R3])):=λx hx=>by rw[hR3];exact aC8 hx
 have hz1:zRt b n=.agg [.b (.l b),.x R1]:=by rw[hR1];rfl
 have hz2:zRt nb m=.agg [.b (.l nb),.x R2]:=by rw[hR2];rfl
 have hz3:zRt b' r=.agg [.b (.l b'),.x R3]:=by rw[hR3];rfl
 obtain⟨z,hz⟩:=nm (bW n m);have hge:(BE.le (.l 0) (.v z)).den=decide (m<=n):=by
  show decide ((0:Int)<=z)=_
  rw[hz];unfold bW;by_cases h:n<m
  ·rw[if_pos (Int.ofNat_lt.2 h)];simp;omega
  ·rw[if_neg (λe=>h (Int.ofNat_lt.1 e))];have:m<=n:=zW;split<;>simp[this]
 have hcp:∀{v u:Value} {X:Nat->Prop} {w:World},(∀b,X b->b<w.heap.size)->R1.p v X w->R2.p u X w->Fn PP 76 [v,u] X w (dN (.int .i64 z)):=λhX h1 h2=>by
  rw[hz];rw[hR1]at h1;rw[hR2]at h2;exact aIv zW zW hX h1 h2
 have hm1:m<=n->∀{v u:Value} {X:Nat->Prop} {w:World},(∀b,X b->b<w.heap.size)->R1.p v X w->R2.p u X w->Fn PP 161 [v,u] X w R3:=λhle v u X w hX h1 h2=>by
  rw[hR3,hr,if_pos hle];rw[hR1]at h1;rw[hR2]at h2;exact aS6 hle hbn hX h1 h2
 have hm2:¬m<=n->∀{v u:Value} {X:Nat->Prop} {w:World},(∀b,X b->b<w.heap.size)->R2.p v X w->R1.p u X w->Fn PP 161 [v,u] X w R3:=λhle v u X w hX h1 h2=>by
  rw[hR3,hr,if_neg hle];rw[hR1]at h2;rw[hR2]at h1;exact aS6 zW hbm hX h1 h2
 have h1c:∀{v:Value} {X:Nat->Prop} {w:World},R3.p v X w->v.oneCell'=true:=λh=>by rw[hR3]at h;exact eJ h
 have hb1:m<=n->b'=(b&&decide (r≠0)):=λh=>by rw[hb,if_pos h]
 have hb2:¬m<=n->b'=(nb&&decide (r≠0)):=λh=>by rw[hb,if_neg h]
 have hbb:(BE.beq (.l b) (.l nb)).den=false:=by rw[hnb];cases b<;>rfl
 rw[hz1]at hF1 |-;rw[hz2]at hF2 |-;rw[hz3];clear hz1 hz2 hz3 hR1 hR2 hR3 hb hnb hr;refine eU mixed tok Tryz.func118 rfl (by rfl) rfl [F1,F2] ⟨hF1,hF2,trivial⟩ λc G hG hc hR=>?_;obtain⟨K,hK⟩:=nm (lT 0 [F1,F2]);rw[<-hK];have m1:KF.at 0 F1∈K:=by rw[hK];exact .head _
 have m2:KF.at 1 F2∈K:=by rw[hK];exact .tail _ (.head _)
 apply zN hc;cbv;refine aE rfl 100 (λh=>absurd (hbb.symm.trans h) zV) (λ_=>?_);cbv;apply zN hc;cbv;refine bK hc (.i .i64 (.v z)) (r:=.int .i64 z) oP (λn0 D X μ a w aK H aI=>?_) 100 ?_
 ·obtain⟨v,u,rfl,e1,e2⟩:=bD aI;exact hcp H.xlt (((bJ.ec (c:=.x R1) (F:=F1) m1 hF1 rfl).ok H.kf e1).2) (((bJ.ec (c:=.x R2) (F:=F2) m2 hF2 rfl).ok H.kf e2).2)
 cbv;refine aE rfl 100 (λh=>?_) (λh=>?_)
 ·have hle:=of_decide_eq_true (hge.symm.trans h)
  have hk:=hmk b (hb1 hle)
  cbv;apply zN hc;cbv;refine iK (R:=R3) hc aHf (λD X μ a w aK H aI=>?_) 100 ?_
  ·obtain⟨v,u,rfl,e1,e2⟩:=bD aI;exact hm1 hle H.xlt (((bJ.ec (c:=.x R1) (F:=F1) (by first | exact m1 | exact .tail _ m1) hF1 rfl).ok H.kf e1).2) (((bJ.ec (c:=.x R2) (F:=F2) (by first | exact m2 | exact .tail _ m2) hF2 rfl).ok H.kf e2).2)
  cbv;refine cY hc lI hk ⟨.b rfl,.e (.head _) h1c,trivial⟩ (.g [.b (.l b'),.ec 6 1]) 100 (λFB hFB=>?_);cbv;refine zE ?_;cbv;exact dD hc hG hR rfl ⟨.b rfl,.ec (.head _) hFB rfl,trivial⟩
 ·have hle:=of_decide_eq_false (hge.symm.trans h)
  have hk:=hmk nb (hb2 hle)
  cbv;apply zN hc;cbv;refine iK (R:=R3) hc aHf (λD X μ a w aK H aI=>?_) 100 ?_
  ·obtain⟨v,u,rfl,e1,e2⟩:=bD aI;exact hm2 hle H.xlt (((bJ.ec (c:=.x R2) (F:=F2) (by first | exact m2 | exact .tail _ m2) hF2 rfl).ok H.kf e1).2) (((bJ.ec (c:=.x R1) (F:=F1) (by first | exact m1 | exact .tail _ m1) hF1 rfl).ok H.kf e2).2)
  cbv;refine cY hc lI hk ⟨.b rfl,.e (.head _) h1c,trivial⟩ (.g [.b (.l b'),.ec 6 1]) 100 (λFB hFB=>?_);cbv;refine zE ?_;cbv;exact dD hc hG hR rfl ⟨.b rfl,.ec (.head _) hFB rfl,trivial⟩
end Go.Ai
namespace Go.Ai
open Go Go.Proofs Go.Num
theorem aYh {x y:Int}(hx:(aC x.natAbs).length<2^39)(hy:(aC y.natAbs).length<2^39):oC PP 118 [zIt x,zIt y] (.sg (zIt (x+y))):=by
 by_cases h:decide (x<0)=decide (y<0)
 ·have h1:x.natAbs+y.natAbs=(x+y).natAbs:=by
   have:=decide_eq_decide.1 h
   omega
  have h2:decide (x+y<0)=(decide (x<0)&&decide (x.natAbs+y.natAbs≠0)):=by
   have:=decide_eq_decide.1 h
   rw[Bool.eq_iff_iff,Bool.and_eq_true,decide_eq_true_eq,decide_eq_true_eq,decide_eq_true_eq];omega
  have:=aL4 (b:=decide (x<0)) hx hy h2
  unfold zIt;rw[<-h1];rw[h]at this |-;exact this
 ·have hn:decide (y<0)= !decide (x<0):=by
   revert h
   cases decide (x<0)<;>cases decide (y<0)<;>simp
  have h1:(x+y).natAbs=if y.natAbs<=x.natAbs then x.natAbs - y.natAbs else y.natAbs - x.natAbs:=by
   have:¬(x<0↔y<0):=λe=>h (decide_eq_decide.2 e)
   split<;>omega
  have h2:decide (x+y<0)=((if y.natAbs<=x.natAbs then decide (x<0)else !decide (x<0))&&decide ((x+y).natAbs≠0)):=by
   have:¬(x<0↔y<0):=λe=>h (decide_eq_decide.2 e)
   by_cases hle:y.natAbs<=x.natAbs
   ·rw[if_pos hle,Bool.eq_iff_iff,Bool.and_eq_true,decide_eq_true_eq,decide_eq_true_eq,decide_eq_true_eq];omega
   ·rw[if_neg hle,Bool.eq_iff_iff,Bool.and_eq_true,Bool.not_eq_true',decide_eq_true_eq,decide_eq_false_iff_not,decide_eq_true_eq];omega
  have:=aL3 (b:=decide (x<0)) hx hy h1 h2
  unfold zIt;rw[hn];exact this
theorem bEo {b:UInt8}:(b.toNat:Int)=47↔b=47:=by
 constructor
 ·intro h;apply UInt8.toNat_inj.1;show b.toNat=47
  omega
 ·intro h;subst h;rfl
def jP (l:List UInt8)(k:Nat):Prop:=dB l=(l.take k++(dB (l.drop k)).1,(dB (l.drop k)).2)
theorem jP.zero (l:List UInt8):jP l 0:=by simp[jP]
theorem jP.step {l:List UInt8}{k:Nat}(h:jP l k)(hk:k<l.length)(hb:l.getD k 0≠47):jP l (k+1):=by
 have hg:l.getD k 0=l[k]:=by simp[hk]
 rw[hg]at hb;unfold jP at h |-;rw[h,List.drop_eq_getElem_cons hk,List.take_succ_eq_append_getElem hk];conv=>lhs;unfold dB
 rw[if_neg hb,List.append_assoc];rfl
theorem jP.found {l:List UInt8}{k:Nat}(h:jP l k)(hk:k<l.length)(hb:l.getD k 0=47):dB l=(l.take k,some (l.drop (k+1))):=by
 have hg:l.getD k 0=l[k]:=by simp[hk]
 rw[hg]at hb;unfold jP at h;rw[h,List.drop_eq_getElem_cons hk];conv=>lhs;unfold dB
 rw[if_pos hb];simp
theorem jP.none {l:List UInt8}(h:jP l l.length):dB l=(l,Option.none):=by
 unfold jP at h;rw[h];simp[dB]
theorem aJn {s:ByteArray}{l:List UInt8}(hl:l=s.data.toList){i j:IE}{a b:Nat}(hi':i.den=(a:Int))(hj:j.den=(b:Int)):((SE.v s).sub i j).den.data.toList=(l.take b).drop a:=by
 show(s.extract i.den.toNat j.den.toNat).data.toList=_
 rw[hi',hj,Int.toNat_natCast,Int.toNat_natCast,ByteArray.data_extract,Array.toList_extract,List.extract_eq_take_drop,<-hl,List.drop_take]
theorem bEk {s:ByteArray}{n k k':Nat}(hss:s.size=n)(hn:n<=2^60)(h:k<n)(hk':k'=k+1):
  (Obl.ltE (.n k) (.len (.v s))).ok/\(Obl.inR .i64 (.add (.n k) (.l 1))).ok/\(Obl.slc (.l 0) (.n k) (.v s)).ok/\(Obl.slc (.add (.n k) (.l 1)) (.len (.v s)) (.v s)).ok/\((IE.n k).add (IE.l 1)).den=(IE.n k').den/\k'<=n/\n - k'<n - k:=by
 have hsz:(IE.len (.v s)).den=(n:Int):=by show((s.size:Nat):Int)=_;rw[hss]
 refine⟨?_,?_,⟨zV,?_,?_⟩,⟨?_,?_,?_⟩,?_,zW,zW⟩
 ·show _/\_;rw[hsz];simp only[IE.den];omega
 ·show lo _<=_/\_<=hi _;simp only[lo,hi,IE.den];omega
 ·simp only[IE.den];omega
 ·show(k:Int)<=((s.size:Nat):Int);omega
 ·simp only[IE.den];omega
 ·rw[hsz];simp only[IE.den];omega
 ·exact Int.le_refl _
 ·simp only[IE.den,hk'];omega
theorem aHh:aB PP 70:=zK
theorem aTb (s:ByteArray)(hs:s.size<=2^60):Pure PP 70 [.string s] (.tuple #[.string ⟨(dB s.data.toList).1.toArray⟩,.string ⟨((dB s.data.toList).2.getD [49]).toArray⟩,.bool (dB s.data.toList).2.isSome]):=by
 obtain⟨l,hl⟩:=nm (s.data.toList);rw[<-hl];obtain⟨A,hA⟩:∃A:ByteArray,A=⟨(dB l).1.toArray⟩:=⟨_,rfl⟩;obtain⟨B,hB⟩:∃A:ByteArray,A=⟨((dB l).2.getD [49]).toArray⟩:=⟨_,rfl⟩;obtain⟨C,hC⟩:∃b,b=(dB l).2.isSome:=⟨_,rfl⟩;rw[<-hA,<-hB,<-hC];have hlen:l.length=s.size:=by rw[hl];rfl
 obtain⟨n,hn⟩:=nm (l.length);have hsz:(IE.len (.v s)).den=(n:Int):=by show((s.size:Nat):Int)=_;rw[hn,hlen]
 have aZ2:∀{k k':Nat},jP l k->k<l.length->l.getD k 0=47->k'=k+1->((SE.v s).sub (.l 0) (.n k)).den=A/\((SE.v s).sub (.add (.n k) (.l 1)) (.len (.v s))).den=B/\true=C:=λ{k k'} h hk hb hk'=>by
  have h1:=h.found hk hb
  refine⟨ba_eq ?_,ba_eq ?_,?_⟩
  ·rw[aJn hl (a:=0) (b:=k) rfl rfl,hA,h1];simp
  ·rw[aJn hl (a:=k+1) (b:=n) (by simp[IE.den]) hsz,hB,h1,hn];simp
  ·rw[hC,h1];rfl
 have bDk:jP l l.length->s=A/\(⟨#[49]⟩:ByteArray)=B/\false=C:=λh=>by
  have h1:=h.none
  refine⟨ba_eq ?_,?_,?_⟩
  ·rw[hA,h1,<-hl]
  ·rw[hB,h1];rfl
  ·rw[hC,h1];rfl
 clear hA hB hC;have hss:s.size=n:=zW;have hnb:n<=2^60:=zW;refine aH mixed tok [.s (.v s)] Tryz.func70 rfl rfl rfl λc hc hR=>?_;apply zN hc;cbv;let ι:={k:Nat//k<=n/\jP l k};let I:ι->St:=λx=>⟨[(0,.s (.v s)),(5,.i .i64 (.n x.1))],[],[]⟩
 let x0:ι:=⟨0,Nat.zero_le _,jP.zero l⟩
 refine zU 0 (S':=I x0) (K':=[]) zL trivial trivial ?_;refine bQ hc I (λx=>n - x.1) x0 100 ?_;rintro p ⟨k,hk,cI⟩ hy;have uX:(BE.lt (.n k) (.len (.v s))).den=decide (k<n):=by
  show decide ((k:Int)<(IE.len (.v s)).den)=_
  rw[hsz];exact decide_eq_decide.2 ⟨λh=>Int.ofNat_lt.1 h,λh=>Int.ofNat_lt.2 h⟩
 cbv;refine aE rfl 100 (λh=>?_) (λh=>?_)
 ·have hkn:k<n:=of_decide_eq_true (uX.symm.trans h)
  obtain⟨k',hk'⟩:=nm (k+1);have hkl:k<l.length:=Nat.lt_of_lt_of_eq hkn hn;obtain⟨o2,o3,o4,o5,hi1,aSf,hms⟩:=bEk (s:=s) hss hnb hkn hk';have e47:(BE.eq (.byte (.v s) (.n k)) (.l 47)).den=decide (l.getD k 0=47):=by
   simp only[BE.den];exact decide_eq_decide.2 (by rw[jS (k:=k) (by simp[IE.den]),<-hl];exact bEo)
  have hst:l.getD k 0≠47->jP l k':=λh=>by rw[hk'];exact cI.step hkl h
  cbv;refine zO ?_;refine aE rfl 100 (λh2=>?_) (λh2=>?_)
  ·have h2:=of_decide_eq_true (e47.symm.trans h2)
   obtain⟨a1,a2,a3⟩:=aZ2 cI hkl h2 hk';clear hy;subst a3;cbv;refine zO ?_;refine cM hc _ 0 ?_;cbv;refine cM hc _ 0 ?_;cbv;refine cM hc _ 0 ?_;cbv;refine zE ?_;cbv;exact bR hc hR (av:=.t [.s (.sub (.v s) (.l 0) (.n k)),.s (.sub (.v s) (.add (.n k) (.l 1)) (.len (.v s))),.b (.l true)]) rfl (by rw[<-a1,<-a2];rfl)
  ·have h2:=of_decide_eq_false (e47.symm.trans h2)
   have hd:=hst h2
   cbv;refine zO ?_;exact zU 0 (S':=I ⟨k',aSf,hd⟩) (K':=[]) ⟨zS,zI rfl rfl hi1,trivial⟩ trivial trivial (hy _ hms)
 ·have hkn:¬k<n:=of_decide_eq_false (uX.symm.trans h)
  have hkl:k=l.length:=(Nat.le_antisymm hk (Nat.le_of_not_lt hkn)).trans hn
  have hd:jP l l.length:=by rw[<-hkl];exact cI
  obtain⟨a1,a2,a3⟩:=bDk hd;clear hy;subst a1;subst a2;subst a3;cbv;exact bR hc hR (av:=.t [.s (.v s),.s (.v ⟨#[49]⟩),.b (.l false)]) rfl rfl
end Go.Ai
