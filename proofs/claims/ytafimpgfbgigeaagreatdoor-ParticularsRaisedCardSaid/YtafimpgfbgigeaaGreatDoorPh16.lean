/- Part 17: lemmas for the particulars laws -/
import Derived.Test.YtafimpgfbgigeaaGreatDoorPh15
set_option linter.all false
namespace Go.Ai
open Go Go.Proofs Go.Num
theorem kV:aB PP 112:=zK
theorem rV {v u:Value}{X:Nat->Prop}{w:World}{n m:Nat}(hbn:(aC n).length<=2^39)(hbm:(aC m).length<=2^39)(hX:∀b,X b->b<w.heap.size)(hv:(aI n).p v X w)(hu:(aI m).p u X w):
  Fn PP 112 [v,u] X w (aI (n*m)):=by
 obtain⟨R,hRR⟩:=nm (aI (n*m));obtain⟨K,hK⟩:=nm ([KF.cst v (aI n),KF.cst u (aI m)]);rw[<-hRR];refine bJ mixed tok [.q v,.q u] (K:=K) Tryz.func112 rfl rfl (lbl rfl) rfl hX (by subst hK;simp;exact⟨hv,hu⟩) λc hc hR=>?_;refine dE 0 .u32 (aC n) rfl rfl (λX μ a w v' H hv'=>cD H (by simp[hK]) hv') λf N cap hN hf dJ=>?_;refine dE 1 .u32 (aC m) rfl rfl (λX μ a w v' H hv'=>cD H (by simp[hK]) hv') λf' M aU hM hf' gY=>?_;have hfw:∀i,i<N->f i=(aC n).getD i 0:=λi hi=>by
  have:=List.getElem?_eq_getElem (l:=aC n) (i:=i) zW
  rw[hf i _ this,List.getD_eq_getElem?_getD,this];rfl
 have aDg:∀i,i<M->f' i=(aC m).getD i 0:=λi hi=>by
  have:=List.getElem?_eq_getElem (l:=aC m) (i:=i) zW
  rw[hf' i _ this,List.getD_eq_getElem?_getD,this];rfl
 have hbN:N<=2^39:=zW
 have hbM:M<=2^39:=zW
 have kf:∀q,lT q K K:=λq=>by subst hK;exact⟨⟨.head _,KFr.cst _ _ _⟩,⟨.tail _ (.head _),KFr.cst _ _ _⟩,trivial⟩
 have cU:∀(kd:IntKind) (e:IE) (z:Int),e.den=z->lo kd<=z/\z<=hi kd->(Obl.inR kd e).ok:=λkd e z he hz=>by show _/\_;rw[he];exact hz
 have nz:(Obl.nz (IE.l 1000000000)).ok:=by show _≠_;simp[IE.den]
 have q0:(Obl.inR .i64 ((IE.n N).add (IE.n M))).ok:=cU _ _ ((N:Int)+M) rfl zX
 have bHv:N=0\/M=0->∀{X:Nat->Prop} {w:World},(mY .u32 (aC (n*m))).p (.slice none 0 0) X w:=λh X w=>by
  have e:n*m=0:=by
   rcases h with h | h
   ·have:n=0:=by
     apply Classical.byContradiction;intro hn;have:=bZ hn;rw[this]at hN;simp at hN;omega
    rw[this,Nat.zero_mul]
   ·have:m=0:=by
     apply Classical.byContradiction;intro hn;have:=bZ hn;rw[this]at hM;simp at hM;omega
    rw[this,Nat.mul_zero]
  rw[e,bV];exact⟨none,0,rfl,zA,rfl,rfl⟩
 have fnil:N=0\/M=0->∀{X:Nat->Prop} {w:World} {μ:Mu} {v:Value},aD μ (.xs none 0 0)=some v->R.p v X w:=λh X w μ v hv=>by
  simp only[aD]at hv;injection hv with hv
  rw[hRR,<-hv];exact bHv h
 apply zN hc;cbv;refine cG 13 rfl rfl 100 (λh=>?_) (λh=>?_)
 ·have h0:N=0:=by have:=of_decide_eq_true (show decide ((N:Int)=0)=true from h);omega
  cbv;exact bB hc hR rfl (λX μ a w v H hv=>fnil (.inl h0) (μ:=μ) hv)
 cbv;refine aE rfl 100 (λh=>?_) (λh=>?_)
 ·have h0:M=0:=by have:=of_decide_eq_true (show decide ((M:Int)=0)=true from h);omega
  cbv;exact bB hc hR rfl (λX μ a w v H hv=>fnil (.inr h0) (μ:=μ) hv)
 cbv;refine aP hc ⟨q0,trivial⟩ ?_;refine rZ hc _ .u32 cJ ?_ ?_ ?_ (λT z hT hz=>?_)
 ·simp only[IE.den];omega
 ·simp only[IE.den];omega
 ·simp only[IE.den];omega
 have hT:T=N+M:=by simp only[IE.den]at hT;omega
 have hz0:z=List.replicate ((aC n).length+(aC m).length) 0:=by rw[hz,hT,hN,hM]
 have mul0:Mul n m 0 0 z 0:=by rw[hz0];exact Mul.init
 apply zN hc;cbv;let ι:={x:Nat × List Int//Mul n m x.1 0 x.2 0/\x.1<=N};let I:ι->St:=λx=>⟨[(0,.sl 0 0 (.n N) cap),(1,.sl 1 0 (.n M) aU),(5,.sl 2 0 (.n T) T),(6,.i .i64 (.n x.1.1))],[.xi .u32 N f,.xi .u32 M f',.r 145 .u32 x.1.2],[]⟩
 let x0:ι:=⟨(0,z),mul0,Nat.zero_le _⟩
 refine zU 3 (S':=I x0) (K':=K) zL (kf _) trivial ?_;refine bW hc I (λx=>N - x.1.1) x0 100 ?_;rintro p ⟨⟨i,out⟩,hMu,aTu⟩ hy;simp only at hMu aTu;have hlen:=hMu.len;cbv;refine aE rfl 100 (λh=>?_) (λh=>?_)
 ·have h:(i:Int)<(N:Int):=BE.lt_t h
  have hiN:i<N:=Int.ofNat_lt.1 h
  have hga:=bA (bG n) i
  obtain⟨ga,iM⟩:=nm ((aC n).getD i 0);rw[<-iM]at hga;have hix:aY 0 (IE.n i).den 1 0=i:=by simp only[aY,IE.den];omega
  have g1:(IE.fn f 0 (IE.n i) 1 0).den=ga:=by show f (aY 0 (IE.n i).den 1 0)=ga;rw[hix,hfw i hiN,iM]
  have o1:(Obl.ltE (IE.n i) (IE.n N)).ok:=by show _/\_;simp only[IE.den];omega
  have o2:(Obl.ix 0 (IE.n i) 1 0 1 N).ok:=by show _<=_;rw[hix];omega
  let κ:={x:Nat × List Int × Int//Mul n m i x.1 x.2.1 x.2.2/\x.1<=M}
  let J:κ->St:=λx=>⟨[(0,.sl 0 0 (.n N) cap),(1,.sl 1 0 (.n M) aU),(5,.sl 2 0 (.n T) T),(6,.i .i64 (.n i)),(7,.i .u64 (.v x.1.2.2)),(8,.i .i64 (.n x.1.1))],[.xi .u32 N f,.xi .u32 M f',.r 145 .u32 x.1.2.1],[]⟩
  let y0:κ:=⟨(0,out,0),hMu,Nat.zero_le _⟩
  cbv;refine zU 3 (S':=J y0) (K':=K) zL (kf _) trivial ?_;refine bW hc J (λx=>M - x.1.1) y0 100 ?_;rintro p' ⟨⟨k,ot,cr⟩,hMk,hk⟩ hyk;simp only at hMk hk;have hlk:=hMk.len;have hcr:=hMk.c;cbv;refine aE rfl 100 (λh=>?_) (λh=>?_)
  ·have h:(k:Int)<(M:Int):=BE.lt_t h
   have hkM:k<M:=Int.ofNat_lt.1 h
   have hgb:=bA (bG m) k
   obtain⟨gb,mN⟩:=nm ((aC m).getD k 0);rw[<-mN]at hgb;have hog:=bA hMk.wd (i+k);obtain⟨og,aDj⟩:=nm (ot.getD (i+k) 0);rw[<-aDj]at hog;obtain⟨pr,hpr⟩:=nm (ga*gb);have bE9:0<=pr/\pr<=999999999*999999999:=by
    rw[hpr];exact⟨Int.mul_nonneg hga.1 hgb.1,Int.mul_le_mul zW zW hgb.1 zW⟩
   obtain⟨x2,hx2⟩:=nm (cr+(pr+og));have aEs:0<=x2/\x2<=999999998000000001+1999999998:=zW;obtain⟨c0,hc0⟩:=nm (x2/1000000000);obtain⟨k',hk'⟩:=nm (k+1);have hst:=hMk.step (x:=x2) zW zW (by rw[hx2,hpr,iM,mN,aDj]);rw[<-hc0,<-hk']at hst;have aJz:aY 0 (IE.n k).den 1 0=k:=by simp only[aY,IE.den];omega
   have hik:aY 0 ((IE.n i).add (IE.n k)).den 1 0=i+k:=by simp only[aY,IE.den];omega
   have g2:(IE.fn f' 0 (IE.n k) 1 0).den=gb:=by show f' (aY 0 (IE.n k).den 1 0)=gb;rw[aJz,aDg k hkM,mN]
   have g3:(IE.nth ot 0 ((IE.n i).add (IE.n k)) 1 0).den=og:=by show ot.getD (aY 0 ((IE.n i).add (IE.n k)).den 1 0) 0=og;rw[hik,aDj]
   have m1:((IE.fn f 0 (IE.n i) 1 0).mul (IE.fn f' 0 (IE.n k) 1 0)).den=pr:=by show(IE.fn f 0 (IE.n i) 1 0).den*(IE.fn f' 0 (IE.n k) 1 0).den=pr;rw[g1,g2,hpr]
   have a1:((IE.nth ot 0 ((IE.n i).add (IE.n k)) 1 0).add ((IE.fn f 0 (IE.n i) 1 0).mul (IE.fn f' 0 (IE.n k) 1 0))).den=pr+og:=by show(IE.nth ot 0 ((IE.n i).add (IE.n k)) 1 0).den+((IE.fn f 0 (IE.n i) 1 0).mul (IE.fn f' 0 (IE.n k) 1 0)).den=_;rw[m1,g3];omega
   have a2:(((IE.nth ot 0 ((IE.n i).add (IE.n k)) 1 0).add ((IE.fn f 0 (IE.n i) 1 0).mul (IE.fn f' 0 (IE.n k) 1 0))).add (IE.v cr)).den=x2:=by show((IE.nth ot 0 ((IE.n i).add (IE.n k)) 1 0).add ((IE.fn f 0 (IE.n i) 1 0).mul (IE.fn f' 0 (IE.n k) 1 0))).den+cr=_;rw[a1,hx2];omega
   have r1:((((IE.nth ot 0 ((IE.n i).add (IE.n k)) 1 0).add ((IE.fn f 0 (IE.n i) 1 0).mul (IE.fn f' 0 (IE.n k) 1 0))).add (IE.v cr)).rem (IE.l 1000000000)).den=x2%1000000000:=by
    show(((IE.nth ot 0 ((IE.n i).add (IE.n k)) 1 0).add ((IE.fn f 0 (IE.n i) 1 0).mul (IE.fn f' 0 (IE.n k) 1 0))).add (IE.v cr)).den.tmod 1000000000=_
    rw[a2,Int.tmod_eq_emod_of_nonneg aEs.1]
   have d1:((((IE.nth ot 0 ((IE.n i).add (IE.n k)) 1 0).add ((IE.fn f 0 (IE.n i) 1 0).mul (IE.fn f' 0 (IE.n k) 1 0))).add (IE.v cr)).quo (IE.l 1000000000)).den=c0:=by
    show(((IE.nth ot 0 ((IE.n i).add (IE.n k)) 1 0).add ((IE.fn f 0 (IE.n i) 1 0).mul (IE.fn f' 0 (IE.n k) 1 0))).add (IE.v cr)).den.tdiv 1000000000=_
    rw[a2,Int.tdiv_eq_ediv_of_nonneg aEs.1,hc0]
   have p0:=cU .u64 _ _ g1 zX
   have p1:(Obl.ltE (IE.n k) (IE.n M)).ok:=by show _/\_;simp only[IE.den];omega
   have p2:(Obl.ix 0 (IE.n k) 1 0 1 M).ok:=by show _<=_;rw[aJz];omega
   have p3:(Obl.inR .u64 (IE.v ga)).ok:=cU _ _ ga rfl zX
   have p4:=cU .u64 _ _ g2 zX
   have p5:=cU .u64 _ _ m1 zX
   have p6:(Obl.inR .i64 ((IE.n i).add (IE.n k))).ok:=cU _ _ ((i:Int)+k) rfl zX
   have p7:(Obl.ltE ((IE.n i).add (IE.n k)) (IE.n T)).ok:=by show _/\_;simp only[IE.den];omega
   have hlt:aY 0 ((IE.n i).add (IE.n k)).den 1 0<ot.length:=by rw[hik,hlk];omega
   have bJg:(Obl.ix 0 ((IE.n i).add (IE.n k)) 1 0 1 ot.length).ok:=hlt
   have p9:=cU .u64 _ _ g3 zX
   have p10:=cU .u64 _ _ a1 zX
   have p11:=cU .u64 _ _ a2 zX
   have p12:=cU .u32 _ _ r1 zX
   have p13:=cU .u64 _ _ d1 zX
   have p14:(Obl.inR .i64 ((IE.n k).add (IE.l 1))).ok:=cU _ _ ((k:Int)+1) rfl zX
   have s1:((IE.n k).add (IE.l 1)).den=(IE.n k').den:=by simp only[IE.den,hk'];omega
   have aTv:k'<=M:=zW
   have hmk:M - k'<M - k:=zW
   cbv;refine zO ?_;refine dH hc _ 0 ?_;cbv;refine zE ?_;cbv;refine zO ?_;refine jV hc _ (r:=(2,145,.u32,ot,aY 0 ((IE.n i).add (IE.n k)).den 1 0,((((IE.nth ot 0 ((IE.n i).add (IE.n k)) 1 0).add ((IE.fn f 0 (IE.n i) 1 0).mul (IE.fn f' 0 (IE.n k) 1 0))).add (IE.v cr)).rem (IE.l 1000000000)))) hlt (λl' hl'=>?_);have hl':l'=ot.set (i+k) (x2%1000000000):=by rw[hl',<-hik,<-r1]
   have hst:Mul n m i k' l' c0:=by rw[hl'];exact hst
   apply zN hc;cbv;refine zO ?_;refine zU 3 (S':=J ⟨(k',l',c0),hst,aTv⟩) (K':=K) ⟨zS,zS,zS,zS,zI rfl rfl d1,zI rfl rfl s1,trivial⟩ (kf _) trivial (hyk _ hmk)
  ·have h:¬(k:Int)<(M:Int):=BE.lt_f h
   have hkM:k=(aC m).length:=zW
   have hMk:Mul n m i (aC m).length ot cr:=by rw[<-hkM];exact hMk
   have lG:=hMk.row zW
   rw[<-hM]at lG;have hik:aY 0 ((IE.n i).add (IE.n M)).den 1 0=i+M:=by simp only[aY,IE.den];omega
   have p1:(Obl.inR .i64 ((IE.n i).add (IE.n M))).ok:=cU _ _ ((i:Int)+M) rfl zX
   have p2:(Obl.inR .u32 (IE.v cr)).ok:=cU _ _ cr rfl zX
   have p3:(Obl.ltE ((IE.n i).add (IE.n M)) (IE.n T)).ok:=by show _/\_;simp only[IE.den];omega
   have hlt:aY 0 ((IE.n i).add (IE.n M)).den 1 0<ot.length:=by rw[hik,hlk];omega
   have p4:(Obl.inR .i64 ((IE.n i).add (IE.l 1))).ok:=cU _ _ ((i:Int)+1) rfl zX
   obtain⟨i',hi'⟩:=nm (i+1);rw[<-hi']at lG;have s1:((IE.n i).add (IE.l 1)).den=(IE.n i').den:=by simp only[IE.den,hi'];omega
   have aEp:i'<=N:=zW
   have hmi:N - i'<N - i:=zW
   cbv;refine zO ?_;refine jV hc _ (r:=(2,145,.u32,ot,aY 0 ((IE.n i).add (IE.n M)).den 1 0,IE.v cr)) hlt (λl' hl'=>?_);have hl':l'=ot.set (i+M) cr:=by rw[hl',<-hik];rfl
   have lG:Mul n m i' 0 l' 0:=by rw[hl'];exact lG
   apply zN hc;cbv;refine zO ?_;refine zU 3 (S':=I ⟨(i',l'),lG,aEp⟩) (K':=K) ⟨zS,zS,zS,zI rfl rfl s1,trivial⟩ (kf _) trivial (hy _ hmi)
 ·have h:¬(i:Int)<(N:Int):=BE.lt_f h
  have hiN:i=(aC n).length:=zW
  have hMu:Mul n m (aC n).length 0 out 0:=by rw[<-hiN];exact hMu
  have tI:=hMu.done
  have lQ:out.length=T:=by rw[hlen,hT,hN,hM]
  have hlb:out.length<=2^40:=zW
  cbv;refine qV 2 rfl (λg N' hN' hg=>?_);refine eB (R:=R) hc mG (λn0 D X μ a w aK H aG=>?_) 100 ?_
  ·obtain⟨v1,rfl,h1⟩:=bN aG;have h2:=H.row (l:=out) rfl h1 (by rw[lQ];rfl) (λj y hj=>by rw[Nat.zero_add];exact hg j y hj) zW zW;rw[hRR,<-tI];exact gQ hMu.wd hlb H.xlt h2
  cbv;exact bB hc hR rfl (λX μ a w v H hv=>H.toP.val (k:=3) (R:=R) (.head _) hv)
theorem aWn:aB PP 165:=zK
theorem aOa:aB PP 164:=zK
theorem bFr {X:Nat->Prop}{w:World}{x:Int}(hX:∀b,X b->b<w.heap.size)(h0:0<=x)(h1:x<18446744073709551616):Fn PP 165 [.int .u64 x] X w (aI x.toNat):=by
 obtain⟨R,hRR⟩:=nm (aI x.toNat);rw[<-hRR];obtain⟨y,hy⟩:=nm (x/1000000000);have e1:x.tmod 1000000000=x%1000000000:=Int.tmod_eq_emod_of_nonneg h0;have e2:x.tdiv 1000000000=y:=by rw[hy];exact Int.tdiv_eq_ediv_of_nonneg h0
 have hy0:0<=y/\y<18446744074:=zW
 have e3:y.tmod 1000000000=y%1000000000:=Int.tmod_eq_emod_of_nonneg hy0.1
 have e4:y.tdiv 1000000000=y/1000000000:=Int.tdiv_eq_ediv_of_nonneg hy0.1
 have cU:∀(kd:IntKind) (e:IE) (z:Int),e.den=z->lo kd<=z/\z<=hi kd->(Obl.inR kd e).ok:=λkd e z he hz=>by show _/\_;rw[he];exact hz
 have nz:(Obl.nz (IE.l 1000000000)).ok:=by show _≠_;simp[IE.den]
 have d1:(IE.rem (.v x) (.l 1000000000)).den=x%1000000000:=e1
 have d2:(IE.quo (.v x) (.l 1000000000)).den=y:=e2
 have d3:(IE.rem (.quo (.v x) (.l 1000000000)) (.l 1000000000)).den=y%1000000000:=by show(IE.quo (.v x) (.l 1000000000)).den.tmod 1000000000=_;rw[d2,e3]
 have d4:(IE.quo (.quo (.v x) (.l 1000000000)) (.l 1000000000)).den=y/1000000000:=by show(IE.quo (.v x) (.l 1000000000)).den.tdiv 1000000000=_;rw[d2,e4]
 have p1:=cU .u32 _ _ d1 zX
 have p2:=cU .u64 _ _ d2 zX
 have p3:=cU .u32 _ _ d3 zX
 have p4:=cU .u64 _ _ d4 zX
 have p5:=cU .u32 _ _ d4 zX
 have hl:Wd [x%1000000000,y%1000000000,y/1000000000]:=Wd.mk zW (Wd.mk zW (Wd.mk zW Wd.nil))
 have hv:val [x%1000000000,y%1000000000,y/1000000000]=x:=by simp only[val];omega
 refine bJ mixed tok [.i .u64 (.v x)] (K:=[]) Tryz.func165 rfl rfl (lbl rfl) rfl hX (λf hf=>by cases hf) λc hc hR=>?_;apply zN hc;cbv;refine zO ?_;refine aAl 0 .u32 rfl rfl rfl λf hf=>?_;have f0:=(hf 0 _ rfl).trans d1;have f1:=(hf 1 _ rfl).trans d3;have f2:=(hf 2 _ rfl).trans d4;cbv;refine eB (R:=R) hc mG (λn0 D X μ a w aK H aG=>?_) 100 ?_
 ·obtain⟨v,rfl,hv'⟩:=bN aG;have h3:=H.row (l:=[x%1000000000,y%1000000000,y/1000000000]) rfl hv' rfl (λi y hy=>by
   match i,hy with
   | 0,hy=>simp at hy;subst hy;exact f0
   | 1,hy=>simp at hy;subst hy;exact f1
   | 2,hy=>simp at hy;subst hy;exact f2) (lRf _) (lRf _)
  have:=gQ hl zA H.xlt h3
  rw[hv]at this;rw[hRR];exact this
 cbv;exact bB hc hR rfl (λX μ a w v H hv=>H.toP.val (k:=1) (.head _) hv)
theorem aY8 {v:Value}{X:Nat->Prop}{w:World}{n:Nat}(hbn:(aC n).length<=2)(hX:∀b,X b->b<w.heap.size)(hv:(aI n).p v X w):
  Fn PP 164 [v] X w (eE (.int .u64 n)):=by
 obtain⟨R,hRR⟩:=nm (eE (.int .u64 n));obtain⟨K,hK⟩:=nm ([KF.cst v (aI n)]);rw[<-hRR];have bJi:n<1000000000^2:=aT hbn;refine bJ mixed tok [.q v] (K:=K) Tryz.func164 rfl rfl (lbl rfl) rfl hX (by subst hK;simp;exact hv) λc hc hR=>?_;refine dE 0 .u32 (aC n) rfl rfl (λX μ a w v' H hv'=>cD H (by simp[hK]) hv') λf N cap hN hf dJ=>?_;have hN2:N<=2:=zW;have cU:∀(kd:IntKind) (e:IE) (z:Int),e.den=z->lo kd<=z/\z<=hi kd->(Obl.inR kd e).ok:=λkd e z he hz=>by show _/\_;rw[he];exact hz
 have q0:(Obl.inR .i64 ((IE.n N).sub (IE.l 1))).ok:=cU _ _ ((N:Int) - 1) rfl zX
 have kf:lT 1 K K:=by subst hK;exact⟨⟨.head _,KFr.cst _ _ _⟩,trivial⟩
 have hdb:∀k,val ((aC n).drop k)<1000000000^((aC n).length - k)/\0<=val ((aC n).drop k):=λk=>by
  have:=kG ((bG n).drop k)
  rw[List.length_drop]at this;exact⟨this,cL ((bG n).drop k)⟩
 have hv0:val ((aC n).drop 0)=n:=by rw[List.drop_zero,cS]
 apply zN hc;cbv;refine aP hc ⟨q0,trivial⟩ ?_;let ι:={x:Nat × Int//x.2=val ((aC n).drop x.1)/\x.1<=N};let I:ι->St:=λx=>⟨[(0,.sl 0 0 (.n N) cap),(3,.i .u64 (.v x.1.2)),(4,.i .i64 (.sub (.n x.1.1) (.l 1)))],[.xi .u32 N f],[]⟩
 let x0:ι:=⟨(N,0),by rw[List.drop_of_length_le zW];rfl,lRf _⟩
 refine zU 1 (S':=I x0) (K':=K) zL kf trivial ?_;refine bW hc I (λx=>x.1.1) x0 100 ?_;rintro p ⟨⟨k,z⟩,hz,hk⟩ hy;simp only at hz hk;cbv;refine aE rfl 100 (λh=>?_) (λh=>?_)
 ·have h:(0:Int)<=(k:Int) - 1:=BE.le_t h
  obtain⟨q,hq⟩:∃q,q+1=k:=⟨k - 1,zW⟩;have hqN:q<N:=zW;have hqk:q<k:=zW;have hqg:(aC n)[q]?=some (aC n)[q]:=zA;have hst:=oX hqg;rw[hq,<-hz]at hst;have hwn:=bG n (aC n)[q] (List.getElem_mem _);obtain⟨ga,hga⟩:=nm ((aC n)[q]);rw[<-hga]at hst hwn;have hix:aY 0 ((IE.n k).sub (IE.l 1)).den 1 0=q:=by simp only[aY,IE.den];omega
  have g1:(IE.fn f 0 ((IE.n k).sub (IE.l 1)) 1 0).den=ga:=by show f (aY 0 ((IE.n k).sub (IE.l 1)).den 1 0)=ga;rw[hix,hf q _ hqg,hga]
  obtain⟨z',hz'⟩:=nm (val ((aC n).drop q));rw[<-hz']at hst;have hdq:=hdb q;rw[<-hz']at hdq;have hdk:=hdb k;rw[<-hz]at hdk;have hpw:(1000000000:Int)^((aC n).length - q)<=1000000000^2:=aXu zW;have hz1:0<=z'/\z'<1000000000000000000:=zW;have hz0:0<=z/\z<1000000000000000000:=zW;have m1:((IE.v z).mul (IE.l 1000000000)).den=z*1000000000:=rfl;have a1:(((IE.v z).mul (IE.l 1000000000)).add (IE.fn f 0 ((IE.n k).sub (IE.l 1)) 1 0)).den=z':=by show z*1000000000+(IE.fn f 0 ((IE.n k).sub (IE.l 1)) 1 0).den=z';rw[g1,hst];omega
  have p1:=cU .u64 _ _ m1 zX
  have p2:(Obl.ltE ((IE.n k).sub (IE.l 1)) (IE.n N)).ok:=by show _/\_;simp only[IE.den];omega
  have p3:(Obl.ix 0 ((IE.n k).sub (IE.l 1)) 1 0 1 N).ok:=by show _<=_;rw[hix];omega
  have p4:=cU .u64 _ _ g1 zX
  have p5:=cU .u64 _ _ a1 zX
  have p8:(Obl.inR .i64 (((IE.n k).sub (IE.l 1)).sub (IE.l 1))).ok:=cU _ _ ((k:Int) - 1 - 1) rfl zX
  have s1:(((IE.n k).sub (IE.l 1)).sub (IE.l 1)).den=((IE.n q).sub (IE.l 1)).den:=by simp only[IE.den];omega
  have bHy:q<=N:=zW
  cbv;refine zO ?_;exact zU 1 (S':=I ⟨(q,z'),hz',bHy⟩) (K':=K) ⟨zS,zI rfl rfl a1,zI rfl rfl s1,trivial⟩ kf trivial (hy _ hqk)
 ·have h:¬(0:Int)<=(k:Int) - 1:=BE.le_f h
  have hk0:k=0:=zW
  have hzn:z=n:=by rw[hz,hk0,hv0]
  cbv;refine bB hc hR rfl (λX μ a w v H hv=>?_);simp only[aD,IE.den]at hv;injection hv with hv
  rw[hRR,<-hv,hzn];exact rfl
theorem qF:aB PP 93:=zK
theorem aH2 (s:ByteArray)(hs:s.size<=2^60):Pure PP 93 [.string s] (.bool (isNat s.data.toList)):=by
 obtain⟨res,nG⟩:=nm (isNat s.data.toList);obtain⟨l,hl⟩:=nm (s.data.toList);rw[<-nG];rw[<-hl]at nG;have hlen:l.length=s.size:=by rw[hl];rfl
 obtain⟨n,hn⟩:=nm (l.length);have hsz:(IE.len (.v s)).den=(IE.n n).den:=by show((s.size:Nat):Int)=_;rw[hn,hlen];rfl
 refine zF [.s (.v s)] Tryz.func93 λc hc hR=>?_;cbv;let ι:={k:Nat//k<=n/\(l.take k).all nI=true};let I:ι->St:=λx=>⟨[(0,.s (.v s)),(3,.i .i64 (.n x.1))],[],[]⟩
 let x0:ι:=⟨0,Nat.zero_le _,rfl⟩
 refine zU 0 (S':=I x0) (K':=[]) zL trivial trivial ?_;refine bW hc I (λx=>n - x.1) x0 100 ?_;rintro p ⟨k,hk,cI⟩ hy;have wD:(BE.lt (.n k) (.len (.v s))).den=decide (k<n):=by
  show decide ((k:Int)<(IE.len (.v s)).den)=_
  rw[hsz];exact decide_eq_decide.2 (by simp only[IE.den];omega)
 cbv;refine aE rfl 100 (λh=>?_) (λh=>?_)
 ·have hkn:k<n:=of_decide_eq_true (wD.symm.trans h)
  obtain⟨k',hk'⟩:=nm (k+1);have o2:(Obl.ltE (.n k) (.len (.v s))).ok:=by show _/\_;rw[hsz];simp only[IE.den];omega
  have o3:(Obl.inR .i64 (.add (.n k) (.l 1))).ok:=by show lo _<=_/\_<=hi _;simp only[lo,hi,IE.den];omega
  have hi1:((IE.n k).add (IE.l 1)).den=(IE.n k').den:=by simp only[IE.den,hk'];omega
  have aTw:k'<=n:=zW
  have hms:n - k'<n - k:=zW
  have hkl:k<l.length:=zW
  have hno:¬nI (l.getD k 0)=true->res=false:=λh=>by rw[nG];exact aNw hkl h
  have bB1:nI (l.getD k 0)=true->(l.take k').all nI=true:=λh=>by rw[hk'];exact aIn hkl cI h
  have hlt:=aN3 hl (i:=.n k) (k:=k) (by simp[IE.den]) 48
  have hgt:=aO3 hl (i:=.n k) (k:=k) (by simp[IE.den]) 57
  cbv;refine zO ?_;refine cG 14 rfl rfl 100 (λh=>?_) (λh=>?_)
  ·have h:=of_decide_eq_true (hlt.symm.trans h)
   have hf:=hno (λhd=>by have:=wE.1 hd;omega)
   subst hf;cbv;exact bR hc hR (av:=.b (.l false)) rfl rfl
  ·have h:=of_decide_eq_false (hlt.symm.trans h)
   cbv;refine zO ?_;refine aE rfl 100 (λh2=>?_) (λh2=>?_)
   ·have h2:=of_decide_eq_true (hgt.symm.trans h2)
    have hf:=hno (λhd=>by have:=wE.1 hd;omega)
    subst hf;cbv;exact bR hc hR (av:=.b (.l false)) rfl rfl
   ·have h2:=of_decide_eq_false (hgt.symm.trans h2)
    have hd:=bB1 (wE.2 ⟨zW,zW⟩)
    cbv;refine zO ?_;exact zU 0 (S':=I ⟨k',aTw,hd⟩) (K':=[]) ⟨zS,zI rfl rfl hi1,trivial⟩ trivial trivial (hy _ hms)
 ·have hkn:¬k<n:=of_decide_eq_false (wD.symm.trans h)
  have hkl:k=l.length:=zW
  have hd:(l.take l.length).all nI=true:=by rw[<-hkl];exact cI
  have hd':l.all nI=true:=by rwa [List.take_of_length_le (lRf _)]at hd
  have h1:(BE.eq (.len (.v s)) (.l 1)).den=decide (l.length=1):=by
   show decide ((IE.len (.v s)).den=1)=_
   rw[hsz];exact decide_eq_decide.2 (by simp only[IE.den];omega)
  have l1:=aMw hl 1
  have e48:(BE.eq (.byte (.v s) (.l 0)) (.l 48)).den=decide (l.getD 0 0=48):=by
   simp only[BE.den];exact decide_eq_decide.2 (by rw[kS (k:=0) rfl,<-hl];exact aZq)
  have n48:(BE.not (.eq (.byte (.v s) (.l 0)) (.l 48))).den=decide (l.getD 0 0≠48):=by
   show(!(BE.eq (.byte (.v s) (.l 0)) (.l 48)).den)=_
   rw[e48];by_cases h:l.getD 0 0=48<;>simp[h]
  clear hy;cbv;refine cG 23 rfl rfl 100 (λh2=>?_) (λh2=>?_)
  ·have h2:=of_decide_eq_true (h1.symm.trans h2)
   have hf:res=true:=by rw[nG];simp[isNat,hd',h2]
   subst hf;cbv;exact bR hc hR (av:=.b (.l true)) rfl rfl
  ·have h2:=of_decide_eq_false (h1.symm.trans h2)
   cbv;refine cG 27 rfl rfl 100 (λh3=>?_) (λh3=>?_)
   ·have h3:=of_decide_eq_true (l1.symm.trans h3)
    have o1:(Obl.ltE (.l 0) (.len (.v s))).ok:=by show _/\_;rw[hsz];simp only[IE.den];omega
    have hf:res=decide (l.getD 0 0≠48):=by rw[nG];simp[isNat,hd',h2,h3]
    cbv;refine zO ?_;exact bR hc hR rfl (by rw[hf,<-n48];rfl)
   ·have h3:=of_decide_eq_false (l1.symm.trans h3)
    have hf:res=false:=by rw[nG];simp[isNat,h2,h3]
    subst hf;cbv;exact bR hc hR (av:=.b (.l false)) rfl rfl
def zRt (b:Bool)(n:Nat):RV1:=.agg [.b (.l b),.x (aI n)]
theorem aZv {b:Bool}{n:Nat}{u:Value}{X:Nat->Prop}{w:World}(h:(aI n).p u X w):(zRt b n).p (.agg #[.bool b,u]) X w:=
 ⟨[.bool b,u],rfl,rfl,⟨dZ h,h⟩,trivial⟩
theorem qH:aB PP 98:=zK
theorem aIk {b:Bool}{n:Nat}{r:Int}(hr:r=if b then -1 else if n=0 then 0 else 1):fD PP 98 [zRt b n] (.sg (.one (.i .i64 (.v r)))):=by
 obtain⟨R1,hR1⟩:=nm (aI n);have hz:zRt b n=.agg [.b (.l b),.x R1]:=by rw[hR1];rfl
 obtain⟨F,hF⟩:=nm (lR (.sg (zRt b n)));rw[hz]at hF |-;refine fU mixed tok Tryz.func98 rfl (by rfl) rfl [F] ⟨hF,trivial⟩ λc G hG hc hR=>?_;cases b with
 | true=>
  apply zN hc;cbv;exact dL hc hG hR rfl (.i hr.symm)
 | false=>
  apply zN hc;cbv;refine dE 6 .u32 (aC n) rfl rfl (λX μ a w v' H hv'=>by
   have h:=aNz (R:=.sg (.agg [.b (.l false),.x R1])) H (.head _) hF rfl hv'
   rw[hR1]at h;exact h) λf N cap hN hf dJ=>?_
  apply zN hc;cbv;refine aE rfl 100 (λh=>?_) (λh=>?_)
  ·have h:=BE.lt_t h
   cbv;refine dL hc hG hR rfl (.i ?_);rw[hr];have:n≠0:=λe=>by rw[e,bV]at hN;rw[hN]at h;exact absurd h zV
   simp[this];rfl
  ·have h:=BE.lt_f h
   cbv;refine dL hc hG hR rfl (.i ?_);rw[hr];have:n=0:=uH (by simp only[IE.den]at h;omega);simp[this];rfl
theorem jB:aB PP 116:=zK
theorem aBd {b b':Bool}{n:Nat}(hb:b'=(b&&decide (n≠0))):fD PP 116 [.one (.b (.l b)),.one (.x (aI n))] (.sg (zRt b' n)):=by
 obtain⟨R1,hR1⟩:=nm (aI n);obtain⟨F,hF⟩:=nm (lR (.sg (.one (.x R1))));obtain⟨F0,hF0⟩:=nm (lR (.sg (.one (.b (.l b)))));obtain⟨rs,hrs⟩:=nm (RV.sg (zRt b' n));rw[<-hrs,<-hR1];refine fU mixed tok Tryz.func116 rfl (by rfl) rfl [F0,F] ⟨hF0,hF,trivial⟩ λc G hG hc hR=>?_;obtain⟨K,hK⟩:=nm (nH 0 [F0,F]);rw[<-hK];refine dE 1 .u32 (aC n) rfl rfl (λX μ a w v' H hv'=>by
   have h:=aNz (R:=.sg (.one (.x R1))) H (by rw[hK];exact .tail _ (.head _)) hF rfl hv'
   rw[hR1]at h;exact h) λf N cap hN hf dJ=>?_
 have lO:∀{x:Bool} {X:Nat->Prop} {w:World} {u:Value},x=b'->(aI n).p u X w->G.p (.agg #[.bool x,u]) X w:=λhx hu=>by
  rw[hG,hrs,hx];exact aZv hu
 have bFb:∀{x:BE} {S:St} {X:Nat->Prop} {μ:Mu} {a:Act} {w:World} {v:Value},Sim c K S X μ a w->S.hp[2]?=some (.xi .u32 N f)->x.den=b'->aD μ (.g [.b x,.sl 2 0 (.n N) cap])=some v->G.p v X w:=by
  intro x S X μ a w v H hk hx hv;obtain⟨vs,h1,rfl⟩:=tA hv;obtain⟨v1,v2,rfl,e1,e2⟩:=bI h1;rw[iT e1];exact lO hx (H.toP.row hk e2 (by simp[IE.den,hN]) (λi x hx=>by rw[Nat.zero_add];exact hf i x hx) zW zW)
 have hlt:(BE.lt (.l 0) (.n N)).den=(true&&decide (n≠0)):=by
  show decide ((0:Int)<(N:Int))=_
  rw[Bool.true_and];refine decide_eq_decide.2 ⟨λh e=>?_,λh=>?_⟩
  ·rw[e,bV]at hN;rw[hN]at h;exact absurd h zV
  ·rw[hN,bZ h];simp only[List.length_cons];omega
 cases b with
 | true=>
  have hx:=hlt.trans hb.symm
  apply zN hc;cbv;exact bB hc hR rfl (λX μ a w v H hv=>bFb H rfl hx hv)
 | false=>
  have hx:(BE.l false).den=b':=hb.symm
  apply zN hc;cbv;exact bB hc hR rfl (λX μ a w v H hv=>bFb H rfl hx hv)
theorem aZp {b:UInt8}:(b.toNat:Int)=45↔b=45:=by
 constructor
 ·intro h;apply UInt8.toNat_inj.1;show b.toNat=45
  omega
 ·intro h;subst h;rfl
theorem aX1 {l:List UInt8}(h:l.getD 0 0=45)(hl:1<l.length):(yJ l).isSome=(decide (l≠[45,48])&&isNat (l.drop 1)):=by
 cases l with
 | nil=>simp at hl
 | cons c t=>
  have hc:c=45:=h
  subst hc;simp only[yJ,List.drop_succ_cons,List.drop_zero];by_cases h1:isNat t=true<;>by_cases h2:t=[48]<;>simp[h1,h2]
theorem aX2 {l:List UInt8}(h:¬(1<l.length/\l.getD 0 0=45)):(yJ l).isSome=isNat l:=by
 by_cases h1:∃t,l=45::t
 ·obtain⟨t,rfl⟩:=h1;have:t=[]:=by
   cases t with
   | nil=>rfl
   | cons d t=>exact absurd ⟨zA,rfl⟩ h
  subst this;rfl
 ·rw[aB2 (λt e=>h1 ⟨t,e⟩)];by_cases h2:isNat l=true<;>simp[h2]
theorem aFm {s:ByteArray}{l:List UInt8}(hl:l=s.data.toList):((SE.v s).sub (.l 1) (.len (.v s))).den.data.toList=l.drop 1:=by
 have hsz:s.size=l.length:=by rw[hl];rfl
 show(s.extract 1 (IE.len (.v s)).den.toNat).data.toList=_
 have hlq:(IE.len (.v s)).den.toNat=l.length:=by show((s.size:Nat):Int).toNat=_;rw[hsz,Int.toNat_natCast]
 rw[hlq,ByteArray.data_extract,Array.toList_extract,List.extract_eq_take_drop,<-hl,List.take_of_length_le (by rw[List.length_drop];omega)]
theorem aP4 (s:ByteArray):((SE.v s).sub (.l 1) (.len (.v s))).den.size<=s.size:=by
 show(s.extract 1 (IE.len (.v s)).den.toNat).size<=_
 have hlq:(IE.len (.v s)).den.toNat=s.size:=by show((s.size:Nat):Int).toNat=_;rw[Int.toNat_natCast]
 rw[ByteArray.size_extract,hlq];omega
theorem aOn {s:ByteArray}(h:1<=s.size):(Obl.slc (.l 1) (.len (.v s)) (.v s)).ok:=by
 have hlq:(IE.len (.v s)).den=(s.size:Int):=rfl
 refine⟨zV,?_,?_⟩
 ·rw[hlq];simp only[IE.den];omega
 ·rw[hlq];exact Int.le_refl _
theorem aCr:aB PP 92:=zK
theorem aWb (s:ByteArray)(hs:s.size<=2^60):Pure PP 92 [.string s] (.bool (yJ s.data.toList).isSome):=by
 obtain⟨res,nG⟩:=nm ((yJ s.data.toList).isSome);rw[<-nG];obtain⟨l,hl⟩:=nm (s.data.toList);rw[<-hl]at nG;have hlen:l.length=s.size:=by rw[hl];rfl
 have l1:=aMw hl 1
 have hv:=aH2 s hs
 obtain⟨rv,hrv⟩:=nm (isNat s.data.toList);rw[<-hrv]at hv;have aAg:¬(1<l.length/\l.getD 0 0=45)->rv=res:=λh=>by rw[nG,hrv,<-hl,aX2 h]
 have e45:(BE.eq (.byte (.v s) (.l 0)) (.l 45)).den=decide (l.getD 0 0=45):=by
  simp only[BE.den];exact decide_eq_decide.2 (by rw[kS (k:=0) rfl,<-hl];exact aZp)
 have aHs:1<l.length->l.getD 0 0=45->res=(decide (l≠[45,48])&&isNat (l.drop 1)):=λh1 h2=>by rw[nG,aX1 h2 h1]
 refine zF [.s (.v s)] Tryz.func92 λc hc hR=>?_;cbv;refine cG 6 rfl rfl 100 (λh=>?_) (λh=>?_)
 ·have h:=of_decide_eq_true (l1.symm.trans h)
  have o1:(Obl.ltE (.l 0) (.len (.v s))).ok:=by show _/\_;simp only[IE.den,SE.den];omega
  cbv;refine aP hc ⟨o1,trivial⟩ ?_;refine aE rfl 100 (λh2=>?_) (λh2=>?_)
  ·have h2:=of_decide_eq_true (e45.symm.trans h2)
   have hr:=aHs h h2
   have e48:(BE.not (.seq (.v s) (.v ⟨#[45,48]⟩))).den=decide (l≠[45,48]):=by
    show(!(BE.seq (.v s) (.v ⟨#[45,48]⟩)).den)=_
    rw[aNi,<-hl];simp
   cbv;refine cG 13 rfl rfl 100 (λh3=>?_) (λh3=>?_)
   ·have h3:=e48.symm.trans h3
    rw[h3,Bool.true_and]at hr;have hv2:Pure PP 93 [.string ((SE.v s).sub (.l 1) (.len (.v s))).den] (.bool res):=by
     have:=aH2 ((SE.v s).sub (.l 1) (.len (.v s))).den (lTr (aP4 s) hs)
     rwa [aFm hl,<-hr]at this
    have o2:=aOn (s:=s) (by omega)
    cbv;refine aP hc ⟨o2,trivial⟩ ?_;refine zC (.b (.l res)) hv2 qF ?_;cbv;exact bR hc hR (av:=.b (.l res)) rfl rfl
   ·have h3:=e48.symm.trans h3
    rw[h3,Bool.false_and]at hr;subst hr;cbv;exact bR hc hR (av:=.b (.l false)) rfl rfl
  ·have h2:=of_decide_eq_false (e45.symm.trans h2)
   have hr:=aAg (λe=>h2 e.2)
   cbv;refine zC (.b (.l rv)) hv qF ?_;cbv;exact bR hc hR (av:=.b (.l rv)) rfl (by rw[<-hr];rfl)
 ·have h:=of_decide_eq_false (l1.symm.trans h)
  have hr:=aAg (λe=>h e.1)
  cbv;refine zC (.b (.l rv)) hv qF ?_;cbv;exact bR hc hR (av:=.b (.l rv)) rfl (by rw[<-hr];rfl)
theorem aBn:aB PP 95:=zK
theorem aQr {l:List UInt8}{p j:Nat}(hp:p<=j)(hj:j<l.length):eI 0 ((l.take (j+1)).drop p)=10*eI 0 ((l.take j).drop p)+((l.getD j 0).toNat - 48):=by
 have e:(l.take (j+1)).drop p=(l.take j).drop p++[l.getD j 0]:=by
  rw[List.take_succ_eq_append_getElem hj,List.drop_append_of_le_length (by rw[List.length_take];omega)];congr 2;simp[hj]
 rw[e,pI,gG,jR]
theorem aXr {l:List UInt8}(h:l.all nI=true){p j:Nat}(hpj:j<=p+9):eI 0 ((l.take j).drop p)<1000000000:=by
 have h1:=aOp ((l.take j).drop p) (yZ (zB h j) _)
 have h2:((l.take j).drop p).length<=9:=by simp;omega
 exact Nat.lt_of_lt_of_le h1 (Nat.pow_le_pow_right zV h2:_<=10^9)
theorem aXs {l:List UInt8}(h:l.all nI=true){qm j:Nat}(h1:qm<=j)(hj:j<l.length)(h9:j<qm+9){V V' b:Int}(hV:V=(eI 0 ((l.take j).drop qm):Int))(hV':V'=(eI 0 ((l.take (j+1)).drop qm):Int))(hb:b=((l.getD j 0).toNat:Int)):
  0<=10*V/\10*V<=4294967295/\0<=b - 48/\b - 48<=9/\10*V+(b - 48)=V'/\0<=V'/\V'<=999999999:=by
 have hps:=aQr (l:=l) (p:=qm) (j:=j) h1 hj
 have bHw:=aXr h (p:=qm) (j:=j+1) zW
 have hd:nI (l.getD j 0)=true:=by
  have hg:l.getD j 0=l[j]:=by simp[hj]
  rw[hg];exact List.all_eq_true.1 h _ (List.getElem_mem hj)
 have hd2:=wE.1 hd
 rw[hps]at hV' bHw;omega
structure FrX where
 a:Option Addr
 cap:Nat
 k:Nat
 z:Int
 out:List Int
set_option maxHeartbeats 0 in
theorem aUp {X:Nat->Prop}{w:World}{n:Nat}(hbn:dl n<=2^38)(hX:∀b,X b->b<w.heap.size):Fn PP 95 [.string (aJ n)] X w (aI n):=by
 obtain⟨R,hRR⟩:=nm (aI n);obtain⟨l,hl⟩:=nm (Lib.decDigits n);have cI:l.all nI=true:=by rw[hl];exact iG n
 have pB:eI 0 l=n:=by rw[hl];exact dG n
 have hlen:l.length<=2^38:=by rw[hl];exact hbn
 rw[<-hRR];obtain⟨s,hs0⟩:=nm (aJ n);have hsl:l=s.data.toList:=by rw[hs0,cZ,<-hl]
 have hsz:s.size=l.length:=by rw[hsl];rfl
 rw[<-hs0];have cU:∀(kd:IntKind) (e:IE) (z:Int),e.den=z->lo kd<=z/\z<=hi kd->(Obl.inR kd e).ok:=λkd e z he hz=>by show _/\_;rw[he];exact hz
 refine bJ mixed tok [.s (.v s)] (K:=[]) Tryz.func95 rfl rfl (lbl rfl) rfl hX (λf hf=>by cases hf) λc hc hR=>?_;obtain⟨G,hG⟩:∃G:Option Addr->Nat->Nat->List Int->OF,∀a n cap l,G a n cap l=OF.row (.slice a n cap) c.B.heap.size 145 .u32 l:=⟨λa n cap l=>OF.row (.slice a n cap) c.B.heap.size 145 .u32 l,λ_ _ _ _=>rfl⟩;refine tT hG rfl ?_;apply zN hc;cbv;let ι:={x:FrX//RdS l x.z.toNat x.out/\x.k=x.out.length/\-9<=x.z};let I:ι->St:=λx=>⟨[(0,.s (.v s)),(3,.xs x.1.a x.1.k x.1.cap),(4,.i .i64 (.v x.1.z))],[],[G x.1.a x.1.k x.1.cap x.1.out]⟩
 let x0:ι:=⟨⟨none,0,0,l.length,[]⟩,by rw[Int.toNat_natCast];exact RdS.init l,rfl,by show(-9:Int)<=(l.length:Int);omega⟩
 have kof:∀a i cp out,aCb 0 [G a i cp out]:=λa i cp out=>⟨by rw[hG];exact OFr.row _ _ _ _ _ _,trivial⟩
 have e0:(IE.len (.v s)).den=(l.length:Int):=by show((s.size:Nat):Int)=_;rw[hsz]
 refine zU 0 (S':=I x0) (K':=[]) ⟨zS,zS,zI rfl rfl e0,trivial⟩ trivial (kof _ _ _ _) ?_;refine bW hc I (λx=>x.1.z.toNat) x0 100 ?_;rintro p ⟨⟨a,cap,k,z,out⟩,hr,hk,hz9⟩ hy;simp only at hr hk hz9;obtain⟨q,hq⟩:=nm (z.toNat);rw[<-hq]at hr;have bFa:q<=2^38:=lTr hr.le hlen;have cQ:=λh=>hr.step cI h;have hle:=hr.le;have hrn:=hr.n;obtain⟨qm,hqm⟩:=nm (q - 9);rw[<-hqm]at cQ;cbv;refine aE rfl 100 (λh=>?_) (λh=>?_)
 ·have hz0:(0:Int)<z:=BE.lt_t h
  have hzq:z=(q:Int):=zW
  have hq0:0<q:=zW
  have cQ:=cQ hq0
  have emx:(IE.max (.l 0) (.sub (.v z) (.l 9))).den=(IE.n qm).den:=by
   show(if(0:Int)<z - 9 then z - 9 else 0)=(qm:Int)
   split<;>omega
  have o1:(Obl.inR .i64 (.sub (.v z) (.l 9))).ok:=cU _ _ (z - 9) rfl zX
  let κ:={x:Nat//qm<=x/\x<=q}
  obtain⟨W,hW⟩:∃W:Nat->Int,∀j,W j=(eI 0 ((l.take j).drop qm):Int):=⟨_,λ_=>rfl⟩;let J:κ->St:=λx=>⟨[(0,.s (.v s)),(3,.xs a k cap),(4,.i .i64 (.v z)),(5,.i .u32 (.v (W x.1))),(6,.i .i64 (.n x.1))],[],[G a k cap out]⟩
  let y0:κ:=⟨qm,lRf _,zW⟩
  have W0:(0:Int)=W qm:=by rw[hW,List.drop_of_length_le (by rw[List.length_take];omega)];rfl
  cbv;refine zO ?_;refine zU 0 (S':=J y0) (K':=[]) ⟨zS,zS,zS,zI rfl rfl W0,zI rfl rfl emx,trivial⟩ trivial (kof _ _ _ _) ?_;refine bW hc J (λx=>q - x.1) y0 100 ?_;rintro p2 ⟨j,hj1,hj2⟩ hh;have hWj:=hW j;cbv;refine aE rfl 100 (λh=>?_) (λh=>?_)
  ·have hjz:(j:Int)<z:=BE.lt_t h
   have hjq:j<q:=zW
   have hjl:j<l.length:=zW
   obtain⟨j',hj'⟩:=nm (j+1);have bA9:=hW j';rw[hj']at bA9;rw[<-hj']at bA9;obtain⟨b,hb⟩:∃b:Int,b=((l.getD j 0).toNat:Int):=⟨_,rfl⟩;obtain⟨t1,t2,t3,t4,t5,t6,t7⟩:=aXs (V':=W j') cI hj1 hjl zW hWj (by rw[bA9,hj']) hb;obtain⟨V,hV⟩:=nm (W j);have eb:(IE.byte (.v s) (.n j)).den=b:=by rw[hb,hsl];exact kS (by simp[IE.den])
   have g1:(IE.sub (.byte (.v s) (.n j)) (.l 48)).den=b - 48:=by show(IE.byte (.v s) (.n j)).den - 48=_;rw[eb]
   have m1:(IE.mul (.l 10) (.v (W j))).den=10*W j:=rfl
   have a1:(IE.add (.mul (.l 10) (.v (W j))) (.sub (.byte (.v s) (.n j)) (.l 48))).den=W j':=by
    show(IE.mul (.l 10) (.v (W j))).den+(IE.sub (.byte (.v s) (.n j)) (.l 48)).den=_
    rw[m1,g1,t5]
   have p1:=cU .u32 _ _ m1 (by simp only[lo,hi];exact⟨t1,t2⟩)
   have p2:(Obl.ltE (.n j) (.len (.v s))).ok:=by show _/\_;rw[e0];exact⟨Int.natCast_nonneg j,Int.ofNat_lt.2 hjl⟩
   have p3:=cU .u8 _ _ g1 (by simp only[lo,hi];exact⟨t3,Int.le_trans t4 zV⟩)
   have p4:=cU .u32 _ _ g1 (by simp only[lo,hi];exact⟨t3,Int.le_trans t4 zV⟩)
   have p5:=cU .u32 _ _ a1 (by simp only[lo,hi];exact⟨t6,Int.le_trans t7 zV⟩)
   have p6:(Obl.inR .i64 (.add (.n j) (.l 1))).ok:=cU _ _ ((j:Int)+1) rfl zX
   have s1:((IE.n j).add (IE.l 1)).den=(IE.n j').den:=by simp only[IE.den,hj'];omega
   have hyx:=hh ⟨j',zW,zW⟩ (by show q - j'<q - j;omega)
   cbv;refine zO ?_;exact zU 0 (S':=J ⟨j',zW,zW⟩) (K':=[]) ⟨zS,zS,zS,zI rfl rfl a1,zI rfl rfl s1,trivial⟩ trivial (kof _ _ _ _) hyx
  ·have hjz:¬(j:Int)<z:=BE.lt_f h
   have hjq:j=q:=zW
   have hWq:W j=(eI 0 ((l.take q).drop qm):Int):=by rw[hWj,hjq]
   have hlb:(out.length+1)*4<=140737488355328:=zW
   have qO:out.length+1<=9223372036854775807:=zW
   have ez:(z - 9).toNat=qm:=zW
   have hq9:(z - 9).toNat<q:=zW
   have hz':-9<=z - 9:=zW
   have p7:(Obl.inR .i64 (.sub (.v z) (.l 9))).ok:=o1
   clear hh;cbv;refine fK hc _ rfl rfl rfl hG rfl rfl rfl rfl rfl rfl rfl rfl rfl cJ hlb qO (λa' n' aU l' hn' hl'=>?_);have hl':l'=out++[(eI 0 ((l.take q).drop qm):Int)]:=hl'.trans (congrArg (λz=>out++[z]) hWq);apply zN hc;cbv;refine zO ?_;exact zU 0 (S':=I ⟨⟨a',aU,n',z - 9,l'⟩,by show RdS l (z - 9).toNat l';rw[ez,hl'];exact cQ,by rw[hl',hn'];simp,hz'⟩) (K':=[]) zL trivial (kof _ _ _ _) (hy _ (by rw[<-hq];exact hq9))
 ·have hz0:¬(0:Int)<z:=BE.lt_f h
  have hq0:q=0:=zW
  have hr0:RdS l 0 out:=by rw[<-hq0];exact hr
  have hv:=hr0.done
  rw[pB]at hv;cbv;refine oA (hG _ _ _ _) ?_;refine eB hc (R:=R) mG (λn0 D X μ a w aK H aG=>?_) 100 ?_
  ·obtain⟨v1,rfl,h1⟩:=bN aG;have h1:=nF h1;rw[h1,hRR,<-hv];exact gQ hr0.wd (by have:=hr.n;omega) H.xlt (H.cst (.head _))
  cbv;refine bB hc hR rfl (λX μ a w v' H hv'=>?_);exact H.toP.val (.head _) hv'
end Go.Ai
namespace Go.Ai
open Go Go.Proofs Go.Num
open Go.Lib
abbrev zIt (z:Int):RV1:=zRt (decide (z<0)) z.natAbs
theorem itoa_neg {z:Int}(h:z<0):itoa z=45::decDigits z.natAbs:=by unfold itoa;rw[if_pos h]
theorem aDn {z:Int}(h:¬z<0):itoa z=decDigits z.natAbs:=by unfold itoa;rw[if_neg h];congr 1;omega
theorem ba_eq {a b:ByteArray}(h:a.data.toList=b.data.toList):a=b:=by
 cases a;cases b;congr 1;exact Array.toList_inj.1 h
theorem aWa {c:Cx}{K:List KF}{S:St}{X:Nat->Prop}{μ:Mu}{a:Act}{w:World}(H:Sim c K S X μ a w){k N cap n:Nat}{f:Nat->Int}{x:BE}{b:Bool}{v:Value}(hk:S.hp[k]?=some (.xi .u32 N f))(hN:N=(aC n).length)(hf:∀i y,(aC n)[i]?=some y->f i=y)(dJ:N<=cap)(hx:x.den=b)
  (hv:aD μ (.g [.b x,.sl k 0 (.n N) cap])=some v):(zRt b n).p v X w:=by
 obtain⟨vs,h1,rfl⟩:=tA hv;obtain⟨v1,v2,rfl,e1,e2⟩:=bI h1;rw[iT e1,hx];exact aZv (H.toP.row hk e2 (by simp[IE.den,hN]) (λi y hy=>by rw[Nat.zero_add];exact hf i y hy) zW zW)
theorem aOh:aB PP 94:=zK
theorem aZw {z:Int}(hz:dl z.natAbs<=2^38):fD PP 94 [.one (.s (.v (aW z)))] (.sg (zIt z)):=by
 intro args X w hX hp;match args,hp with
 | [_],⟨rfl,_⟩=>
 obtain⟨b,hb⟩:=nm (decide (z<0));obtain⟨n,hn⟩:=nm (z.natAbs);obtain⟨R1,hR1⟩:=nm (aI n);obtain⟨R,hRR⟩:=nm (lR (.sg (zIt z)));rw[<-hRR];have lO:∀{X:Nat->Prop} {w:World} {v:Value},(zRt b n).p v X w->R.p v X w:=λh=>by
  rw[hRR];rw[hb,hn]at h;exact h
 have hF:∀{X:Nat->Prop} {w:World},(∀b,X b->b<w.heap.size)->Fn PP 95 [.string (aJ n)] X w R1:=λh=>by rw[hR1];exact aUp (by rw[hn];exact hz) h
 obtain⟨s,hs⟩:=nm (aW z);have hl:itoa z=s.data.toList:=by rw[hs,dF]
 show Fn PP _ [.string (aW z)] X w R
 rw[<-hs];have e45:(BE.eq (.byte (.v s) (.l 0)) (.l 45)).den=decide ((itoa z).getD 0 0=45):=by
  simp only[BE.den];exact decide_eq_decide.2 (by rw[kS (k:=0) rfl,<-hl];exact aZp)
 have hsz:(itoa z).length=s.size:=by rw[hl];rfl
 have hpl:0<(itoa z).length:=by
  by_cases h:z<0
  ·rw[itoa_neg h];simp
  ·rw[aDn h];exact List.length_pos_iff.2 (gO _)
 have o1:(Obl.ltE (.l 0) (.len (.v s))).ok:=by
  have:(IE.len (.v s)).den=(s.size:Int):=rfl
  show _/\_;rw[this];simp only[IE.den];omega
 have o2:=aOn (s:=s) zW
 refine bJ mixed tok [.s (.v s)] (K:=[]) Tryz.func94 rfl rfl (lbl rfl) rfl hX (λf hf=>by cases hf) λc hc hR=>?_;apply zN hc;cbv;refine aP hc ⟨o1,trivial⟩ ?_;refine aE rfl 100 (λh2=>?_) (λh2=>?_)
 ·have h2:=of_decide_eq_true (e45.symm.trans h2)
  have aHs:z<0:=Classical.byContradiction λe=>by
   rw[aDn e]at h2;cases hd:decDigits z.natAbs with
   | nil=>exact gO _ hd
   | cons x t=>rw[hd]at h2;exact aJn _ t (by rw[hd,show x=45 from h2])
  have hbt:(BE.l true).den=b:=by rw[hb];simp[aHs,BE.den]
  have hcut:((SE.v s).sub (.l 1) (.len (.v s))).den=aJ n:=ba_eq (by rw[aFm hl,itoa_neg aHs,cZ,hn];rfl)
  cbv;refine aP hc ⟨o2,trivial⟩ ?_;refine eB (R:=R1) hc aBn (λn0 D X μ a w aK H aG=>?_) 100 ?_
  ·obtain⟨v,rfl,hv'⟩:=bN aG;rw[dW hv',hcut];exact hF H.xlt
  cbv;refine dE 8 .u32 (aC n) rfl rfl (λX μ a w v' H hv'=>by
   have h:=H.toP.val (R:=R1) (.head _) hv'
   rw[hR1]at h;exact h) λf N cap hN hf dJ=>?_
  apply zN hc;cbv;exact bB hc hR rfl (λX μ a w v H hv=>lO (aWa H rfl hN hf dJ hbt hv))
 ·have h2:=of_decide_eq_false (e45.symm.trans h2)
  have aAg:¬z<0:=λe=>h2 (by rw[itoa_neg e];rfl)
  have hbt:(BE.l false).den=b:=by rw[hb];simp[aAg,BE.den]
  have hst:s=aJ n:=ba_eq (by rw[<-hl,aDn aAg,cZ,hn])
  cbv;refine eB (R:=R1) hc aBn (λn0 D X μ a w aK H aG=>?_) 100 ?_
  ·obtain⟨v,rfl,hv'⟩:=bN aG;rw[dW hv'];show Fn PP _ [.string s] X w R1
   rw[hst];exact hF H.xlt
  cbv;refine dE 11 .u32 (aC n) rfl rfl (λX μ a w v' H hv'=>by
   have h:=H.toP.val (R:=R1) (.head _) hv'
   rw[hR1]at h;exact h) λf N cap hN hf dJ=>?_
  apply zN hc;cbv;exact bB hc hR rfl (λX μ a w v H hv=>lO (aWa H rfl hN hf dJ hbt hv))
theorem bM.e {K:List KF}{k:Nat}{R:VF}(hm:KF.at k R∈K)(h1:∀{v:Value} {X:Nat->Prop} {w:World},R.p v X w->v.oneCell'=true):bM K (.e k) (.x R):=
 .any λX μ w v hK hv=>by
  obtain⟨u,h2,h3⟩:=hK _ hm;have:aD μ (.e k)=some u:=by simp[aD,h2]
  rw[this]at hv;injection hv with hv;subst hv
  exact⟨h1 h3,h3⟩
theorem aG7:aB PP 115:=zK
theorem aNt {b b':Bool}{n m:Nat}(hbn:(aC n).length<2^39)(hbm:(aC m).length<2^39)(hb:b'=(b&&decide (n+m≠0))):fD PP 115 [zRt b n,zRt b m] (.sg (zRt b' (n+m))):=by
 obtain⟨R1,hR1⟩:=nm (aI n);obtain⟨R2,hR2⟩:=nm (aI m);obtain⟨R3,hR3⟩:=nm (aI (n+m));obtain⟨F1,hF1⟩:=nm (lR (.sg (zRt b n)));obtain⟨F2,hF2⟩:=nm (lR (.sg (zRt b m)));have hmk:fD PP 116 [.one (.b (.l b)),.one (.x R3)] (.sg (.agg [.b (.l b'),.x R3])):=by rw[hR3];exact aBd hb
 have hz1:zRt b n=.agg [.b (.l b),.x R1]:=by rw[hR1];rfl
 have hz2:zRt b m=.agg [.b (.l b),.x R2]:=by rw[hR2];rfl
 have hz3:zRt b' (n+m)=.agg [.b (.l b'),.x R3]:=by rw[hR3];rfl
 have hp:∀{v u:Value} {X:Nat->Prop} {w:World},(∀b,X b->b<w.heap.size)->R1.p v X w->R2.p u X w->Fn PP 169 [v,u] X w R3:=λhX h1 h2=>by
  rw[hR3];rw[hR1]at h1;rw[hR2]at h2;exact bFq hbn hbm hX h1 h2
 have h1c:∀{v:Value} {X:Nat->Prop} {w:World},R3.p v X w->v.oneCell'=true:=λh=>by rw[hR3]at h;exact dZ h
 rw[hz1]at hF1 |-;rw[hz2]at hF2 |-;rw[hz3];clear hz1 hz2 hz3 hR1 hR2 hR3 hb;refine fU mixed tok Tryz.func115 rfl (by rfl) rfl [F1,F2] ⟨hF1,hF2,trivial⟩ λc G hG hc hR=>?_;obtain⟨K,hK⟩:=nm (nH 0 [F1,F2]);rw[<-hK];have hbb:(BE.beq (.l b) (.l b)).den=true:=by cases b<;>rfl
 apply zN hc;cbv;refine aE rfl 100 (λ_=>?_) (λh=>absurd (hbb.symm.trans h) zV);cbv;apply zN hc;cbv;refine mP (R:=R3) hc aWm (λD X μ a w aK H aG=>?_) 100 ?_
 ·obtain⟨v,u,rfl,e1,e2⟩:=bI aG;exact hp H.xlt (((bM.ec (c:=.x R1) (F:=F1) (by rw[hK];exact .head _) hF1 rfl).ok H.kf e1).2) (((bM.ec (c:=.x R2) (F:=F2) (by rw[hK];exact .tail _ (.head _)) hF2 rfl).ok H.kf e2).2)
 cbv;refine jN hc jB hmk ⟨.b rfl,.e (.head _) h1c,trivial⟩ (.g [.b (.l b'),.ec 6 1]) 100 (λFB hFB=>?_);cbv;refine zE ?_;cbv;exact dL hc hG hR rfl ⟨.b rfl,.ec (.head _) hFB rfl,trivial⟩
theorem aNs {b b':Bool}{n m r:Nat}(hbn:(aC n).length<2^39)(hbm:(aC m).length<2^39)(hr:r=if m<=n then n - m else m - n)(hb:b'=((if m<=n then b else !b)&&decide (r≠0))):fD PP 115 [zRt b n,zRt (!b) m] (.sg (zRt b' r)):=by
 obtain⟨R1,hR1⟩:=nm (aI n);obtain⟨R2,hR2⟩:=nm (aI m);obtain⟨R3,hR3⟩:=nm (aI r);obtain⟨nb,hnb⟩:=nm ( !b);rw[<-hnb]at hb |-;obtain⟨F1,hF1⟩:=nm (lR (.sg (zRt b n)));obtain⟨F2,hF2⟩:=nm (lR (.sg (zRt nb m)));have hmk:∀x:Bool,b'=(x&&decide (r≠0))->fD PP 116 [.one (.b (.l x)),.one (.x R3)] (.sg (.agg [.b (.l b'),.x R3])):=λx hx=>by rw[hR3];exact aBd hx
 have hz1:zRt b n=.agg [.b (.l b),.x R1]:=by rw[hR1];rfl
 have hz2:zRt nb m=.agg [.b (.l nb),.x R2]:=by rw[hR2];rfl
 have hz3:zRt b' r=.agg [.b (.l b'),.x R3]:=by rw[hR3];rfl
 obtain⟨z,hz⟩:=nm (bD n m);have hge:(BE.le (.l 0) (.v z)).den=decide (m<=n):=by
  show decide ((0:Int)<=z)=_
  rw[hz];unfold bD;by_cases h:n<m
  ·rw[if_pos (Int.ofNat_lt.2 h)];simp;omega
  ·rw[if_neg (λe=>h (Int.ofNat_lt.1 e))];have:m<=n:=zW;split<;>simp[this]
 have hcp:∀{v u:Value} {X:Nat->Prop} {w:World},(∀b,X b->b<w.heap.size)->R1.p v X w->R2.p u X w->Fn PP 97 [v,u] X w (eE (.int .i64 z)):=λhX h1 h2=>by
  rw[hz];rw[hR1]at h1;rw[hR2]at h2;exact aKh zW zW hX h1 h2
 have hm1:m<=n->∀{v u:Value} {X:Nat->Prop} {w:World},(∀b,X b->b<w.heap.size)->R1.p v X w->R2.p u X w->Fn PP 170 [v,u] X w R3:=λhle v u X w hX h1 h2=>by
  rw[hR3,hr,if_pos hle];rw[hR1]at h1;rw[hR2]at h2;exact aUq hle hbn hX h1 h2
 have hm2:¬m<=n->∀{v u:Value} {X:Nat->Prop} {w:World},(∀b,X b->b<w.heap.size)->R2.p v X w->R1.p u X w->Fn PP 170 [v,u] X w R3:=λhle v u X w hX h1 h2=>by
  rw[hR3,hr,if_neg hle];rw[hR1]at h2;rw[hR2]at h1;exact aUq zW hbm hX h1 h2
 have h1c:∀{v:Value} {X:Nat->Prop} {w:World},R3.p v X w->v.oneCell'=true:=λh=>by rw[hR3]at h;exact dZ h
 have hb1:m<=n->b'=(b&&decide (r≠0)):=λh=>by rw[hb,if_pos h]
 have hb2:¬m<=n->b'=(nb&&decide (r≠0)):=λh=>by rw[hb,if_neg h]
 have hbb:(BE.beq (.l b) (.l nb)).den=false:=by rw[hnb];cases b<;>rfl
 rw[hz1]at hF1 |-;rw[hz2]at hF2 |-;rw[hz3];clear hz1 hz2 hz3 hR1 hR2 hR3 hb hnb hr;refine fU mixed tok Tryz.func115 rfl (by rfl) rfl [F1,F2] ⟨hF1,hF2,trivial⟩ λc G hG hc hR=>?_;obtain⟨K,hK⟩:=nm (nH 0 [F1,F2]);rw[<-hK];have m1:KF.at 0 F1∈K:=by rw[hK];exact .head _
 have m2:KF.at 1 F2∈K:=by rw[hK];exact .tail _ (.head _)
 apply zN hc;cbv;refine aE rfl 100 (λh=>absurd (hbb.symm.trans h) zV) (λ_=>?_);cbv;apply zN hc;cbv;refine cE hc (.i .i64 (.v z)) (r:=.int .i64 z) pR (λn0 D X μ a w aK H aG=>?_) rfl 100 ?_
 ·obtain⟨v,u,rfl,e1,e2⟩:=bI aG;exact hcp H.xlt (((bM.ec (c:=.x R1) (F:=F1) m1 hF1 rfl).ok H.kf e1).2) (((bM.ec (c:=.x R2) (F:=F2) m2 hF2 rfl).ok H.kf e2).2)
 cbv;refine aE rfl 100 (λh=>?_) (λh=>?_)
 ·have hle:=of_decide_eq_true (hge.symm.trans h)
  have hk:=hmk b (hb1 hle)
  cbv;apply zN hc;cbv;refine mP (R:=R3) hc aI3 (λD X μ a w aK H aG=>?_) 100 ?_
  ·obtain⟨v,u,rfl,e1,e2⟩:=bI aG;exact hm1 hle H.xlt (((bM.ec (c:=.x R1) (F:=F1) (by first | exact m1 | exact .tail _ m1) hF1 rfl).ok H.kf e1).2) (((bM.ec (c:=.x R2) (F:=F2) (by first | exact m2 | exact .tail _ m2) hF2 rfl).ok H.kf e2).2)
  cbv;refine jN hc jB hk ⟨.b rfl,.e (.head _) h1c,trivial⟩ (.g [.b (.l b'),.ec 6 1]) 100 (λFB hFB=>?_);cbv;refine zE ?_;cbv;exact dL hc hG hR rfl ⟨.b rfl,.ec (.head _) hFB rfl,trivial⟩
 ·have hle:=of_decide_eq_false (hge.symm.trans h)
  have hk:=hmk nb (hb2 hle)
  cbv;apply zN hc;cbv;refine mP (R:=R3) hc aI3 (λD X μ a w aK H aG=>?_) 100 ?_
  ·obtain⟨v,u,rfl,e1,e2⟩:=bI aG;exact hm2 hle H.xlt (((bM.ec (c:=.x R2) (F:=F2) (by first | exact m2 | exact .tail _ m2) hF2 rfl).ok H.kf e1).2) (((bM.ec (c:=.x R1) (F:=F1) (by first | exact m1 | exact .tail _ m1) hF1 rfl).ok H.kf e2).2)
  cbv;refine jN hc jB hk ⟨.b rfl,.e (.head _) h1c,trivial⟩ (.g [.b (.l b'),.ec 6 1]) 100 (λFB hFB=>?_);cbv;refine zE ?_;cbv;exact dL hc hG hR rfl ⟨.b rfl,.ec (.head _) hFB rfl,trivial⟩
end Go.Ai
namespace Go.Ai
open Go Go.Proofs Go.Num
theorem aV9 {x y:Int}(hx:(aC x.natAbs).length<2^39)(hy:(aC y.natAbs).length<2^39):fD PP 115 [zIt x,zIt y] (.sg (zIt (x+y))):=by
 by_cases h:decide (x<0)=decide (y<0)
 ·have h1:x.natAbs+y.natAbs=(x+y).natAbs:=by
   have:=decide_eq_decide.1 h
   omega
  have h2:decide (x+y<0)=(decide (x<0)&&decide (x.natAbs+y.natAbs≠0)):=by
   have:=decide_eq_decide.1 h
   rw[Bool.eq_iff_iff,Bool.and_eq_true,decide_eq_true_eq,decide_eq_true_eq,decide_eq_true_eq];omega
  have:=aNt (b:=decide (x<0)) hx hy h2
  unfold zIt;rw[<-h1];rw[h]at this |-;exact this
 ·have hn:decide (y<0)= !decide (x<0):=by
   revert h
   cases decide (x<0)<;>cases decide (y<0)<;>simp
  have h1:(x+y).natAbs=if y.natAbs<=x.natAbs then x.natAbs - y.natAbs else y.natAbs - x.natAbs:=by
   have:¬(x<0↔y<0):=λe=>h (decide_eq_decide.2 e)
   split<;>omega
  have h2:decide (x+y<0)=((if y.natAbs<=x.natAbs then decide (x<0)else !decide (x<0))&&decide ((x+y).natAbs≠0)):=by
   have:¬(x<0↔y<0):=λe=>h (decide_eq_decide.2 e)
   by_cases hle:y.natAbs<=x.natAbs
   ·rw[if_pos hle,Bool.eq_iff_iff,Bool.and_eq_true,decide_eq_true_eq,decide_eq_true_eq,decide_eq_true_eq];omega
   ·rw[if_neg hle,Bool.eq_iff_iff,Bool.and_eq_true,Bool.not_eq_true',decide_eq_true_eq,decide_eq_false_iff_not,decide_eq_true_eq];omega
  have:=aNs (b:=decide (x<0)) hx hy h1 h2
  unfold zIt;rw[hn];exact this
theorem bF9 {b:UInt8}:(b.toNat:Int)=47↔b=47:=by
 constructor
 ·intro h;apply UInt8.toNat_inj.1;show b.toNat=47
  omega
 ·intro h;subst h;rfl
def kP (l:List UInt8)(k:Nat):Prop:=dI l=(l.take k++(dI (l.drop k)).1,(dI (l.drop k)).2)
theorem kP.zero (l:List UInt8):kP l 0:=by simp[kP]
theorem kP.step {l:List UInt8}{k:Nat}(h:kP l k)(hk:k<l.length)(hb:l.getD k 0≠47):kP l (k+1):=by
 have hg:l.getD k 0=l[k]:=by simp[hk]
 rw[hg]at hb;unfold kP at h |-;rw[h,List.drop_eq_getElem_cons hk,List.take_succ_eq_append_getElem hk];conv=>lhs;unfold dI
 rw[if_neg hb,List.append_assoc];rfl
theorem kP.found {l:List UInt8}{k:Nat}(h:kP l k)(hk:k<l.length)(hb:l.getD k 0=47):dI l=(l.take k,some (l.drop (k+1))):=by
 have hg:l.getD k 0=l[k]:=by simp[hk]
 rw[hg]at hb;unfold kP at h;rw[h,List.drop_eq_getElem_cons hk];conv=>lhs;unfold dI
 rw[if_pos hb];simp
theorem kP.none {l:List UInt8}(h:kP l l.length):dI l=(l,Option.none):=by
 unfold kP at h;rw[h];simp[dI]
theorem aLb {s:ByteArray}{l:List UInt8}(hl:l=s.data.toList){i j:IE}{a b:Nat}(hi':i.den=(a:Int))(hj:j.den=(b:Int)):((SE.v s).sub i j).den.data.toList=(l.take b).drop a:=by
 show(s.extract i.den.toNat j.den.toNat).data.toList=_
 rw[hi',hj,Int.toNat_natCast,Int.toNat_natCast,ByteArray.data_extract,Array.toList_extract,List.extract_eq_take_drop,<-hl,List.drop_take]
theorem bF5 {s:ByteArray}{n k k':Nat}(hss:s.size=n)(hn:n<=2^60)(h:k<n)(hk':k'=k+1):
  (Obl.ltE (.n k) (.len (.v s))).ok/\(Obl.inR .i64 (.add (.n k) (.l 1))).ok/\(Obl.slc (.l 0) (.n k) (.v s)).ok/\(Obl.slc (.add (.n k) (.l 1)) (.len (.v s)) (.v s)).ok/\((IE.n k).add (IE.l 1)).den=(IE.n k').den/\k'<=n/\n - k'<n - k:=by
 have hsz:(IE.len (.v s)).den=(n:Int):=by show((s.size:Nat):Int)=_;rw[hss]
 refine⟨?_,?_,⟨zV,?_,?_⟩,⟨?_,?_,?_⟩,?_,zW,zW⟩
 ·show _/\_;rw[hsz];simp only[IE.den];omega
 ·show lo _<=_/\_<=hi _;simp only[lo,hi,IE.den];omega
 ·simp only[IE.den];omega
 ·show(k:Int)<=((s.size:Nat):Int);omega
 ·simp only[IE.den];omega
 ·rw[hsz];simp only[IE.den];omega
 ·exact Int.le_refl _
 ·simp only[IE.den,hk'];omega
theorem aI5:aB PP 91:=zK
theorem aUy (s:ByteArray)(hs:s.size<=2^60):Pure PP 91 [.string s] (.tuple #[.string ⟨(dI s.data.toList).1.toArray⟩,.string ⟨((dI s.data.toList).2.getD [49]).toArray⟩,.bool (dI s.data.toList).2.isSome]):=by
 obtain⟨l,hl⟩:=nm (s.data.toList);rw[<-hl];obtain⟨A,hA⟩:∃A:ByteArray,A=⟨(dI l).1.toArray⟩:=⟨_,rfl⟩;obtain⟨B,hB⟩:∃A:ByteArray,A=⟨((dI l).2.getD [49]).toArray⟩:=⟨_,rfl⟩;obtain⟨C,hC⟩:=nm ((dI l).2.isSome);rw[<-hA,<-hB,<-hC];have hlen:l.length=s.size:=by rw[hl];rfl
 obtain⟨n,hn⟩:=nm (l.length);have hsz:(IE.len (.v s)).den=(n:Int):=by show((s.size:Nat):Int)=_;rw[hn,hlen]
 have bBi:∀{k k':Nat},kP l k->k<l.length->l.getD k 0=47->k'=k+1->((SE.v s).sub (.l 0) (.n k)).den=A/\((SE.v s).sub (.add (.n k) (.l 1)) (.len (.v s))).den=B/\true=C:=λ{k k'} h hk hb hk'=>by
  have h1:=h.found hk hb
  refine⟨ba_eq ?_,ba_eq ?_,?_⟩
  ·rw[aLb hl (a:=0) (b:=k) rfl rfl,hA,h1];simp
  ·rw[aLb hl (a:=k+1) (b:=n) (by simp[IE.den]) hsz,hB,h1,hn];simp
  ·rw[hC,h1];rfl
 have bE5:kP l l.length->s=A/\(⟨#[49]⟩:ByteArray)=B/\false=C:=λh=>by
  have h1:=h.none
  refine⟨ba_eq ?_,?_,?_⟩
  ·rw[hA,h1,<-hl]
  ·rw[hB,h1];rfl
  ·rw[hC,h1];rfl
 clear hA hB hC;have hss:s.size=n:=zW;have hnb:n<=2^60:=zW;refine zF [.s (.v s)] Tryz.func91 λc hc hR=>?_;cbv;let ι:={k:Nat//k<=n/\kP l k};let I:ι->St:=λx=>⟨[(0,.s (.v s)),(5,.i .i64 (.n x.1))],[],[]⟩
 let x0:ι:=⟨0,Nat.zero_le _,kP.zero l⟩
 refine zU 0 (S':=I x0) (K':=[]) zL trivial trivial ?_;refine bW hc I (λx=>n - x.1) x0 100 ?_;rintro p ⟨k,hk,cI⟩ hy;have wD:(BE.lt (.n k) (.len (.v s))).den=decide (k<n):=by
  show decide ((k:Int)<(IE.len (.v s)).den)=_
  rw[hsz];exact decide_eq_decide.2 ⟨λh=>Int.ofNat_lt.1 h,λh=>Int.ofNat_lt.2 h⟩
 cbv;refine aE rfl 100 (λh=>?_) (λh=>?_)
 ·have hkn:k<n:=of_decide_eq_true (wD.symm.trans h)
  obtain⟨k',hk'⟩:=nm (k+1);have hkl:k<l.length:=Nat.lt_of_lt_of_eq hkn hn;obtain⟨o2,o3,o4,o5,hi1,aTw,hms⟩:=bF5 (s:=s) hss hnb hkn hk';have e47:(BE.eq (.byte (.v s) (.n k)) (.l 47)).den=decide (l.getD k 0=47):=by
   simp only[BE.den];exact decide_eq_decide.2 (by rw[kS (k:=k) (by simp[IE.den]),<-hl];exact bF9)
  have hst:l.getD k 0≠47->kP l k':=λh=>by rw[hk'];exact cI.step hkl h
  cbv;refine zO ?_;refine aE rfl 100 (λh2=>?_) (λh2=>?_)
  ·have h2:=of_decide_eq_true (e47.symm.trans h2)
   obtain⟨a1,a2,a3⟩:=bBi cI hkl h2 hk';clear hy;subst a3;cbv;refine zO ?_;refine dH hc _ 0 ?_;cbv;refine dH hc _ 0 ?_;cbv;refine dH hc _ 0 ?_;cbv;refine zE ?_;cbv;exact bR hc hR (av:=.t [.s (.sub (.v s) (.l 0) (.n k)),.s (.sub (.v s) (.add (.n k) (.l 1)) (.len (.v s))),.b (.l true)]) rfl (by rw[<-a1,<-a2];rfl)
  ·have h2:=of_decide_eq_false (e47.symm.trans h2)
   have hd:=hst h2
   cbv;refine zO ?_;exact zU 0 (S':=I ⟨k',aTw,hd⟩) (K':=[]) ⟨zS,zI rfl rfl hi1,trivial⟩ trivial trivial (hy _ hms)
 ·have hkn:¬k<n:=of_decide_eq_false (wD.symm.trans h)
  have hkl:k=l.length:=(Nat.le_antisymm hk (Nat.le_of_not_lt hkn)).trans hn
  have hd:kP l l.length:=by rw[<-hkl];exact cI
  obtain⟨a1,a2,a3⟩:=bE5 hd;clear hy;subst a1;subst a2;subst a3;cbv;exact bR hc hR (av:=.t [.s (.v s),.s (.v ⟨#[49]⟩),.b (.l false)]) rfl rfl
theorem tZ:aB PP 99:=zK
theorem uA:aB PP 166:=zK
def aGr:Prop:=∀{v u:Value} {X:Nat->Prop} {w:World} {n m:Nat},0<m->(aC n).length<=2^38->(aC m).length<=2^38->(∀b,X b->b<w.heap.size)->(aI n).p v X w->(aI m).p u X w->Fn PP 166 [v,u] X w (jG (aI (n/m)) (aI (n%m)))
theorem aVu {n:Nat}(h:(aC n).length<=2):n<18446744073709551616:=Nat.lt_of_lt_of_le (aT h) zV
theorem aPg {l:List Int}{N:Nat}(hN:N=l.length)(h:(BE.le (.n N) (.l 2)).den=true):l.length<=2:=by
 have h:=BE.le_t h;simp only[IE.den]at h;omega
theorem aBz (aA2:aGr){v u:Value}{X:Nat->Prop}{w:World}{n m:Nat}(hbn:(aC n).length<=2^38)(hbm:(aC m).length<=2^38)(hX:∀b,X b->b<w.heap.size)(hv:(aI n).p v X w)(hu:(aI m).p u X w):
  Fn PP 99 [v,u] X w (aI (Nat.gcd n m)):=by
 obtain⟨g,hg⟩:=nm (Nat.gcd n m);rw[<-hg];obtain⟨R,hRR⟩:=nm (aI g);obtain⟨F,hF⟩:∃F:Value->Nat->KF,∀v n,F v n=KF.cst v (aI n):=⟨λv n=>KF.cst v (aI n),λ_ _=>rfl⟩;rw[<-hRR];refine bJ mixed tok [.q v,.q u] (K:=[F v n,F u m]) Tryz.func99 rfl rfl (lbl rfl) rfl hX (by simp[hF];exact⟨hv,hu⟩) λc hc hR=>?_;apply zN hc;cbv;let ι:={x:GcdX//Nat.gcd x.n x.m=g/\(aC x.n).length<=2^38/\(aC x.m).length<=2^38};let I:ι->St:=λx=>⟨[(0,.q x.1.v),(1,.q x.1.u)],[],[]⟩
 let KK:ι->List KF:=λx=>[F x.1.v x.1.n,F x.1.u x.1.m]
 let x0:ι:=⟨⟨v,u,n,m⟩,hg.symm,hbn,hbm⟩
 refine zU 0 (S':=I x0) (K':=KK x0) zL ⟨⟨.head _,by rw[hF];exact KFr.cst _ _ _⟩,⟨.tail _ (.head _),by rw[hF];exact KFr.cst _ _ _⟩,trivial⟩ trivial ?_;refine aPl hc I KK (λx=>x.1.m) x0 ?_;rintro p ⟨⟨v,u,n,m⟩,hg,hbn,hbm⟩ hy;simp only at hg hbn hbm;obtain⟨K,hK⟩:=nm ([F v n,F u m]);have k1:KF.cst v (aI n)∈K:=by rw[hK,<-hF];exact .head _
 have k2:KF.cst u (aI m)∈K:=by rw[hK,<-hF];exact .tail _ (.head _)
 have kf:∀q,lT q K K:=λq=>by rw[hK];exact⟨⟨.head _,by rw[hF];exact KFr.cst _ _ _⟩,⟨.tail _ (.head _),by rw[hF];exact KFr.cst _ _ _⟩,trivial⟩
 refine Goal.k hK ?_;refine dE 0 .u32 (aC n) rfl rfl (λX μ a w v' H hv'=>cD H k1 hv') λf N cap hN hf dJ=>?_;refine dE 1 .u32 (aC m) rfl rfl (λX μ a w v' H hv'=>cD H k2 hv') λf' M aU hM hf' gY=>?_;apply zN hc;cbv;refine aE rfl 100 (λh=>?_) (λh=>?_)
 ·have hM0:0<M:=BE.ltn_t (i:=0) h
  have hm0:0<m:=Nat.pos_of_ne_zero λe=>by rw[e,bV]at hM;simp at hM;omega
  cbv;refine cG 15 rfl rfl 100 (λh1=>?_) (λh1=>?_)
  ·have hn2:=aPg hN h1
   cbv;refine aE rfl 100 (λh2=>?_) (λh2=>?_)
   ·have hm2:=aPg hM h2
    have aT3:=aVu hn2
    have aQg:=aVu hm2
    have bHe:g<18446744073709551616:=Nat.lt_of_le_of_lt (by rw[<-hg];exact Nat.gcd_le_right n hm0) aQg
    cbv;refine cE hc (.i .u64 (.n n)) (r:=.int .u64 n) aOa (λn0 D X μ a w aK H aG=>?_) rfl 100 ?_
    ·obtain⟨v1,rfl,h1⟩:=bN aG;exact aY8 hn2 H.xlt (H.numRow rfl h1 hN hf dJ)
    cbv;refine cE hc (.i .u64 (.n m)) (r:=.int .u64 m) aOa (λn0 D X μ a w aK H aG=>?_) rfl 100 ?_
    ·obtain⟨v1,rfl,h1⟩:=bN aG;exact aY8 hm2 H.xlt (H.numRow rfl h1 hM hf' gY)
    cbv;let ιs:={x:Nat × Nat//Nat.gcd x.1 x.2=g/\x.1<18446744073709551616/\x.2<18446744073709551616};let Is:ιs->St:=λx=>⟨[(5,.i .u64 (.n x.1.1)),(6,.i .u64 (.n x.1.2))],[],[]⟩
    let xz:ιs:=⟨(n,m),hg,aT3,aQg⟩
    refine zU 0 (S':=Is xz) (K':=[]) zL trivial trivial ?_;refine aD4 (λz:Nat=>z=g) (λz=>⟨[(5,.i .u64 (.n z))],[],[]⟩) rfl (λr hr=>?_) (λz hz=>?_)
    ·refine bW hc Is (λx=>x.1.2) xz 100 ?_;rintro p' ⟨⟨x,y⟩,hgx,bBz,aMq⟩ hyg;simp only at hgx bBz aMq;cbv;refine aE rfl 100 (λh=>?_) (λh=>?_)
     ·have hy0:0<y:=Nat.pos_of_ne_zero (BE.eqnl_f (k:=0) (BE.not_t h))
      have o1:(Obl.nz (IE.n y)).ok:=bFp hy0
      have e1:=aZc x y
      cbv;refine aP hc ⟨o1,trivial⟩ ?_;refine dH hc _ 0 ?_;refine dH hc _ 0 ?_;refine zE ?_;cbv;exact zU 0 (S':=Is ⟨(y,x%y),(lE hy0).trans hgx,aMq,Nat.lt_trans (Nat.mod_lt _ hy0) aMq⟩) (K':=[]) ⟨zS,zI rfl rfl e1,trivial⟩ trivial trivial (hyg _ (Nat.mod_lt _ hy0))
     ·have hy0:y=0:=BE.eqnl_t (k:=0) (BE.not_f h)
      have hxg:x=g:=by rw[<-hgx,hy0,Nat.gcd_zero_right]
      cbv;exact zU 0 (S':=⟨[(5,.i .u64 (.n x))],[],[]⟩) (K':=[]) zL trivial trivial (hr x hxg)
    ·subst hz;apply zN hc;cbv;refine eB hc (R:=R) aWn (λn0 D X μ a w aK H aG=>?_) 100 ?_
     ·obtain⟨v1,rfl,h1⟩:=bN aG;rw[bY h1,hRR];exact bFr H.xlt (Int.natCast_nonneg _) (Int.ofNat_lt.2 bHe)
     cbv;refine bB hc hR rfl (λX μ a w v' H hv'=>?_);exact H.toP.val (.head _) hv'
   ·cbv;obtain⟨R1,hR1⟩:=nm (aI (n/m));obtain⟨R2,hR2⟩:=nm (aI (n%m));obtain⟨RP,hRP⟩:=nm (jG R1 R2);refine eB hc (R:=RP) uA (λn0 D X μ a w aK H aG=>?_) 2 ?_
    ·obtain⟨v1,v2,rfl,h1,h2⟩:=bI aG;rw[hRP,hR1,hR2];exact aA2 hm0 hbn hbm H.xlt (H.numRow rfl h1 hN hf dJ) (H.numRow rfl h2 hM hf' gY)
    cbv;refine mZ 32 2 (R1:=R1) (R2:=R2) rfl rfl (hRP▸.head _) ?_;apply zN hc;cbv;refine aAm 0 (aI m) rfl rfl (λX μ a w v' H hv'=>H.toP.numRow rfl hv' hM hf' gY) λv1=>?_;refine aAm 1 (aI (n%m)) rfl rfl (λX μ a w v' H hv'=>by have h:=H.toP.val (R:=R2) (.tail _ (.tail _ (.head _))) hv';rw[hR2]at h;exact h) λu1=>?_;exact zU 0 (S':=I ⟨⟨v1,u1,m,n%m⟩,(lE hm0).trans hg,hbm,lTr (bS (Nat.le_of_lt (Nat.mod_lt n hm0))) hbm⟩) (K':=KK ⟨⟨v1,u1,m,n%m⟩,(lE hm0).trans hg,hbm,lTr (bS (Nat.le_of_lt (Nat.mod_lt n hm0))) hbm⟩) zL ⟨⟨by rw[hF];exact .tail _ (.head _),by rw[hF];exact KFr.cst _ _ _⟩,⟨by rw[hF];exact .head _,by rw[hF];exact KFr.cst _ _ _⟩,trivial⟩ trivial (hy _ (Nat.mod_lt n hm0))
  ·cbv;obtain⟨R1,hR1⟩:=nm (aI (n/m));obtain⟨R2,hR2⟩:=nm (aI (n%m));obtain⟨RP,hRP⟩:=nm (jG R1 R2);refine eB hc (R:=RP) uA (λn0 D X μ a w aK H aG=>?_) 2 ?_
   ·obtain⟨v1,v2,rfl,h1,h2⟩:=bI aG;rw[hRP,hR1,hR2];exact aA2 hm0 hbn hbm H.xlt (H.numRow rfl h1 hN hf dJ) (H.numRow rfl h2 hM hf' gY)
   cbv;refine mZ 32 2 (R1:=R1) (R2:=R2) rfl rfl (hRP▸.head _) ?_;apply zN hc;cbv;refine aAm 0 (aI m) rfl rfl (λX μ a w v' H hv'=>H.toP.numRow rfl hv' hM hf' gY) λv1=>?_;refine aAm 1 (aI (n%m)) rfl rfl (λX μ a w v' H hv'=>by have h:=H.toP.val (R:=R2) (.tail _ (.tail _ (.head _))) hv';rw[hR2]at h;exact h) λu1=>?_;exact zU 0 (S':=I ⟨⟨v1,u1,m,n%m⟩,(lE hm0).trans hg,hbm,lTr (bS (Nat.le_of_lt (Nat.mod_lt n hm0))) hbm⟩) (K':=KK ⟨⟨v1,u1,m,n%m⟩,(lE hm0).trans hg,hbm,lTr (bS (Nat.le_of_lt (Nat.mod_lt n hm0))) hbm⟩) zL ⟨⟨by rw[hF];exact .tail _ (.head _),by rw[hF];exact KFr.cst _ _ _⟩,⟨by rw[hF];exact .head _,by rw[hF];exact KFr.cst _ _ _⟩,trivial⟩ trivial (hy _ (Nat.mod_lt n hm0))
 ·have hM0:M=0:=Nat.le_zero.1 (BE.ltn_f (i:=0) h)
  cbv;refine bB hc hR rfl (λX μ a w v' H hv'=>?_);have hm0:m=0:=uH (by rw[<-hM,hM0]);rw[hRR,<-hg,hm0,Nat.gcd_zero_right];exact H.toP.numRow rfl hv' hN hf dJ
end Go.Ai
