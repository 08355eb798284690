/- Part 24 of the proof: garboardlaw17.FloatMirrors returns true, where what it reads is of bulk at most 1048576. -/
import Derived.Test.YtmnancfboococaaGreatDoorPm12
import Derived.Test.YtmnancfboococaaGreatDoorPm13
import Derived.Test.YtmnancfboococaaGreatDoorPm14
import Derived.Test.YtmnancfboococaaGreatDoorPm15
import Derived.Test.YtmnancfboococaaGreatDoorPm22
set_option linter.all false
namespace Go.Ai
open Go Go.Proofs Go.Num
theorem aGh:aB PP 64:=zK
theorem aR9 {v u:Value}{X:Nat→Prop}{w:World}{n m:Nat}(hbn:(aF n).length≤2^39)(hbm:(aF m).length≤2^39)(hX:∀b,X b→b<w.heap.size)(hv:(aP n).p v X w)(hu:(aP m).p u X w):
  Fn PP 64 [v,u] X w (aP (n*m)):=by
 obtain⟨R,hRR⟩:=nm (aP (n*m));obtain⟨K,hK⟩:=nm ([KF.cst v (aP n),KF.cst u (aP m)]);rw[←hRR];refine bE mixed tok [.q v,.q u] (K:=K) Tryz.func64 rfl rfl (lbl rfl) rfl hX (by subst hK;simp;exact⟨hv,hu⟩) fun c hc hR=>?_
 refine dQ 0 .u32 (aF n) rfl rfl (fun X μ a w v' H hv'=>cE H (by simp[hK]) hv') fun f N cap hN hf dI=>?_
 refine dQ 1 .u32 (aF m) rfl rfl (fun X μ a w v' H hv'=>cE H (by simp[hK]) hv') fun f' M aZ hM hf' gW=>?_
 have hfw:∀i,i<N→f i=(aF n).getD i 0:=fun i hi=>by
  have:=List.getElem?_eq_getElem (l:=aF n) (i:=i) (by omega)
  rw[hf i _ this,List.getD_eq_getElem?_getD,this];rfl
 have aJv:∀i,i<M→f' i=(aF m).getD i 0:=fun i hi=>by
  have:=List.getElem?_eq_getElem (l:=aF m) (i:=i) (by omega)
  rw[hf' i _ this,List.getD_eq_getElem?_getD,this];rfl
 have hbN:N≤2^39:=by omega
 have hbM:M≤2^39:=by omega
 have kf:∀q,lC q K K:=fun q=>by subst hK;exact⟨⟨.head _,KFr.cst _ _ _⟩,⟨.tail _ (.head _),KFr.cst _ _ _⟩,trivial⟩
 have dA:∀(kd:IntKind) (e:IE) (z:Int),e.den=z→lo kd≤z∧z≤hi kd→(Obl.inR kd e).ok:=fun kd e z he hz=>by show _∧_;rw[he];exact hz
 have nz:(Obl.nz (IE.l 1000000000)).ok:=by show _≠_;simp[IE.den]
 have q0:(Obl.inR .i64 ((IE.n N).add (IE.n M))).ok:=dA _ _ ((N:Int)+M) rfl (by simp only[lo,hi];omega)
 have bB9:N=0∨M=0→∀{X:Nat→Prop} {w:World},(lE .u32 (aF (n*m))).p (.slice none 0 0) X w:=fun h X w=>by
  have e:n*m=0:=by
   rcases h with h | h
   ·have:n=0:=by
     apply Classical.byContradiction;intro hn;have:=bY hn
     rw[this]at hN;simp at hN;omega
    rw[this,Nat.zero_mul]
   ·have:m=0:=by
     apply Classical.byContradiction;intro hn;have:=bY hn
     rw[this]at hM;simp at hM;omega
    rw[this,Nat.mul_zero]
  rw[e,bO];exact⟨none,0,rfl,by simp,rfl,rfl⟩
 have fnil:N=0∨M=0→∀{X:Nat→Prop} {w:World} {μ:Mu} {v:Value},aC μ (.xs none 0 0)=some v→R.p v X w:=fun h X w μ v hv=>by
  simp only[aC]at hv;injection hv with hv
  rw[hRR,←hv];exact bB9 h
 refine zN hc ?_;cbv;refine bT hc 13 rfl rfl 100 (fun h=>?_) (fun h=>?_)
 ·have h0:N=0:=by have:=of_decide_eq_true (show decide ((N:Int)=0)=true from h);omega
  cbv;exact aS hc hR rfl (fun X μ a w v H hv=>fnil (.inl h0) (μ:=μ) hv)
 cbv;refine aE hc rfl 100 (fun h=>?_) (fun h=>?_)
 ·have h0:M=0:=by have:=of_decide_eq_true (show decide ((M:Int)=0)=true from h);omega
  cbv;exact aS hc hR rfl (fun X μ a w v H hv=>fnil (.inr h0) (μ:=μ) hv)
 cbv;refine aQ hc ⟨q0,trivial⟩ ?_;refine pW hc _ rfl rfl rfl .u32 rfl rfl rfl rfl rfl rfl rfl dL ?_ ?_ ?_ (fun T z hT hz=>?_)
 ·simp only[IE.den];omega
 ·simp only[IE.den];omega
 ·simp only[IE.den];omega
 have hT:T=N+M:=by simp only[IE.den]at hT;omega
 have hz0:z=List.replicate ((aF n).length+(aF m).length) 0:=by rw[hz,hT,hN,hM]
 have mul0:Mul n m 0 0 z 0:=by rw[hz0];exact Mul.init
 refine zN hc ?_;cbv;let ι:={x:Nat × List Int//Mul n m x.1 0 x.2 0∧x.1≤N}
 let I:ι→St:=fun x=>⟨[(0,.sl 0 0 (.n N) cap),(1,.sl 1 0 (.n M) aZ),(5,.sl 2 0 (.n T) T),(6,.i .i64 (.n x.1.1))],[.xi .u32 N f,.xi .u32 M f',.r 138 .u32 x.1.2],[]⟩
 let x0:ι:=⟨(0,z),mul0,Nat.zero_le _⟩
 refine zU 3 (S':=I x0) (K':=K) ⟨zS rfl rfl,zS rfl rfl,zS rfl rfl,zS rfl rfl,trivial⟩ (kf _) trivial ?_;refine bP hc I (fun x=>N - x.1.1) x0 100 ?_;rintro p ⟨⟨i,out⟩,hMu,aRe⟩ hy;simp only at hMu aRe;have hlen:=hMu.len
 cbv;refine aE hc rfl 100 (fun h=>?_) (fun h=>?_)
 ·have h:(i:Int)<(N:Int):=BE.lt_t h
  have hiN:i<N:=Int.ofNat_lt.1 h
  have hga:=bB (bK n) i
  obtain⟨ga,jY⟩:=nm ((aF n).getD i 0);rw[←jY]at hga;have hix:aX 0 (IE.n i).den 1 0=i:=by simp only[aX,IE.den];omega
  have g1:(IE.fn f 0 (IE.n i) 1 0).den=ga:=by show f (aX 0 (IE.n i).den 1 0)=ga;rw[hix,hfw i hiN,jY]
  have o1:(Obl.ltE (IE.n i) (IE.n N)).ok:=by show _∧_;simp only[IE.den];omega
  have o2:(Obl.ix 0 (IE.n i) 1 0 1 N).ok:=by show _≤_;rw[hix];omega
  let κ:={x:Nat × List Int × Int//Mul n m i x.1 x.2.1 x.2.2∧x.1≤M}
  let J:κ→St:=fun x=>⟨[(0,.sl 0 0 (.n N) cap),(1,.sl 1 0 (.n M) aZ),(5,.sl 2 0 (.n T) T),(6,.i .i64 (.n i)),(7,.i .u64 (.v x.1.2.2)),(8,.i .i64 (.n x.1.1))],[.xi .u32 N f,.xi .u32 M f',.r 138 .u32 x.1.2.1],[]⟩
  let y0:κ:=⟨(0,out,0),hMu,Nat.zero_le _⟩
  cbv;refine zU 3 (S':=J y0) (K':=K) ⟨zS rfl rfl,zS rfl rfl,zS rfl rfl,zS rfl rfl,zS rfl rfl,zS rfl rfl,trivial⟩ (kf _) trivial ?_;refine bP hc J (fun x=>M - x.1.1) y0 100 ?_;rintro p' ⟨⟨k,ot,cr⟩,hMk,hk⟩ hyk;simp only at hMk hk;have hlk:=hMk.len
  have hcr:=hMk.c
  cbv;refine aE hc rfl 100 (fun h=>?_) (fun h=>?_)
  ·have h:(k:Int)<(M:Int):=BE.lt_t h
   have hkM:k<M:=Int.ofNat_lt.1 h
   have hgb:=bB (bK m) k
   obtain⟨gb,sU⟩:=nm ((aF m).getD k 0);rw[←sU]at hgb;have hog:=bB hMk.wd (i+k)
   obtain⟨og,aBb⟩:=nm (ot.getD (i+k) 0);rw[←aBb]at hog;obtain⟨pr,hpr⟩:=nm (ga*gb);have bCd:0≤pr∧pr≤999999999*999999999:=by
    rw[hpr];exact⟨Int.mul_nonneg hga.1 hgb.1,Int.mul_le_mul (by omega) (by omega) hgb.1 (by omega)⟩
   obtain⟨x2,hx2⟩:=nm (cr+(pr+og));have aCn:0≤x2∧x2≤999999998000000001+1999999998:=by omega
   obtain⟨c0,hc0⟩:=nm (x2/1000000000);obtain⟨k',hk'⟩:=nm (k+1);have hst:=hMk.step (x:=x2) (by omega) (by omega) (by rw[hx2,hpr,jY,sU,aBb])
   rw[←hc0,←hk']at hst;have aHc:aX 0 (IE.n k).den 1 0=k:=by simp only[aX,IE.den];omega
   have hik:aX 0 ((IE.n i).add (IE.n k)).den 1 0=i+k:=by simp only[aX,IE.den];omega
   have g2:(IE.fn f' 0 (IE.n k) 1 0).den=gb:=by show f' (aX 0 (IE.n k).den 1 0)=gb;rw[aHc,aJv k hkM,sU]
   have g3:(IE.nth ot 0 ((IE.n i).add (IE.n k)) 1 0).den=og:=by show ot.getD (aX 0 ((IE.n i).add (IE.n k)).den 1 0) 0=og;rw[hik,aBb]
   have m1:((IE.fn f 0 (IE.n i) 1 0).mul (IE.fn f' 0 (IE.n k) 1 0)).den=pr:=by show(IE.fn f 0 (IE.n i) 1 0).den*(IE.fn f' 0 (IE.n k) 1 0).den=pr;rw[g1,g2,hpr]
   have a1:((IE.nth ot 0 ((IE.n i).add (IE.n k)) 1 0).add ((IE.fn f 0 (IE.n i) 1 0).mul (IE.fn f' 0 (IE.n k) 1 0))).den=pr+og:=by show(IE.nth ot 0 ((IE.n i).add (IE.n k)) 1 0).den+((IE.fn f 0 (IE.n i) 1 0).mul (IE.fn f' 0 (IE.n k) 1 0)).den=_;rw[m1,g3];omega
   have a2:(((IE.nth ot 0 ((IE.n i).add (IE.n k)) 1 0).add ((IE.fn f 0 (IE.n i) 1 0).mul (IE.fn f' 0 (IE.n k) 1 0))).add (IE.v cr)).den=x2:=by show((IE.nth ot 0 ((IE.n i).add (IE.n k)) 1 0).add ((IE.fn f 0 (IE.n i) 1 0).mul (IE.fn f' 0 (IE.n k) 1 0))).den+cr=_;rw[a1,hx2];omega
   have r1:((((IE.nth ot 0 ((IE.n i).add (IE.n k)) 1 0).add ((IE.fn f 0 (IE.n i) 1 0).mul (IE.fn f' 0 (IE.n k) 1 0))).add (IE.v cr)).rem (IE.l 1000000000)).den=x2%1000000000:=by
    show(((IE.nth ot 0 ((IE.n i).add (IE.n k)) 1 0).add ((IE.fn f 0 (IE.n i) 1 0).mul (IE.fn f' 0 (IE.n k) 1 0))).add (IE.v cr)).den.tmod 1000000000=_
    rw[a2,Int.tmod_eq_emod_of_nonneg aCn.1]
   have d1:((((IE.nth ot 0 ((IE.n i).add (IE.n k)) 1 0).add ((IE.fn f 0 (IE.n i) 1 0).mul (IE.fn f' 0 (IE.n k) 1 0))).add (IE.v cr)).quo (IE.l 1000000000)).den=c0:=by
    show(((IE.nth ot 0 ((IE.n i).add (IE.n k)) 1 0).add ((IE.fn f 0 (IE.n i) 1 0).mul (IE.fn f' 0 (IE.n k) 1 0))).add (IE.v cr)).den.tdiv 1000000000=_
    rw[a2,Int.tdiv_eq_ediv_of_nonneg aCn.1,hc0]
   have p0:=dA .u64 _ _ g1 (by simp only[lo,hi];omega)
   have p1:(Obl.ltE (IE.n k) (IE.n M)).ok:=by show _∧_;simp only[IE.den];omega
   have p2:(Obl.ix 0 (IE.n k) 1 0 1 M).ok:=by show _≤_;rw[aHc];omega
   have p3:(Obl.inR .u64 (IE.v ga)).ok:=dA _ _ ga rfl (by simp only[lo,hi];omega)
   have p4:=dA .u64 _ _ g2 (by simp only[lo,hi];omega)
   have p5:=dA .u64 _ _ m1 (by simp only[lo,hi];omega)
   have p6:(Obl.inR .i64 ((IE.n i).add (IE.n k))).ok:=dA _ _ ((i:Int)+k) rfl (by simp only[lo,hi];omega)
   have p7:(Obl.ltE ((IE.n i).add (IE.n k)) (IE.n T)).ok:=by show _∧_;simp only[IE.den];omega
   have hlt:aX 0 ((IE.n i).add (IE.n k)).den 1 0<ot.length:=by rw[hik,hlk];omega
   have bF5:(Obl.ix 0 ((IE.n i).add (IE.n k)) 1 0 1 ot.length).ok:=hlt
   have p9:=dA .u64 _ _ g3 (by simp only[lo,hi];omega)
   have p10:=dA .u64 _ _ a1 (by simp only[lo,hi];omega)
   have p11:=dA .u64 _ _ a2 (by simp only[lo,hi];omega)
   have p12:=dA .u32 _ _ r1 (by simp only[lo,hi];omega)
   have p13:=dA .u64 _ _ d1 (by simp only[lo,hi];omega)
   have p14:(Obl.inR .i64 ((IE.n k).add (IE.l 1))).ok:=dA _ _ ((k:Int)+1) rfl (by simp only[lo,hi];omega)
   have s1:((IE.n k).add (IE.l 1)).den=(IE.n k').den:=by simp only[IE.den,hk'];omega
   have aRf:k'≤M:=by omega
   have hmk:M - k'<M - k:=by omega
   cbv;refine zO hc ?_;refine cP hc _ rfl rfl rfl rfl rfl 0 ?_;cbv;refine zE hc ?_;cbv;refine zO hc ?_;refine iU hc _ rfl rfl (r:=(2,138,.u32,ot,aX 0 ((IE.n i).add (IE.n k)).den 1 0,((((IE.nth ot 0 ((IE.n i).add (IE.n k)) 1 0).add ((IE.fn f 0 (IE.n i) 1 0).mul (IE.fn f' 0 (IE.n k) 1 0))).add (IE.v cr)).rem (IE.l 1000000000)))) rfl hlt (fun l' hl'=>?_);have hl':l'=ot.set (i+k) (x2%1000000000):=by rw[hl',←hik,←r1]
   have hst:Mul n m i k' l' c0:=by rw[hl'];exact hst
   refine zN hc ?_;cbv;refine zO hc ?_;refine zU 3 (S':=J ⟨(k',l',c0),hst,aRf⟩) (K':=K) ⟨zS rfl rfl,zS rfl rfl,zS rfl rfl,zS rfl rfl,zI rfl rfl d1,zI rfl rfl s1,trivial⟩ (kf _) trivial (hyk _ hmk)
  ·have h:¬(k:Int)<(M:Int):=BE.lt_f h
   have hkM:k=(aF m).length:=by omega
   have hMk:Mul n m i (aF m).length ot cr:=by rw[←hkM];exact hMk
   have iW:=hMk.row (by omega)
   rw[←hM]at iW;have hik:aX 0 ((IE.n i).add (IE.n M)).den 1 0=i+M:=by simp only[aX,IE.den];omega
   have p1:(Obl.inR .i64 ((IE.n i).add (IE.n M))).ok:=dA _ _ ((i:Int)+M) rfl (by simp only[lo,hi];omega)
   have p2:(Obl.inR .u32 (IE.v cr)).ok:=dA _ _ cr rfl (by simp only[lo,hi];omega)
   have p3:(Obl.ltE ((IE.n i).add (IE.n M)) (IE.n T)).ok:=by show _∧_;simp only[IE.den];omega
   have hlt:aX 0 ((IE.n i).add (IE.n M)).den 1 0<ot.length:=by rw[hik,hlk];omega
   have p4:(Obl.inR .i64 ((IE.n i).add (IE.l 1))).ok:=dA _ _ ((i:Int)+1) rfl (by simp only[lo,hi];omega)
   obtain⟨i',hi'⟩:=nm (i+1);rw[←hi']at iW;have s1:((IE.n i).add (IE.l 1)).den=(IE.n i').den:=by simp only[IE.den,hi'];omega
   have aCj:i'≤N:=by omega
   have hmi:N - i'<N - i:=by omega
   cbv;refine zO hc ?_;refine iU hc _ rfl rfl (r:=(2,138,.u32,ot,aX 0 ((IE.n i).add (IE.n M)).den 1 0,IE.v cr)) rfl hlt (fun l' hl'=>?_);have hl':l'=ot.set (i+M) cr:=by rw[hl',←hik];rfl
   have iW:Mul n m i' 0 l' 0:=by rw[hl'];exact iW
   refine zN hc ?_;cbv;refine zO hc ?_;refine zU 3 (S':=I ⟨(i',l'),iW,aCj⟩) (K':=K) ⟨zS rfl rfl,zS rfl rfl,zS rfl rfl,zI rfl rfl s1,trivial⟩ (kf _) trivial (hy _ hmi)
 ·have h:¬(i:Int)<(N:Int):=BE.lt_f h
  have hiN:i=(aF n).length:=by omega
  have hMu:Mul n m (aF n).length 0 out 0:=by rw[←hiN];exact hMu
  have rE:=hMu.done
  have kA:out.length=T:=by rw[hlen,hT,hN,hM]
  have hlb:out.length≤2^40:=by omega
  cbv;refine oS 2 rfl rfl (fun g N' hN' hg=>?_);refine eE (R:=R) hc nN (fun n0 D X μ a w aL H aJ=>?_) 100 ?_
  ·obtain⟨v1,rfl,h1⟩:=aV aJ;have h2:=H.row (l:=out) rfl h1 (by rw[kA];rfl) (fun j y hj=>by rw[Nat.zero_add];exact hg j y hj) (by omega) (by omega)
   rw[hRR,←rE];exact iZ hMu.wd hlb H.xlt h2
  cbv;exact aS hc hR rfl (fun X μ a w v H hv=>H.toP.val (k:=3) (R:=R) (.head _) hv)
theorem aT8:aB PP 126:=zK
theorem aLp:aB PP 125:=zK
theorem bCs {X:Nat→Prop}{w:World}{x:Int}(hX:∀b,X b→b<w.heap.size)(h0:0≤x)(h1:x<18446744073709551616):Fn PP 126 [.int .u64 x] X w (aP x.toNat):=by
 obtain⟨R,hRR⟩:=nm (aP x.toNat);rw[←hRR];obtain⟨y,hy⟩:=nm (x/1000000000);have e1:x.tmod 1000000000=x%1000000000:=Int.tmod_eq_emod_of_nonneg h0
 have e2:x.tdiv 1000000000=y:=by rw[hy];exact Int.tdiv_eq_ediv_of_nonneg h0
 have hy0:0≤y∧y<18446744074:=by omega
 have e3:y.tmod 1000000000=y%1000000000:=Int.tmod_eq_emod_of_nonneg hy0.1
 have e4:y.tdiv 1000000000=y/1000000000:=Int.tdiv_eq_ediv_of_nonneg hy0.1
 have dA:∀(kd:IntKind) (e:IE) (z:Int),e.den=z→lo kd≤z∧z≤hi kd→(Obl.inR kd e).ok:=fun kd e z he hz=>by show _∧_;rw[he];exact hz
 have nz:(Obl.nz (IE.l 1000000000)).ok:=by show _≠_;simp[IE.den]
 have d1:(IE.rem (.v x) (.l 1000000000)).den=x%1000000000:=e1
 have d2:(IE.quo (.v x) (.l 1000000000)).den=y:=e2
 have d3:(IE.rem (.quo (.v x) (.l 1000000000)) (.l 1000000000)).den=y%1000000000:=by show(IE.quo (.v x) (.l 1000000000)).den.tmod 1000000000=_;rw[d2,e3]
 have d4:(IE.quo (.quo (.v x) (.l 1000000000)) (.l 1000000000)).den=y/1000000000:=by show(IE.quo (.v x) (.l 1000000000)).den.tdiv 1000000000=_;rw[d2,e4]
 have p1:=dA .u32 _ _ d1 (by simp only[lo,hi];omega)
 have p2:=dA .u64 _ _ d2 (by simp only[lo,hi];omega)
 have p3:=dA .u32 _ _ d3 (by simp only[lo,hi];omega)
 have p4:=dA .u64 _ _ d4 (by simp only[lo,hi];omega)
 have p5:=dA .u32 _ _ d4 (by simp only[lo,hi];omega)
 have hl:Wd [x%1000000000,y%1000000000,y/1000000000]:=Wd.mk (by omega) (Wd.mk (by omega) (Wd.mk (by omega) Wd.nil))
 have hv:val [x%1000000000,y%1000000000,y/1000000000]=x:=by simp only[val];omega
 refine bE mixed tok [.i .u64 (.v x)] (K:=[]) Tryz.func126 rfl rfl (lbl rfl) rfl hX (fun f hf=>by cases hf) fun c hc hR=>?_
 refine zN hc ?_;cbv;refine zO hc ?_;refine xS 0 .u32 rfl rfl rfl fun f hf=>?_
 have f0:=(hf 0 _ rfl).trans d1
 have f1:=(hf 1 _ rfl).trans d3
 have f2:=(hf 2 _ rfl).trans d4
 cbv;refine eE (R:=R) hc nN (fun n0 D X μ a w aL H aJ=>?_) 100 ?_
 ·obtain⟨v,rfl,hv'⟩:=aV aJ;have h3:=H.row (l:=[x%1000000000,y%1000000000,y/1000000000]) rfl hv' rfl (fun i y hy=>by
   match i,hy with
   | 0,hy=>simp at hy;subst hy;exact f0
   | 1,hy=>simp at hy;subst hy;exact f1
   | 2,hy=>simp at hy;subst hy;exact f2) (lRf _) (lRf _)
  have:=iZ hl (by simp) H.xlt h3
  rw[hv]at this;rw[hRR];exact this
 cbv;exact aS hc hR rfl (fun X μ a w v H hv=>H.toP.val (k:=1) (.head _) hv)
theorem aWr {v:Value}{X:Nat→Prop}{w:World}{n:Nat}(hbn:(aF n).length≤2)(hX:∀b,X b→b<w.heap.size)(hv:(aP n).p v X w):
  Fn PP 125 [v] X w (dJ (.int .u64 n)):=by
 obtain⟨R,hRR⟩:=nm (dJ (.int .u64 n));obtain⟨K,hK⟩:=nm ([KF.cst v (aP n)]);rw[←hRR];have bF8:n<1000000000^2:=bG hbn
 refine bE mixed tok [.q v] (K:=K) Tryz.func125 rfl rfl (lbl rfl) rfl hX (by subst hK;simp;exact hv) fun c hc hR=>?_
 refine dQ 0 .u32 (aF n) rfl rfl (fun X μ a w v' H hv'=>cE H (by simp[hK]) hv') fun f N cap hN hf dI=>?_
 have hN2:N≤2:=by omega
 have dA:∀(kd:IntKind) (e:IE) (z:Int),e.den=z→lo kd≤z∧z≤hi kd→(Obl.inR kd e).ok:=fun kd e z he hz=>by show _∧_;rw[he];exact hz
 have q0:(Obl.inR .i64 ((IE.n N).sub (IE.l 1))).ok:=dA _ _ ((N:Int) - 1) rfl (by simp only[lo,hi];omega)
 have kf:lC 1 K K:=by subst hK;exact⟨⟨.head _,KFr.cst _ _ _⟩,trivial⟩
 have hdb:∀k,val ((aF n).drop k)<1000000000^((aF n).length - k)∧0≤val ((aF n).drop k):=fun k=>by
  have:=kW ((bK n).drop k)
  rw[List.length_drop]at this;exact⟨this,cH ((bK n).drop k)⟩
 have hv0:val ((aF n).drop 0)=n:=by rw[List.drop_zero,cN]
 refine zN hc ?_;cbv;refine aQ hc ⟨q0,trivial⟩ ?_;let ι:={x:Nat × Int//x.2=val ((aF n).drop x.1)∧x.1≤N}
 let I:ι→St:=fun x=>⟨[(0,.sl 0 0 (.n N) cap),(3,.i .u64 (.v x.1.2)),(4,.i .i64 (.sub (.n x.1.1) (.l 1)))],[.xi .u32 N f],[]⟩
 let x0:ι:=⟨(N,0),by rw[List.drop_of_length_le (by omega)];rfl,lRf _⟩
 refine zU 1 (S':=I x0) (K':=K) ⟨zS rfl rfl,zS rfl rfl,zS rfl rfl,trivial⟩ kf trivial ?_;refine bP hc I (fun x=>x.1.1) x0 100 ?_;rintro p ⟨⟨k,z⟩,hz,hk⟩ hy;simp only at hz hk;cbv;refine aE hc rfl 100 (fun h=>?_) (fun h=>?_)
 ·have h:(0:Int)≤(k:Int) - 1:=BE.le_t h
  obtain⟨q,hq⟩:∃q,q+1=k:=⟨k - 1,by omega⟩;have hqN:q<N:=by omega
  have hqk:q<k:=by omega
  have hqg:(aF n)[q]?=some (aF n)[q]:=by simp
  have hst:=nE hqg
  rw[hq,←hz]at hst;have hwn:=bK n (aF n)[q] (List.getElem_mem _)
  obtain⟨ga,hga⟩:=nm ((aF n)[q]);rw[←hga]at hst hwn;have hix:aX 0 ((IE.n k).sub (IE.l 1)).den 1 0=q:=by simp only[aX,IE.den];omega
  have g1:(IE.fn f 0 ((IE.n k).sub (IE.l 1)) 1 0).den=ga:=by show f (aX 0 ((IE.n k).sub (IE.l 1)).den 1 0)=ga;rw[hix,hf q _ hqg,hga]
  obtain⟨z',hz'⟩:=nm (val ((aF n).drop q));rw[←hz']at hst;have hdq:=hdb q
  rw[←hz']at hdq;have hdk:=hdb k
  rw[←hz]at hdk;have hpw:(1000000000:Int)^((aF n).length - q)≤1000000000^2:=bFa (by omega)
  have hz1:0≤z'∧z'<1000000000000000000:=by omega
  have hz0:0≤z∧z<1000000000000000000:=by omega
  have m1:((IE.v z).mul (IE.l 1000000000)).den=z*1000000000:=rfl
  have a1:(((IE.v z).mul (IE.l 1000000000)).add (IE.fn f 0 ((IE.n k).sub (IE.l 1)) 1 0)).den=z':=by show z*1000000000+(IE.fn f 0 ((IE.n k).sub (IE.l 1)) 1 0).den=z';rw[g1,hst];omega
  have p1:=dA .u64 _ _ m1 (by simp only[lo,hi];omega)
  have p2:(Obl.ltE ((IE.n k).sub (IE.l 1)) (IE.n N)).ok:=by show _∧_;simp only[IE.den];omega
  have p3:(Obl.ix 0 ((IE.n k).sub (IE.l 1)) 1 0 1 N).ok:=by show _≤_;rw[hix];omega
  have p4:=dA .u64 _ _ g1 (by simp only[lo,hi];omega)
  have p5:=dA .u64 _ _ a1 (by simp only[lo,hi];omega)
  have p8:(Obl.inR .i64 (((IE.n k).sub (IE.l 1)).sub (IE.l 1))).ok:=dA _ _ ((k:Int) - 1 - 1) rfl (by simp only[lo,hi];omega)
  have s1:(((IE.n k).sub (IE.l 1)).sub (IE.l 1)).den=((IE.n q).sub (IE.l 1)).den:=by simp only[IE.den];omega
  have bEt:q≤N:=by omega
  cbv;refine zO hc ?_;exact zU 1 (S':=I ⟨(q,z'),hz',bEt⟩) (K':=K) ⟨zS rfl rfl,zI rfl rfl a1,zI rfl rfl s1,trivial⟩ kf trivial (hy _ hqk)
 ·have h:¬(0:Int)≤(k:Int) - 1:=BE.le_f h
  have hk0:k=0:=by omega
  have hzn:z=n:=by rw[hz,hk0,hv0]
  cbv;refine aS hc hR rfl (fun X μ a w v H hv=>?_);simp only[aC,IE.den]at hv;injection hv with hv
  rw[hRR,←hv,hzn];exact rfl
theorem oH:aB PP 72:=zK
theorem aFk (s:ByteArray)(hs:s.size≤2^60):Pure PP 72 [.string s] (.bool (isNat s.data.toList)):=by
 obtain⟨res,jF⟩:=nm (isNat s.data.toList);obtain⟨l,hl⟩:=nm (s.data.toList);rw[←jF];rw[←hl]at jF;have hlen:l.length=s.size:=by rw[hl];rfl
 obtain⟨n,hn⟩:=nm (l.length);have hsz:(IE.len (.v s)).den=(IE.n n).den:=by show((s.size:Nat):Int)=_;rw[hn,hlen];rfl
 refine aG mixed tok [.s (.v s)] Tryz.func72 rfl rfl (lbl rfl) rfl fun c hc hR=>?_
 refine zN hc ?_;cbv;let ι:={k:Nat//k≤n∧(l.take k).all lK=true}
 let I:ι→St:=fun x=>⟨[(0,.s (.v s)),(3,.i .i64 (.n x.1))],[],[]⟩
 let x0:ι:=⟨0,Nat.zero_le _,rfl⟩
 refine zU 0 (S':=I x0) (K':=[]) ⟨zS rfl rfl,zS rfl rfl,trivial⟩ trivial trivial ?_;refine bP hc I (fun x=>n - x.1) x0 100 ?_;rintro p ⟨k,hk,cG⟩ hy;have tU:(BE.lt (.n k) (.len (.v s))).den=decide (k<n):=by
  show decide ((k:Int)<(IE.len (.v s)).den)=_
  rw[hsz];exact decide_eq_decide.2 (by simp only[IE.den];omega)
 cbv;refine aE hc rfl 100 (fun h=>?_) (fun h=>?_)
 ·have hkn:k<n:=of_decide_eq_true (tU.symm.trans h)
  obtain⟨k',hk'⟩:=nm (k+1);have o2:(Obl.ltE (.n k) (.len (.v s))).ok:=by show _∧_;rw[hsz];simp only[IE.den];omega
  have o3:(Obl.inR .i64 (.add (.n k) (.l 1))).ok:=by show lo _≤_∧_≤hi _;simp only[lo,hi,IE.den];omega
  have hi1:((IE.n k).add (IE.l 1)).den=(IE.n k').den:=by simp only[IE.den,hk'];omega
  have aRg:k'≤n:=by omega
  have hms:n - k'<n - k:=by omega
  have hkl:k<l.length:=by omega
  have hno:¬lK (l.getD k 0)=true→res=false:=fun h=>by rw[jF];exact aLa hkl h
  have aZd:lK (l.getD k 0)=true→(l.take k').all lK=true:=fun h=>by rw[hk'];exact aF4 hkl cG h
  have hlt:=aLh hl (i:=.n k) (k:=k) (by simp[IE.den]) 48
  have hgt:=aMi hl (i:=.n k) (k:=k) (by simp[IE.den]) 57
  cbv;refine zO hc ?_;refine bT hc 14 rfl rfl 100 (fun h=>?_) (fun h=>?_)
  ·have h:=of_decide_eq_true (hlt.symm.trans h)
   have hf:=hno (fun hd=>by have:=tV.1 hd;omega)
   subst hf;cbv;exact aD hc hR (av:=.b (.l false)) rfl rfl
  ·have h:=of_decide_eq_false (hlt.symm.trans h)
   cbv;refine zO hc ?_;refine aE hc rfl 100 (fun h2=>?_) (fun h2=>?_)
   ·have h2:=of_decide_eq_true (hgt.symm.trans h2)
    have hf:=hno (fun hd=>by have:=tV.1 hd;omega)
    subst hf;cbv;exact aD hc hR (av:=.b (.l false)) rfl rfl
   ·have h2:=of_decide_eq_false (hgt.symm.trans h2)
    have hd:=aZd (tV.2 ⟨by omega,by omega⟩)
    cbv;refine zO hc ?_;exact zU 0 (S':=I ⟨k',aRg,hd⟩) (K':=[]) ⟨zS rfl rfl,zI rfl rfl hi1,trivial⟩ trivial trivial (hy _ hms)
 ·have hkn:¬k<n:=of_decide_eq_false (tU.symm.trans h)
  have hkl:k=l.length:=by omega
  have hd:(l.take l.length).all lK=true:=by rw[←hkl];exact cG
  have hd':l.all lK=true:=by rwa [List.take_of_length_le (lRf _)]at hd
  have h1:(BE.eq (.len (.v s)) (.l 1)).den=decide (l.length=1):=by
   show decide ((IE.len (.v s)).den=1)=_
   rw[hsz];exact decide_eq_decide.2 (by simp only[IE.den];omega)
  have l1:=aJ8 hl 1
  have e48:(BE.eq (.byte (.v s) (.l 0)) (.l 48)).den=decide (l.getD 0 0=48):=by
   simp only[BE.den];exact decide_eq_decide.2 (by rw[jI (k:=0) rfl,←hl];exact aW5)
  have n48:(BE.not (.eq (.byte (.v s) (.l 0)) (.l 48))).den=decide (l.getD 0 0≠48):=by
   show(!(BE.eq (.byte (.v s) (.l 0)) (.l 48)).den)=_
   rw[e48];by_cases h:l.getD 0 0=48<;>simp[h]
  clear hy;cbv;refine bT hc 23 rfl rfl 100 (fun h2=>?_) (fun h2=>?_)
  ·have h2:=of_decide_eq_true (h1.symm.trans h2)
   have hf:res=true:=by rw[jF];simp[isNat,hd',h2]
   subst hf;cbv;exact aD hc hR (av:=.b (.l true)) rfl rfl
  ·have h2:=of_decide_eq_false (h1.symm.trans h2)
   cbv;refine bT hc 27 rfl rfl 100 (fun h3=>?_) (fun h3=>?_)
   ·have h3:=of_decide_eq_true (l1.symm.trans h3)
    have o1:(Obl.ltE (.l 0) (.len (.v s))).ok:=by show _∧_;rw[hsz];simp only[IE.den];omega
    have hf:res=decide (l.getD 0 0≠48):=by rw[jF];simp[isNat,hd',h2,h3]
    cbv;refine zO hc ?_;exact aD hc hR rfl (by rw[hf,←n48];rfl)
   ·have h3:=of_decide_eq_false (l1.symm.trans h3)
    have hf:res=false:=by rw[jF];simp[isNat,h2,h3]
    subst hf;cbv;exact aD hc hR (av:=.b (.l false)) rfl rfl
def zR (b:Bool)(n:Nat):RV1:=.agg [.b (.l b),.x (aP n)]
theorem aW9 {b:Bool}{n:Nat}{u:Value}{X:Nat→Prop}{w:World}(h:(aP n).p u X w):(zR b n).p (.agg #[.bool b,u]) X w:=
 ⟨[.bool b,u],rfl,rfl,⟨mP h,h⟩,trivial⟩
theorem xB:aB PP 65:=zK
theorem aM6 {b:Bool}{n:Nat}{r:Int}(hr:r=if b then -1 else if n=0 then 0 else 1):yY PP 65 [zR b n] (.sg (.one (.i .i64 (.v r)))):=by
 obtain⟨R1,hR1⟩:∃R,R=aP n:=⟨_,rfl⟩;have hz:zR b n=.agg [.b (.l b),.x R1]:=by rw[hR1];rfl
 obtain⟨F,hF⟩:=nm (wA (.sg (zR b n)));rw[hz]at hF ⊢;refine oA mixed tok Tryz.func65 rfl (by rfl) rfl [F] ⟨hF,trivial⟩ fun c G hG hc hR=>?_
 cases b with
 | true=>
  refine zN hc ?_;cbv;exact iP hc hG hR rfl (.i hr.symm)
 | false=>
  refine zN hc ?_;cbv;refine dQ 6 .u32 (aF n) rfl rfl (fun X μ a w v' H hv'=>by
   have h:=aLc (R:=.sg (.agg [.b (.l false),.x R1])) H (.head _) hF rfl hv'
   rw[hR1]at h;exact h) fun f N cap hN hf dI=>?_
  refine zN hc ?_;cbv;refine aE hc rfl 100 (fun h=>?_) (fun h=>?_)
  ·have h:=BE.lt_t h
   cbv;refine iP hc hG hR rfl (.i ?_);rw[hr];have:n≠0:=fun e=>by rw[e,bO]at hN;rw[hN]at h;exact absurd h (by decide)
   simp[this];rfl
  ·have h:=BE.lt_f h
   cbv;refine iP hc hG hR rfl (.i ?_);rw[hr];have:n=0:=sB (by simp only[IE.den]at h;omega)
   simp[this];rfl
theorem aLv:aB PP 115:=zK
theorem aW8 {b b':Bool}{n:Nat}(hb:b'=(b&&decide (n≠0))):yY PP 115 [.one (.b (.l b)),.one (.x (aP n))] (.sg (zR b' n)):=by
 obtain⟨R1,hR1⟩:∃R,R=aP n:=⟨_,rfl⟩;obtain⟨F,hF⟩:=nm (wA (.sg (.one (.x R1))));obtain⟨F0,hF0⟩:∃F,F=wA (.sg (.one (.b (.l b)))):=⟨_,rfl⟩;obtain⟨rs,hrs⟩:=nm (RV.sg (zR b' n));rw[←hrs,←hR1];refine oA mixed tok Tryz.func115 rfl (by rfl) rfl [F0,F] ⟨hF0,hF,trivial⟩ fun c G hG hc hR=>?_
 obtain⟨K,hK⟩:=nm (xL 0 [F0,F]);rw[←hK];refine dQ 1 .u32 (aF n) rfl rfl (fun X μ a w v' H hv'=>by
   have h:=aLc (R:=.sg (.one (.x R1))) H (by rw[hK];exact .tail _ (.head _)) hF rfl hv'
   rw[hR1]at h;exact h) fun f N cap hN hf dI=>?_
 have lJ:∀{x:Bool} {X:Nat→Prop} {w:World} {u:Value},x=b'→(aP n).p u X w→G.p (.agg #[.bool x,u]) X w:=fun hx hu=>by
  rw[hG,hrs,hx];exact aW9 hu
 have aHi:∀{x:BE} {S:St} {X:Nat→Prop} {μ:Mu} {a:Act} {w:World} {v:Value},Sim c K S X μ a w→S.hp[2]?=some (.xi .u32 N f)→x.den=b'→aC μ (.g [.b x,.sl 2 0 (.n N) cap])=some v→G.p v X w:=by
  intro x S X μ a w v H hk hx hv;obtain⟨vs,h1,rfl⟩:=xF hv;obtain⟨v1,v2,rfl,e1,e2⟩:=bX h1;rw[fU e1];exact lJ hx (H.toP.row hk e2 (by simp[IE.den,hN]) (fun i x hx=>by rw[Nat.zero_add];exact hf i x hx) (by omega) (by omega))
 have hlt:(BE.lt (.l 0) (.n N)).den=(true&&decide (n≠0)):=by
  show decide ((0:Int)<(N:Int))=_
  rw[Bool.true_and];refine decide_eq_decide.2 ⟨fun h e=>?_,fun h=>?_⟩
  ·rw[e,bO]at hN;rw[hN]at h;exact absurd h (by decide)
  ·rw[hN,bY h];simp only[List.length_cons];omega
 cases b with
 | true=>
  have hx:=hlt.trans hb.symm
  refine zN hc ?_;cbv;exact aS hc hR rfl (fun X μ a w v H hv=>aHi H rfl hx hv)
 | false=>
  have hx:(BE.l false).den=b':=hb.symm
  refine zN hc ?_;cbv;exact aS hc hR rfl (fun X μ a w v H hv=>aHi H rfl hx hv)
theorem aW4 {b:UInt8}:(b.toNat:Int)=45↔b=45:=by
 constructor
 ·intro h;apply UInt8.toNat_inj.1;show b.toNat=45
  omega
 ·intro h;subst h;rfl
theorem aVh {l:List UInt8}(h:l.getD 0 0=45)(hl:1<l.length):(vX l).isSome=(decide (l≠[45,48])&&isNat (l.drop 1)):=by
 cases l with
 | nil=>simp at hl
 | cons c t=>
  have hc:c=45:=h
  subst hc;simp only[vX,List.drop_succ_cons,List.drop_zero]
  by_cases h1:isNat t=true<;>by_cases h2:t=[48]<;>simp[h1,h2]
theorem aVi {l:List UInt8}(h:¬(1<l.length∧l.getD 0 0=45)):(vX l).isSome=isNat l:=by
 by_cases h1:∃t,l=45::t
 ·obtain⟨t,rfl⟩:=h1;have:t=[]:=by
   cases t with
   | nil=>rfl
   | cons d t=>exact absurd ⟨by simp,rfl⟩ h
  subst this
  rfl
 ·rw[zY (fun t e=>h1 ⟨t,e⟩)]
  by_cases h2:isNat l=true<;>simp[h2]
theorem aDe {s:ByteArray}{l:List UInt8}(hl:l=s.data.toList):((SE.v s).sub (.l 1) (.len (.v s))).den.data.toList=l.drop 1:=by
 have hsz:s.size=l.length:=by rw[hl];rfl
 show(s.extract 1 (IE.len (.v s)).den.toNat).data.toList=_
 have hlq:(IE.len (.v s)).den.toNat=l.length:=by show((s.size:Nat):Int).toNat=_;rw[hsz,Int.toNat_natCast]
 rw[hlq,ByteArray.data_extract,Array.toList_extract,List.extract_eq_take_drop,←hl,List.take_of_length_le (by rw[List.length_drop];omega)]
theorem aNr (s:ByteArray):((SE.v s).sub (.l 1) (.len (.v s))).den.size≤s.size:=by
 show(s.extract 1 (IE.len (.v s)).den.toNat).size≤_
 have hlq:(IE.len (.v s)).den.toNat=s.size:=by show((s.size:Nat):Int).toNat=_;rw[Int.toNat_natCast]
 rw[ByteArray.size_extract,hlq];omega
theorem aL4 {s:ByteArray}(h:1≤s.size):(Obl.slc (.l 1) (.len (.v s)) (.v s)).ok:=by
 have hlq:(IE.len (.v s)).den=(s.size:Int):=rfl
 refine⟨by decide,?_,?_⟩
 ·rw[hlq];simp only[IE.den];omega
 ·rw[hlq];exact Int.le_refl _
theorem aAm:aB PP 71:=zK
theorem aTz (s:ByteArray)(hs:s.size≤2^60):Pure PP 71 [.string s] (.bool (vX s.data.toList).isSome):=by
 obtain⟨res,jF⟩:=nm ((vX s.data.toList).isSome);rw[←jF];obtain⟨l,hl⟩:=nm (s.data.toList);rw[←hl]at jF;have hlen:l.length=s.size:=by rw[hl];rfl
 have l1:=aJ8 hl 1
 have hv:=aFk s hs
 obtain⟨rv,hrv⟩:∃r,r=isNat s.data.toList:=⟨_,rfl⟩;rw[←hrv]at hv;have aHh:¬(1<l.length∧l.getD 0 0=45)→rv=res:=fun h=>by rw[jF,hrv,←hl,aVi h]
 have e45:(BE.eq (.byte (.v s) (.l 0)) (.l 45)).den=decide (l.getD 0 0=45):=by
  simp only[BE.den];exact decide_eq_decide.2 (by rw[jI (k:=0) rfl,←hl];exact aW4)
 have aHf:1<l.length→l.getD 0 0=45→res=(decide (l≠[45,48])&&isNat (l.drop 1)):=fun h1 h2=>by rw[jF,aVh h2 h1]
 refine aG mixed tok [.s (.v s)] Tryz.func71 rfl rfl (lbl rfl) rfl fun c hc hR=>?_
 refine zN hc ?_;cbv;refine bT hc 6 rfl rfl 100 (fun h=>?_) (fun h=>?_)
 ·have h:=of_decide_eq_true (l1.symm.trans h)
  have o1:(Obl.ltE (.l 0) (.len (.v s))).ok:=by show _∧_;simp only[IE.den,SE.den];omega
  cbv;refine aQ hc ⟨o1,trivial⟩ ?_;refine aE hc rfl 100 (fun h2=>?_) (fun h2=>?_)
  ·have h2:=of_decide_eq_true (e45.symm.trans h2)
   have hr:=aHf h h2
   have e48:(BE.not (.seq (.v s) (.v ⟨#[45,48]⟩))).den=decide (l≠[45,48]):=by
    show(!(BE.seq (.v s) (.v ⟨#[45,48]⟩)).den)=_
    rw[aKv,←hl];simp
   cbv;refine bT hc 13 rfl rfl 100 (fun h3=>?_) (fun h3=>?_)
   ·have h3:=e48.symm.trans h3
    rw[h3,Bool.true_and]at hr;have hv2:Pure PP 72 [.string ((SE.v s).sub (.l 1) (.len (.v s))).den] (.bool res):=by
     have:=aFk ((SE.v s).sub (.l 1) (.len (.v s))).den (lTr (aNr s) hs)
     rwa [aDe hl,←hr]at this
    have o2:=aL4 (s:=s) (by omega)
    cbv;refine aQ hc ⟨o2,trivial⟩ ?_;refine zC hc (.b (.l res)) hv2 oH ?_;cbv;exact aD hc hR (av:=.b (.l res)) rfl rfl
   ·have h3:=e48.symm.trans h3
    rw[h3,Bool.false_and]at hr;subst hr;cbv;exact aD hc hR (av:=.b (.l false)) rfl rfl
  ·have h2:=of_decide_eq_false (e45.symm.trans h2)
   have hr:=aHh (fun e=>h2 e.2)
   cbv;refine zC hc (.b (.l rv)) hv oH ?_;cbv;exact aD hc hR (av:=.b (.l rv)) rfl (by rw[←hr];rfl)
 ·have h:=of_decide_eq_false (l1.symm.trans h)
  have hr:=aHh (fun e=>h e.1)
  cbv;refine zC hc (.b (.l rv)) hv oH ?_;cbv;exact aD hc hR (av:=.b (.l rv)) rfl (by rw[←hr];rfl)
theorem zF:aB PP 74:=zK
theorem aOi {l:List UInt8}{p j:Nat}(hp:p≤j)(hj:j<l.length):dS 0 ((l.take (j+1)).drop p)=10*dS 0 ((l.take j).drop p)+((l.getD j 0).toNat - 48):=by
 have e:(l.take (j+1)).drop p=(l.take j).drop p++[l.getD j 0]:=by
  rw[List.take_succ_eq_append_getElem hj,List.drop_append_of_le_length (by rw[List.length_take];omega)]
  congr 2
  simp[hj]
 rw[e,nP,fK,iS]
theorem aVa {l:List UInt8}(h:l.all lK=true){p j:Nat}(hpj:j≤p+9):dS 0 ((l.take j).drop p)<1000000000:=by
 have h1:=aL6 ((l.take j).drop p) (wP (wQ h j) _)
 have h2:((l.take j).drop p).length≤9:=by simp;omega
 exact Nat.lt_of_lt_of_le h1 (Nat.pow_le_pow_right (by decide) h2:_≤10^9)
theorem aVb {l:List UInt8}(h:l.all lK=true){qm j:Nat}(h1:qm≤j)(hj:j<l.length)(h9:j<qm+9){V V' b:Int}(hV:V=(dS 0 ((l.take j).drop qm):Int))(hV':V'=(dS 0 ((l.take (j+1)).drop qm):Int))(hb:b=((l.getD j 0).toNat:Int)):
  0≤10*V∧10*V≤4294967295∧0≤b - 48∧b - 48≤9∧10*V+(b - 48)=V'∧0≤V'∧V'≤999999999:=by
 have hps:=aOi (l:=l) (p:=qm) (j:=j) h1 hj
 have bEr:=aVa h (p:=qm) (j:=j+1) (by omega)
 have hd:lK (l.getD j 0)=true:=by
  have hg:l.getD j 0=l[j]:=by simp[hj]
  rw[hg];exact List.all_eq_true.1 h _ (List.getElem_mem hj)
 have hd2:=tV.1 hd
 rw[hps]at hV' bEr;omega
structure FrX where
 a:Option Addr
 cap:Nat
 k:Nat
 z:Int
 out:List Int
set_option maxHeartbeats 0 in
theorem aR8 {X:Nat→Prop}{w:World}{n:Nat}(hbn:dl n≤2^38)(hX:∀b,X b→b<w.heap.size):Fn PP 74 [.string (aK n)] X w (aP n):=by
 obtain⟨R,hRR⟩:=nm (aP n);obtain⟨l,hl⟩:=nm (Lib.decDigits n);have cG:l.all lK=true:=by rw[hl];exact gG n
 have vJ:dS 0 l=n:=by rw[hl];exact cR n
 have hlen:l.length≤2^38:=by rw[hl];exact hbn
 rw[←hRR];obtain⟨s,hs0⟩:=nm (aK n);have hsl:l=s.data.toList:=by rw[hs0,cM,←hl]
 have hsz:s.size=l.length:=by rw[hsl];rfl
 rw[←hs0];have dA:∀(kd:IntKind) (e:IE) (z:Int),e.den=z→lo kd≤z∧z≤hi kd→(Obl.inR kd e).ok:=fun kd e z he hz=>by show _∧_;rw[he];exact hz
 refine bE mixed tok [.s (.v s)] (K:=[]) Tryz.func74 rfl rfl (lbl rfl) rfl hX (fun f hf=>by cases hf) fun c hc hR=>?_
 obtain⟨G,hG⟩:∃G:Option Addr→Nat→Nat→List Int→OF,∀a n cap l,G a n cap l=OF.row (.slice a n cap) c.B.heap.size 138 .u32 l:=⟨fun a n cap l=>OF.row (.slice a n cap) c.B.heap.size 138 .u32 l,fun _ _ _ _=>rfl⟩;refine aBy hG rfl ?_;refine zN hc ?_;cbv;let ι:={x:FrX//RdS l x.z.toNat x.out∧x.k=x.out.length∧-9≤x.z}
 let I:ι→St:=fun x=>⟨[(0,.s (.v s)),(3,.xs x.1.a x.1.k x.1.cap),(4,.i .i64 (.v x.1.z))],[],[G x.1.a x.1.k x.1.cap x.1.out]⟩
 let x0:ι:=⟨⟨none,0,0,l.length,[]⟩,by rw[Int.toNat_natCast];exact RdS.init l,rfl,by show(-9:Int)≤(l.length:Int);omega⟩
 have kof:∀a i cp out,aEj 0 [G a i cp out]:=fun a i cp out=>⟨by rw[hG];exact OFr.row _ _ _ _ _ _,trivial⟩
 have e0:(IE.len (.v s)).den=(l.length:Int):=by show((s.size:Nat):Int)=_;rw[hsz]
 refine zU 0 (S':=I x0) (K':=[]) ⟨zS rfl rfl,zS rfl rfl,zI rfl rfl e0,trivial⟩ trivial (kof _ _ _ _) ?_;refine bP hc I (fun x=>x.1.z.toNat) x0 100 ?_;rintro p ⟨⟨a,cap,k,z,out⟩,hr,hk,hz9⟩ hy;simp only at hr hk hz9;obtain⟨q,hq⟩:=nm (z.toNat);rw[←hq]at hr;have bCe:q≤2^38:=lTr hr.le hlen
 have cW:=fun h=>hr.step cG h
 have hle:=hr.le
 have hrn:=hr.n
 obtain⟨qm,hqm⟩:=nm (q - 9);rw[←hqm]at cW;cbv;refine aE hc rfl 100 (fun h=>?_) (fun h=>?_)
 ·have hz0:(0:Int)<z:=BE.lt_t h
  have hzq:z=(q:Int):=by omega
  have hq0:0<q:=by omega
  have cW:=cW hq0
  have emx:(IE.max (.l 0) (.sub (.v z) (.l 9))).den=(IE.n qm).den:=by
   show(if(0:Int)<z - 9 then z - 9 else 0)=(qm:Int)
   split<;>omega
  have o1:(Obl.inR .i64 (.sub (.v z) (.l 9))).ok:=dA _ _ (z - 9) rfl (by simp only[lo,hi];omega)
  let κ:={x:Nat//qm≤x∧x≤q}
  obtain⟨W,hW⟩:∃W:Nat→Int,∀j,W j=(dS 0 ((l.take j).drop qm):Int):=⟨_,fun _=>rfl⟩;let J:κ→St:=fun x=>⟨[(0,.s (.v s)),(3,.xs a k cap),(4,.i .i64 (.v z)),(5,.i .u32 (.v (W x.1))),(6,.i .i64 (.n x.1))],[],[G a k cap out]⟩
  let y0:κ:=⟨qm,lRf _,by omega⟩
  have W0:(0:Int)=W qm:=by rw[hW,List.drop_of_length_le (by rw[List.length_take];omega)];rfl
  cbv;refine zO hc ?_;refine zU 0 (S':=J y0) (K':=[]) ⟨zS rfl rfl,zS rfl rfl,zS rfl rfl,zI rfl rfl W0,zI rfl rfl emx,trivial⟩ trivial (kof _ _ _ _) ?_;refine bP hc J (fun x=>q - x.1) y0 100 ?_;rintro p2 ⟨j,hj1,hj2⟩ hh;have hWj:=hW j
  cbv;refine aE hc rfl 100 (fun h=>?_) (fun h=>?_)
  ·have hjz:(j:Int)<z:=BE.lt_t h
   have hjq:j<q:=by omega
   have hjl:j<l.length:=by omega
   obtain⟨j',hj'⟩:=nm (j+1);have aYl:=hW j'
   rw[hj']at aYl;rw[←hj']at aYl;obtain⟨b,hb⟩:∃b:Int,b=((l.getD j 0).toNat:Int):=⟨_,rfl⟩;obtain⟨t1,t2,t3,t4,t5,t6,t7⟩:=aVb (V':=W j') cG hj1 hjl (by omega) hWj (by rw[aYl,hj']) hb;obtain⟨V,hV⟩:=nm (W j);have eb:(IE.byte (.v s) (.n j)).den=b:=by rw[hb,hsl];exact jI (by simp[IE.den])
   have g1:(IE.sub (.byte (.v s) (.n j)) (.l 48)).den=b - 48:=by show(IE.byte (.v s) (.n j)).den - 48=_;rw[eb]
   have m1:(IE.mul (.l 10) (.v (W j))).den=10*W j:=rfl
   have a1:(IE.add (.mul (.l 10) (.v (W j))) (.sub (.byte (.v s) (.n j)) (.l 48))).den=W j':=by
    show(IE.mul (.l 10) (.v (W j))).den+(IE.sub (.byte (.v s) (.n j)) (.l 48)).den=_
    rw[m1,g1,t5]
   have p1:=dA .u32 _ _ m1 (by simp only[lo,hi];exact⟨t1,t2⟩)
   have p2:(Obl.ltE (.n j) (.len (.v s))).ok:=by show _∧_;rw[e0];exact⟨Int.natCast_nonneg j,Int.ofNat_lt.2 hjl⟩
   have p3:=dA .u8 _ _ g1 (by simp only[lo,hi];exact⟨t3,Int.le_trans t4 (by decide)⟩)
   have p4:=dA .u32 _ _ g1 (by simp only[lo,hi];exact⟨t3,Int.le_trans t4 (by decide)⟩)
   have p5:=dA .u32 _ _ a1 (by simp only[lo,hi];exact⟨t6,Int.le_trans t7 (by decide)⟩)
   have p6:(Obl.inR .i64 (.add (.n j) (.l 1))).ok:=dA _ _ ((j:Int)+1) rfl (by simp only[lo,hi];omega)
   have s1:((IE.n j).add (IE.l 1)).den=(IE.n j').den:=by simp only[IE.den,hj'];omega
   have hyx:=hh ⟨j',by omega,by omega⟩ (by show q - j'<q - j;omega)
   cbv;refine zO hc ?_;exact zU 0 (S':=J ⟨j',by omega,by omega⟩) (K':=[]) ⟨zS rfl rfl,zS rfl rfl,zS rfl rfl,zI rfl rfl a1,zI rfl rfl s1,trivial⟩ trivial (kof _ _ _ _) hyx
  ·have hjz:¬(j:Int)<z:=BE.lt_f h
   have hjq:j=q:=by omega
   have hWq:W j=(dS 0 ((l.take q).drop qm):Int):=by rw[hWj,hjq]
   have hlb:(out.length+1)*4≤140737488355328:=by omega
   have aCk:out.length+1≤9223372036854775807:=by omega
   have ez:(z - 9).toNat=qm:=by omega
   have hq9:(z - 9).toNat<q:=by omega
   have hz':-9≤z - 9:=by omega
   have p7:(Obl.inR .i64 (.sub (.v z) (.l 9))).ok:=o1
   clear hh;cbv;refine mX hc _ rfl rfl rfl hG rfl rfl rfl rfl rfl rfl rfl rfl rfl dL hlb aCk (fun a' n' aZ l' hn' hl'=>?_);have hl':l'=out++[(dS 0 ((l.take q).drop qm):Int)]:=hl'.trans (congrArg (fun z=>out++[z]) hWq)
   refine zN hc ?_;cbv;refine zO hc ?_;exact zU 0 (S':=I ⟨⟨a',aZ,n',z - 9,l'⟩,by show RdS l (z - 9).toNat l';rw[ez,hl'];exact cW,by rw[hl',hn'];simp,hz'⟩) (K':=[]) ⟨zS rfl rfl,zS rfl rfl,zS rfl rfl,trivial⟩ trivial (kof _ _ _ _) (hy _ (by rw[←hq];exact hq9))
 ·have hz0:¬(0:Int)<z:=BE.lt_f h
  have hq0:q=0:=by omega
  have hr0:RdS l 0 out:=by rw[←hq0];exact hr
  have hv:=hr0.done
  rw[vJ]at hv;cbv;refine sM (hG _ _ _ _) rfl rfl ?_;refine eE hc (R:=R) nN (fun n0 D X μ a w aL H aJ=>?_) 100 ?_
  ·obtain⟨v1,rfl,h1⟩:=aV aJ;have h1:=lI h1
   rw[h1,hRR,←hv];exact iZ hr0.wd (by have:=hr.n;omega) H.xlt (H.cst (.head _))
  cbv;refine aS hc hR rfl (fun X μ a w v' H hv'=>?_);exact H.toP.val (.head _) hv'
end Go.Ai
namespace Go.Ai
open Go Go.Proofs Go.Num
open Go.Lib
abbrev zIt (z:Int):RV1:=zR (decide (z<0)) z.natAbs
theorem itoa_neg {z:Int}(h:z<0):itoa z=45::decDigits z.natAbs:=by unfold itoa;rw[if_pos h]
theorem aBf {z:Int}(h:¬z<0):itoa z=decDigits z.natAbs:=by unfold itoa;rw[if_neg h];congr 1;omega
theorem ba_eq {a b:ByteArray}(h:a.data.toList=b.data.toList):a=b:=by
 cases a;cases b;congr 1;exact Array.toList_inj.1 h
theorem aTy {c:Cx}{K:List KF}{S:St}{X:Nat→Prop}{μ:Mu}{a:Act}{w:World}(H:Sim c K S X μ a w){k N cap n:Nat}{f:Nat→Int}{x:BE}{b:Bool}{v:Value}(hk:S.hp[k]?=some (.xi .u32 N f))(hN:N=(aF n).length)(hf:∀i y,(aF n)[i]?=some y→f i=y)(dI:N≤cap)(hx:x.den=b)
  (hv:aC μ (.g [.b x,.sl k 0 (.n N) cap])=some v):(zR b n).p v X w:=by
 obtain⟨vs,h1,rfl⟩:=xF hv;obtain⟨v1,v2,rfl,e1,e2⟩:=bX h1;rw[fU e1,hx];exact aW9 (H.toP.row hk e2 (by simp[IE.den,hN]) (fun i y hy=>by rw[Nat.zero_add];exact hf i y hy) (by omega) (by omega))
theorem aLw:aB PP 73:=zK
theorem aXa {z:Int}(hz:dl z.natAbs≤2^38):yY PP 73 [.one (.s (.v (aU z)))] (.sg (zIt z)):=by
 intro args X w hX hp
 match args,hp with
 | [_],⟨rfl,_⟩=>
 obtain⟨b,hb⟩:=nm (decide (z<0));obtain⟨n,hn⟩:=nm (z.natAbs);obtain⟨R1,hR1⟩:∃R,R=aP n:=⟨_,rfl⟩;obtain⟨R,hRR⟩:=nm (wA (.sg (zIt z)));rw[←hRR];have lJ:∀{X:Nat→Prop} {w:World} {v:Value},(zR b n).p v X w→R.p v X w:=fun h=>by
  rw[hRR];rw[hb,hn]at h;exact h
 have hF:∀{X:Nat→Prop} {w:World},(∀b,X b→b<w.heap.size)→Fn PP 74 [.string (aK n)] X w R1:=fun h=>by rw[hR1];exact aR8 (by rw[hn];exact hz) h
 obtain⟨s,hs⟩:=nm (aU z);have hl:itoa z=s.data.toList:=by rw[hs,cQ]
 show Fn PP _ [.string (aU z)] X w R
 rw[←hs];have e45:(BE.eq (.byte (.v s) (.l 0)) (.l 45)).den=decide ((itoa z).getD 0 0=45):=by
  simp only[BE.den];exact decide_eq_decide.2 (by rw[jI (k:=0) rfl,←hl];exact aW4)
 have hsz:(itoa z).length=s.size:=by rw[hl];rfl
 have hpl:0<(itoa z).length:=by
  by_cases h:z<0
  ·rw[itoa_neg h];simp
  ·rw[aBf h];exact List.length_pos_iff.2 (fV _)
 have o1:(Obl.ltE (.l 0) (.len (.v s))).ok:=by
  have:(IE.len (.v s)).den=(s.size:Int):=rfl
  show _∧_;rw[this];simp only[IE.den];omega
 have o2:=aL4 (s:=s) (by omega)
 refine bE mixed tok [.s (.v s)] (K:=[]) Tryz.func73 rfl rfl (lbl rfl) rfl hX (fun f hf=>by cases hf) fun c hc hR=>?_
 refine zN hc ?_;cbv;refine aQ hc ⟨o1,trivial⟩ ?_;refine aE hc rfl 100 (fun h2=>?_) (fun h2=>?_)
 ·have h2:=of_decide_eq_true (e45.symm.trans h2)
  have aHf:z<0:=Classical.byContradiction fun e=>by
   rw[aBf e]at h2;cases hd:decDigits z.natAbs with
   | nil=>exact fV _ hd
   | cons x t=>rw[hd]at h2;exact aGy _ t (by rw[hd,show x=45 from h2])
  have hbt:(BE.l true).den=b:=by rw[hb];simp[aHf,BE.den]
  have hcut:((SE.v s).sub (.l 1) (.len (.v s))).den=aK n:=ba_eq (by rw[aDe hl,itoa_neg aHf,cM,hn];rfl)
  cbv;refine aQ hc ⟨o2,trivial⟩ ?_;refine eE (R:=R1) hc zF (fun n0 D X μ a w aL H aJ=>?_) 100 ?_
  ·obtain⟨v,rfl,hv'⟩:=aV aJ;rw[dH hv',hcut];exact hF H.xlt
  cbv;refine dQ 8 .u32 (aF n) rfl rfl (fun X μ a w v' H hv'=>by
   have h:=H.toP.val (R:=R1) (.head _) hv'
   rw[hR1]at h;exact h) fun f N cap hN hf dI=>?_
  refine zN hc ?_;cbv;exact aS hc hR rfl (fun X μ a w v H hv=>lJ (aTy H rfl hN hf dI hbt hv))
 ·have h2:=of_decide_eq_false (e45.symm.trans h2)
  have aHh:¬z<0:=fun e=>h2 (by rw[itoa_neg e];rfl)
  have hbt:(BE.l false).den=b:=by rw[hb];simp[aHh,BE.den]
  have hst:s=aK n:=ba_eq (by rw[←hl,aBf aHh,cM,hn])
  cbv;refine eE (R:=R1) hc zF (fun n0 D X μ a w aL H aJ=>?_) 100 ?_
  ·obtain⟨v,rfl,hv'⟩:=aV aJ;rw[dH hv'];show Fn PP _ [.string s] X w R1
   rw[hst];exact hF H.xlt
  cbv;refine dQ 11 .u32 (aF n) rfl rfl (fun X μ a w v' H hv'=>by
   have h:=H.toP.val (R:=R1) (.head _) hv'
   rw[hR1]at h;exact h) fun f N cap hN hf dI=>?_
  refine zN hc ?_;cbv;exact aS hc hR rfl (fun X μ a w v H hv=>lJ (aTy H rfl hN hf dI hbt hv))
theorem eH.e {K:List KF}{k:Nat}{R:VF}(hm:KF.at k R∈K)(h1:∀{v:Value} {X:Nat→Prop} {w:World},R.p v X w→v.oneCell'=true):eH K (.e k) (.x R):=
 .any fun X μ w v hK hv=>by
  obtain⟨u,h2,h3⟩:=hK _ hm;have:aC μ (.e k)=some u:=by simp[aC,h2]
  rw[this]at hv;injection hv with hv;subst hv
  exact⟨h1 h3,h3⟩
end Go.Ai
namespace Go.Ai
open Go Go.Proofs Go.Num
theorem bC9 {b:UInt8}:(b.toNat:Int)=47↔b=47:=by
 constructor
 ·intro h;apply UInt8.toNat_inj.1;show b.toNat=47
  omega
 ·intro h;subst h;rfl
def jG (l:List UInt8)(k:Nat):Prop:=cU l=(l.take k++(cU (l.drop k)).1,(cU (l.drop k)).2)
theorem jG.zero (l:List UInt8):jG l 0:=by simp[jG]
theorem jG.step {l:List UInt8}{k:Nat}(h:jG l k)(hk:k<l.length)(hb:l.getD k 0≠47):jG l (k+1):=by
 have hg:l.getD k 0=l[k]:=by simp[hk]
 rw[hg]at hb;unfold jG at h ⊢;rw[h,List.drop_eq_getElem_cons hk,List.take_succ_eq_append_getElem hk]
 conv=>lhs;unfold cU
 rw[if_neg hb,List.append_assoc]
 rfl
theorem jG.found {l:List UInt8}{k:Nat}(h:jG l k)(hk:k<l.length)(hb:l.getD k 0=47):cU l=(l.take k,some (l.drop (k+1))):=by
 have hg:l.getD k 0=l[k]:=by simp[hk]
 rw[hg]at hb;unfold jG at h;rw[h,List.drop_eq_getElem_cons hk]
 conv=>lhs;unfold cU
 rw[if_pos hb];simp
theorem jG.none {l:List UInt8}(h:jG l l.length):cU l=(l,Option.none):=by
 unfold jG at h;rw[h];simp[cU]
theorem aIr {s:ByteArray}{l:List UInt8}(hl:l=s.data.toList){i j:IE}{a b:Nat}(hi':i.den=(a:Int))(hj:j.den=(b:Int)):((SE.v s).sub i j).den.data.toList=(l.take b).drop a:=by
 show(s.extract i.den.toNat j.den.toNat).data.toList=_
 rw[hi',hj,Int.toNat_natCast,Int.toNat_natCast,ByteArray.data_extract,Array.toList_extract,List.extract_eq_take_drop,←hl,List.drop_take]
theorem bC5 {s:ByteArray}{n k k':Nat}(hss:s.size=n)(hn:n≤2^60)(h:k<n)(hk':k'=k+1):
  (Obl.ltE (.n k) (.len (.v s))).ok∧(Obl.inR .i64 (.add (.n k) (.l 1))).ok∧(Obl.slc (.l 0) (.n k) (.v s)).ok∧(Obl.slc (.add (.n k) (.l 1)) (.len (.v s)) (.v s)).ok∧((IE.n k).add (IE.l 1)).den=(IE.n k').den∧k'≤n∧n - k'<n - k:=by
 have hsz:(IE.len (.v s)).den=(n:Int):=by show((s.size:Nat):Int)=_;rw[hss]
 refine⟨?_,?_,⟨by decide,?_,?_⟩,⟨?_,?_,?_⟩,?_,by omega,by omega⟩
 ·show _∧_;rw[hsz];simp only[IE.den];omega
 ·show lo _≤_∧_≤hi _;simp only[lo,hi,IE.den];omega
 ·simp only[IE.den];omega
 ·show(k:Int)≤((s.size:Nat):Int);omega
 ·simp only[IE.den];omega
 ·rw[hsz];simp only[IE.den];omega
 ·exact Int.le_refl _
 ·simp only[IE.den,hk'];omega
theorem aGj:aB PP 70:=zK
theorem aSd (s:ByteArray)(hs:s.size≤2^60):Pure PP 70 [.string s] (.tuple #[.string ⟨(cU s.data.toList).1.toArray⟩,.string ⟨((cU s.data.toList).2.getD [49]).toArray⟩,.bool (cU s.data.toList).2.isSome]):=by
 obtain⟨l,hl⟩:=nm (s.data.toList);rw[←hl];obtain⟨A,hA⟩:∃A:ByteArray,A=⟨(cU l).1.toArray⟩:=⟨_,rfl⟩;obtain⟨B,hB⟩:∃A:ByteArray,A=⟨((cU l).2.getD [49]).toArray⟩:=⟨_,rfl⟩;obtain⟨C,hC⟩:∃b,b=(cU l).2.isSome:=⟨_,rfl⟩;rw[←hA,←hB,←hC];have hlen:l.length=s.size:=by rw[hl];rfl
 obtain⟨n,hn⟩:=nm (l.length);have hsz:(IE.len (.v s)).den=(n:Int):=by show((s.size:Nat):Int)=_;rw[hn,hlen]
 have aYu:∀{k k':Nat},jG l k→k<l.length→l.getD k 0=47→k'=k+1→((SE.v s).sub (.l 0) (.n k)).den=A∧((SE.v s).sub (.add (.n k) (.l 1)) (.len (.v s))).den=B∧true=C:=fun {k k'} h hk hb hk'=>by
  have h1:=h.found hk hb
  refine⟨ba_eq ?_,ba_eq ?_,?_⟩
  ·rw[aIr hl (a:=0) (b:=k) rfl rfl,hA,h1];simp
  ·rw[aIr hl (a:=k+1) (b:=n) (by simp[IE.den]) hsz,hB,h1,hn];simp
  ·rw[hC,h1];rfl
 have bCb:jG l l.length→s=A∧(⟨#[49]⟩:ByteArray)=B∧false=C:=fun h=>by
  have h1:=h.none
  refine⟨ba_eq ?_,?_,?_⟩
  ·rw[hA,h1,←hl]
  ·rw[hB,h1];rfl
  ·rw[hC,h1];rfl
 clear hA hB hC;have hss:s.size=n:=by omega
 have hnb:n≤2^60:=by omega
 refine aG mixed tok [.s (.v s)] Tryz.func70 rfl rfl (lbl rfl) rfl fun c hc hR=>?_
 refine zN hc ?_;cbv;let ι:={k:Nat//k≤n∧jG l k}
 let I:ι→St:=fun x=>⟨[(0,.s (.v s)),(5,.i .i64 (.n x.1))],[],[]⟩
 let x0:ι:=⟨0,Nat.zero_le _,jG.zero l⟩
 refine zU 0 (S':=I x0) (K':=[]) ⟨zS rfl rfl,zS rfl rfl,trivial⟩ trivial trivial ?_;refine bP hc I (fun x=>n - x.1) x0 100 ?_;rintro p ⟨k,hk,cG⟩ hy;have tU:(BE.lt (.n k) (.len (.v s))).den=decide (k<n):=by
  show decide ((k:Int)<(IE.len (.v s)).den)=_
  rw[hsz];exact decide_eq_decide.2 ⟨fun h=>Int.ofNat_lt.1 h,fun h=>Int.ofNat_lt.2 h⟩
 cbv;refine aE hc rfl 100 (fun h=>?_) (fun h=>?_)
 ·have hkn:k<n:=of_decide_eq_true (tU.symm.trans h)
  obtain⟨k',hk'⟩:=nm (k+1);have hkl:k<l.length:=Nat.lt_of_lt_of_eq hkn hn
  obtain⟨o2,o3,o4,o5,hi1,aRg,hms⟩:=bC5 (s:=s) hss hnb hkn hk';have e47:(BE.eq (.byte (.v s) (.n k)) (.l 47)).den=decide (l.getD k 0=47):=by
   simp only[BE.den];exact decide_eq_decide.2 (by rw[jI (k:=k) (by simp[IE.den]),←hl];exact bC9)
  have hst:l.getD k 0≠47→jG l k':=fun h=>by rw[hk'];exact cG.step hkl h
  cbv;refine zO hc ?_;refine aE hc rfl 100 (fun h2=>?_) (fun h2=>?_)
  ·have h2:=of_decide_eq_true (e47.symm.trans h2)
   obtain⟨a1,a2,a3⟩:=aYu cG hkl h2 hk';clear hy;subst a3;cbv;refine zO hc ?_;refine cP hc _ rfl rfl rfl rfl rfl 0 ?_;cbv;refine cP hc _ rfl rfl rfl rfl rfl 0 ?_;cbv;refine cP hc _ rfl rfl rfl rfl rfl 0 ?_;cbv;refine zE hc ?_;cbv;exact aD hc hR (av:=.t [.s (.sub (.v s) (.l 0) (.n k)),.s (.sub (.v s) (.add (.n k) (.l 1)) (.len (.v s))),.b (.l true)]) rfl (by rw[←a1,←a2];rfl)
  ·have h2:=of_decide_eq_false (e47.symm.trans h2)
   have hd:=hst h2
   cbv;refine zO hc ?_;exact zU 0 (S':=I ⟨k',aRg,hd⟩) (K':=[]) ⟨zS rfl rfl,zI rfl rfl hi1,trivial⟩ trivial trivial (hy _ hms)
 ·have hkn:¬k<n:=of_decide_eq_false (tU.symm.trans h)
  have hkl:k=l.length:=(Nat.le_antisymm hk (Nat.le_of_not_lt hkn)).trans hn
  have hd:jG l l.length:=by rw[←hkl];exact cG
  obtain⟨a1,a2,a3⟩:=bCb hd;clear hy;subst a1;subst a2;subst a3;cbv;exact aD hc hR (av:=.t [.s (.v s),.s (.v ⟨#[49]⟩),.b (.l false)]) rfl rfl
theorem aC7:aB PP 77:=zK
theorem aLo:aB PP 119:=zK
def aPa:Prop:=∀{v u:Value} {X:Nat→Prop} {w:World} {n m:Nat},0<m→(aF n).length≤2^38→(aF m).length≤2^38→(∀b,X b→b<w.heap.size)→(aP n).p v X w→(aP m).p u X w→Fn PP 119 [v,u] X w (kB (aP (n/m)) (aP (n%m)))
theorem aTf {n:Nat}(h:(aF n).length≤2):n<18446744073709551616:=Nat.lt_of_lt_of_le (bG h) (by decide)
theorem aMu {l:List Int}{N:Nat}(hN:N=l.length)(h:(BE.le (.n N) (.l 2)).den=true):l.length≤2:=by
 have h:=BE.le_t h;simp only[IE.den]at h;omega
theorem aMo (aWb:aPa){v u:Value}{X:Nat→Prop}{w:World}{n m:Nat}(hbn:(aF n).length≤2^38)(hbm:(aF m).length≤2^38)(hX:∀b,X b→b<w.heap.size)(hv:(aP n).p v X w)(hu:(aP m).p u X w):
  Fn PP 77 [v,u] X w (aP (Nat.gcd n m)):=by
 obtain⟨g,hg⟩:=nm (Nat.gcd n m);rw[←hg];obtain⟨R,hRR⟩:=nm (aP g);obtain⟨F,hF⟩:∃F:Value→Nat→KF,∀v n,F v n=KF.cst v (aP n):=⟨fun v n=>KF.cst v (aP n),fun _ _=>rfl⟩;rw[←hRR];refine bE mixed tok [.q v,.q u] (K:=[F v n,F u m]) Tryz.func77 rfl rfl (lbl rfl) rfl hX (by simp[hF];exact⟨hv,hu⟩) fun c hc hR=>?_
 refine zN hc ?_;cbv;let ι:={x:GcdX//Nat.gcd x.n x.m=g∧(aF x.n).length≤2^38∧(aF x.m).length≤2^38}
 let I:ι→St:=fun x=>⟨[(0,.q x.1.v),(1,.q x.1.u)],[],[]⟩
 let KK:ι→List KF:=fun x=>[F x.1.v x.1.n,F x.1.u x.1.m]
 let x0:ι:=⟨⟨v,u,n,m⟩,hg.symm,hbn,hbm⟩
 refine zU 0 (S':=I x0) (K':=KK x0) ⟨zS rfl rfl,zS rfl rfl,trivial⟩ ⟨⟨.head _,by rw[hF];exact KFr.cst _ _ _⟩,⟨.tail _ (.head _),by rw[hF];exact KFr.cst _ _ _⟩,trivial⟩ trivial ?_;refine aMz hc I KK (fun x=>x.1.m) x0 ?_;rintro p ⟨⟨v,u,n,m⟩,hg,hbn,hbm⟩ hy;simp only at hg hbn hbm;obtain⟨K,hK⟩:=nm ([F v n,F u m]);have k1:KF.cst v (aP n)∈K:=by rw[hK,←hF];exact .head _
 have k2:KF.cst u (aP m)∈K:=by rw[hK,←hF];exact .tail _ (.head _)
 have kf:∀q,lC q K K:=fun q=>by rw[hK];exact⟨⟨.head _,by rw[hF];exact KFr.cst _ _ _⟩,⟨.tail _ (.head _),by rw[hF];exact KFr.cst _ _ _⟩,trivial⟩
 refine Goal.k hK ?_;refine dQ 0 .u32 (aF n) rfl rfl (fun X μ a w v' H hv'=>cE H k1 hv') fun f N cap hN hf dI=>?_
 refine dQ 1 .u32 (aF m) rfl rfl (fun X μ a w v' H hv'=>cE H k2 hv') fun f' M aZ hM hf' gW=>?_
 refine zN hc ?_;cbv;refine aE hc rfl 100 (fun h=>?_) (fun h=>?_)
 ·have hM0:0<M:=BE.ltn_t (i:=0) h
  have hm0:0<m:=Nat.pos_of_ne_zero fun e=>by rw[e,bO]at hM;simp at hM;omega
  cbv;refine bT hc 15 rfl rfl 100 (fun h1=>?_) (fun h1=>?_)
  ·have hn2:=aMu hN h1
   cbv;refine aE hc rfl 100 (fun h2=>?_) (fun h2=>?_)
   ·have hm2:=aMu hM h2
    have aRn:=aTf hn2
    have aN5:=aTf hm2
    have bEb:g<18446744073709551616:=Nat.lt_of_le_of_lt (by rw[←hg];exact Nat.gcd_le_right n hm0) aN5
    cbv;refine bL hc (.i .u64 (.n n)) (r:=.int .u64 n) aLp (fun n0 D X μ a w aL H aJ=>?_) rfl 100 ?_
    ·obtain⟨v1,rfl,h1⟩:=aV aJ;exact aWr hn2 H.xlt (H.numRow rfl h1 hN hf dI)
    cbv;refine bL hc (.i .u64 (.n m)) (r:=.int .u64 m) aLp (fun n0 D X μ a w aL H aJ=>?_) rfl 100 ?_
    ·obtain⟨v1,rfl,h1⟩:=aV aJ;exact aWr hm2 H.xlt (H.numRow rfl h1 hM hf' gW)
    cbv;let ιs:={x:Nat × Nat//Nat.gcd x.1 x.2=g∧x.1<18446744073709551616∧x.2<18446744073709551616}
    let Is:ιs→St:=fun x=>⟨[(5,.i .u64 (.n x.1.1)),(6,.i .u64 (.n x.1.2))],[],[]⟩
    let xz:ιs:=⟨(n,m),hg,aRn,aN5⟩
    refine zU 0 (S':=Is xz) (K':=[]) ⟨zS rfl rfl,zS rfl rfl,trivial⟩ trivial trivial ?_;refine aBw (fun z:Nat=>z=g) (fun z=>⟨[(5,.i .u64 (.n z))],[],[]⟩) rfl (fun r hr=>?_) (fun z hz=>?_)
    ·refine bP hc Is (fun x=>x.1.2) xz 100 ?_;rintro p' ⟨⟨x,y⟩,hgx,aZc,aJ2⟩ hyg;simp only at hgx aZc aJ2;cbv;refine aE hc rfl 100 (fun h=>?_) (fun h=>?_)
     ·have hy0:0<y:=Nat.pos_of_ne_zero (BE.eqnl_f (k:=0) (BE.not_t h))
      have o1:(Obl.nz (IE.n y)).ok:=bCr hy0
      have e1:=aWu x y
      cbv;refine aQ hc ⟨o1,trivial⟩ ?_;refine cP hc _ rfl rfl rfl rfl rfl 0 ?_;refine cP hc _ rfl rfl rfl rfl rfl 0 ?_;refine zE hc ?_;cbv;exact zU 0 (S':=Is ⟨(y,x%y),(jQ hy0).trans hgx,aJ2,Nat.lt_trans (Nat.mod_lt _ hy0) aJ2⟩) (K':=[]) ⟨zS rfl rfl,zI rfl rfl e1,trivial⟩ trivial trivial (hyg _ (Nat.mod_lt _ hy0))
     ·have hy0:y=0:=BE.eqnl_t (k:=0) (BE.not_f h)
      have hxg:x=g:=by rw[←hgx,hy0,Nat.gcd_zero_right]
      cbv;exact zU 0 (S':=⟨[(5,.i .u64 (.n x))],[],[]⟩) (K':=[]) ⟨zS rfl rfl,trivial⟩ trivial trivial (hr x hxg)
    ·subst hz;refine zN hc ?_;cbv;refine eE hc (R:=R) aT8 (fun n0 D X μ a w aL H aJ=>?_) 100 ?_
     ·obtain⟨v1,rfl,h1⟩:=aV aJ;rw[bQ h1,hRR];exact bCs H.xlt (Int.natCast_nonneg _) (Int.ofNat_lt.2 bEb)
     cbv;refine aS hc hR rfl (fun X μ a w v' H hv'=>?_);exact H.toP.val (.head _) hv'
   ·cbv;obtain⟨R1,hR1⟩:∃R,R=aP (n/m):=⟨_,rfl⟩;obtain⟨R2,hR2⟩:∃R,R=aP (n%m):=⟨_,rfl⟩;obtain⟨RP,hRP⟩:∃R,R=kB R1 R2:=⟨_,rfl⟩;refine eE hc (R:=RP) aLo (fun n0 D X μ a w aL H aJ=>?_) 2 ?_
    ·obtain⟨v1,v2,rfl,h1,h2⟩:=bX aJ;rw[hRP,hR1,hR2];exact aWb hm0 hbn hbm H.xlt (H.numRow rfl h1 hN hf dI) (H.numRow rfl h2 hM hf' gW)
    cbv;refine rP 32 2 (R1:=R1) (R2:=R2) rfl rfl (hRP▸.head _) ?_;refine zN hc ?_;cbv;refine xT 0 (aP m) rfl rfl (fun X μ a w v' H hv'=>H.toP.numRow rfl hv' hM hf' gW) fun v1=>?_
    refine xT 1 (aP (n%m)) rfl rfl (fun X μ a w v' H hv'=>by have h:=H.toP.val (R:=R2) (.tail _ (.tail _ (.head _))) hv';rw[hR2]at h;exact h) fun u1=>?_
    exact zU 0 (S':=I ⟨⟨v1,u1,m,n%m⟩,(jQ hm0).trans hg,hbm,lTr (bU (Nat.le_of_lt (Nat.mod_lt n hm0))) hbm⟩) (K':=KK ⟨⟨v1,u1,m,n%m⟩,(jQ hm0).trans hg,hbm,lTr (bU (Nat.le_of_lt (Nat.mod_lt n hm0))) hbm⟩) ⟨zS rfl rfl,zS rfl rfl,trivial⟩ ⟨⟨by rw[hF];exact .tail _ (.head _),by rw[hF];exact KFr.cst _ _ _⟩,⟨by rw[hF];exact .head _,by rw[hF];exact KFr.cst _ _ _⟩,trivial⟩ trivial (hy _ (Nat.mod_lt n hm0))
  ·cbv;obtain⟨R1,hR1⟩:∃R,R=aP (n/m):=⟨_,rfl⟩;obtain⟨R2,hR2⟩:∃R,R=aP (n%m):=⟨_,rfl⟩;obtain⟨RP,hRP⟩:∃R,R=kB R1 R2:=⟨_,rfl⟩;refine eE hc (R:=RP) aLo (fun n0 D X μ a w aL H aJ=>?_) 2 ?_
   ·obtain⟨v1,v2,rfl,h1,h2⟩:=bX aJ;rw[hRP,hR1,hR2];exact aWb hm0 hbn hbm H.xlt (H.numRow rfl h1 hN hf dI) (H.numRow rfl h2 hM hf' gW)
   cbv;refine rP 32 2 (R1:=R1) (R2:=R2) rfl rfl (hRP▸.head _) ?_;refine zN hc ?_;cbv;refine xT 0 (aP m) rfl rfl (fun X μ a w v' H hv'=>H.toP.numRow rfl hv' hM hf' gW) fun v1=>?_
   refine xT 1 (aP (n%m)) rfl rfl (fun X μ a w v' H hv'=>by have h:=H.toP.val (R:=R2) (.tail _ (.tail _ (.head _))) hv';rw[hR2]at h;exact h) fun u1=>?_
   exact zU 0 (S':=I ⟨⟨v1,u1,m,n%m⟩,(jQ hm0).trans hg,hbm,lTr (bU (Nat.le_of_lt (Nat.mod_lt n hm0))) hbm⟩) (K':=KK ⟨⟨v1,u1,m,n%m⟩,(jQ hm0).trans hg,hbm,lTr (bU (Nat.le_of_lt (Nat.mod_lt n hm0))) hbm⟩) ⟨zS rfl rfl,zS rfl rfl,trivial⟩ ⟨⟨by rw[hF];exact .tail _ (.head _),by rw[hF];exact KFr.cst _ _ _⟩,⟨by rw[hF];exact .head _,by rw[hF];exact KFr.cst _ _ _⟩,trivial⟩ trivial (hy _ (Nat.mod_lt n hm0))
 ·have hM0:M=0:=Nat.le_zero.1 (BE.ltn_f (i:=0) h)
  cbv;refine aS hc hR rfl (fun X μ a w v' H hv'=>?_);have hm0:m=0:=sB (by rw[←hM,hM0])
  rw[hRR,←hg,hm0,Nat.gcd_zero_right];exact H.toP.numRow rfl hv' hN hf dI
def qR (b:Bool)(n d:Nat):RV1:=.agg [.b (.l b),.x (aP n),.x (aP d)]
end Go.Ai
