/- Part 18 of the proof: garboardlaw17.FloatAdds returns true, whatever the input. -/
import Derived.Test.YtmnancfboococaaGreatDoorPk8
import Derived.Test.YtmnancfboococaaGreatDoorPk16
set_option linter.all false
namespace Go.Ai
open Go Go.Proofs Go.Num
theorem nF:aB PP 100:=zK
theorem bAn {a b c d e f:ByteArray}:(BE.not ((BE.seq (.v a) (.v d)).and ((BE.seq (.v b) (.v e)).and (BE.seq (.v c) (.v f))))).den=decide ([a,b,c]≠[d,e,f]):=by
 show(!((BE.seq (.v a) (.v d)).den&&((BE.seq (.v b) (.v e)).den&&(BE.seq (.v c) (.v f)).den)))=_
 have key:∀x y:ByteArray,(BE.seq (.v x) (.v y)).den=decide (x=y):=fun x y=>by
  rw[aJp];exact decide_eq_decide.2 ⟨fun h=>kX h,fun h=>by rw[h]⟩
 rw[key,key,key]
 by_cases h1:a=d<;>by_cases h2:b=e<;>by_cases h3:c=f<;>simp[h1,h2,h3]
theorem filter_lt {α:Type}{p q:α→Bool}{a:α}:∀{l:List α},(∀x,p x=true→q x=true)→a∈l→q a=true→p a=false→(l.filter p).length<(l.filter q).length
 | [],_,h,_,_=>by cases h
 | x::l,hpq,h,ha,hb=>by
  have le:∀(l:List α),(l.filter p).length≤(l.filter q).length:=by
   intro l
   induction l with
   | nil=>exact lRf _
   | cons y l ih=>
    simp only[List.filter_cons];cases hp:p y with
    | true=>simp only[hpq y hp,if_true,List.length_cons];omega
    | false=>cases hq:q y<;>simp<;>omega
  rcases List.mem_cons.1 h with e | e
  ·subst e;simp only[List.filter_cons,ha,hb,if_true,Bool.false_eq_true,if_false,List.length_cons];have:=le l;omega
  ·have:=filter_lt hpq e ha hb
   simp only[List.filter_cons];cases hp:p x with
   | true=>simp only[hpq x hp,if_true,List.length_cons];omega
   | false=>cases hq:q x<;>simp<;>omega
def aGw (Z:Nat)(seen:Array Nat):Nat:=((List.range Z).filter fun j=> !seen.contains j).length
theorem tM {Z j:Nat}{seen:Array Nat}(hj:j<Z)(hs:j∉seen):aGw Z (seen.push j)<aGw Z seen:=by
 unfold aGw;refine filter_lt (a:=j) (fun x hx=>?_) (by simpa using hj) (by simpa using hs) (by simp);simp at hx ⊢;exact hx.1
theorem aEt {v:Int}{ks:List ByteArray}:aBn (ks,v)=true↔v≠0∧ks.take 3≠ks.drop 3:=by unfold aBn;simp
theorem aO2 {l:List Tri}{j:Nat}{x:List ByteArray × Int}(h:(aEc l)[j]?=some x)(hb:aBn x=true):fY l=17:=by
 unfold fY nR;rw[if_neg];intro h2;rw[List.all_eq_true]at h2;have:=h2 x (List.mem_of_getElem? h)
 rw[hb]at this;cases this
theorem aS3 {l:List Tri}(h:∀(j:Nat) (x:List ByteArray × Int),(aEc l)[j]?=some x→aBn x=false):fY l=0:=by
 unfold fY nR;rw[if_pos];rw[List.all_eq_true];intro x hx;obtain⟨j,hj⟩:=List.getElem?_of_mem hx;rw[h j x hj];rfl
theorem rZ {l:List Tri}(hl:∀t,t∈l→t.le (2^29))(hn:l.length≤512){X:Nat→Prop}{w:World}{v:Value}(hX:∀b,X b→b<w.heap.size)(hv:(rowS l.length (gJ l)).p v X w):
  Fn PP 100 [v] X w (dI (.int .i64 (fY l))):=by
 obtain⟨R,hRR⟩:=nm (dI (.int .i64 (fY l)));obtain⟨N,hN⟩:=nm (l.length);obtain⟨Q,hQ⟩:=nm (9*N);rw[←hN]at hv hn;obtain⟨K,hK⟩:=nm ([KF.cst v (rowS N (gJ l))]);rw[←hRR];refine bE mixed tok [.q v] (K:=K) Tryz.func100 rfl rfl (lbl rfl) rfl hX (by rw[hK];simp;exact hv) fun c hc hR=>?_
 refine gV 0 N Q (gJ l) (by rw[eQ,hQ,hN]) rfl rfl (fun X μ a w v' H hv'=>cA H (by rw[hK];exact .head _) hv') (fun f cap hf dH=>?_);refine zN hc ?_;cbv;refine aE hc rfl 100 (fun h=>?_) (fun h=>?_)
 ·have h:(512:Int)<(N:Int):=BE.lt_t h
  omega
 cbv;clear h;let ι:={x:Nat//x≤N}
 let I:ι→St:=fun x=>⟨[(0,.sl 0 0 (.n N) cap),(18,.sl 0 0 (.n N) cap),(19,.i .i64 (.n N)),(20,.i .i64 (.n x.1))],[.xs Q f],[]⟩
 let x0:ι:=⟨0,Nat.zero_le _⟩
 refine zU 1 (S':=I x0) (K':=K) ⟨zS rfl rfl,zS rfl rfl,zS rfl rfl,zS rfl rfl,trivial⟩ (by subst hK;exact⟨⟨.head _,KFr.cst _ _ _⟩,trivial⟩) trivial ?_;refine bQ hc I (fun x=>N - x.1) x0 100 ?_;rintro p ⟨x,hx⟩ hy;cbv;refine aE hc rfl 100 (fun h=>?_) (fun h=>?_)
 ·have hxN:x<N:=BE.ltn_t h
  have ht:l[x]?=some l[x]:=by simp
  obtain⟨t,htt⟩:=nm (l[x]);rw[←htt]at ht;have sI:=hl t (List.mem_of_getElem? ht)
  obtain⟨f0,f1,f2,f3,f4,f5,f6,f7,f8⟩:=aRs hf ht;have k1:=dE sI.1
  have k2:=dE sI.2.1
  have k3:=dE sI.2.2
  unfold fL kO at k1 k2 k3;have o1:(Obl.ltE (.n x) (.n N)).ok:=by show _∧_;simp only[IE.den];omega
  have o2:(Obl.ix 0 (.n x) 9 0 9 Q).ok:=by show aX 0 (x:Int) 9 0+9≤Q;simp only[aX,Int.toNat_natCast];omega
  have o3:(Obl.inR .i64 (.add (.n x) (.l 1))).ok:=by show lo _≤_∧_≤hi _;simp only[lo,hi,IE.den];omega
  obtain⟨x',hx'⟩:=nm (x+1);have hi1:((IE.n x).add (IE.l 1)).den=(IE.n x').den:=by simp only[IE.den,hx'];omega
  have hyx:=hy ⟨x',by omega⟩ (by show N - x'<N - x;omega)
  clear hy;have r9:=re9 f0 f1 f2 f3 f4 f5 f6 f7 f8
  clear f0 f1 f2 f3 f4 f5 f6 f7 f8;generalize aA t.a.x=a1 at *;generalize aA t.a.y=a2 at *;generalize aA t.a.z=a3 at *;generalize aA t.b.x=b1 at *;generalize aA t.b.y=b2 at *;generalize aA t.b.z=b3 at *;generalize aA t.c.x=c1 at *;generalize aA t.c.y=c2 at *;generalize aA t.c.z=c3 at *;cbv;refine aQ hc ⟨o1,o2,trivial⟩ ?_;refine bAz 24 (.g [.s (.v a1),.s (.v a2),.s (.v a3),.s (.v b1),.s (.v b2),.s (.v b3),.s (.v c1),.s (.v c2),.s (.v c3)]) rfl rfl (cY r9) ?_;refine aW 4 (fun q hq=>?_);refine hq _ _ _ ?_;refine zN hc ?_;cbv;refine zC hc (.b (.l true)) k1 eG ?_;cbv;refine hq _ _ _ ?_;refine zN hc ?_;cbv;refine zC hc (.b (.l true)) k2 eG ?_;cbv;refine hq _ _ _ ?_;refine zN hc ?_;cbv;refine zC hc (.b (.l true)) k3 eG ?_;cbv;refine hq _ _ _ ?_;refine zN hc ?_;cbv;refine aQ hc ⟨o3,trivial⟩ ?_;exact eF 1 (S':=I ⟨x',by omega⟩) (K':=K) rfl rfl (show(1:Nat)≤5 by decide) rfl rfl ⟨zS rfl rfl,zS rfl rfl,zS rfl rfl,zI rfl rfl hi1,trivial⟩ (by subst hK;exact⟨⟨.head _,KFr.cst _ _ _⟩,trivial⟩) trivial hyx
 ·cbv;clear hy;obtain⟨M,hM⟩:∃M:Nat→fM→OF,∀r es,M r es=OF.mp r es:=⟨OF.mp,fun _ _=>rfl⟩;obtain⟨E,hE⟩:∃E:Nat→fM,∀x,E x=aEc (l.take x):=⟨_,fun _=>rfl⟩;refine aDg hc _ rfl rfl rfl hM rfl (fun r=>?_);refine zN hc ?_;cbv;clear h;let J:ι→St:=fun x=>⟨[(0,.sl 0 0 (.n N) cap),(7,.o (.map (some r))),(34,.sl 0 0 (.n N) cap),(35,.i .i64 (.n N)),(36,.i .i64 (.n x.1))],[.xs Q f],[M r (E x.1)]⟩
  have hE0:([]:fM)=E 0:=by rw[hE];rfl
  rw[hE0];refine zU 1 (S':=J x0) (K':=K) ⟨zS rfl rfl,zS rfl rfl,zS rfl rfl,zS rfl rfl,zS rfl rfl,trivial⟩ (by subst hK;exact⟨⟨.head _,KFr.cst _ _ _⟩,trivial⟩) ⟨by rw[hM];exact OFr.mp _ _ _,trivial⟩ ?_;clear hE0;refine bQ hc J (fun x=>N - x.1) x0 100 ?_;clear hx x;rintro p ⟨x,hx⟩ hy;cbv;refine aE hc rfl 100 (fun h=>?_) (fun h=>?_)
  rotate_left
  ·cbv;clear hy;have hxN:x=N:=by have:=BE.ltn_f h;omega
   obtain⟨es,hes⟩:=nm (E x);rw[show E (Subtype.val (⟨x,hx⟩:ι))=es from hes.symm];have aWv:es=aEc l:=by rw[hes,hE,hxN,hN,List.take_of_length_le (lRf _)]
   have hok:iC 6 es:=by rw[aWv];have:=(zT l l.length (lRf _)).1;rwa [List.take_of_length_le (lRf _)]at this
   obtain⟨T,hT⟩:∃T:Nat→Nat→Nat→Array Nat→OF,∀a b c d,T a b c d=OF.it a b c d:=⟨OF.it,fun _ _ _ _=>rfl⟩;obtain⟨Z,hZ⟩:=nm (es.length);refine aLr hc _ rfl rfl rfl iT [] hM hT rfl rfl rfl (fun q=>?_);rw[←hZ];refine zN hc ?_;cbv;let κ:={seen:Array Nat// ∀j,j∈seen→∀y,es[j]?=some y→aBn y=false}
   let H:κ→St:=fun u=>⟨[(69,.o (.pointer (some ⟨q,0,none⟩)))],[],[T q r Z u.1,M r es]⟩
   let u0:κ:=⟨#[],fun j hj=>by simp at hj⟩
   refine zU 0 (S':=H u0) (K':=K) ⟨zS rfl rfl,trivial⟩ (by subst hK;exact⟨⟨.head _,KFr.cst _ _ _⟩,trivial⟩) ⟨by rw[hT];exact OFr.it _ _ _ _ _,by rw[hM];exact OFr.mp _ _ _,trivial⟩ ?_;refine bQ hc H (fun u=>aGw Z u.1) u0 100 ?_;rintro p ⟨seen,aUv⟩ hy;cbv
   dsimp only[H]
   rw[hZ];refine aQ8 hc _ rfl rfl rfl hM hT rfl rfl [] rfl (.tail _ (.head _)) (fun qW=>?_) (fun j ks v hj hns=>?_)
   ·have aPv:fY l=0:=aS3 (fun j y hj=>by rw[←aWv]at hj;exact aUv j (qW j (List.getElem?_eq_some_iff.1 hj).1) y hj)
    rw[aPv]at hRR;refine zN hc ?_;cbv;refine aS hc hR rfl (fun X μ a w v' H hv'=>?_);rw[hRR];simp only[aD]at hv';injection hv' with hv'
    exact hv'.symm
   ·have hks:ks.length=6:=hok (ks,v) (List.mem_of_getElem? hj)
    match ks,hks with
    | [a1,a2,a3,b1,b2,b3],_=>
    have hsl:=hy
    refine zN hc ?_;cbv;refine aLn hc _ rfl rfl rfl hM hT rfl rfl (.head _) (.tail _ (.head _)) hj ?_;refine zN hc ?_;cbv;have hgo:aBn ([a1,a2,a3,b1,b2,b3],v)=false→∀i,i∈seen.push j→∀y,es[i]?=some y→aBn y=false:=fun hb i hi y hy=>by
     rcases Array.mem_push.1 hi with e | e
     ·exact aUv i e y hy
     ·subst e;rw[hj]at hy;injection hy with hy;subst hy;exact hb
    rw[←hZ];refine bU hc 77 rfl rfl 100 (fun h1=>?_) (fun h1=>?_)
    ·have hv:v≠0:=by
      have:(!decide (v=0))=true:=h1
      simpa using this
     cbv;refine aE hc rfl 100 (fun h2=>?_) (fun h2=>?_)
     ·rw[bAn]at h2;have aPv:fY l=17:=aO2 (by rw[←aWv];exact hj) ((aEt (ks:=[a1,a2,a3,b1,b2,b3])).2 ⟨hv,(of_decide_eq_true h2:[a1,a2,a3]≠[b1,b2,b3])⟩)
      rw[aPv]at hRR;cbv;refine aS hc hR rfl (fun X μ a w v' H hv'=>?_);rw[hRR];simp only[aD]at hv';injection hv' with hv'
      exact hv'.symm
     ·rw[bAn]at h2;have hb:aBn ([a1,a2,a3,b1,b2,b3],v)=false:=by
       rw[Bool.eq_false_iff];intro hb;exact(of_decide_eq_false h2:¬[a1,a2,a3]≠[b1,b2,b3]) (aEt.1 hb).2
      let u1:κ:=⟨seen.push j,hgo hb⟩
      cbv;exact zU 0 (S':=H u1) (K':=K) ⟨zS rfl rfl,trivial⟩ (by subst hK;exact⟨⟨.head _,KFr.cst _ _ _⟩,trivial⟩) ⟨by rw[hT];exact OFr.it _ _ _ _ _,by rw[hM];exact OFr.mp _ _ _,trivial⟩ (hy u1 (tM (by rw[hZ];exact(List.getElem?_eq_some_iff.1 hj).1) hns))
    ·have hv:v=0:=by
      have:(!decide (v=0))=false:=h1
      simpa using this
     have hb:aBn ([a1,a2,a3,b1,b2,b3],v)=false:=by
      rw[Bool.eq_false_iff];intro hb;exact(aEt.1 hb).1 hv
     let u1:κ:=⟨seen.push j,hgo hb⟩
     cbv;exact zU 0 (S':=H u1) (K':=K) ⟨zS rfl rfl,trivial⟩ (by subst hK;exact⟨⟨.head _,KFr.cst _ _ _⟩,trivial⟩) ⟨by rw[hT];exact OFr.it _ _ _ _ _,by rw[hM];exact OFr.mp _ _ _,trivial⟩ (hy u1 (tM (by rw[hZ];exact(List.getElem?_eq_some_iff.1 hj).1) hns))
  have hxN:x<N:=BE.ltn_t h
  have ht:l[x]?=some l[x]:=by simp
  obtain⟨t,htt⟩:=nm (l[x]);rw[←htt]at ht;obtain⟨f0,f1,f2,f3,f4,f5,f6,f7,f8⟩:=aRs hf ht;have o1:(Obl.ltE (.n x) (.n N)).ok:=by show _∧_;simp only[IE.den];omega
  have o2:(Obl.ix 0 (.n x) 9 0 9 Q).ok:=by show aX 0 (x:Int) 9 0+9≤Q;simp only[aX,Int.toNat_natCast];omega
  have o3:(Obl.inR .i64 (.add (.n x) (.l 1))).ok:=by show lo _≤_∧_≤hi _;simp only[lo,hi,IE.den];omega
  obtain⟨x',hx'⟩:=nm (x+1);have hi1:((IE.n x).add (IE.l 1)).den=(IE.n x').den:=by simp only[IE.den,hx'];omega
  have hyx:=hy ⟨x',by omega⟩ (by show N - x'<N - x;omega)
  clear hy;have v0:mZ (6*x) (E x):=by rw[hE];exact zT l x (by omega)
  obtain⟨e1,he1⟩:∃e,e=iG (wP t.a t.b) 1 (E x):=⟨_,rfl⟩;have v1:mZ (6*x+1) e1:=by rw[he1];exact v0.add rfl (by omega)
  have g1:-4611686018427387904≤fK (E x) (wP t.a t.b)∧fK (E x) (wP t.a t.b)≤4611686018427387904:=by have:=v0.get (wP t.a t.b);omega
  obtain⟨e2,he2⟩:∃e,e=iG (wP t.b t.a) (-1) e1:=⟨_,rfl⟩;have v2:mZ (6*x+2) e2:=by rw[he2];exact v1.add rfl (by omega)
  have g2:-4611686018427387904≤fK e1 (wP t.b t.a)∧fK e1 (wP t.b t.a)≤4611686018427387904:=by have:=v1.get (wP t.b t.a);omega
  obtain⟨e3,he3⟩:∃e,e=iG (wP t.b t.c) 1 e2:=⟨_,rfl⟩;have v3:mZ (6*x+3) e3:=by rw[he3];exact v2.add rfl (by omega)
  have g3:-4611686018427387904≤fK e2 (wP t.b t.c)∧fK e2 (wP t.b t.c)≤4611686018427387904:=by have:=v2.get (wP t.b t.c);omega
  obtain⟨e4,he4⟩:∃e,e=iG (wP t.c t.b) (-1) e3:=⟨_,rfl⟩;have v4:mZ (6*x+4) e4:=by rw[he4];exact v3.add rfl (by omega)
  have g4:-4611686018427387904≤fK e3 (wP t.c t.b)∧fK e3 (wP t.c t.b)≤4611686018427387904:=by have:=v3.get (wP t.c t.b);omega
  obtain⟨e5,he5⟩:∃e,e=iG (wP t.c t.a) 1 e4:=⟨_,rfl⟩;have v5:mZ (6*x+5) e5:=by rw[he5];exact v4.add rfl (by omega)
  have g5:-4611686018427387904≤fK e4 (wP t.c t.a)∧fK e4 (wP t.c t.a)≤4611686018427387904:=by have:=v4.get (wP t.c t.a);omega
  obtain⟨e6,he6⟩:∃e,e=iG (wP t.a t.c) (-1) e5:=⟨_,rfl⟩;have v6:mZ (6*x+6) e6:=by rw[he6];exact v5.add rfl (by omega)
  have g6:-4611686018427387904≤fK e5 (wP t.a t.c)∧fK e5 (wP t.a t.c)≤4611686018427387904:=by have:=v5.get (wP t.a t.c);omega
  have hE':E x'=e6:=by
   rw[hE,hx',aCm ht,←hE,he6,he5,he4,he3,he2,he1];rfl
  have r9:=re9 f0 f1 f2 f3 f4 f5 f6 f7 f8
  clear f0 f1 f2 f3 f4 f5 f6 f7 f8;unfold wP at *;generalize aA t.a.x=a1 at *;generalize aA t.a.y=a2 at *;generalize aA t.a.z=a3 at *;generalize aA t.b.x=b1 at *;generalize aA t.b.y=b2 at *;generalize aA t.b.z=b3 at *;generalize aA t.c.x=c1 at *;generalize aA t.c.y=c2 at *;generalize aA t.c.z=c3 at *;cbv;refine aQ hc ⟨o1,o2,trivial⟩ ?_;refine bAz 40 (.g [.s (.v a1),.s (.v a2),.s (.v a3),.s (.v b1),.s (.v b2),.s (.v b3),.s (.v c1),.s (.v c2),.s (.v c3)]) rfl rfl (cY r9) ?_;refine gU 1 [.s (.v a1),.s (.v a2),.s (.v a3),.s (.v b1),.s (.v b2),.s (.v b3),.s (.v c1),.s (.v c2),.s (.v c3)] rfl rfl r9 ?_;refine aW 4 (fun q hq=>?_);refine hq _ _ _ ?_;refine zN hc ?_;cbv;refine aQ hc ⟨pK,trivial⟩ ?_;refine aDf hc iT hM [] (a:=50) (b:=53) (d4:=54) (d5:=55) (d6:=56) (d7:=57) (post:=[]) (es:=(E x)) (ks:=[a1,a2,a3,b1,b2,b3]) (1) rfl rfl rfl rfl rfl rfl rfl rfl rfl rfl rfl rfl rfl rfl rfl rfl rfl rfl rfl rfl rfl (.inl ⟨rfl,rfl⟩) g1 rfl (by decide) rfl rfl rfl rfl v0.1 rfl rfl rfl rfl rfl (by kernel_rfl) (by kernel_rfl) (by kernel_rfl) (by kernel_rfl) (by kernel_rfl) (by kernel_rfl) (by kernel_rfl) (by kernel_rfl) (by kernel_rfl) (by kernel_rfl) (by kernel_rfl) (by rfl) ?_;rw[←he1];refine zN hc ?_;cbv;refine aDf hc iT hM [] (a:=58) (b:=61) (d4:=62) (d5:=63) (d6:=64) (d7:=65) (post:=[]) (es:=e1) (ks:=[b1,b2,b3,a1,a2,a3]) (-1) rfl rfl rfl rfl rfl rfl rfl rfl rfl rfl rfl rfl rfl rfl rfl rfl rfl rfl rfl rfl rfl (.inr ⟨rfl,rfl⟩) g2 rfl (by decide) rfl rfl rfl rfl v1.1 rfl rfl rfl rfl rfl (by kernel_rfl) (by kernel_rfl) (by kernel_rfl) (by kernel_rfl) (by kernel_rfl) (by kernel_rfl) (by kernel_rfl) (by kernel_rfl) (by kernel_rfl) (by kernel_rfl) (by kernel_rfl) (by rfl) ?_;rw[←he2];refine zN hc ?_;cbv;refine hq _ _ _ ?_;refine zN hc ?_;cbv;refine aQ hc ⟨pK,trivial⟩ ?_;refine aDf hc iT hM [] (a:=50) (b:=53) (d4:=54) (d5:=55) (d6:=56) (d7:=57) (post:=[]) (es:=e2) (ks:=[b1,b2,b3,c1,c2,c3]) (1) rfl rfl rfl rfl rfl rfl rfl rfl rfl rfl rfl rfl rfl rfl rfl rfl rfl rfl rfl rfl rfl (.inl ⟨rfl,rfl⟩) g3 rfl (by decide) rfl rfl rfl rfl v2.1 rfl rfl rfl rfl rfl (by kernel_rfl) (by kernel_rfl) (by kernel_rfl) (by kernel_rfl) (by kernel_rfl) (by kernel_rfl) (by kernel_rfl) (by kernel_rfl) (by kernel_rfl) (by kernel_rfl) (by kernel_rfl) (by rfl) ?_;rw[←he3];refine zN hc ?_;cbv;refine aDf hc iT hM [] (a:=58) (b:=61) (d4:=62) (d5:=63) (d6:=64) (d7:=65) (post:=[]) (es:=e3) (ks:=[c1,c2,c3,b1,b2,b3]) (-1) rfl rfl rfl rfl rfl rfl rfl rfl rfl rfl rfl rfl rfl rfl rfl rfl rfl rfl rfl rfl rfl (.inr ⟨rfl,rfl⟩) g4 rfl (by decide) rfl rfl rfl rfl v3.1 rfl rfl rfl rfl rfl (by kernel_rfl) (by kernel_rfl) (by kernel_rfl) (by kernel_rfl) (by kernel_rfl) (by kernel_rfl) (by kernel_rfl) (by kernel_rfl) (by kernel_rfl) (by kernel_rfl) (by kernel_rfl) (by rfl) ?_;rw[←he4];refine zN hc ?_;cbv;refine hq _ _ _ ?_;refine zN hc ?_;cbv;refine aQ hc ⟨pK,trivial⟩ ?_;refine aDf hc iT hM [] (a:=50) (b:=53) (d4:=54) (d5:=55) (d6:=56) (d7:=57) (post:=[]) (es:=e4) (ks:=[c1,c2,c3,a1,a2,a3]) (1) rfl rfl rfl rfl rfl rfl rfl rfl rfl rfl rfl rfl rfl rfl rfl rfl rfl rfl rfl rfl rfl (.inl ⟨rfl,rfl⟩) g5 rfl (by decide) rfl rfl rfl rfl v4.1 rfl rfl rfl rfl rfl (by kernel_rfl) (by kernel_rfl) (by kernel_rfl) (by kernel_rfl) (by kernel_rfl) (by kernel_rfl) (by kernel_rfl) (by kernel_rfl) (by kernel_rfl) (by kernel_rfl) (by kernel_rfl) (by rfl) ?_;rw[←he5];refine zN hc ?_;cbv;refine aDf hc iT hM [] (a:=58) (b:=61) (d4:=62) (d5:=63) (d6:=64) (d7:=65) (post:=[]) (es:=e5) (ks:=[a1,a2,a3,c1,c2,c3]) (-1) rfl rfl rfl rfl rfl rfl rfl rfl rfl rfl rfl rfl rfl rfl rfl rfl rfl rfl rfl rfl rfl (.inr ⟨rfl,rfl⟩) g6 rfl (by decide) rfl rfl rfl rfl v5.1 rfl rfl rfl rfl rfl (by kernel_rfl) (by kernel_rfl) (by kernel_rfl) (by kernel_rfl) (by kernel_rfl) (by kernel_rfl) (by kernel_rfl) (by kernel_rfl) (by kernel_rfl) (by kernel_rfl) (by kernel_rfl) (by rfl) ?_;rw[←he6];refine zN hc ?_;cbv;refine hq _ _ _ ?_;refine zN hc ?_;cbv;refine aQ hc ⟨o3,trivial⟩ ?_;rw[←hE'];exact eF 1 (S':=J ⟨x',by omega⟩) (K':=K) rfl rfl (show(1:Nat)≤8 by decide) rfl rfl ⟨zS rfl rfl,zS rfl rfl,zS rfl rfl,zS rfl rfl,zI rfl rfl hi1,trivial⟩ (by subst hK;exact⟨⟨.head _,KFr.cst _ _ _⟩,trivial⟩) ⟨by rw[hM];exact OFr.mp _ _ _,trivial⟩ hyx
theorem aKs (x y:Rat):decide (kA x y<0)=decide (x<y):=by
 unfold kA
 by_cases h:x<y
 ·simp[h]
 ·by_cases h2:y<x<;>simp[h,h2]
theorem aDx:aB PP 210:=zK
theorem aDz:aB PP 197:=zK
theorem wD:aB PP 208:=zK
theorem aDy:aB PP 209:=zK
theorem nB:aB PP 196:=zK
theorem aB7:aB PP 166:=zK
theorem tZ:aB PP 127:=zK
theorem aFi:aB PP 207:=zK
theorem aN2:aB PP 175:=zK
theorem aN3:aB PP 176:=zK
theorem aYr {x y:Rat}(hx:sz x≤2^29)(hy:sz y≤2^29):Pure PP 210 [.string (aA x),.string (aA y)] (.string (aA (x+y))):=by
 have h1:=aA3 hx hy
 generalize aA (x+y)=r at h1 ⊢;generalize aA x=sx at h1 ⊢;generalize aA y=sy at h1 ⊢;refine aH mixed tok [.s (.v sx),.s (.v sy)] Tryz.func210 rfl rfl (lbl rfl) rfl fun c hc hR=>?_
 refine zN hc ?_;cbv;refine zC hc (.t [.s (.v r),.i .i64 (.l 0)]) h1 mG ?_;cbv;exact aF hc hR rfl rfl
theorem aYt {x y:Rat}(hx:sz x≤2^29)(hy:sz y≤2^29):Pure PP 197 [.string (aA x),.string (aA y)] (.string (aA (x - y))):=by
 have h1:=aXu hx hy
 generalize aA (x - y)=r at h1 ⊢;generalize aA x=sx at h1 ⊢;generalize aA y=sy at h1 ⊢;refine aH mixed tok [.s (.v sx),.s (.v sy)] Tryz.func197 rfl rfl (lbl rfl) rfl fun c hc hR=>?_
 refine zN hc ?_;cbv;refine zC hc (.t [.s (.v r),.i .i64 (.l 0)]) h1 aOq ?_;cbv;exact aF hc hR rfl rfl
theorem aVo {x y:Rat}(hx:sz x≤2^29)(hy:sz y≤2^29):Pure PP 208 [.string (aA x),.string (aA y)] (.string (aA (x*y))):=by
 have h1:=aG6 hx hy
 generalize aA (x*y)=r at h1 ⊢;generalize aA x=sx at h1 ⊢;generalize aA y=sy at h1 ⊢;refine aH mixed tok [.s (.v sx),.s (.v sy)] Tryz.func208 rfl rfl (lbl rfl) rfl fun c hc hR=>?_
 refine zN hc ?_;cbv;refine zC hc (.t [.s (.v r),.i .i64 (.l 0)]) h1 qJ ?_;cbv;exact aF hc hR rfl rfl
theorem aYs {x y:Rat}(h0:y≠0)(hx:sz x≤2^29)(hy:sz y≤2^29):Pure PP 209 [.string (aA x),.string (aA y)] (.string (aA (x/y))):=by
 have h1:=aXt h0 hx hy
 generalize aA (x/y)=r at h1 ⊢;generalize aA x=sx at h1 ⊢;generalize aA y=sy at h1 ⊢;refine aH mixed tok [.s (.v sx),.s (.v sy)] Tryz.func209 rfl rfl (lbl rfl) rfl fun c hc hR=>?_
 refine zN hc ?_;cbv;refine zC hc (.t [.s (.v r),.i .i64 (.l 0)]) h1 aId ?_;cbv;exact aF hc hR rfl rfl
theorem aUn {x y:Rat}(hx:sz x≤2^29)(hy:sz y≤2^29):Pure PP 196 [.string (aA x),.string (aA y)] (.bool (decide (x<y))):=by
 have h1:=aA4 hx hy
 have e:=aKs x y
 generalize decide (x<y)=b at e ⊢;generalize kA x y=r at h1 e;generalize aA x=sx at h1 ⊢;generalize aA y=sy at h1 ⊢;refine aH mixed tok [.s (.v sx),.s (.v sy)] Tryz.func196 rfl rfl (lbl rfl) rfl fun c hc hR=>?_
 refine zN hc ?_;cbv;refine zC hc (.t [.i .i64 (.v r),.i .i64 (.l 0)]) h1 sZ ?_;cbv;exact aF hc hR rfl (by show some (Value.bool (decide (r<0)))=_;rw[e])
theorem aJ6 {x y:Rat}(hx:sz x≤2^28)(hy:sz y≤2^28):Pure PP 166 [.string (aA x),.string (aA y)] (.bool (!decide (y<x)&& !decide (x< -y))):=by
 have h1:=aUn (x:=y) (y:=x) (lTr hy (by decide)) (lTr hx (by decide))
 have h2:=aYt (x:=0) (y:=y) sz0 (lTr hy (by decide))
 rw[show(0:Rat) - y=-y by grind,eX]at h2;have h3:=aUn (x:=x) (y:=-y) (lTr hx (by decide)) (by rw[rL];exact lTr hy (by decide))
 generalize decide (y<x)=b1 at h1 ⊢;generalize decide (x< -y)=b2 at h3 ⊢;generalize aA (-y)=r at h2 h3;generalize aA x=sx at h1 h2 h3 ⊢;generalize aA y=sy at h1 h2 h3 ⊢;refine aH mixed tok [.s (.v sx),.s (.v sy)] Tryz.func166 rfl rfl (lbl rfl) rfl fun c hc hR=>?_
 refine zN hc ?_;cbv;cases b1
 ·first | refine zC hc (.b (.l false)) h1 nB ?_ | refine zD hc (.b (.l false)) h1 nB ?_
  cbv
  first | refine zC hc (.s (.v r)) h2 aDz ?_ | refine zD hc (.s (.v r)) h2 aDz ?_
  cbv;cases b2
  ·first | refine zC hc (.b (.l false)) h3 nB ?_ | refine zD hc (.b (.l false)) h3 nB ?_
   cbv
   try (refine zE hc ?_;cbv)
   exact aF hc hR rfl rfl
  ·first | refine zC hc (.b (.l true)) h3 nB ?_ | refine zD hc (.b (.l true)) h3 nB ?_
   cbv
   try (refine zE hc ?_;cbv)
   exact aF hc hR rfl rfl
 ·first | refine zC hc (.b (.l true)) h1 nB ?_ | refine zD hc (.b (.l true)) h1 nB ?_
  cbv
  try (refine zE hc ?_;cbv)
  exact aF hc hR rfl rfl
theorem aVm {x:Rat}(hx:sz x≤2^28):Pure PP 127 [.string (aA x)] (.bool (!decide (1<x)&& !decide (x< -1))):=by
 have k2:=eS (aA x) (lTr (bN x) (by omega))
 rw[dC]at k2;change Pure _ _ _ (.bool true)at k2;have h:=aJ6 (x:=x) (y:=1) hx (lTr (iW 1) (by rw[pY];decide))
 rw[pY]at h;generalize (!decide (1<x)&& !decide (x< -1))=b at h ⊢;generalize aA x=sx at h k2 ⊢;refine aH mixed tok [.s (.v sx)] Tryz.func127 rfl rfl (lbl rfl) rfl fun c hc hR=>?_
 refine zN hc ?_;cbv;refine zC hc (.b (.l true)) k2 cB ?_;cbv;refine zC hc (.b (.l b)) h aB7 ?_;cbv;exact aF hc hR rfl rfl
theorem aJ2 {x:Rat}(hx:sz x≤2^28)(h1:-1≤x)(h2:x≤1):kP PP 207 [aA x] (.int .i64 0):=by
 have k2:=eS (aA x) (lTr (bN x) (by omega))
 rw[dC]at k2;change Pure _ _ _ (.bool true)at k2;have h:=aJ6 (x:=x) (y:=1) hx (lTr (iW 1) (by rw[pY];decide))
 rw[pY,show(!decide (1<x)&& !decide (x< -1))=true by simp;grind]at h;clear h1 h2 hx;generalize aA x=s0 at k2 h ⊢;refine kP.of_fn (fun X w v hX hv=>?_);obtain⟨R,hRR⟩:=nm (dI (.int .i64 0));obtain⟨K,hK⟩:=nm ([KF.cst v (aHe [s0])]);rw[←hRR];refine bE mixed tok [.q v] (K:=K) Tryz.func207 rfl rfl (lbl rfl) rfl hX (by rw[hK];simp;exact hv) fun c hc hR=>?_
 refine xA 0 [s0] 1 rfl rfl rfl (fun X μ a w v' H hv'=>cA H (by rw[hK];exact .head _) hv') (fun f hf=>?_);have e0:f 0=s0:=hf 0 _ rfl
 clear hf;subst e0;refine zN hc ?_;cbv;refine aW 2 (fun p hp=>?_);refine hp _ _ _ ?_;refine zN hc ?_;cbv;refine aQ hc ⟨jU rfl,trivial⟩ ?_;refine zN hc ?_;cbv;refine zC hc (.b (.l true)) k2 cB ?_;cbv;refine hp _ _ _ ?_;refine zN hc ?_;cbv;refine aW 2 (fun p hp=>?_);refine hp _ _ _ ?_;refine zN hc ?_;cbv;refine aQ hc ⟨jU rfl,trivial⟩ ?_;refine zN hc ?_;cbv;refine zC hc (.b (.l true)) h aB7 ?_;cbv;refine hp _ _ _ ?_;refine zN hc ?_;cbv;refine aS hc hR rfl (fun X μ a w v H hv=>?_);rw[hRR];simp only[aD]at hv;injection hv with hv
 exact hv.symm
end Go.Ai
namespace Go.Ai
open Go Go.Proofs Go.Num V3
theorem aR0:aA 2=⟨#[50]⟩:=(tQ (s:=⟨#[50]⟩) (by decide+kernel)).symm
theorem aR2:aA (1/2)=⟨#[49,47,50]⟩:=(tQ (s:=⟨#[49,47,50]⟩) (by decide+kernel)).symm
theorem sz2:sz 2≤1:=lTr (iW _) (by rw[aR0];decide)
theorem szh:sz (1/2)≤3:=lTr (iW _) (by rw[aR2];decide)
theorem aJw:sz 1≤1:=lTr (iW 1) (by rw[pY];decide)
theorem bA3 (t:Rat):0≤t*t:=by
 rcases(Rat.le_total:(0:Rat)≤t∨t≤0)with h | h
 ·exact Rat.mul_nonneg h h
 ·have:0≤(-t)*(-t):=Rat.mul_nonneg (by grind) (by grind)
  grind
theorem aEw (t:Rat):(1:Rat)+t*t≠0:=by have:=bA3 t;grind
def iL (t:Rat):Rat:=(1 - t*t)/(1+t*t)
def iB (t:Rat):Rat:=2*t/(1+t*t)
theorem pQ {t:Rat}{k:Nat}(h:sz t≤k):sz (iL t)≤4*k+4:=by
 have h1:=sz_mm h h
 have h2:=sz_ss aJw h1
 have h3:=sz_aa aJw h1
 exact lTr (xD _ _) (by omega)
theorem pS {t:Rat}{k:Nat}(h:sz t≤k):sz (iB t)≤3*k+3:=by
 have h1:=sz_mm h h
 have h2:=sz_mm sz2 h
 have h3:=sz_aa aJw h1
 exact lTr (xD _ _) (by omega)
theorem bA8 {t:Rat}(ht:sz t≤2^25)(h1:-1≤t)(h2:t≤1):Pure PP 175 [.string (aA t)] (.tuple #[.string (aA (iL t)),.int .i64 0]):=by
 have k0:=aJ2 (lTr ht (by decide)) h1 h2
 have hm:=sz_mm ht ht
 have k1:=aVo (x:=t) (y:=t) (lTr ht (by decide)) (lTr ht (by decide))
 have k2:=aYt (x:=1) (y:=t*t) sz1 (lTr hm (by decide))
 have k3:=aYr (x:=1) (y:=t*t) sz1 (lTr hm (by decide))
 have k4:=aYs (x:=1 - t*t) (y:=1+t*t) (aEw t) (lTr (sz_ss aJw hm) (by decide)) (lTr (sz_aa aJw hm) (by decide))
 rw[show(1 - t*t)/(1+t*t)=iL t from rfl]at k4;rw[pY]at k2 k3;clear hm ht h1 h2;generalize aA (iL t)=r at k4 ⊢;generalize aA (1 - t*t)=p at k2 k4;generalize aA (1+t*t)=q at k3 k4;generalize aA (t*t)=m at k1 k2 k3;generalize aA t=s at k0 k1 ⊢;refine aH mixed tok [.s (.v s)] Tryz.func175 rfl rfl (lbl rfl) rfl fun c hc hR=>?_
 refine zN hc ?_;cbv;refine lM hc (n:=1) (.i .i64 (.l 0)) k0 aFi rfl rfl rfl rfl rfl 100 ?_;cbv
 first | refine zC hc (.s (.v m)) k1 wD ?_ | refine zD hc (.s (.v m)) k1 wD ?_
 cbv
 first | refine zC hc (.s (.v p)) k2 aDz ?_ | refine zD hc (.s (.v p)) k2 aDz ?_
 cbv
 first | refine zC hc (.s (.v q)) k3 aDx ?_ | refine zD hc (.s (.v q)) k3 aDx ?_
 cbv
 first | refine zC hc (.s (.v r)) k4 aDy ?_ | refine zD hc (.s (.v r)) k4 aDy ?_
 cbv
 try (refine zE hc ?_;cbv)
 exact aF hc hR rfl rfl
theorem bA9 {t:Rat}(ht:sz t≤2^25)(h1:-1≤t)(h2:t≤1):Pure PP 176 [.string (aA t)] (.tuple #[.string (aA (iB t)),.int .i64 0]):=by
 have k0:=aJ2 (lTr ht (by decide)) h1 h2
 have hm:=sz_mm ht ht
 have k1:=aVo (x:=t) (y:=t) (lTr ht (by decide)) (lTr ht (by decide))
 have k2:=aVo (x:=2) (y:=t) (lTr sz2 (by decide)) (lTr ht (by decide))
 have k3:=aYr (x:=1) (y:=t*t) sz1 (lTr hm (by decide))
 have k4:=aYs (x:=2*t) (y:=1+t*t) (aEw t) (lTr (sz_mm sz2 ht) (by decide)) (lTr (sz_aa aJw hm) (by decide))
 rw[show 2*t/(1+t*t)=iB t from rfl]at k4;rw[pY]at k3;rw[aR0]at k2;clear hm ht h1 h2;generalize aA (iB t)=r at k4 ⊢;generalize aA (2*t)=p at k2 k4;generalize aA (1+t*t)=q at k3 k4;generalize aA (t*t)=m at k1 k3;generalize aA t=s at k0 k1 k2 ⊢;refine aH mixed tok [.s (.v s)] Tryz.func176 rfl rfl (lbl rfl) rfl fun c hc hR=>?_
 refine zN hc ?_;cbv;refine lM hc (n:=1) (.i .i64 (.l 0)) k0 aFi rfl rfl rfl rfl rfl 100 ?_;cbv
 first | refine zC hc (.s (.v p)) k2 wD ?_ | refine zD hc (.s (.v p)) k2 wD ?_
 cbv
 first | refine zC hc (.s (.v m)) k1 wD ?_ | refine zD hc (.s (.v m)) k1 wD ?_
 cbv
 first | refine zC hc (.s (.v q)) k3 aDx ?_ | refine zD hc (.s (.v q)) k3 aDx ?_
 cbv
 first | refine zC hc (.s (.v r)) k4 aDy ?_ | refine zD hc (.s (.v r)) k4 aDy ?_
 cbv
 try (refine zE hc ?_;cbv)
 exact aF hc hR rfl rfl
theorem nN:aB PP 129:=zK
theorem uI:aB PP 128:=zK
theorem qL:aB PP 80:=zK
theorem qK:aB PP 89:=zK
theorem yG:aB PP 137:=zK
theorem aKk:aB PP 90:=zK
theorem zH:aB PP 79:=zK
theorem aYy:aB PP 49:=zK
theorem zJ:aB PP 99:=zK
theorem aRr {x y:Rat}(hx:sz x≤2^29)(hy:sz y≤2^29):Pure PP 129 [.string (aA x),.string (aA y)] (.string (aA (x*y))):=by
 have h1:=aG6 hx hy
 generalize aA (x*y)=r at h1 ⊢;generalize aA x=sx at h1 ⊢;generalize aA y=sy at h1 ⊢;refine aH mixed tok [.s (.v sx),.s (.v sy)] Tryz.func129 rfl rfl (lbl rfl) rfl fun c hc hR=>?_
 refine zN hc ?_;cbv;refine zC hc (.t [.s (.v r),.i .i64 (.l 0)]) h1 qJ ?_;cbv;exact aF hc hR rfl rfl
theorem aVf {x y:Rat}(hx:sz x≤2^29)(hy:sz y≤2^29):Pure PP 128 [.string (aA x),.string (aA y)] (.bool (decide (x<y))):=by
 have h1:=aA4 hx hy
 have e:=aKs x y
 generalize decide (x<y)=b at e ⊢;generalize kA x y=r at h1 e;generalize aA x=sx at h1 ⊢;generalize aA y=sy at h1 ⊢;refine aH mixed tok [.s (.v sx),.s (.v sy)] Tryz.func128 rfl rfl (lbl rfl) rfl fun c hc hR=>?_
 refine zN hc ?_;cbv;refine zC hc (.t [.i .i64 (.v r),.i .i64 (.l 0)]) h1 sZ ?_;cbv;exact aF hc hR rfl (by show some (Value.bool (decide (r<0)))=_;rw[e])
theorem aUh {x:Rat}(hx:sz x≤2^29):Pure PP 80 [.string (aA x)] (.string (aA (-x))):=by
 have h1:=aRr (x:=-1) (y:=x) bA4 hx
 rw[show -1*x=-x by grind,aJz]at h1;generalize aA (-x)=r at h1 ⊢;generalize aA x=sx at h1 ⊢;refine aH mixed tok [.s (.v sx)] Tryz.func80 rfl rfl (lbl rfl) rfl fun c hc hR=>?_
 refine zN hc ?_;cbv
 first | refine zC hc (.s (.v r)) h1 nN ?_ | refine zD hc (.s (.v r)) h1 nN ?_
 cbv
 try (refine zE hc ?_;cbv)
 exact aF hc hR rfl rfl
theorem aYg (s t:ByteArray)(hs:s.size≤2^31)(ht:t.size≤2^31):Pure PP 89 [.agg #[.string s,.string t]] (.bool ((vG s.data.toList).isSome&&(vG t.data.toList).isSome)):=by
 have h1:=eS s hs
 have h2:=eS t ht
 generalize (vG s.data.toList).isSome=b1 at h1 ⊢;generalize (vG t.data.toList).isSome=b2 at h2 ⊢;refine aH mixed tok [.g [.s (.v s),.s (.v t)]] Tryz.func89 rfl rfl (lbl rfl) rfl fun c hc hR=>?_
 refine zN hc ?_;cbv;cases b1
 ·first | refine zC hc (.b (.l false)) h1 cB ?_ | refine zD hc (.b (.l false)) h1 cB ?_
  cbv
  try (refine zE hc ?_;cbv)
  exact aF hc hR rfl rfl
 ·first | refine zC hc (.b (.l true)) h1 cB ?_ | refine zD hc (.b (.l true)) h1 cB ?_
  cbv
  first | refine zC hc (.b (.l b2)) h2 cB ?_ | refine zD hc (.b (.l b2)) h2 cB ?_
  cbv
  try (refine zE hc ?_;cbv)
  exact aF hc hR rfl rfl
theorem aVg {t:Rat}(ht:sz t≤2^25)(h1:-1≤t)(h2:t≤1):Pure PP 137 [.string (aA t)] (.tuple #[.string (aA (iL t)),.string (aA (iB t))]):=by
 have k1:=bA8 ht h1 h2
 have k2:=bA9 ht h1 h2
 clear ht h1 h2;generalize aA (iL t)=c1 at k1 ⊢;generalize aA (iB t)=s1 at k2 ⊢;generalize aA t=s at k1 k2 ⊢;refine aH mixed tok [.s (.v s)] Tryz.func137 rfl rfl (lbl rfl) rfl fun c hc hR=>?_
 refine zN hc ?_;cbv
 first | refine zC hc (.t [.s (.v c1),.i .i64 (.l 0)]) k1 aN2 ?_ | refine zD hc (.t [.s (.v c1),.i .i64 (.l 0)]) k1 aN2 ?_
 cbv
 first | refine zC hc (.t [.s (.v s1),.i .i64 (.l 0)]) k2 aN3 ?_ | refine zD hc (.t [.s (.v s1),.i .i64 (.l 0)]) k2 aN3 ?_
 cbv
 try (refine zE hc ?_;cbv)
 exact aF hc hR rfl rfl
structure At where
 h:Rat
 t:Rat
def At.ok (a:At):Bool:=decide (-1≤a.h)&&decide (a.h≤1)&&decide (-(1/2)≤a.t)&&decide (a.t≤1/2)
def At.ahead (a:At):V3:=⟨iL a.t,-(iB a.h*iB a.t),iL a.h*iB a.t⟩
def At.side (a:At):V3:=⟨0,iL a.h,iB a.h⟩
def At.up (a:At):V3:=⟨-(iB a.t),-(iB a.h*iL a.t),iL a.h*iL a.t⟩
def At.le (a:At)(k:Nat):Prop:=sz a.h≤k∧sz a.t≤k
def atV (a:At):Value:=.agg #[.string (aA a.h),.string (aA a.t)]
theorem At.ok_iff (a:At):a.ok=true↔-1≤a.h∧a.h≤1∧-(1/2)≤a.t∧a.t≤1/2:=by
 unfold At.ok;simp[and_assoc]
theorem At.le_ahead {a:At}{k:Nat}(h:a.le k):a.ahead.le (7*k+7):=by
 have h1:=pQ h.1
 have h2:=pS h.1
 have h3:=pQ h.2
 have h4:=pS h.2
 refine⟨lTr h3 (by omega),?_,lTr (sz_mm h1 h4) (by omega)⟩;show sz (-(_))≤_
 rw[rL];exact lTr (sz_mm h2 h4) (by omega)
theorem At.le_side {a:At}{k:Nat}(h:a.le k):a.side.le (7*k+7):=by
 have h1:=pQ h.1
 have h2:=pS h.1
 exact⟨lTr (iW 0) (by rw[eX];show 1≤_;omega),lTr h1 (by omega),lTr h2 (by omega)⟩
theorem At.le_up {a:At}{k:Nat}(h:a.le k):a.up.le (8*k+8):=by
 have h1:=pQ h.1
 have h2:=pS h.1
 have h3:=pQ h.2
 have h4:=pS h.2
 refine⟨?_,?_,lTr (sz_mm h1 h3) (by omega)⟩
 ·show sz (-(_))≤_
  rw[rL];exact lTr h4 (by omega)
 ·show sz (-(_))≤_
  rw[rL];exact lTr (sz_mm h2 h3) (by omega)
theorem aVe {a:At}(ha:a.le (2^25))(hk:a.ok=true):Pure PP 90 [atV a] (.agg #[.string (aA a.ahead.x),.string (aA a.ahead.y),.string (aA a.ahead.z),.string ⟨#[48]⟩,.string (aA a.side.y),.string (aA a.side.z),.string (aA a.up.x),.string (aA a.up.y),.string (aA a.up.z)]):=by
 obtain⟨o1,o2,o3,o4⟩:=(At.ok_iff a).1 hk;have k1:=aVg ha.1 o1 o2
 have k2:=aVg ha.2 (by grind) (by grind)
 have b1:=pQ ha.1
 have b2:=pS ha.1
 have b3:=pQ ha.2
 have b4:=pS ha.2
 have m1:=aRr (x:=iB a.h) (y:=iB a.t) (lTr b2 (by decide)) (lTr b4 (by decide))
 have n1:=aUh (x:=iB a.h*iB a.t) (lTr (sz_mm b2 b4) (by decide))
 have m2:=aRr (x:=iL a.h) (y:=iB a.t) (lTr b1 (by decide)) (lTr b4 (by decide))
 have n2:=aUh (x:=iB a.t) (lTr b4 (by decide))
 have m3:=aRr (x:=iB a.h) (y:=iL a.t) (lTr b2 (by decide)) (lTr b3 (by decide))
 have n3:=aUh (x:=iB a.h*iL a.t) (lTr (sz_mm b2 b3) (by decide))
 have m4:=aRr (x:=iL a.h) (y:=iL a.t) (lTr b1 (by decide)) (lTr b3 (by decide))
 clear b1 b2 b3 b4 o1 o2 o3 o4 ha hk;unfold At.ahead At.side At.up atV
 dsimp only
 generalize aA (-(iB a.h*iB a.t))=x1 at *;generalize aA (iB a.h*iB a.t)=x2 at *;generalize aA (iL a.h*iB a.t)=x3 at *;generalize aA (-iB a.t)=x4 at *;generalize aA (-(iB a.h*iL a.t))=x5 at *;generalize aA (iB a.h*iL a.t)=x6 at *;generalize aA (iL a.h*iL a.t)=x7 at *;generalize aA (iL a.h)=ch at *;generalize aA (iB a.h)=sh at *;generalize aA (iL a.t)=ct at *;generalize aA (iB a.t)=st at *;generalize aA a.h=h at *;generalize aA a.t=t at *;refine aH mixed tok [.g [.s (.v h),.s (.v t)]] Tryz.func90 rfl rfl (lbl rfl) rfl fun c hc hR=>?_
 refine zN hc ?_;cbv
 first | refine zC hc (.t [.s (.v ch),.s (.v sh)]) k1 yG ?_ | refine zD hc (.t [.s (.v ch),.s (.v sh)]) k1 yG ?_
 cbv
 first | refine zC hc (.t [.s (.v ct),.s (.v st)]) k2 yG ?_ | refine zD hc (.t [.s (.v ct),.s (.v st)]) k2 yG ?_
 cbv
 first | refine zC hc (.s (.v x2)) m1 nN ?_ | refine zD hc (.s (.v x2)) m1 nN ?_
 cbv
 first | refine zC hc (.s (.v x1)) n1 qL ?_ | refine zD hc (.s (.v x1)) n1 qL ?_
 cbv
 first | refine zC hc (.s (.v x3)) m2 nN ?_ | refine zD hc (.s (.v x3)) m2 nN ?_
 cbv
 first | refine zC hc (.s (.v x4)) n2 qL ?_ | refine zD hc (.s (.v x4)) n2 qL ?_
 cbv
 first | refine zC hc (.s (.v x6)) m3 nN ?_ | refine zD hc (.s (.v x6)) m3 nN ?_
 cbv
 first | refine zC hc (.s (.v x5)) n3 qL ?_ | refine zD hc (.s (.v x5)) n3 qL ?_
 cbv
 first | refine zC hc (.s (.v x7)) m4 nN ?_ | refine zD hc (.s (.v x7)) m4 nN ?_
 cbv
 try (refine zE hc ?_;cbv)
 exact aF hc hR rfl rfl
def At.code (a:At):Int:=if a.ok=true then 0 else 2
theorem At.ok_b (a:At):a.ok=((!decide (1<a.h)&& !decide (a.h< -1))&& !decide (1/2<a.t)&& !decide (a.t< -(1/2))):=by
 unfold At.ok;rw[Bool.eq_iff_iff];simp
 grind
theorem aRo {a:At}(ha:a.le (2^25)):Pure PP 79 [atV a] (.int .i64 a.code):=by
 have k0:=aYg (aA a.h) (aA a.t) (lTr (bN a.h) (by have:=ha.1;omega)) (lTr (bN a.t) (by have:=ha.2;omega))
 rw[dC,dC]at k0;change Pure _ _ _ (.bool true)at k0;have k1:=aVm (x:=a.h) (lTr ha.1 (by decide))
 have k2:=aVf (x:=1/2) (y:=a.t) (lTr szh (by decide)) (lTr ha.2 (by decide))
 have k3:=aUh (x:=1/2) (lTr szh (by decide))
 have k4:=aVf (x:=a.t) (y:=-(1/2)) (lTr ha.2 (by decide)) (by rw[rL];exact lTr szh (by decide))
 rw[aR2]at k2 k3;have e:=At.ok_b a
 unfold At.code;generalize a.ok=ok at e ⊢;generalize (!decide (1<a.h)&& !decide (a.h< -1))=b1 at k1 e;generalize decide (1/2<a.t)=b2 at k2 e;generalize decide (a.t< -(1/2))=b3 at k4 e;unfold atV at *;generalize aA (-(1/2))=q at k3 k4;generalize aA a.h=h at *;generalize aA a.t=t at *;clear ha;cases b1
 ·have e:ok=false:=by rw[e];rfl
  subst e;refine aH mixed tok [.g [.s (.v h),.s (.v t)]] Tryz.func79 rfl rfl (lbl rfl) rfl fun c hc hR=>?_
  refine zN hc ?_;cbv;refine zC hc (.b (.l true)) k0 qK ?_;cbv;refine zD hc (.b (.l false)) k1 tZ ?_;cbv;refine zE hc ?_;cbv;exact aF hc hR rfl rfl
 cases b2 with
 | true=>
  have e:ok=false:=by rw[e];rfl
  subst e;refine aH mixed tok [.g [.s (.v h),.s (.v t)]] Tryz.func79 rfl rfl (lbl rfl) rfl fun c hc hR=>?_
  refine zN hc ?_;cbv;refine zC hc (.b (.l true)) k0 qK ?_;cbv;refine zD hc (.b (.l true)) k1 tZ ?_;cbv;refine zD hc (.b (.l true)) k2 uI ?_;cbv;refine zE hc ?_;cbv;exact aF hc hR rfl rfl
 | false=>
 cases b3 with
 | true=>
  have e:ok=false:=by rw[e];rfl
  subst e;refine aH mixed tok [.g [.s (.v h),.s (.v t)]] Tryz.func79 rfl rfl (lbl rfl) rfl fun c hc hR=>?_
  refine zN hc ?_;cbv;refine zC hc (.b (.l true)) k0 qK ?_;cbv;refine zD hc (.b (.l true)) k1 tZ ?_;cbv;refine zD hc (.b (.l false)) k2 uI ?_;cbv;refine zD hc (.s (.v q)) k3 qL ?_;cbv;refine zD hc (.b (.l true)) k4 uI ?_;cbv;refine zE hc ?_;cbv;exact aF hc hR rfl rfl
 | false=>
  have e:ok=true:=by rw[e];rfl
  subst e;refine aH mixed tok [.g [.s (.v h),.s (.v t)]] Tryz.func79 rfl rfl (lbl rfl) rfl fun c hc hR=>?_
  refine zN hc ?_;cbv;refine zC hc (.b (.l true)) k0 qK ?_;cbv;refine zD hc (.b (.l true)) k1 tZ ?_;cbv;refine zD hc (.b (.l false)) k2 uI ?_;cbv;refine zD hc (.s (.v q)) k3 qL ?_;cbv;refine zD hc (.b (.l false)) k4 uI ?_;cbv;refine zE hc ?_;cbv;exact aF hc hR rfl rfl
def aWj (a:At):Value:=.agg #[.string (aA a.ahead.x),.string (aA a.ahead.y),.string (aA a.ahead.z),.string ⟨#[48]⟩,.string (aA a.side.y),.string (aA a.side.z),.string (aA a.up.x),.string (aA a.up.y),.string (aA a.up.z)]
theorem tOf {a:At}(ha:a.le (2^25))(hk:a.ok=true):Pure PP 49 [atV a] (.tuple #[aWj a,.int .i64 0]):=by
 have k1:=aRo ha
 have k2:=aVe ha hk
 unfold At.code at k1;rw[if_pos hk]at k1;unfold aWj atV at *;generalize aA a.ahead.x=x0 at *;generalize aA a.ahead.y=x1 at *;generalize aA a.ahead.z=x2 at *;generalize aA a.side.y=x4 at *;generalize aA a.side.z=x5 at *;generalize aA a.up.x=x6 at *;generalize aA a.up.y=x7 at *;generalize aA a.up.z=x8 at *;generalize aA a.h=h at *;generalize aA a.t=t at *;clear ha hk;refine aH mixed tok [.g [.s (.v h),.s (.v t)]] Tryz.func49 rfl rfl (lbl rfl) rfl fun c hc hR=>?_
 refine zN hc ?_;cbv;refine zC hc (.i .i64 (.l 0)) k1 zH ?_;cbv;refine zC hc (.g [.s (.v x0),.s (.v x1),.s (.v x2),.s (.v ⟨#[48]⟩),.s (.v x4),.s (.v x5),.s (.v x6),.s (.v x7),.s (.v x8)]) k2 aKk ?_;cbv;exact aF hc hR rfl rfl
def At.water (a:At)(d:Rat):Pl:=⟨a.up,d⟩
theorem aRp {a:At}{d:Rat}(ha:a.le (2^25))(hd:sz d≤2^25):Pure PP 99 [atV a,.string (aA d)] (if a.ok=true then .tuple #[mY (a.water d),.int .i64 0]else .tuple #[.agg #[.string ⟨#[]⟩,.string ⟨#[]⟩,.string ⟨#[]⟩,.string ⟨#[]⟩],.int .i64 2]):=by
 have k0:=aYg (aA a.h) (aA a.t) (lTr (bN a.h) (by have:=ha.1;omega)) (lTr (bN a.t) (by have:=ha.2;omega))
 rw[dC,dC]at k0;change Pure _ _ _ (.bool true)at k0;have kd:=eS (aA d) (lTr (bN d) (by omega))
 rw[dC]at kd;change Pure _ _ _ (.bool true)at kd;have k1:=aRo ha
 have k2:=aVe ha
 unfold At.code at k1;cases hk:a.ok with
 | true=>
  rw[if_pos hk]at k1;rw[if_pos rfl];have k2:=k2 hk
  unfold At.water mY
  dsimp only
  unfold atV at *;generalize aA a.ahead.x=x0 at *;generalize aA a.ahead.y=x1 at *;generalize aA a.ahead.z=x2 at *;generalize aA a.side.y=x4 at *;generalize aA a.side.z=x5 at *;generalize aA a.up.x=x6 at *;generalize aA a.up.y=x7 at *;generalize aA a.up.z=x8 at *;generalize aA a.h=h at *;generalize aA a.t=t at *;generalize aA d=sd at *;clear ha hk hd;refine aH mixed tok [.g [.s (.v h),.s (.v t)],.s (.v sd)] Tryz.func99 rfl rfl (lbl rfl) rfl fun c hc hR=>?_
  refine zN hc ?_;cbv;refine zC hc (.b (.l true)) k0 qK ?_;cbv;refine zC hc (.b (.l true)) kd cB ?_;cbv;refine zC hc (.i .i64 (.l 0)) k1 zH ?_;cbv;refine zC hc (.g [.s (.v x0),.s (.v x1),.s (.v x2),.s (.v ⟨#[48]⟩),.s (.v x4),.s (.v x5),.s (.v x6),.s (.v x7),.s (.v x8)]) k2 aKk ?_;cbv;exact aF hc hR rfl rfl
 | false=>
  rw[hk]at k1;rw[if_neg (by decide)]at k1 ⊢;clear k2;unfold atV at *;generalize aA a.h=h at *;generalize aA a.t=t at *;generalize aA d=sd at *;clear ha hk hd;refine aH mixed tok [.g [.s (.v h),.s (.v t)],.s (.v sd)] Tryz.func99 rfl rfl (lbl rfl) rfl fun c hc hR=>?_
  refine zN hc ?_;cbv;refine zC hc (.b (.l true)) k0 qK ?_;cbv;refine zC hc (.b (.l true)) kd cB ?_;cbv;refine zC hc (.i .i64 (.l 2)) k1 zH ?_;cbv;exact aF hc hR rfl rfl
theorem aJy {h t d:ByteArray}(hh:h.size≤2^31)(ht:t.size≤2^31)(hd:d.size≤2^31)(aBq:(mM h&&mM t&&mM d)=false):Pure PP 99 [.agg #[.string h,.string t],.string d] (.tuple #[.agg #[.string ⟨#[]⟩,.string ⟨#[]⟩,.string ⟨#[]⟩,.string ⟨#[]⟩],.int .i64 1]):=by
 have k0:=aYg h t hh ht
 have kd:=eS d hd
 change (((vG h.data.toList).isSome&&(vG t.data.toList).isSome)&&(vG d.data.toList).isSome)=false at aBq
 generalize ((vG h.data.toList).isSome&&(vG t.data.toList).isSome)=b0 at *;generalize (vG d.data.toList).isSome=b1 at *;cases b0 with
 | false=>
  refine aH mixed tok [.g [.s (.v h),.s (.v t)],.s (.v d)] Tryz.func99 rfl rfl (lbl rfl) rfl fun c hc hR=>?_
  refine zN hc ?_;cbv;refine zC hc (.b (.l false)) k0 qK ?_;cbv;exact aF hc hR rfl rfl
 | true=>
  have e:b1=false:=by simpa using aBq
  subst e;clear aBq;refine aH mixed tok [.g [.s (.v h),.s (.v t)],.s (.v d)] Tryz.func99 rfl rfl (lbl rfl) rfl fun c hc hR=>?_
  refine zN hc ?_;cbv;refine zC hc (.b (.l true)) k0 qK ?_;cbv;refine zC hc (.b (.l false)) kd cB ?_;cbv;exact aF hc hR rfl rfl
theorem dM {x y:AV}(h:∀μ,aD μ x=aD μ y){v:Value}(hv:aD iD y=some v):aG iD [x]=some [v]:=by simp[aG,h,hv]
theorem aL6:aB PP 84:=zK
theorem aL5:aB PP 67:=zK
def nU (l:List Tri):Rat:=l.foldl (fun s t=>s+t.det) 0
def vY (l:List Tri):Rat:=nU l*(1/6)
theorem xX {l:List Tri}{i:Nat}{t:Tri}(h:l[i]?=some t):nU (l.take (i+1))=nU (l.take i)+t.det:=by
 obtain⟨h1,h2⟩:=List.getElem?_eq_some_iff.1 h;unfold nU;rw[List.take_succ_eq_append_getElem h1,List.foldl_append,h2]
 rfl
theorem oK:sz 0≤1:=lTr (iW 0) (by rw[eX];decide)
theorem oM {l:List Tri}{k:Nat}(hl:∀t,t∈l→t.le k):∀i,i≤l.length→sz (nU (l.take i))≤i*(15*k+6)+1
 | 0,_=>by show sz 0≤_;have:=oK;omega
 | i+1,h=>by
  have h1:l[i]?=some l[i]:=by simp
  rw[xX h1];have h2:=oM hl i (by omega)
  have h3:=aE7 (hl l[i] (List.getElem_mem _))
  refine lTr (sz_aa h2 h3) ?_;rw[Nat.add_mul];omega
theorem bO {μ:Mu}{v u:Value}(h:aD μ (.q v)=some u):u=v:=by simp only[aD]at h;injection h with h;exact h.symm
theorem aTp {l:List Tri}(hl:∀t,t∈l→t.le (2^16))(hn:l.length≤512)(hok:nR l=true){X:Nat→Prop}{w:World}{v:Value}(hX:∀b,X b→b<w.heap.size)(hv:(rowS l.length (gJ l)).p v X w):
  Fn PP 84 [v] X w (dI (.tuple #[.string (aA (vY l)),.int .i64 0])):=by
 have qV:∀{X:Nat→Prop} {w:World} {v:Value},(∀b,X b→b<w.heap.size)→(rowS l.length (gJ l)).p v X w→Fn PP 100 [v] X w (dI (.int .i64 0)):=fun hX hv=>by
  have:=rZ (l:=l) (fun t ht=>⟨(hl t ht).1.mono (by decide),(hl t ht).2.1.mono (by decide),(hl t ht).2.2.mono (by decide)⟩) hn hX hv
  unfold fY at this
  rwa [if_pos hok]at this
 have hs:=oM hl l.length (lRf _)
 rw[List.take_of_length_le (lRf _)]at hs;have aZj:l.length*(15*2^16+6)≤512*(15*2^16+6):=Nat.mul_le_mul_right _ hn
 have g6:=lD (x:=nU l) (y:=1/6) (by omega) (lTr sz6 (by decide))
 rw[aUi]at g6;obtain⟨R,hRR⟩:=nm (dI (.tuple #[.string (aA (vY l)),.int .i64 0]));obtain⟨N,hN⟩:=nm (l.length);obtain⟨Q,hQ⟩:=nm (9*N);rw[←hN]at hv hn qV;obtain⟨K,hK⟩:=nm ([KF.cst v (rowS N (gJ l))]);rw[←hRR];refine bE mixed tok [.q v] (K:=K) Tryz.func84 rfl rfl (lbl rfl) rfl hX (by rw[hK];simp;exact hv) fun c hc hR=>?_
 refine zN hc ?_;cbv;refine bJ hc (.i .i64 (.l 0)) nF (fun n0 D X μ a w aK H hv=>?_) rfl 100 ?_
 ·obtain⟨u,rfl,e⟩:=aV hv;rw[bO e];exact qV H.xlt (H.cst (by rw[hK];exact .head _))
 cbv;refine gV 13 N Q (gJ l) (by rw[eQ,hQ,hN]) rfl rfl (fun X μ a w v' H hv'=>cA H (by rw[hK];exact .head _) hv') (fun f cap hf dH=>?_);refine zN hc ?_;cbv;obtain⟨D,hD⟩:∃D:Nat→ByteArray,∀x,D x=aA (nU (l.take x)):=⟨_,fun _=>rfl⟩;have hD0:(⟨#[48]⟩:ByteArray)=D 0:=by rw[hD];exact eX.symm
 rw[show nU l*(1/6)=vY l from rfl]at g6;have g6':aA (nU l)=D N:=by rw[hD,hN,List.take_of_length_le (lRf _)]
 rw[g6']at g6;clear g6';obtain⟨rr,hrr⟩:=nm (aA (vY l));rw[←hrr]at g6 hRR;let ι:={x:Nat//x≤N}
 let I:ι→St:=fun x=>⟨[(2,.s (.v ⟨#[]⟩)),(3,.i .i64 (.l 0)),(13,.sl 0 0 (.n N) cap),(14,.i .i64 (.n N)),(15,.i .i64 (.n x.1)),(5,.s (.v (D x.1)))],[.xs Q f],[]⟩
 let x0:ι:=⟨0,Nat.zero_le _⟩
 refine zU 1 (S':=I x0) (K':=K) ⟨zS rfl rfl,zS rfl rfl,zS rfl rfl,zS rfl rfl,zS rfl rfl,⟨_,rfl,rfl,fun μ=>by rw[hD0]⟩,trivial⟩ (by subst hK;exact⟨⟨.head _,KFr.cst _ _ _⟩,trivial⟩) trivial ?_;refine bQ hc I (fun x=>N - x.1) x0 100 ?_;rintro p ⟨x,hx⟩ hy;cbv;refine aE hc rfl 100 (fun h=>?_) (fun h=>?_)
 ·have hxN:x<N:=BE.ltn_t h
  have ht:l[x]?=some l[x]:=by simp
  obtain⟨t,htt⟩:=nm (l[x]);rw[←htt]at ht;have sI:=hl t (List.mem_of_getElem? ht)
  obtain⟨f0,f1,f2,f3,f4,f5,f6,f7,f8⟩:=aRs hf ht;have hs2:=oM hl x (by omega)
  have bDf:x*(15*2^16+6)≤512*(15*2^16+6):=Nat.mul_le_mul_right _ (by omega)
  have k1:=bAk (t:=t) ⟨sI.1.mono (by decide),sI.2.1.mono (by decide),sI.2.2.mono (by decide)⟩
  have k2:=rB (x:=nU (l.take x)) (y:=t.det) (by omega) (lTr (aE7 sI) (by decide))
  rw[←xX ht,←hD,←hD]at k2;have o1:(Obl.ltE (.n x) (.n N)).ok:=by show _∧_;simp only[IE.den];omega
  have o2:(Obl.ix 0 (.n x) 9 0 9 Q).ok:=by show aX 0 (x:Int) 9 0+9≤Q;simp only[aX,Int.toNat_natCast];omega
  have o3:(Obl.inR .i64 (.add (.n x) (.l 1))).ok:=by show lo _≤_∧_≤hi _;simp only[lo,hi,IE.den];omega
  obtain⟨x',hx'⟩:=nm (x+1);rw[←hx']at k2;have hi1:((IE.n x).add (IE.l 1)).den=(IE.n x').den:=by simp only[IE.den,hx'];omega
  have hyx:=hy ⟨x',by omega⟩ (by show N - x'<N - x;omega)
  clear hy;have r9:=re9 f0 f1 f2 f3 f4 f5 f6 f7 f8
  clear f0 f1 f2 f3 f4 f5 f6 f7 f8;unfold lP at k1;generalize aA t.det=dt at k1 k2;generalize aA t.a.x=a1 at *;generalize aA t.a.y=a2 at *;generalize aA t.a.z=a3 at *;generalize aA t.b.x=b1 at *;generalize aA t.b.y=b2 at *;generalize aA t.b.z=b3 at *;generalize aA t.c.x=c1 at *;generalize aA t.c.y=c2 at *;generalize aA t.c.z=c3 at *;cbv;refine aQ hc ⟨o1,o2,trivial⟩ ?_;refine fA hc (.s (.v dt)) k1 aOi (dM (cY r9) rfl) rfl 100 ?_;cbv;refine lM hc (n:=2) (.s (.v (D x'))) k2 gH rfl rfl rfl rfl rfl 100 ?_;cbv;refine aQ hc ⟨o3,trivial⟩ ?_;exact eF 1 (S':=I ⟨x',by omega⟩) (K':=K) rfl rfl (show(1:Nat)≤3 by decide) rfl rfl ⟨zS rfl rfl,zS rfl rfl,zS rfl rfl,zS rfl rfl,zI rfl rfl hi1,zS rfl rfl,trivial⟩ (by subst hK;exact⟨⟨.head _,KFr.cst _ _ _⟩,trivial⟩) trivial hyx
 ·have hxN:x=N:=by have:=BE.ltn_f h;omega
  subst hxN;cbv;refine lM hc (n:=2) (.s (.v rr)) g6 dK rfl rfl rfl rfl rfl 100 ?_;cbv;refine aS hc hR rfl (fun X μ a w v' H hv'=>?_);rw[hRR];simp only[aD,aG]at hv';injection hv' with hv'
  exact hv'.symm
theorem aTo {m:Ms}(hm:m.le (2^26)):Pure PP 67 [oF m] (if m.v=0 then .tuple #[.agg #[.string ⟨#[]⟩,.string ⟨#[]⟩,.string ⟨#[]⟩],.int .i64 16]else .tuple #[fL (m.f.scale (1/m.v)),.int .i64 0]):=by
 have k0:=aXm (hm.mono (by decide))
 by_cases h0:m.v=0
 ·rw[if_pos h0];have z0:aA m.v=⟨#[48]⟩:=by rw[h0];exact eX
  unfold oF at *;rw[z0]at k0 ⊢;clear hm h0 z0;generalize aA m.f.x=a1 at *;generalize aA m.f.y=a2 at *;generalize aA m.f.z=a3 at *;generalize aA m.xx=a4 at *;generalize aA m.yy=a5 at *;generalize aA m.zz=a6 at *;generalize aA m.xy=a7 at *;generalize aA m.yz=a8 at *;generalize aA m.zx=a9 at *;refine aH mixed tok [.g [.s (.v ⟨#[48]⟩),.s (.v a1),.s (.v a2),.s (.v a3),.s (.v a4),.s (.v a5),.s (.v a6),.s (.v a7),.s (.v a8),.s (.v a9)]] Tryz.func67 rfl rfl (lbl rfl) rfl fun c hc hR=>?_
  refine zN hc ?_;cbv;refine zC hc (.b (.l true)) k0 aFn ?_;cbv;refine aE hc rfl 100 (fun h=>?_) (fun h=>by rw[aJp]at h;exact absurd rfl (of_decide_eq_false h));cbv;exact aF hc hR rfl rfl
 ·rw[if_neg h0];have k1:=aXt (x:=1) (y:=m.v) h0 sz1 (lTr hm.1 (by decide))
  rw[pY]at k1;have k2:=aYi (u:=m.f) (q:=1/m.v) (hm.2.1.mono (by decide)) (lTr (xD _ _) (by have:=aJw;have:=hm.1;omega))
  have z0:=fun h=>(h0 (is0 (q:=m.v) h)).elim (C:=False)
  unfold oF fL kO at *;clear hm h0;generalize aA (m.f.scale (1/m.v)).x=r1 at *;generalize aA (m.f.scale (1/m.v)).y=r2 at *;generalize aA (m.f.scale (1/m.v)).z=r3 at *;generalize aA (1/m.v)=q at *;generalize aA m.v=a0 at *;generalize aA m.f.x=a1 at *;generalize aA m.f.y=a2 at *;generalize aA m.f.z=a3 at *;generalize aA m.xx=a4 at *;generalize aA m.yy=a5 at *;generalize aA m.zz=a6 at *;generalize aA m.xy=a7 at *;generalize aA m.yz=a8 at *;generalize aA m.zx=a9 at *;refine aH mixed tok [.g [.s (.v a0),.s (.v a1),.s (.v a2),.s (.v a3),.s (.v a4),.s (.v a5),.s (.v a6),.s (.v a7),.s (.v a8),.s (.v a9)]] Tryz.func67 rfl rfl (lbl rfl) rfl fun c hc hR=>?_
  refine zN hc ?_;cbv;refine zC hc (.b (.l true)) k0 aFn ?_;cbv;refine aE hc rfl 100 (fun h=>(z0 h).elim) (fun h=>?_);cbv;refine zC hc (.t [.s (.v q),.i .i64 (.l 0)]) k1 aId ?_;cbv;refine zC hc (.t [.g [.s (.v r1),.s (.v r2),.s (.v r3)],.i .i64 (.l 0)]) k2 aOu ?_;cbv;exact aF hc hR rfl rfl
theorem nC:aB PP 184:=zK
theorem aB9:aB PP 183:=zK
theorem aD0:aB PP 182:=zK
theorem aN5:aB PP 147:=zK
theorem lS:aB PP 211:=zK
structure Pl.fit (p:Pl)(k:Nat):Prop where
 h0:p.n≠V3.zero
 hn:p.n.le k
 ha:sz p.a≤k
theorem Pl.fit.mono {p:Pl}{k m:Nat}(h:p.fit k)(hm:k≤m):p.fit m:=⟨h.h0,h.hn.mono hm,lTr h.ha hm⟩
def Pl.over (p:Pl)(v:V3):Bool:=decide (0<p.height v)
theorem aB6 {p:Pl}{u v:V3}(hp:p.fit (2^24))(hu:u.le (2^24))(hv:v.le (2^24))(hd:p.over u≠p.over v):Pure PP 184 [mY p,fL u,fL v] (fL (p.cut u v)):=by
 have k1:=aDo hp.h0 hp.hn hp.ha hu hv (by
  unfold Pl.over at hd
  by_cases h1:0<p.height u<;>by_cases h2:0<p.height v<;>simp[h1,h2]at hd ⊢)
 clear hp hu hv hd;unfold mY fL kO at *;generalize aA p.n.x=a at *;generalize aA p.n.y=b at *;generalize aA p.n.z=d at *;generalize aA p.a=t at *;generalize aA u.x=a' at *;generalize aA u.y=b' at *;generalize aA u.z=d' at *;generalize aA v.x=a2 at *;generalize aA v.y=b2 at *;generalize aA v.z=d2 at *;generalize aA (p.cut u v).x=y1 at *;generalize aA (p.cut u v).y=y2 at *;generalize aA (p.cut u v).z=y3 at *;refine aH mixed tok [.g [.s (.v a),.s (.v b),.s (.v d),.s (.v t)],iF a' b' d',iF a2 b2 d2] Tryz.func184 rfl rfl (lbl rfl) rfl fun c hc hR=>?_
 refine zN hc ?_;cbv;refine zC hc (.t [iF y1 y2 y3,.i .i64 (.l 0)]) k1 cX ?_;cbv;exact aF hc hR rfl rfl
def Tri.rot (t:Tri):Nat→Tri
 | 0=>t
 | 1=>⟨t.b,t.c,t.a⟩
 | _=>⟨t.c,t.a,t.b⟩
theorem aSk (t:Tri){i:Nat}(hi:i<3):Pure PP 183 [lP t,.int .i64 i] (lP (t.rot i)):=by
 unfold lP
 match i,hi with
 | 0,_=>
  rw[show t.rot 0=t from rfl];generalize aA t.a.x=a1 at *;generalize aA t.a.y=a2 at *;generalize aA t.a.z=a3 at *;generalize aA t.b.x=b1 at *;generalize aA t.b.y=b2 at *;generalize aA t.b.z=b3 at *;generalize aA t.c.x=c1 at *;generalize aA t.c.y=c2 at *;generalize aA t.c.z=c3 at *;refine aH mixed tok [.g [.s (.v a1),.s (.v a2),.s (.v a3),.s (.v b1),.s (.v b2),.s (.v b3),.s (.v c1),.s (.v c2),.s (.v c3)],.i .i64 (.l 0)] Tryz.func183 rfl rfl (lbl rfl) rfl fun c hc hR=>?_
  refine zN hc ?_;cbv;refine aQ hc ⟨pK,pK,trivial⟩ ?_;refine zE hc ?_;cbv;exact aF hc hR rfl rfl
 | 1,_=>
  rw[show t.rot 1=⟨t.b,t.c,t.a⟩ from rfl];generalize aA t.a.x=a1 at *;generalize aA t.a.y=a2 at *;generalize aA t.a.z=a3 at *;generalize aA t.b.x=b1 at *;generalize aA t.b.y=b2 at *;generalize aA t.b.z=b3 at *;generalize aA t.c.x=c1 at *;generalize aA t.c.y=c2 at *;generalize aA t.c.z=c3 at *;refine aH mixed tok [.g [.s (.v a1),.s (.v a2),.s (.v a3),.s (.v b1),.s (.v b2),.s (.v b3),.s (.v c1),.s (.v c2),.s (.v c3)],.i .i64 (.l 1)] Tryz.func183 rfl rfl (lbl rfl) rfl fun c hc hR=>?_
  refine zN hc ?_;cbv;refine aQ hc ⟨pK,pK,trivial⟩ ?_;refine zE hc ?_;cbv;exact aF hc hR rfl rfl
 | 2,_=>
  rw[show t.rot 2=⟨t.c,t.a,t.b⟩ from rfl];generalize aA t.a.x=a1 at *;generalize aA t.a.y=a2 at *;generalize aA t.a.z=a3 at *;generalize aA t.b.x=b1 at *;generalize aA t.b.y=b2 at *;generalize aA t.b.z=b3 at *;generalize aA t.c.x=c1 at *;generalize aA t.c.y=c2 at *;generalize aA t.c.z=c3 at *;refine aH mixed tok [.g [.s (.v a1),.s (.v a2),.s (.v a3),.s (.v b1),.s (.v b2),.s (.v b3),.s (.v c1),.s (.v c2),.s (.v c3)],.i .i64 (.l 2)] Tryz.func183 rfl rfl (lbl rfl) rfl fun c hc hR=>?_
  refine zN hc ?_;cbv;refine aQ hc ⟨pK,pK,trivial⟩ ?_;refine zE hc ?_;cbv;exact aF hc hR rfl rfl
def aF3:Bool→Bool→Bool→Int × Bool
 | true,true,true=>(-1,true)
 | false,false,false=>(-1,false)
 | true,false,false=>(0,true)
 | false,true,false=>(1,true)
 | false,false,true=>(2,true)
 | false,true,true=>(0,false)
 | true,false,true=>(1,false)
 | true,true,false=>(2,false)
def Tri.cutP (t:Tri)(p:Pl):Int × Bool:=aF3 (p.over t.a) (p.over t.b) (p.over t.c)
theorem wM {μ:Mu}{a b d a' b' d':BE}(h1:a.den=a'.den)(h2:b.den=b'.den)(h3:d.den=d'.den):aG μ [.b a,.b b,.b d]=aG μ [.b a',.b b',.b d']:=by
 simp[aG,aD,h1,h2,h3]
theorem bBa {t:Tri}{p:Pl}(hp:p.fit (2^26))(ht:t.le (2^26)):Pure PP 182 [lP t,mY p] (.tuple #[.int .i64 (t.cutP p).1,.bool (t.cutP p).2]):=by
 have k1:=aHz hp.h0 hp.hn hp.ha ht.1
 have k2:=aHz hp.h0 hp.hn hp.ha ht.2.1
 have k3:=aHz hp.h0 hp.hn hp.ha ht.2.2
 have e1:=nY (p.height t.a)
 have e2:=nY (p.height t.b)
 have e3:=nY (p.height t.c)
 obtain⟨r,hr⟩:=nm (t.cutP p);rw[←hr];unfold Tri.cutP Pl.over at hr;rw[←e1,←e2,←e3]at hr;clear e1 e2 e3 hp ht;generalize kA (p.height t.a) 0=s1 at *;generalize kA (p.height t.b) 0=s2 at *;generalize kA (p.height t.c) 0=s3 at *;unfold mY lP fL kO at *;generalize aA p.n.x=q1 at *;generalize aA p.n.y=q2 at *;generalize aA p.n.z=q3 at *;generalize aA p.a=q4 at *;generalize aA t.a.x=a1 at *;generalize aA t.a.y=a2 at *;generalize aA t.a.z=a3 at *;generalize aA t.b.x=b1 at *;generalize aA t.b.y=b2 at *;generalize aA t.b.z=b3 at *;generalize aA t.c.x=c1 at *;generalize aA t.c.y=c2 at *;generalize aA t.c.z=c3 at *;refine aH mixed tok [.g [.s (.v a1),.s (.v a2),.s (.v a3),.s (.v b1),.s (.v b2),.s (.v b3),.s (.v c1),.s (.v c2),.s (.v c3)],.g [.s (.v q1),.s (.v q2),.s (.v q3),.s (.v q4)]] Tryz.func182 rfl rfl (lbl rfl) rfl fun c hc hR=>?_
 refine zN hc ?_;cbv;refine aW 4 (fun p hp=>?_);refine hp _ _ _ ?_;refine zN hc ?_;cbv;refine zC hc (.t [.i .i64 (.v s1),.i .i64 (.l 0)]) k1 lF ?_;cbv;refine aE hc rfl 100 (fun h1=>?_) (fun h1=>?_)
 ·have bb1:decide (0<s1)=true:=h1
  cbv;refine hp _ _ _ ?_;refine zN hc ?_;cbv;refine zC hc (.t [.i .i64 (.v s2),.i .i64 (.l 0)]) k2 lF ?_;cbv;refine aE hc rfl 100 (fun h2=>?_) (fun h2=>?_)
  ·have bb2:decide (0<s2)=true:=h2
   cbv;refine hp _ _ _ ?_;refine zN hc ?_;cbv;refine zC hc (.t [.i .i64 (.v s3),.i .i64 (.l 0)]) k3 lF ?_;cbv;refine aE hc rfl 100 (fun h3=>?_) (fun h3=>?_)
   ·have bb3:decide (0<s3)=true:=h3
    cbv;refine hp _ _ _ ?_;refine zN hc ?_;cbv;exact aF hc hR rfl (by rw[hr,bb1,bb2,bb3];rfl)
   ·have bb3:decide (0<s3)=false:=h3
    cbv;refine gU 2 [.b (.l true),.b (.l true),.b (.l false)] rfl rfl (fun μ=>by rw[wM (a':=.l true) (b':=.l true) (d':=.l false) h1 h2 h3]) ?_;refine hp _ _ _ ?_;refine zN hc ?_;cbv;refine cN hc Tryz.func211 rfl rfl lS rfl (fun c' tm FR hFR hc' L=>?_);refine zN hc' ?_;cbv;refine aW 4 (fun q hq=>?_);refine hq _ _ _ ?_;refine zN hc' ?_;cbv;refine aE hc' rfl 100 (fun h=>nomatch (show false=true from h)) (fun h=>?_);cbv;refine hq _ _ _ ?_;refine zN hc' ?_;cbv;refine aE hc' rfl 100 (fun h=>nomatch (show false=true from h)) (fun h=>?_);cbv;refine hq _ _ _ ?_;refine zN hc' ?_;cbv;refine aE hc' rfl 100 (fun h=>?_) (fun h=>nomatch (show true=false from h));cbv;refine cM hc' L hFR (.head _) rfl ?_;refine zN hc ?_;cbv;exact aF hc hR rfl (by rw[hr,bb1,bb2,bb3];rfl)
  ·have bb2:decide (0<s2)=false:=h2
   cbv;refine hp _ _ _ ?_;refine zN hc ?_;cbv;refine zC hc (.t [.i .i64 (.v s3),.i .i64 (.l 0)]) k3 lF ?_;cbv;refine aE hc rfl 100 (fun h3=>?_) (fun h3=>?_)
   ·have bb3:decide (0<s3)=true:=h3
    cbv;refine gU 2 [.b (.l true),.b (.l false),.b (.l true)] rfl rfl (fun μ=>by rw[wM (a':=.l true) (b':=.l false) (d':=.l true) h1 h2 h3]) ?_;refine hp _ _ _ ?_;refine zN hc ?_;cbv;refine cN hc Tryz.func211 rfl rfl lS rfl (fun c' tm FR hFR hc' L=>?_);refine zN hc' ?_;cbv;refine aW 4 (fun q hq=>?_);refine hq _ _ _ ?_;refine zN hc' ?_;cbv;refine aE hc' rfl 100 (fun h=>nomatch (show false=true from h)) (fun h=>?_);cbv;refine hq _ _ _ ?_;refine zN hc' ?_;cbv;refine aE hc' rfl 100 (fun h=>?_) (fun h=>nomatch (show true=false from h));cbv;refine cM hc' L hFR (.head _) rfl ?_;refine zN hc ?_;cbv;exact aF hc hR rfl (by rw[hr,bb1,bb2,bb3];rfl)
   ·have bb3:decide (0<s3)=false:=h3
    cbv;refine gU 2 [.b (.l true),.b (.l false),.b (.l false)] rfl rfl (fun μ=>by rw[wM (a':=.l true) (b':=.l false) (d':=.l false) h1 h2 h3]) ?_;refine hp _ _ _ ?_;refine zN hc ?_;cbv;refine cN hc Tryz.func211 rfl rfl lS rfl (fun c' tm FR hFR hc' L=>?_);refine zN hc' ?_;cbv;refine aW 4 (fun q hq=>?_);refine hq _ _ _ ?_;refine zN hc' ?_;cbv;refine aE hc' rfl 100 (fun h=>?_) (fun h=>nomatch (show true=false from h));cbv;refine cM hc' L hFR (.head _) rfl ?_;refine zN hc ?_;cbv;exact aF hc hR rfl (by rw[hr,bb1,bb2,bb3];rfl)
 ·have bb1:decide (0<s1)=false:=h1
  cbv;refine hp _ _ _ ?_;refine zN hc ?_;cbv;refine zC hc (.t [.i .i64 (.v s2),.i .i64 (.l 0)]) k2 lF ?_;cbv;refine aE hc rfl 100 (fun h2=>?_) (fun h2=>?_)
  ·have bb2:decide (0<s2)=true:=h2
   cbv;refine hp _ _ _ ?_;refine zN hc ?_;cbv;refine zC hc (.t [.i .i64 (.v s3),.i .i64 (.l 0)]) k3 lF ?_;cbv;refine aE hc rfl 100 (fun h3=>?_) (fun h3=>?_)
   ·have bb3:decide (0<s3)=true:=h3
    cbv;refine gU 2 [.b (.l false),.b (.l true),.b (.l true)] rfl rfl (fun μ=>by rw[wM (a':=.l false) (b':=.l true) (d':=.l true) h1 h2 h3]) ?_;refine hp _ _ _ ?_;refine zN hc ?_;cbv;refine cN hc Tryz.func211 rfl rfl lS rfl (fun c' tm FR hFR hc' L=>?_);refine zN hc' ?_;cbv;refine aW 4 (fun q hq=>?_);refine hq _ _ _ ?_;refine zN hc' ?_;cbv;refine aE hc' rfl 100 (fun h=>?_) (fun h=>nomatch (show true=false from h));cbv;refine cM hc' L hFR (.head _) rfl ?_;refine zN hc ?_;cbv;exact aF hc hR rfl (by rw[hr,bb1,bb2,bb3];rfl)
   ·have bb3:decide (0<s3)=false:=h3
    cbv;refine gU 2 [.b (.l false),.b (.l true),.b (.l false)] rfl rfl (fun μ=>by rw[wM (a':=.l false) (b':=.l true) (d':=.l false) h1 h2 h3]) ?_;refine hp _ _ _ ?_;refine zN hc ?_;cbv;refine cN hc Tryz.func211 rfl rfl lS rfl (fun c' tm FR hFR hc' L=>?_);refine zN hc' ?_;cbv;refine aW 4 (fun q hq=>?_);refine hq _ _ _ ?_;refine zN hc' ?_;cbv;refine aE hc' rfl 100 (fun h=>nomatch (show false=true from h)) (fun h=>?_);cbv;refine hq _ _ _ ?_;refine zN hc' ?_;cbv;refine aE hc' rfl 100 (fun h=>?_) (fun h=>nomatch (show true=false from h));cbv;refine cM hc' L hFR (.head _) rfl ?_;refine zN hc ?_;cbv;exact aF hc hR rfl (by rw[hr,bb1,bb2,bb3];rfl)
  ·have bb2:decide (0<s2)=false:=h2
   cbv;refine hp _ _ _ ?_;refine zN hc ?_;cbv;refine zC hc (.t [.i .i64 (.v s3),.i .i64 (.l 0)]) k3 lF ?_;cbv;refine aE hc rfl 100 (fun h3=>?_) (fun h3=>?_)
   ·have bb3:decide (0<s3)=true:=h3
    cbv;refine gU 2 [.b (.l false),.b (.l false),.b (.l true)] rfl rfl (fun μ=>by rw[wM (a':=.l false) (b':=.l false) (d':=.l true) h1 h2 h3]) ?_;refine hp _ _ _ ?_;refine zN hc ?_;cbv;refine cN hc Tryz.func211 rfl rfl lS rfl (fun c' tm FR hFR hc' L=>?_);refine zN hc' ?_;cbv;refine aW 4 (fun q hq=>?_);refine hq _ _ _ ?_;refine zN hc' ?_;cbv;refine aE hc' rfl 100 (fun h=>nomatch (show false=true from h)) (fun h=>?_);cbv;refine hq _ _ _ ?_;refine zN hc' ?_;cbv;refine aE hc' rfl 100 (fun h=>nomatch (show false=true from h)) (fun h=>?_);cbv;refine hq _ _ _ ?_;refine zN hc' ?_;cbv;refine aE hc' rfl 100 (fun h=>?_) (fun h=>nomatch (show true=false from h));cbv;refine cM hc' L hFR (.head _) rfl ?_;refine zN hc ?_;cbv;exact aF hc hR rfl (by rw[hr,bb1,bb2,bb3];rfl)
   ·have bb3:decide (0<s3)=false:=h3
    cbv;refine hp _ _ _ ?_;refine zN hc ?_;cbv;exact aF hc hR rfl (by rw[hr,bb1,bb2,bb3];rfl)
end Go.Ai
