/- Part 18 of the proof: garboardlaw17.FloatMirrors returns true, where what it reads is of bulk at most 1048576. -/
import Derived.Test.YtmnancfboococaaGreatDoorPm8
import Derived.Test.YtmnancfboococaaGreatDoorPm16
set_option linter.all false
namespace Go.Ai
open Go Go.Proofs Go.Num
theorem qT:aB PP 100:=zK
theorem bCp {a b c d e f:ByteArray}:(BE.not ((BE.seq (.v a) (.v d)).and ((BE.seq (.v b) (.v e)).and (BE.seq (.v c) (.v f))))).den=decide ([a,b,c]≠[d,e,f]):=by
 show(!((BE.seq (.v a) (.v d)).den&&((BE.seq (.v b) (.v e)).den&&(BE.seq (.v c) (.v f)).den)))=_
 have key:∀x y:ByteArray,(BE.seq (.v x) (.v y)).den=decide (x=y):=fun x y=>by
  rw[aKv];exact decide_eq_decide.2 ⟨fun h=>jH h,fun h=>by rw[h]⟩
 rw[key,key,key]
 by_cases h1:a=d<;>by_cases h2:b=e<;>by_cases h3:c=f<;>simp[h1,h2,h3]
theorem filter_lt {α:Type}{p q:α→Bool}{a:α}:∀{l:List α},(∀x,p x=true→q x=true)→a∈l→q a=true→p a=false→(l.filter p).length<(l.filter q).length
 | [],_,h,_,_=>by cases h
 | x::l,hpq,h,ha,hb=>by
  have le:∀(l:List α),(l.filter p).length≤(l.filter q).length:=by
   intro l
   induction l with
   | nil=>exact lRf _
   | cons y l ih=>
    simp only[List.filter_cons];cases hp:p y with
    | true=>simp only[hpq y hp,if_true,List.length_cons];omega
    | false=>cases hq:q y<;>simp<;>omega
  rcases List.mem_cons.1 h with e | e
  ·subst e;simp only[List.filter_cons,ha,hb,if_true,Bool.false_eq_true,if_false,List.length_cons];have:=le l;omega
  ·have:=filter_lt hpq e ha hb
   simp only[List.filter_cons];cases hp:p x with
   | true=>simp only[hpq x hp,if_true,List.length_cons];omega
   | false=>cases hq:q x<;>simp<;>omega
def aHr (Z:Nat)(seen:Array Nat):Nat:=((List.range Z).filter fun j=> !seen.contains j).length
theorem tX {Z j:Nat}{seen:Array Nat}(hj:j<Z)(hs:j∉seen):aHr Z (seen.push j)<aHr Z seen:=by
 unfold aHr;refine filter_lt (a:=j) (fun x hx=>?_) (by simpa using hj) (by simpa using hs) (by simp);simp at hx ⊢;exact hx.1
theorem aFi {v:Int}{ks:List ByteArray}:yS (ks,v)=true↔v≠0∧ks.take 3≠ks.drop 3:=by unfold yS;simp
theorem aQi {l:List Tri}{j:Nat}{x:List ByteArray × Int}(h:(xD l)[j]?=some x)(hb:yS x=true):gZ l=17:=by
 unfold gZ fL;rw[if_neg];intro h2;rw[List.all_eq_true]at h2;have:=h2 x (List.mem_of_getElem? h)
 rw[hb]at this;cases this
theorem aUk {l:List Tri}(h:∀(j:Nat) (x:List ByteArray × Int),(xD l)[j]?=some x→yS x=false):gZ l=0:=by
 unfold gZ fL;rw[if_pos];rw[List.all_eq_true];intro x hx;obtain⟨j,hj⟩:=List.getElem?_of_mem hx;rw[h j x hj];rfl
theorem xO {l:List Tri}(hl:∀t,t∈l→t.le (2^29))(hn:l.length≤512){X:Nat→Prop}{w:World}{v:Value}(hX:∀b,X b→b<w.heap.size)(hv:(rowS l.length (gQ l)).p v X w):
  Fn PP 100 [v] X w (dJ (.int .i64 (gZ l))):=by
 obtain⟨R,hRR⟩:=nm (dJ (.int .i64 (gZ l)));obtain⟨N,hN⟩:=nm (l.length);obtain⟨Q,hQ⟩:=nm (9*N);rw[←hN]at hv hn;obtain⟨K,hK⟩:=nm ([KF.cst v (rowS N (gQ l))]);rw[←hRR];refine bE mixed tok [.q v] (K:=K) Tryz.func100 rfl rfl (lbl rfl) rfl hX (by rw[hK];simp;exact hv) fun c hc hR=>?_
 refine iB 0 N Q (gQ l) (by rw[fP,hQ,hN]) rfl rfl (fun X μ a w v' H hv'=>cE H (by rw[hK];exact .head _) hv') (fun f cap hf dI=>?_);refine zN hc ?_;cbv;refine aE hc rfl 100 (fun h=>?_) (fun h=>?_)
 ·have h:(512:Int)<(N:Int):=BE.lt_t h
  omega
 cbv;clear h;let ι:={x:Nat//x≤N}
 let I:ι→St:=fun x=>⟨[(0,.sl 0 0 (.n N) cap),(18,.sl 0 0 (.n N) cap),(19,.i .i64 (.n N)),(20,.i .i64 (.n x.1))],[.xs Q f],[]⟩
 let x0:ι:=⟨0,Nat.zero_le _⟩
 refine zU 1 (S':=I x0) (K':=K) ⟨zS rfl rfl,zS rfl rfl,zS rfl rfl,zS rfl rfl,trivial⟩ (by subst hK;exact⟨⟨.head _,KFr.cst _ _ _⟩,trivial⟩) trivial ?_;refine bP hc I (fun x=>N - x.1) x0 100 ?_;rintro p ⟨x,hx⟩ hy;cbv;refine aE hc rfl 100 (fun h=>?_) (fun h=>?_)
 ·have hxN:x<N:=BE.ltn_t h
  have ht:l[x]?=some l[x]:=by simp
  obtain⟨t,htt⟩:=nm (l[x]);rw[←htt]at ht;have aBd:=hl t (List.mem_of_getElem? ht)
  obtain⟨f0,f1,f2,f3,f4,f5,f6,f7,f8⟩:=aVz hf ht;have k1:=dE aBd.1
  have k2:=dE aBd.2.1
  have k3:=dE aBd.2.2
  unfold fS kR at k1 k2 k3;have o1:(Obl.ltE (.n x) (.n N)).ok:=by show _∧_;simp only[IE.den];omega
  have o2:(Obl.ix 0 (.n x) 9 0 9 Q).ok:=by show aX 0 (x:Int) 9 0+9≤Q;simp only[aX,Int.toNat_natCast];omega
  have o3:(Obl.inR .i64 (.add (.n x) (.l 1))).ok:=by show lo _≤_∧_≤hi _;simp only[lo,hi,IE.den];omega
  obtain⟨x',hx'⟩:=nm (x+1);have hi1:((IE.n x).add (IE.l 1)).den=(IE.n x').den:=by simp only[IE.den,hx'];omega
  have hyx:=hy ⟨x',by omega⟩ (by show N - x'<N - x;omega)
  clear hy;have r9:=re9 f0 f1 f2 f3 f4 f5 f6 f7 f8
  clear f0 f1 f2 f3 f4 f5 f6 f7 f8;generalize aA t.a.x=a1 at *;generalize aA t.a.y=a2 at *;generalize aA t.a.z=a3 at *;generalize aA t.b.x=b1 at *;generalize aA t.b.y=b2 at *;generalize aA t.b.z=b3 at *;generalize aA t.c.x=c1 at *;generalize aA t.c.y=c2 at *;generalize aA t.c.z=c3 at *;cbv;refine aQ hc ⟨o1,o2,trivial⟩ ?_;refine bC2 24 (.g [.s (.v a1),.s (.v a2),.s (.v a3),.s (.v b1),.s (.v b2),.s (.v b3),.s (.v c1),.s (.v c2),.s (.v c3)]) rfl rfl (dG r9) ?_;refine aW 4 (fun q hq=>?_);refine hq _ _ _ ?_;refine zN hc ?_;cbv;refine zC hc (.b (.l true)) k1 eI ?_;cbv;refine hq _ _ _ ?_;refine zN hc ?_;cbv;refine zC hc (.b (.l true)) k2 eI ?_;cbv;refine hq _ _ _ ?_;refine zN hc ?_;cbv;refine zC hc (.b (.l true)) k3 eI ?_;cbv;refine hq _ _ _ ?_;refine zN hc ?_;cbv;refine aQ hc ⟨o3,trivial⟩ ?_;exact eG 1 (S':=I ⟨x',by omega⟩) (K':=K) rfl rfl (show(1:Nat)≤5 by decide) rfl rfl ⟨zS rfl rfl,zS rfl rfl,zS rfl rfl,zI rfl rfl hi1,trivial⟩ (by subst hK;exact⟨⟨.head _,KFr.cst _ _ _⟩,trivial⟩) trivial hyx
 ·cbv;clear hy;obtain⟨M,hM⟩:∃M:Nat→eV→OF,∀r es,M r es=OF.mp r es:=⟨OF.mp,fun _ _=>rfl⟩;obtain⟨E,hE⟩:∃E:Nat→eV,∀x,E x=xD (l.take x):=⟨_,fun _=>rfl⟩;refine aD5 hc _ rfl rfl rfl hM rfl (fun r=>?_);refine zN hc ?_;cbv;clear h;let J:ι→St:=fun x=>⟨[(0,.sl 0 0 (.n N) cap),(7,.o (.map (some r))),(34,.sl 0 0 (.n N) cap),(35,.i .i64 (.n N)),(36,.i .i64 (.n x.1))],[.xs Q f],[M r (E x.1)]⟩
  have hE0:([]:eV)=E 0:=by rw[hE];rfl
  rw[hE0];refine zU 1 (S':=J x0) (K':=K) ⟨zS rfl rfl,zS rfl rfl,zS rfl rfl,zS rfl rfl,zS rfl rfl,trivial⟩ (by subst hK;exact⟨⟨.head _,KFr.cst _ _ _⟩,trivial⟩) ⟨by rw[hM];exact OFr.mp _ _ _,trivial⟩ ?_;clear hE0;refine bP hc J (fun x=>N - x.1) x0 100 ?_;clear hx x;rintro p ⟨x,hx⟩ hy;cbv;refine aE hc rfl 100 (fun h=>?_) (fun h=>?_)
  rotate_left
  ·cbv;clear hy;have hxN:x=N:=by have:=BE.ltn_f h;omega
   obtain⟨es,hes⟩:=nm (E x);rw[show E (Subtype.val (⟨x,hx⟩:ι))=es from hes.symm];have aYt:es=xD l:=by rw[hes,hE,hxN,hN,List.take_of_length_le (lRf _)]
   have hok:iI 6 es:=by rw[aYt];have:=(aAq l l.length (lRf _)).1;rwa [List.take_of_length_le (lRf _)]at this
   obtain⟨T,hT⟩:∃T:Nat→Nat→Nat→Array Nat→OF,∀a b c d,T a b c d=OF.it a b c d:=⟨OF.it,fun _ _ _ _=>rfl⟩;obtain⟨Z,hZ⟩:=nm (es.length);refine aM1 hc _ rfl rfl rfl iX [] hM hT rfl rfl rfl (fun q=>?_);rw[←hZ];refine zN hc ?_;cbv;let κ:={seen:Array Nat// ∀j,j∈seen→∀y,es[j]?=some y→yS y=false}
   let H:κ→St:=fun u=>⟨[(69,.o (.pointer (some ⟨q,0,none⟩)))],[],[T q r Z u.1,M r es]⟩
   let u0:κ:=⟨#[],fun j hj=>by simp at hj⟩
   refine zU 0 (S':=H u0) (K':=K) ⟨zS rfl rfl,trivial⟩ (by subst hK;exact⟨⟨.head _,KFr.cst _ _ _⟩,trivial⟩) ⟨by rw[hT];exact OFr.it _ _ _ _ _,by rw[hM];exact OFr.mp _ _ _,trivial⟩ ?_;refine bP hc H (fun u=>aHr Z u.1) u0 100 ?_;rintro p ⟨seen,aWi⟩ hy;cbv
   dsimp only[H]
   rw[hZ];refine aSq hc _ rfl rfl rfl hM hT rfl rfl [] rfl (.tail _ (.head _)) (fun rE=>?_) (fun j ks v hj hns=>?_)
   ·have aRd:gZ l=0:=aUk (fun j y hj=>by rw[←aYt]at hj;exact aWi j (rE j (List.getElem?_eq_some_iff.1 hj).1) y hj)
    rw[aRd]at hRR;refine zN hc ?_;cbv;refine aS hc hR rfl (fun X μ a w v' H hv'=>?_);rw[hRR];simp only[aC]at hv';injection hv' with hv'
    exact hv'.symm
   ·have hks:ks.length=6:=hok (ks,v) (List.mem_of_getElem? hj)
    match ks,hks with
    | [a1,a2,a3,b1,b2,b3],_=>
    have hsl:=hy
    refine zN hc ?_;cbv;refine aMx hc _ rfl rfl rfl hM hT rfl rfl (.head _) (.tail _ (.head _)) hj ?_;refine zN hc ?_;cbv;have hgo:yS ([a1,a2,a3,b1,b2,b3],v)=false→∀i,i∈seen.push j→∀y,es[i]?=some y→yS y=false:=fun hb i hi y hy=>by
     rcases Array.mem_push.1 hi with e | e
     ·exact aWi i e y hy
     ·subst e;rw[hj]at hy;injection hy with hy;subst hy;exact hb
    rw[←hZ];refine bT hc 77 rfl rfl 100 (fun h1=>?_) (fun h1=>?_)
    ·have hv:v≠0:=by
      have:(!decide (v=0))=true:=h1
      simpa using this
     cbv;refine aE hc rfl 100 (fun h2=>?_) (fun h2=>?_)
     ·rw[bCp]at h2;have aRd:gZ l=17:=aQi (by rw[←aYt];exact hj) ((aFi (ks:=[a1,a2,a3,b1,b2,b3])).2 ⟨hv,(of_decide_eq_true h2:[a1,a2,a3]≠[b1,b2,b3])⟩)
      rw[aRd]at hRR;cbv;refine aS hc hR rfl (fun X μ a w v' H hv'=>?_);rw[hRR];simp only[aC]at hv';injection hv' with hv'
      exact hv'.symm
     ·rw[bCp]at h2;have hb:yS ([a1,a2,a3,b1,b2,b3],v)=false:=by
       rw[Bool.eq_false_iff];intro hb;exact(of_decide_eq_false h2:¬[a1,a2,a3]≠[b1,b2,b3]) (aFi.1 hb).2
      let u1:κ:=⟨seen.push j,hgo hb⟩
      cbv;exact zU 0 (S':=H u1) (K':=K) ⟨zS rfl rfl,trivial⟩ (by subst hK;exact⟨⟨.head _,KFr.cst _ _ _⟩,trivial⟩) ⟨by rw[hT];exact OFr.it _ _ _ _ _,by rw[hM];exact OFr.mp _ _ _,trivial⟩ (hy u1 (tX (by rw[hZ];exact(List.getElem?_eq_some_iff.1 hj).1) hns))
    ·have hv:v=0:=by
      have:(!decide (v=0))=false:=h1
      simpa using this
     have hb:yS ([a1,a2,a3,b1,b2,b3],v)=false:=by
      rw[Bool.eq_false_iff];intro hb;exact(aFi.1 hb).1 hv
     let u1:κ:=⟨seen.push j,hgo hb⟩
     cbv;exact zU 0 (S':=H u1) (K':=K) ⟨zS rfl rfl,trivial⟩ (by subst hK;exact⟨⟨.head _,KFr.cst _ _ _⟩,trivial⟩) ⟨by rw[hT];exact OFr.it _ _ _ _ _,by rw[hM];exact OFr.mp _ _ _,trivial⟩ (hy u1 (tX (by rw[hZ];exact(List.getElem?_eq_some_iff.1 hj).1) hns))
  have hxN:x<N:=BE.ltn_t h
  have ht:l[x]?=some l[x]:=by simp
  obtain⟨t,htt⟩:=nm (l[x]);rw[←htt]at ht;obtain⟨f0,f1,f2,f3,f4,f5,f6,f7,f8⟩:=aVz hf ht;have o1:(Obl.ltE (.n x) (.n N)).ok:=by show _∧_;simp only[IE.den];omega
  have o2:(Obl.ix 0 (.n x) 9 0 9 Q).ok:=by show aX 0 (x:Int) 9 0+9≤Q;simp only[aX,Int.toNat_natCast];omega
  have o3:(Obl.inR .i64 (.add (.n x) (.l 1))).ok:=by show lo _≤_∧_≤hi _;simp only[lo,hi,IE.den];omega
  obtain⟨x',hx'⟩:=nm (x+1);have hi1:((IE.n x).add (IE.l 1)).den=(IE.n x').den:=by simp only[IE.den,hx'];omega
  have hyx:=hy ⟨x',by omega⟩ (by show N - x'<N - x;omega)
  clear hy;have v0:nG (6*x) (E x):=by rw[hE];exact aAq l x (by omega)
  obtain⟨e1,he1⟩:∃e,e=fH (qL t.a t.b) 1 (E x):=⟨_,rfl⟩;have v1:nG (6*x+1) e1:=by rw[he1];exact v0.add rfl (by omega)
  have g1:-4611686018427387904≤fT (E x) (qL t.a t.b)∧fT (E x) (qL t.a t.b)≤4611686018427387904:=by have:=v0.get (qL t.a t.b);omega
  obtain⟨e2,he2⟩:∃e,e=fH (qL t.b t.a) (-1) e1:=⟨_,rfl⟩;have v2:nG (6*x+2) e2:=by rw[he2];exact v1.add rfl (by omega)
  have g2:-4611686018427387904≤fT e1 (qL t.b t.a)∧fT e1 (qL t.b t.a)≤4611686018427387904:=by have:=v1.get (qL t.b t.a);omega
  obtain⟨e3,he3⟩:∃e,e=fH (qL t.b t.c) 1 e2:=⟨_,rfl⟩;have v3:nG (6*x+3) e3:=by rw[he3];exact v2.add rfl (by omega)
  have g3:-4611686018427387904≤fT e2 (qL t.b t.c)∧fT e2 (qL t.b t.c)≤4611686018427387904:=by have:=v2.get (qL t.b t.c);omega
  obtain⟨e4,he4⟩:∃e,e=fH (qL t.c t.b) (-1) e3:=⟨_,rfl⟩;have v4:nG (6*x+4) e4:=by rw[he4];exact v3.add rfl (by omega)
  have g4:-4611686018427387904≤fT e3 (qL t.c t.b)∧fT e3 (qL t.c t.b)≤4611686018427387904:=by have:=v3.get (qL t.c t.b);omega
  obtain⟨e5,he5⟩:∃e,e=fH (qL t.c t.a) 1 e4:=⟨_,rfl⟩;have v5:nG (6*x+5) e5:=by rw[he5];exact v4.add rfl (by omega)
  have g5:-4611686018427387904≤fT e4 (qL t.c t.a)∧fT e4 (qL t.c t.a)≤4611686018427387904:=by have:=v4.get (qL t.c t.a);omega
  obtain⟨e6,he6⟩:∃e,e=fH (qL t.a t.c) (-1) e5:=⟨_,rfl⟩;have v6:nG (6*x+6) e6:=by rw[he6];exact v5.add rfl (by omega)
  have g6:-4611686018427387904≤fT e5 (qL t.a t.c)∧fT e5 (qL t.a t.c)≤4611686018427387904:=by have:=v5.get (qL t.a t.c);omega
  have hE':E x'=e6:=by
   rw[hE,hx',aDb ht,←hE,he6,he5,he4,he3,he2,he1];rfl
  have r9:=re9 f0 f1 f2 f3 f4 f5 f6 f7 f8
  clear f0 f1 f2 f3 f4 f5 f6 f7 f8;unfold qL at *;generalize aA t.a.x=a1 at *;generalize aA t.a.y=a2 at *;generalize aA t.a.z=a3 at *;generalize aA t.b.x=b1 at *;generalize aA t.b.y=b2 at *;generalize aA t.b.z=b3 at *;generalize aA t.c.x=c1 at *;generalize aA t.c.y=c2 at *;generalize aA t.c.z=c3 at *;cbv;refine aQ hc ⟨o1,o2,trivial⟩ ?_;refine bC2 40 (.g [.s (.v a1),.s (.v a2),.s (.v a3),.s (.v b1),.s (.v b2),.s (.v b3),.s (.v c1),.s (.v c2),.s (.v c3)]) rfl rfl (dG r9) ?_;refine gM 1 [.s (.v a1),.s (.v a2),.s (.v a3),.s (.v b1),.s (.v b2),.s (.v b3),.s (.v c1),.s (.v c2),.s (.v c3)] rfl rfl r9 ?_;refine aW 4 (fun q hq=>?_);refine hq _ _ _ ?_;refine zN hc ?_;cbv;refine aQ hc ⟨pR,trivial⟩ ?_;refine aD4 hc iX hM [] (a:=50) (b:=53) (d4:=54) (d5:=55) (d6:=56) (d7:=57) (post:=[]) (es:=(E x)) (ks:=[a1,a2,a3,b1,b2,b3]) (1) rfl rfl rfl rfl rfl rfl rfl rfl rfl rfl rfl rfl rfl rfl rfl rfl rfl rfl rfl rfl rfl (.inl ⟨rfl,rfl⟩) g1 rfl (by decide) rfl rfl rfl rfl v0.1 rfl rfl rfl rfl rfl (by kernel_rfl) (by kernel_rfl) (by kernel_rfl) (by kernel_rfl) (by kernel_rfl) (by kernel_rfl) (by kernel_rfl) (by kernel_rfl) (by kernel_rfl) (by kernel_rfl) (by kernel_rfl) (by rfl) ?_;rw[←he1];refine zN hc ?_;cbv;refine aD4 hc iX hM [] (a:=58) (b:=61) (d4:=62) (d5:=63) (d6:=64) (d7:=65) (post:=[]) (es:=e1) (ks:=[b1,b2,b3,a1,a2,a3]) (-1) rfl rfl rfl rfl rfl rfl rfl rfl rfl rfl rfl rfl rfl rfl rfl rfl rfl rfl rfl rfl rfl (.inr ⟨rfl,rfl⟩) g2 rfl (by decide) rfl rfl rfl rfl v1.1 rfl rfl rfl rfl rfl (by kernel_rfl) (by kernel_rfl) (by kernel_rfl) (by kernel_rfl) (by kernel_rfl) (by kernel_rfl) (by kernel_rfl) (by kernel_rfl) (by kernel_rfl) (by kernel_rfl) (by kernel_rfl) (by rfl) ?_;rw[←he2];refine zN hc ?_;cbv;refine hq _ _ _ ?_;refine zN hc ?_;cbv;refine aQ hc ⟨pR,trivial⟩ ?_;refine aD4 hc iX hM [] (a:=50) (b:=53) (d4:=54) (d5:=55) (d6:=56) (d7:=57) (post:=[]) (es:=e2) (ks:=[b1,b2,b3,c1,c2,c3]) (1) rfl rfl rfl rfl rfl rfl rfl rfl rfl rfl rfl rfl rfl rfl rfl rfl rfl rfl rfl rfl rfl (.inl ⟨rfl,rfl⟩) g3 rfl (by decide) rfl rfl rfl rfl v2.1 rfl rfl rfl rfl rfl (by kernel_rfl) (by kernel_rfl) (by kernel_rfl) (by kernel_rfl) (by kernel_rfl) (by kernel_rfl) (by kernel_rfl) (by kernel_rfl) (by kernel_rfl) (by kernel_rfl) (by kernel_rfl) (by rfl) ?_;rw[←he3];refine zN hc ?_;cbv;refine aD4 hc iX hM [] (a:=58) (b:=61) (d4:=62) (d5:=63) (d6:=64) (d7:=65) (post:=[]) (es:=e3) (ks:=[c1,c2,c3,b1,b2,b3]) (-1) rfl rfl rfl rfl rfl rfl rfl rfl rfl rfl rfl rfl rfl rfl rfl rfl rfl rfl rfl rfl rfl (.inr ⟨rfl,rfl⟩) g4 rfl (by decide) rfl rfl rfl rfl v3.1 rfl rfl rfl rfl rfl (by kernel_rfl) (by kernel_rfl) (by kernel_rfl) (by kernel_rfl) (by kernel_rfl) (by kernel_rfl) (by kernel_rfl) (by kernel_rfl) (by kernel_rfl) (by kernel_rfl) (by kernel_rfl) (by rfl) ?_;rw[←he4];refine zN hc ?_;cbv;refine hq _ _ _ ?_;refine zN hc ?_;cbv;refine aQ hc ⟨pR,trivial⟩ ?_;refine aD4 hc iX hM [] (a:=50) (b:=53) (d4:=54) (d5:=55) (d6:=56) (d7:=57) (post:=[]) (es:=e4) (ks:=[c1,c2,c3,a1,a2,a3]) (1) rfl rfl rfl rfl rfl rfl rfl rfl rfl rfl rfl rfl rfl rfl rfl rfl rfl rfl rfl rfl rfl (.inl ⟨rfl,rfl⟩) g5 rfl (by decide) rfl rfl rfl rfl v4.1 rfl rfl rfl rfl rfl (by kernel_rfl) (by kernel_rfl) (by kernel_rfl) (by kernel_rfl) (by kernel_rfl) (by kernel_rfl) (by kernel_rfl) (by kernel_rfl) (by kernel_rfl) (by kernel_rfl) (by kernel_rfl) (by rfl) ?_;rw[←he5];refine zN hc ?_;cbv;refine aD4 hc iX hM [] (a:=58) (b:=61) (d4:=62) (d5:=63) (d6:=64) (d7:=65) (post:=[]) (es:=e5) (ks:=[a1,a2,a3,c1,c2,c3]) (-1) rfl rfl rfl rfl rfl rfl rfl rfl rfl rfl rfl rfl rfl rfl rfl rfl rfl rfl rfl rfl rfl (.inr ⟨rfl,rfl⟩) g6 rfl (by decide) rfl rfl rfl rfl v5.1 rfl rfl rfl rfl rfl (by kernel_rfl) (by kernel_rfl) (by kernel_rfl) (by kernel_rfl) (by kernel_rfl) (by kernel_rfl) (by kernel_rfl) (by kernel_rfl) (by kernel_rfl) (by kernel_rfl) (by kernel_rfl) (by rfl) ?_;rw[←he6];refine zN hc ?_;cbv;refine hq _ _ _ ?_;refine zN hc ?_;cbv;refine aQ hc ⟨o3,trivial⟩ ?_;rw[←hE'];exact eG 1 (S':=J ⟨x',by omega⟩) (K':=K) rfl rfl (show(1:Nat)≤8 by decide) rfl rfl ⟨zS rfl rfl,zS rfl rfl,zS rfl rfl,zS rfl rfl,zI rfl rfl hi1,trivial⟩ (by subst hK;exact⟨⟨.head _,KFr.cst _ _ _⟩,trivial⟩) ⟨by rw[hM];exact OFr.mp _ _ _,trivial⟩ hyx
theorem aL2 (x y:Rat):decide (kE x y<0)=decide (x<y):=by
 unfold kE
 by_cases h:x<y
 ·simp[h]
 ·by_cases h2:y<x<;>simp[h,h2]
theorem aEn:aB PP 210:=zK
theorem aEp:aB PP 197:=zK
theorem wR:aB PP 208:=zK
theorem aEo:aB PP 209:=zK
theorem nJ:aB PP 196:=zK
theorem aCz:aB PP 166:=zK
theorem uK:aB PP 127:=zK
theorem aGa:aB PP 207:=zK
theorem aPj:aB PP 175:=zK
theorem aPk:aB PP 176:=zK
theorem bAr {x y:Rat}(hx:sz x≤2^29)(hy:sz y≤2^29):Pure PP 210 [.string (aA x),.string (aA y)] (.string (aA (x+y))):=by
 have h1:=aBr hx hy
 generalize aA (x+y)=r at h1 ⊢;generalize aA x=sx at h1 ⊢;generalize aA y=sy at h1 ⊢;refine aG mixed tok [.s (.v sx),.s (.v sy)] Tryz.func210 rfl rfl (lbl rfl) rfl fun c hc hR=>?_
 refine zN hc ?_;cbv;refine zC hc (.t [.s (.v r),.i .i64 (.l 0)]) h1 mD ?_;cbv;exact aD hc hR rfl rfl
theorem bAt {x y:Rat}(hx:sz x≤2^29)(hy:sz y≤2^29):Pure PP 197 [.string (aA x),.string (aA y)] (.string (aA (x - y))):=by
 have h1:=bCv hx hy
 generalize aA (x - y)=r at h1 ⊢;generalize aA x=sx at h1 ⊢;generalize aA y=sy at h1 ⊢;refine aG mixed tok [.s (.v sx),.s (.v sy)] Tryz.func197 rfl rfl (lbl rfl) rfl fun c hc hR=>?_
 refine zN hc ?_;cbv;refine zC hc (.t [.s (.v r),.i .i64 (.l 0)]) h1 aP3 ?_;cbv;exact aD hc hR rfl rfl
theorem aXd {x y:Rat}(hx:sz x≤2^29)(hy:sz y≤2^29):Pure PP 208 [.string (aA x),.string (aA y)] (.string (aA (x*y))):=by
 have h1:=aH5 hx hy
 generalize aA (x*y)=r at h1 ⊢;generalize aA x=sx at h1 ⊢;generalize aA y=sy at h1 ⊢;refine aG mixed tok [.s (.v sx),.s (.v sy)] Tryz.func208 rfl rfl (lbl rfl) rfl fun c hc hR=>?_
 refine zN hc ?_;cbv;refine zC hc (.t [.s (.v r),.i .i64 (.l 0)]) h1 qV ?_;cbv;exact aD hc hR rfl rfl
theorem bAs {x y:Rat}(h0:y≠0)(hx:sz x≤2^29)(hy:sz y≤2^29):Pure PP 209 [.string (aA x),.string (aA y)] (.string (aA (x/y))):=by
 have h1:=aZt h0 hx hy
 generalize aA (x/y)=r at h1 ⊢;generalize aA x=sx at h1 ⊢;generalize aA y=sy at h1 ⊢;refine aG mixed tok [.s (.v sx),.s (.v sy)] Tryz.func209 rfl rfl (lbl rfl) rfl fun c hc hR=>?_
 refine zN hc ?_;cbv;refine zC hc (.t [.s (.v r),.i .i64 (.l 0)]) h1 aJd ?_;cbv;exact aD hc hR rfl rfl
theorem aV4 {x y:Rat}(hx:sz x≤2^29)(hy:sz y≤2^29):Pure PP 196 [.string (aA x),.string (aA y)] (.bool (decide (x<y))):=by
 have h1:=aBs hx hy
 have e:=aL2 x y
 generalize decide (x<y)=b at e ⊢;generalize kE x y=r at h1 e;generalize aA x=sx at h1 ⊢;generalize aA y=sy at h1 ⊢;refine aG mixed tok [.s (.v sx),.s (.v sy)] Tryz.func196 rfl rfl (lbl rfl) rfl fun c hc hR=>?_
 refine zN hc ?_;cbv;refine zC hc (.t [.i .i64 (.v r),.i .i64 (.l 0)]) h1 tL ?_;cbv;exact aD hc hR rfl (by show some (Value.bool (decide (r<0)))=_;rw[e])
theorem aLd {x y:Rat}(hx:sz x≤2^28)(hy:sz y≤2^28):Pure PP 166 [.string (aA x),.string (aA y)] (.bool (!decide (y<x)&& !decide (x< -y))):=by
 have h1:=aV4 (x:=y) (y:=x) (lTr hy (by decide)) (lTr hx (by decide))
 have h2:=bAt (x:=0) (y:=y) sz0 (lTr hy (by decide))
 rw[show(0:Rat) - y=-y by grind,fQ]at h2;have h3:=aV4 (x:=x) (y:=-y) (lTr hx (by decide)) (by rw[fD];exact lTr hy (by decide))
 generalize decide (y<x)=b1 at h1 ⊢;generalize decide (x< -y)=b2 at h3 ⊢;generalize aA (-y)=r at h2 h3;generalize aA x=sx at h1 h2 h3 ⊢;generalize aA y=sy at h1 h2 h3 ⊢;refine aG mixed tok [.s (.v sx),.s (.v sy)] Tryz.func166 rfl rfl (lbl rfl) rfl fun c hc hR=>?_
 refine zN hc ?_;cbv;cases b1
 ·first | refine zC hc (.b (.l false)) h1 nJ ?_ | refine zD hc (.b (.l false)) h1 nJ ?_
  cbv
  first | refine zC hc (.s (.v r)) h2 aEp ?_ | refine zD hc (.s (.v r)) h2 aEp ?_
  cbv;cases b2
  ·first | refine zC hc (.b (.l false)) h3 nJ ?_ | refine zD hc (.b (.l false)) h3 nJ ?_
   cbv
   try (refine zE hc ?_;cbv)
   exact aD hc hR rfl rfl
  ·first | refine zC hc (.b (.l true)) h3 nJ ?_ | refine zD hc (.b (.l true)) h3 nJ ?_
   cbv
   try (refine zE hc ?_;cbv)
   exact aD hc hR rfl rfl
 ·first | refine zC hc (.b (.l true)) h1 nJ ?_ | refine zD hc (.b (.l true)) h1 nJ ?_
  cbv
  try (refine zE hc ?_;cbv)
  exact aD hc hR rfl rfl
theorem aXb {x:Rat}(hx:sz x≤2^28):Pure PP 127 [.string (aA x)] (.bool (!decide (1<x)&& !decide (x< -1))):=by
 have k2:=fC (aA x) (lTr (bH x) (by omega))
 rw[cT]at k2;change Pure _ _ _ (.bool true)at k2;have h:=aLd (x:=x) (y:=1) hx (lTr (fE 1) (by rw[qK];decide))
 rw[qK]at h;generalize (!decide (1<x)&& !decide (x< -1))=b at h ⊢;generalize aA x=sx at h k2 ⊢;refine aG mixed tok [.s (.v sx)] Tryz.func127 rfl rfl (lbl rfl) rfl fun c hc hR=>?_
 refine zN hc ?_;cbv;refine zC hc (.b (.l true)) k2 bW ?_;cbv;refine zC hc (.b (.l b)) h aCz ?_;cbv;exact aD hc hR rfl rfl
theorem aK9 {x:Rat}(hx:sz x≤2^28)(h1:-1≤x)(h2:x≤1):kY PP 207 [aA x] (.int .i64 0):=by
 have k2:=fC (aA x) (lTr (bH x) (by omega))
 rw[cT]at k2;change Pure _ _ _ (.bool true)at k2;have h:=aLd (x:=x) (y:=1) hx (lTr (fE 1) (by rw[qK];decide))
 rw[qK,show(!decide (1<x)&& !decide (x< -1))=true by simp;grind]at h;clear h1 h2 hx;generalize aA x=s0 at k2 h ⊢;refine kY.of_fn (fun X w v hX hv=>?_);obtain⟨R,hRR⟩:=nm (dJ (.int .i64 0));obtain⟨K,hK⟩:=nm ([KF.cst v (aIc [s0])]);rw[←hRR];refine bE mixed tok [.q v] (K:=K) Tryz.func207 rfl rfl (lbl rfl) rfl hX (by rw[hK];simp;exact hv) fun c hc hR=>?_
 refine xV 0 [s0] 1 rfl rfl rfl (fun X μ a w v' H hv'=>cE H (by rw[hK];exact .head _) hv') (fun f hf=>?_);have e0:f 0=s0:=hf 0 _ rfl
 clear hf;subst e0;refine zN hc ?_;cbv;refine aW 2 (fun p hp=>?_);refine hp _ _ _ ?_;refine zN hc ?_;cbv;refine aQ hc ⟨jZ rfl,trivial⟩ ?_;refine zN hc ?_;cbv;refine zC hc (.b (.l true)) k2 bW ?_;cbv;refine hp _ _ _ ?_;refine zN hc ?_;cbv;refine aW 2 (fun p hp=>?_);refine hp _ _ _ ?_;refine zN hc ?_;cbv;refine aQ hc ⟨jZ rfl,trivial⟩ ?_;refine zN hc ?_;cbv;refine zC hc (.b (.l true)) h aCz ?_;cbv;refine hp _ _ _ ?_;refine zN hc ?_;cbv;refine aS hc hR rfl (fun X μ a w v H hv=>?_);rw[hRR];simp only[aC]at hv;injection hv with hv
 exact hv.symm
end Go.Ai
namespace Go.Ai
open Go Go.Proofs Go.Num V3
theorem aTj:aA 2=⟨#[50]⟩:=(mT (s:=⟨#[50]⟩) (by decide+kernel)).symm
theorem aTl:aA (1/2)=⟨#[49,47,50]⟩:=(mT (s:=⟨#[49,47,50]⟩) (by decide+kernel)).symm
theorem sz2:sz 2≤1:=lTr (fE _) (by rw[aTj];decide)
theorem szh:sz (1/2)≤3:=lTr (fE _) (by rw[aTl];decide)
theorem aK2:sz 1≤1:=lTr (fE 1) (by rw[qK];decide)
theorem bC6 (t:Rat):0≤t*t:=by
 rcases(Rat.le_total:(0:Rat)≤t∨t≤0)with h | h
 ·exact Rat.mul_nonneg h h
 ·have:0≤(-t)*(-t):=Rat.mul_nonneg (by grind) (by grind)
  grind
theorem aFm (t:Rat):(1:Rat)+t*t≠0:=by have:=bC6 t;grind
def gV (t:Rat):Rat:=(1 - t*t)/(1+t*t)
def gJ (t:Rat):Rat:=2*t/(1+t*t)
theorem qA {t:Rat}{k:Nat}(h:sz t≤k):sz (gV t)≤4*k+4:=by
 have h1:=sz_mm h h
 have h2:=sz_ss aK2 h1
 have h3:=sz_aa aK2 h1
 exact lTr (xZ _ _) (by omega)
theorem qC {t:Rat}{k:Nat}(h:sz t≤k):sz (gJ t)≤3*k+3:=by
 have h1:=sz_mm h h
 have h2:=sz_mm sz2 h
 have h3:=sz_aa aK2 h1
 exact lTr (xZ _ _) (by omega)
theorem bDb {t:Rat}(ht:sz t≤2^25)(h1:-1≤t)(h2:t≤1):Pure PP 175 [.string (aA t)] (.tuple #[.string (aA (gV t)),.int .i64 0]):=by
 have k0:=aK9 (lTr ht (by decide)) h1 h2
 have hm:=sz_mm ht ht
 have k1:=aXd (x:=t) (y:=t) (lTr ht (by decide)) (lTr ht (by decide))
 have k2:=bAt (x:=1) (y:=t*t) sz1 (lTr hm (by decide))
 have k3:=bAr (x:=1) (y:=t*t) sz1 (lTr hm (by decide))
 have k4:=bAs (x:=1 - t*t) (y:=1+t*t) (aFm t) (lTr (sz_ss aK2 hm) (by decide)) (lTr (sz_aa aK2 hm) (by decide))
 rw[show(1 - t*t)/(1+t*t)=gV t from rfl]at k4;rw[qK]at k2 k3;clear hm ht h1 h2;generalize aA (gV t)=r at k4 ⊢;generalize aA (1 - t*t)=p at k2 k4;generalize aA (1+t*t)=q at k3 k4;generalize aA (t*t)=m at k1 k2 k3;generalize aA t=s at k0 k1 ⊢;refine aG mixed tok [.s (.v s)] Tryz.func175 rfl rfl (lbl rfl) rfl fun c hc hR=>?_
 refine zN hc ?_;cbv;refine pU hc (n:=1) (.i .i64 (.l 0)) k0 aGa rfl rfl rfl rfl rfl 100 ?_;cbv
 first | refine zC hc (.s (.v m)) k1 wR ?_ | refine zD hc (.s (.v m)) k1 wR ?_
 cbv
 first | refine zC hc (.s (.v p)) k2 aEp ?_ | refine zD hc (.s (.v p)) k2 aEp ?_
 cbv
 first | refine zC hc (.s (.v q)) k3 aEn ?_ | refine zD hc (.s (.v q)) k3 aEn ?_
 cbv
 first | refine zC hc (.s (.v r)) k4 aEo ?_ | refine zD hc (.s (.v r)) k4 aEo ?_
 cbv
 try (refine zE hc ?_;cbv)
 exact aD hc hR rfl rfl
theorem bDc {t:Rat}(ht:sz t≤2^25)(h1:-1≤t)(h2:t≤1):Pure PP 176 [.string (aA t)] (.tuple #[.string (aA (gJ t)),.int .i64 0]):=by
 have k0:=aK9 (lTr ht (by decide)) h1 h2
 have hm:=sz_mm ht ht
 have k1:=aXd (x:=t) (y:=t) (lTr ht (by decide)) (lTr ht (by decide))
 have k2:=aXd (x:=2) (y:=t) (lTr sz2 (by decide)) (lTr ht (by decide))
 have k3:=bAr (x:=1) (y:=t*t) sz1 (lTr hm (by decide))
 have k4:=bAs (x:=2*t) (y:=1+t*t) (aFm t) (lTr (sz_mm sz2 ht) (by decide)) (lTr (sz_aa aK2 hm) (by decide))
 rw[show 2*t/(1+t*t)=gJ t from rfl]at k4;rw[qK]at k3;rw[aTj]at k2;clear hm ht h1 h2;generalize aA (gJ t)=r at k4 ⊢;generalize aA (2*t)=p at k2 k4;generalize aA (1+t*t)=q at k3 k4;generalize aA (t*t)=m at k1 k3;generalize aA t=s at k0 k1 k2 ⊢;refine aG mixed tok [.s (.v s)] Tryz.func176 rfl rfl (lbl rfl) rfl fun c hc hR=>?_
 refine zN hc ?_;cbv;refine pU hc (n:=1) (.i .i64 (.l 0)) k0 aGa rfl rfl rfl rfl rfl 100 ?_;cbv
 first | refine zC hc (.s (.v p)) k2 wR ?_ | refine zD hc (.s (.v p)) k2 wR ?_
 cbv
 first | refine zC hc (.s (.v m)) k1 wR ?_ | refine zD hc (.s (.v m)) k1 wR ?_
 cbv
 first | refine zC hc (.s (.v q)) k3 aEn ?_ | refine zD hc (.s (.v q)) k3 aEn ?_
 cbv
 first | refine zC hc (.s (.v r)) k4 aEo ?_ | refine zD hc (.s (.v r)) k4 aEo ?_
 cbv
 try (refine zE hc ?_;cbv)
 exact aD hc hR rfl rfl
theorem nX:aB PP 129:=zK
theorem uR:aB PP 128:=zK
theorem pE:aB PP 80:=zK
theorem pD:aB PP 89:=zK
theorem zH:aB PP 137:=zK
theorem aLt:aB PP 90:=zK
theorem qW:aB PP 79:=zK
theorem bAx:aB PP 49:=zK
theorem aAk:aB PP 99:=zK
theorem aTb {x y:Rat}(hx:sz x≤2^29)(hy:sz y≤2^29):Pure PP 129 [.string (aA x),.string (aA y)] (.string (aA (x*y))):=by
 have h1:=aH5 hx hy
 generalize aA (x*y)=r at h1 ⊢;generalize aA x=sx at h1 ⊢;generalize aA y=sy at h1 ⊢;refine aG mixed tok [.s (.v sx),.s (.v sy)] Tryz.func129 rfl rfl (lbl rfl) rfl fun c hc hR=>?_
 refine zN hc ?_;cbv;refine zC hc (.t [.s (.v r),.i .i64 (.l 0)]) h1 qV ?_;cbv;exact aD hc hR rfl rfl
theorem aW1 {x y:Rat}(hx:sz x≤2^29)(hy:sz y≤2^29):Pure PP 128 [.string (aA x),.string (aA y)] (.bool (decide (x<y))):=by
 have h1:=aBs hx hy
 have e:=aL2 x y
 generalize decide (x<y)=b at e ⊢;generalize kE x y=r at h1 e;generalize aA x=sx at h1 ⊢;generalize aA y=sy at h1 ⊢;refine aG mixed tok [.s (.v sx),.s (.v sy)] Tryz.func128 rfl rfl (lbl rfl) rfl fun c hc hR=>?_
 refine zN hc ?_;cbv;refine zC hc (.t [.i .i64 (.v r),.i .i64 (.l 0)]) h1 tL ?_;cbv;exact aD hc hR rfl (by show some (Value.bool (decide (r<0)))=_;rw[e])
theorem aTc {x:Rat}(hx:sz x≤2^29):Pure PP 80 [.string (aA x)] (.string (aA (-x))):=by
 have h1:=aTb (x:=-1) (y:=x) bC7 hx
 rw[show -1*x=-x by grind,aK7]at h1;generalize aA (-x)=r at h1 ⊢;generalize aA x=sx at h1 ⊢;refine aG mixed tok [.s (.v sx)] Tryz.func80 rfl rfl (lbl rfl) rfl fun c hc hR=>?_
 refine zN hc ?_;cbv
 first | refine zC hc (.s (.v r)) h1 nX ?_ | refine zD hc (.s (.v r)) h1 nX ?_
 cbv
 try (refine zE hc ?_;cbv)
 exact aD hc hR rfl rfl
theorem aVy (s t:ByteArray)(hs:s.size≤2^31)(ht:t.size≤2^31):Pure PP 89 [.agg #[.string s,.string t]] (.bool ((nU s.data.toList).isSome&&(nU t.data.toList).isSome)):=by
 have h1:=fC s hs
 have h2:=fC t ht
 generalize (nU s.data.toList).isSome=b1 at h1 ⊢;generalize (nU t.data.toList).isSome=b2 at h2 ⊢;refine aG mixed tok [.g [.s (.v s),.s (.v t)]] Tryz.func89 rfl rfl (lbl rfl) rfl fun c hc hR=>?_
 refine zN hc ?_;cbv;cases b1
 ·first | refine zC hc (.b (.l false)) h1 bW ?_ | refine zD hc (.b (.l false)) h1 bW ?_
  cbv
  try (refine zE hc ?_;cbv)
  exact aD hc hR rfl rfl
 ·first | refine zC hc (.b (.l true)) h1 bW ?_ | refine zD hc (.b (.l true)) h1 bW ?_
  cbv
  first | refine zC hc (.b (.l b2)) h2 bW ?_ | refine zD hc (.b (.l b2)) h2 bW ?_
  cbv
  try (refine zE hc ?_;cbv)
  exact aD hc hR rfl rfl
theorem aW2 {t:Rat}(ht:sz t≤2^25)(h1:-1≤t)(h2:t≤1):Pure PP 137 [.string (aA t)] (.tuple #[.string (aA (gV t)),.string (aA (gJ t))]):=by
 have k1:=bDb ht h1 h2
 have k2:=bDc ht h1 h2
 clear ht h1 h2;generalize aA (gV t)=c1 at k1 ⊢;generalize aA (gJ t)=s1 at k2 ⊢;generalize aA t=s at k1 k2 ⊢;refine aG mixed tok [.s (.v s)] Tryz.func137 rfl rfl (lbl rfl) rfl fun c hc hR=>?_
 refine zN hc ?_;cbv
 first | refine zC hc (.t [.s (.v c1),.i .i64 (.l 0)]) k1 aPj ?_ | refine zD hc (.t [.s (.v c1),.i .i64 (.l 0)]) k1 aPj ?_
 cbv
 first | refine zC hc (.t [.s (.v s1),.i .i64 (.l 0)]) k2 aPk ?_ | refine zD hc (.t [.s (.v s1),.i .i64 (.l 0)]) k2 aPk ?_
 cbv
 try (refine zE hc ?_;cbv)
 exact aD hc hR rfl rfl
structure At where
 h:Rat
 t:Rat
def At.ok (a:At):Bool:=decide (-1≤a.h)&&decide (a.h≤1)&&decide (-(1/2)≤a.t)&&decide (a.t≤1/2)
def At.ahead (a:At):V3:=⟨gV a.t,-(gJ a.h*gJ a.t),gV a.h*gJ a.t⟩
def At.side (a:At):V3:=⟨0,gV a.h,gJ a.h⟩
def At.up (a:At):V3:=⟨-(gJ a.t),-(gJ a.h*gV a.t),gV a.h*gV a.t⟩
def At.le (a:At)(k:Nat):Prop:=sz a.h≤k∧sz a.t≤k
def atV (a:At):Value:=.agg #[.string (aA a.h),.string (aA a.t)]
theorem At.ok_iff (a:At):a.ok=true↔-1≤a.h∧a.h≤1∧-(1/2)≤a.t∧a.t≤1/2:=by
 unfold At.ok;simp[and_assoc]
theorem At.le_ahead {a:At}{k:Nat}(h:a.le k):a.ahead.le (7*k+7):=by
 have h1:=qA h.1
 have h2:=qC h.1
 have h3:=qA h.2
 have h4:=qC h.2
 refine⟨lTr h3 (by omega),?_,lTr (sz_mm h1 h4) (by omega)⟩;show sz (-(_))≤_
 rw[fD];exact lTr (sz_mm h2 h4) (by omega)
theorem At.le_side {a:At}{k:Nat}(h:a.le k):a.side.le (7*k+7):=by
 have h1:=qA h.1
 have h2:=qC h.1
 exact⟨lTr (fE 0) (by rw[fQ];show 1≤_;omega),lTr h1 (by omega),lTr h2 (by omega)⟩
theorem At.le_up {a:At}{k:Nat}(h:a.le k):a.up.le (8*k+8):=by
 have h1:=qA h.1
 have h2:=qC h.1
 have h3:=qA h.2
 have h4:=qC h.2
 refine⟨?_,?_,lTr (sz_mm h1 h3) (by omega)⟩
 ·show sz (-(_))≤_
  rw[fD];exact lTr h4 (by omega)
 ·show sz (-(_))≤_
  rw[fD];exact lTr (sz_mm h2 h3) (by omega)
theorem aW0 {a:At}(ha:a.le (2^25))(hk:a.ok=true):Pure PP 90 [atV a] (.agg #[.string (aA a.ahead.x),.string (aA a.ahead.y),.string (aA a.ahead.z),.string ⟨#[48]⟩,.string (aA a.side.y),.string (aA a.side.z),.string (aA a.up.x),.string (aA a.up.y),.string (aA a.up.z)]):=by
 obtain⟨o1,o2,o3,o4⟩:=(At.ok_iff a).1 hk;have k1:=aW2 ha.1 o1 o2
 have k2:=aW2 ha.2 (by grind) (by grind)
 have b1:=qA ha.1
 have b2:=qC ha.1
 have b3:=qA ha.2
 have b4:=qC ha.2
 have m1:=aTb (x:=gJ a.h) (y:=gJ a.t) (lTr b2 (by decide)) (lTr b4 (by decide))
 have n1:=aTc (x:=gJ a.h*gJ a.t) (lTr (sz_mm b2 b4) (by decide))
 have m2:=aTb (x:=gV a.h) (y:=gJ a.t) (lTr b1 (by decide)) (lTr b4 (by decide))
 have n2:=aTc (x:=gJ a.t) (lTr b4 (by decide))
 have m3:=aTb (x:=gJ a.h) (y:=gV a.t) (lTr b2 (by decide)) (lTr b3 (by decide))
 have n3:=aTc (x:=gJ a.h*gV a.t) (lTr (sz_mm b2 b3) (by decide))
 have m4:=aTb (x:=gV a.h) (y:=gV a.t) (lTr b1 (by decide)) (lTr b3 (by decide))
 clear b1 b2 b3 b4 o1 o2 o3 o4 ha hk;unfold At.ahead At.side At.up atV
 dsimp only
 generalize aA (-(gJ a.h*gJ a.t))=x1 at *;generalize aA (gJ a.h*gJ a.t)=x2 at *;generalize aA (gV a.h*gJ a.t)=x3 at *;generalize aA (-gJ a.t)=x4 at *;generalize aA (-(gJ a.h*gV a.t))=x5 at *;generalize aA (gJ a.h*gV a.t)=x6 at *;generalize aA (gV a.h*gV a.t)=x7 at *;generalize aA (gV a.h)=ch at *;generalize aA (gJ a.h)=sh at *;generalize aA (gV a.t)=ct at *;generalize aA (gJ a.t)=st at *;generalize aA a.h=h at *;generalize aA a.t=t at *;refine aG mixed tok [.g [.s (.v h),.s (.v t)]] Tryz.func90 rfl rfl (lbl rfl) rfl fun c hc hR=>?_
 refine zN hc ?_;cbv
 first | refine zC hc (.t [.s (.v ch),.s (.v sh)]) k1 zH ?_ | refine zD hc (.t [.s (.v ch),.s (.v sh)]) k1 zH ?_
 cbv
 first | refine zC hc (.t [.s (.v ct),.s (.v st)]) k2 zH ?_ | refine zD hc (.t [.s (.v ct),.s (.v st)]) k2 zH ?_
 cbv
 first | refine zC hc (.s (.v x2)) m1 nX ?_ | refine zD hc (.s (.v x2)) m1 nX ?_
 cbv
 first | refine zC hc (.s (.v x1)) n1 pE ?_ | refine zD hc (.s (.v x1)) n1 pE ?_
 cbv
 first | refine zC hc (.s (.v x3)) m2 nX ?_ | refine zD hc (.s (.v x3)) m2 nX ?_
 cbv
 first | refine zC hc (.s (.v x4)) n2 pE ?_ | refine zD hc (.s (.v x4)) n2 pE ?_
 cbv
 first | refine zC hc (.s (.v x6)) m3 nX ?_ | refine zD hc (.s (.v x6)) m3 nX ?_
 cbv
 first | refine zC hc (.s (.v x5)) n3 pE ?_ | refine zD hc (.s (.v x5)) n3 pE ?_
 cbv
 first | refine zC hc (.s (.v x7)) m4 nX ?_ | refine zD hc (.s (.v x7)) m4 nX ?_
 cbv
 try (refine zE hc ?_;cbv)
 exact aD hc hR rfl rfl
def At.code (a:At):Int:=if a.ok=true then 0 else 2
theorem At.ok_b (a:At):a.ok=((!decide (1<a.h)&& !decide (a.h< -1))&& !decide (1/2<a.t)&& !decide (a.t< -(1/2))):=by
 unfold At.ok;rw[Bool.eq_iff_iff];simp
 grind
theorem aFy {a:At}(ha:a.le (2^25)):Pure PP 79 [atV a] (.int .i64 a.code):=by
 have k0:=aVy (aA a.h) (aA a.t) (lTr (bH a.h) (by have:=ha.1;omega)) (lTr (bH a.t) (by have:=ha.2;omega))
 rw[cT,cT]at k0;change Pure _ _ _ (.bool true)at k0;have k1:=aXb (x:=a.h) (lTr ha.1 (by decide))
 have k2:=aW1 (x:=1/2) (y:=a.t) (lTr szh (by decide)) (lTr ha.2 (by decide))
 have k3:=aTc (x:=1/2) (lTr szh (by decide))
 have k4:=aW1 (x:=a.t) (y:=-(1/2)) (lTr ha.2 (by decide)) (by rw[fD];exact lTr szh (by decide))
 rw[aTl]at k2 k3;have e:=At.ok_b a
 unfold At.code;generalize a.ok=ok at e ⊢;generalize (!decide (1<a.h)&& !decide (a.h< -1))=b1 at k1 e;generalize decide (1/2<a.t)=b2 at k2 e;generalize decide (a.t< -(1/2))=b3 at k4 e;unfold atV at *;generalize aA (-(1/2))=q at k3 k4;generalize aA a.h=h at *;generalize aA a.t=t at *;clear ha;cases b1
 ·have e:ok=false:=by rw[e];rfl
  subst e;refine aG mixed tok [.g [.s (.v h),.s (.v t)]] Tryz.func79 rfl rfl (lbl rfl) rfl fun c hc hR=>?_
  refine zN hc ?_;cbv;refine zC hc (.b (.l true)) k0 pD ?_;cbv;refine zD hc (.b (.l false)) k1 uK ?_;cbv;refine zE hc ?_;cbv;exact aD hc hR rfl rfl
 cases b2 with
 | true=>
  have e:ok=false:=by rw[e];rfl
  subst e;refine aG mixed tok [.g [.s (.v h),.s (.v t)]] Tryz.func79 rfl rfl (lbl rfl) rfl fun c hc hR=>?_
  refine zN hc ?_;cbv;refine zC hc (.b (.l true)) k0 pD ?_;cbv;refine zD hc (.b (.l true)) k1 uK ?_;cbv;refine zD hc (.b (.l true)) k2 uR ?_;cbv;refine zE hc ?_;cbv;exact aD hc hR rfl rfl
 | false=>
 cases b3 with
 | true=>
  have e:ok=false:=by rw[e];rfl
  subst e;refine aG mixed tok [.g [.s (.v h),.s (.v t)]] Tryz.func79 rfl rfl (lbl rfl) rfl fun c hc hR=>?_
  refine zN hc ?_;cbv;refine zC hc (.b (.l true)) k0 pD ?_;cbv;refine zD hc (.b (.l true)) k1 uK ?_;cbv;refine zD hc (.b (.l false)) k2 uR ?_;cbv;refine zD hc (.s (.v q)) k3 pE ?_;cbv;refine zD hc (.b (.l true)) k4 uR ?_;cbv;refine zE hc ?_;cbv;exact aD hc hR rfl rfl
 | false=>
  have e:ok=true:=by rw[e];rfl
  subst e;refine aG mixed tok [.g [.s (.v h),.s (.v t)]] Tryz.func79 rfl rfl (lbl rfl) rfl fun c hc hR=>?_
  refine zN hc ?_;cbv;refine zC hc (.b (.l true)) k0 pD ?_;cbv;refine zD hc (.b (.l true)) k1 uK ?_;cbv;refine zD hc (.b (.l false)) k2 uR ?_;cbv;refine zD hc (.s (.v q)) k3 pE ?_;cbv;refine zD hc (.b (.l false)) k4 uR ?_;cbv;refine zE hc ?_;cbv;exact aD hc hR rfl rfl
def aYf (a:At):Value:=.agg #[.string (aA a.ahead.x),.string (aA a.ahead.y),.string (aA a.ahead.z),.string ⟨#[48]⟩,.string (aA a.side.y),.string (aA a.side.z),.string (aA a.up.x),.string (aA a.up.y),.string (aA a.up.z)]
theorem tOf {a:At}(ha:a.le (2^25))(hk:a.ok=true):Pure PP 49 [atV a] (.tuple #[aYf a,.int .i64 0]):=by
 have k1:=aFy ha
 have k2:=aW0 ha hk
 unfold At.code at k1;rw[if_pos hk]at k1;unfold aYf atV at *;generalize aA a.ahead.x=x0 at *;generalize aA a.ahead.y=x1 at *;generalize aA a.ahead.z=x2 at *;generalize aA a.side.y=x4 at *;generalize aA a.side.z=x5 at *;generalize aA a.up.x=x6 at *;generalize aA a.up.y=x7 at *;generalize aA a.up.z=x8 at *;generalize aA a.h=h at *;generalize aA a.t=t at *;clear ha hk;refine aG mixed tok [.g [.s (.v h),.s (.v t)]] Tryz.func49 rfl rfl (lbl rfl) rfl fun c hc hR=>?_
 refine zN hc ?_;cbv;refine zC hc (.i .i64 (.l 0)) k1 qW ?_;cbv;refine zC hc (.g [.s (.v x0),.s (.v x1),.s (.v x2),.s (.v ⟨#[48]⟩),.s (.v x4),.s (.v x5),.s (.v x6),.s (.v x7),.s (.v x8)]) k2 aLt ?_;cbv;exact aD hc hR rfl rfl
def At.water (a:At)(d:Rat):Pl:=⟨a.up,d⟩
theorem aK5 {a:At}{d:Rat}(ha:a.le (2^25))(hd:sz d≤2^25):Pure PP 99 [atV a,.string (aA d)] (if a.ok=true then .tuple #[nF (a.water d),.int .i64 0]else .tuple #[.agg #[.string ⟨#[]⟩,.string ⟨#[]⟩,.string ⟨#[]⟩,.string ⟨#[]⟩],.int .i64 2]):=by
 have k0:=aVy (aA a.h) (aA a.t) (lTr (bH a.h) (by have:=ha.1;omega)) (lTr (bH a.t) (by have:=ha.2;omega))
 rw[cT,cT]at k0;change Pure _ _ _ (.bool true)at k0;have kd:=fC (aA d) (lTr (bH d) (by omega))
 rw[cT]at kd;change Pure _ _ _ (.bool true)at kd;have k1:=aFy ha
 have k2:=aW0 ha
 unfold At.code at k1;cases hk:a.ok with
 | true=>
  rw[if_pos hk]at k1;rw[if_pos rfl];have k2:=k2 hk
  unfold At.water nF
  dsimp only
  unfold atV at *;generalize aA a.ahead.x=x0 at *;generalize aA a.ahead.y=x1 at *;generalize aA a.ahead.z=x2 at *;generalize aA a.side.y=x4 at *;generalize aA a.side.z=x5 at *;generalize aA a.up.x=x6 at *;generalize aA a.up.y=x7 at *;generalize aA a.up.z=x8 at *;generalize aA a.h=h at *;generalize aA a.t=t at *;generalize aA d=sd at *;clear ha hk hd;refine aG mixed tok [.g [.s (.v h),.s (.v t)],.s (.v sd)] Tryz.func99 rfl rfl (lbl rfl) rfl fun c hc hR=>?_
  refine zN hc ?_;cbv;refine zC hc (.b (.l true)) k0 pD ?_;cbv;refine zC hc (.b (.l true)) kd bW ?_;cbv;refine zC hc (.i .i64 (.l 0)) k1 qW ?_;cbv;refine zC hc (.g [.s (.v x0),.s (.v x1),.s (.v x2),.s (.v ⟨#[48]⟩),.s (.v x4),.s (.v x5),.s (.v x6),.s (.v x7),.s (.v x8)]) k2 aLt ?_;cbv;exact aD hc hR rfl rfl
 | false=>
  rw[hk]at k1;rw[if_neg (by decide)]at k1 ⊢;clear k2;unfold atV at *;generalize aA a.h=h at *;generalize aA a.t=t at *;generalize aA d=sd at *;clear ha hk hd;refine aG mixed tok [.g [.s (.v h),.s (.v t)],.s (.v sd)] Tryz.func99 rfl rfl (lbl rfl) rfl fun c hc hR=>?_
  refine zN hc ?_;cbv;refine zC hc (.b (.l true)) k0 pD ?_;cbv;refine zC hc (.b (.l true)) kd bW ?_;cbv;refine zC hc (.i .i64 (.l 2)) k1 qW ?_;cbv;exact aD hc hR rfl rfl
theorem aB8 {h t d:ByteArray}(hh:h.size≤2^31)(ht:t.size≤2^31)(hd:d.size≤2^31)(xK:(iK h&&iK t&&iK d)=false):Pure PP 99 [.agg #[.string h,.string t],.string d] (.tuple #[.agg #[.string ⟨#[]⟩,.string ⟨#[]⟩,.string ⟨#[]⟩,.string ⟨#[]⟩],.int .i64 1]):=by
 have k0:=aVy h t hh ht
 have kd:=fC d hd
 change (((nU h.data.toList).isSome&&(nU t.data.toList).isSome)&&(nU d.data.toList).isSome)=false at xK
 generalize ((nU h.data.toList).isSome&&(nU t.data.toList).isSome)=b0 at *;generalize (nU d.data.toList).isSome=b1 at *;cases b0 with
 | false=>
  refine aG mixed tok [.g [.s (.v h),.s (.v t)],.s (.v d)] Tryz.func99 rfl rfl (lbl rfl) rfl fun c hc hR=>?_
  refine zN hc ?_;cbv;refine zC hc (.b (.l false)) k0 pD ?_;cbv;exact aD hc hR rfl rfl
 | true=>
  have e:b1=false:=by simpa using xK
  subst e;clear xK;refine aG mixed tok [.g [.s (.v h),.s (.v t)],.s (.v d)] Tryz.func99 rfl rfl (lbl rfl) rfl fun c hc hR=>?_
  refine zN hc ?_;cbv;refine zC hc (.b (.l true)) k0 pD ?_;cbv;refine zC hc (.b (.l false)) kd bW ?_;cbv;exact aD hc hR rfl rfl
theorem dY {x y:AV}(h:∀μ,aC μ x=aC μ y){v:Value}(hv:aC iJ y=some v):aH iJ [x]=some [v]:=by simp[aH,h,hv]
theorem aNj:aB PP 67:=zK
def bAe (l:List Tri):Rat:=l.foldl (fun s t=>s+t.det) 0
def bFj (l:List Tri):Rat:=bAe l*(1/6)
theorem oT:sz 0≤1:=lTr (fE 0) (by rw[fQ];decide)
theorem cA {μ:Mu}{v u:Value}(h:aC μ (.q v)=some u):u=v:=by simp only[aC]at h;injection h with h;exact h.symm
theorem aU6 {m:Ms}(hm:m.le (2^26)):Pure PP 67 [oO m] (if m.v=0 then .tuple #[.agg #[.string ⟨#[]⟩,.string ⟨#[]⟩,.string ⟨#[]⟩],.int .i64 16]else .tuple #[fS (m.f.scale (1/m.v)),.int .i64 0]):=by
 have k0:=aZn (hm.mono (by decide))
 by_cases h0:m.v=0
 ·rw[if_pos h0];have z0:aA m.v=⟨#[48]⟩:=by rw[h0];exact fQ
  unfold oO at *;rw[z0]at k0 ⊢;clear hm h0 z0;generalize aA m.f.x=a1 at *;generalize aA m.f.y=a2 at *;generalize aA m.f.z=a3 at *;generalize aA m.xx=a4 at *;generalize aA m.yy=a5 at *;generalize aA m.zz=a6 at *;generalize aA m.xy=a7 at *;generalize aA m.yz=a8 at *;generalize aA m.zx=a9 at *;refine aG mixed tok [.g [.s (.v ⟨#[48]⟩),.s (.v a1),.s (.v a2),.s (.v a3),.s (.v a4),.s (.v a5),.s (.v a6),.s (.v a7),.s (.v a8),.s (.v a9)]] Tryz.func67 rfl rfl (lbl rfl) rfl fun c hc hR=>?_
  refine zN hc ?_;cbv;refine zC hc (.b (.l true)) k0 aGg ?_;cbv;refine aE hc rfl 100 (fun h=>?_) (fun h=>by rw[aKv]at h;exact absurd rfl (of_decide_eq_false h));cbv;exact aD hc hR rfl rfl
 ·rw[if_neg h0];have k1:=aZt (x:=1) (y:=m.v) h0 sz1 (lTr hm.1 (by decide))
  rw[qK]at k1;have k2:=bAi (u:=m.f) (q:=1/m.v) (hm.2.1.mono (by decide)) (lTr (xZ _ _) (by have:=aK2;have:=hm.1;omega))
  have z0:=fun h=>(h0 (is0 (q:=m.v) h)).elim (C:=False)
  unfold oO fS kR at *;clear hm h0;generalize aA (m.f.scale (1/m.v)).x=r1 at *;generalize aA (m.f.scale (1/m.v)).y=r2 at *;generalize aA (m.f.scale (1/m.v)).z=r3 at *;generalize aA (1/m.v)=q at *;generalize aA m.v=a0 at *;generalize aA m.f.x=a1 at *;generalize aA m.f.y=a2 at *;generalize aA m.f.z=a3 at *;generalize aA m.xx=a4 at *;generalize aA m.yy=a5 at *;generalize aA m.zz=a6 at *;generalize aA m.xy=a7 at *;generalize aA m.yz=a8 at *;generalize aA m.zx=a9 at *;refine aG mixed tok [.g [.s (.v a0),.s (.v a1),.s (.v a2),.s (.v a3),.s (.v a4),.s (.v a5),.s (.v a6),.s (.v a7),.s (.v a8),.s (.v a9)]] Tryz.func67 rfl rfl (lbl rfl) rfl fun c hc hR=>?_
  refine zN hc ?_;cbv;refine zC hc (.b (.l true)) k0 aGg ?_;cbv;refine aE hc rfl 100 (fun h=>(z0 h).elim) (fun h=>?_);cbv;refine zC hc (.t [.s (.v q),.i .i64 (.l 0)]) k1 aJd ?_;cbv;refine zC hc (.t [.g [.s (.v r1),.s (.v r2),.s (.v r3)],.i .i64 (.l 0)]) k2 aP7 ?_;cbv;exact aD hc hR rfl rfl
theorem nK:aB PP 184:=zK
theorem aC1:aB PP 183:=zK
theorem aEq:aB PP 182:=zK
theorem aPm:aB PP 147:=zK
theorem lR:aB PP 211:=zK
structure Pl.fit (p:Pl)(k:Nat):Prop where
 h0:p.n≠V3.zero
 hn:p.n.le k
 ha:sz p.a≤k
theorem Pl.fit.mono {p:Pl}{k m:Nat}(h:p.fit k)(hm:k≤m):p.fit m:=⟨h.h0,h.hn.mono hm,lTr h.ha hm⟩
def Pl.over (p:Pl)(v:V3):Bool:=decide (0<p.height v)
theorem aCy {p:Pl}{u v:V3}(hp:p.fit (2^24))(hu:u.le (2^24))(hv:v.le (2^24))(hd:p.over u≠p.over v):Pure PP 184 [nF p,fS u,fS v] (fS (p.cut u v)):=by
 have k1:=aEe hp.h0 hp.hn hp.ha hu hv (by
  unfold Pl.over at hd
  by_cases h1:0<p.height u<;>by_cases h2:0<p.height v<;>simp[h1,h2]at hd ⊢)
 clear hp hu hv hd;unfold nF fS kR at *;generalize aA p.n.x=a at *;generalize aA p.n.y=b at *;generalize aA p.n.z=d at *;generalize aA p.a=t at *;generalize aA u.x=a' at *;generalize aA u.y=b' at *;generalize aA u.z=d' at *;generalize aA v.x=a2 at *;generalize aA v.y=b2 at *;generalize aA v.z=d2 at *;generalize aA (p.cut u v).x=y1 at *;generalize aA (p.cut u v).y=y2 at *;generalize aA (p.cut u v).z=y3 at *;refine aG mixed tok [.g [.s (.v a),.s (.v b),.s (.v d),.s (.v t)],iL a' b' d',iL a2 b2 d2] Tryz.func184 rfl rfl (lbl rfl) rfl fun c hc hR=>?_
 refine zN hc ?_;cbv;refine zC hc (.t [iL y1 y2 y3,.i .i64 (.l 0)]) k1 cV ?_;cbv;exact aD hc hR rfl rfl
def Tri.rot (t:Tri):Nat→Tri
 | 0=>t
 | 1=>⟨t.b,t.c,t.a⟩
 | _=>⟨t.c,t.a,t.b⟩
theorem aT5 (t:Tri){i:Nat}(hi:i<3):Pure PP 183 [nC t,.int .i64 i] (nC (t.rot i)):=by
 unfold nC
 match i,hi with
 | 0,_=>
  rw[show t.rot 0=t from rfl];generalize aA t.a.x=a1 at *;generalize aA t.a.y=a2 at *;generalize aA t.a.z=a3 at *;generalize aA t.b.x=b1 at *;generalize aA t.b.y=b2 at *;generalize aA t.b.z=b3 at *;generalize aA t.c.x=c1 at *;generalize aA t.c.y=c2 at *;generalize aA t.c.z=c3 at *;refine aG mixed tok [.g [.s (.v a1),.s (.v a2),.s (.v a3),.s (.v b1),.s (.v b2),.s (.v b3),.s (.v c1),.s (.v c2),.s (.v c3)],.i .i64 (.l 0)] Tryz.func183 rfl rfl (lbl rfl) rfl fun c hc hR=>?_
  refine zN hc ?_;cbv;refine aQ hc ⟨pR,pR,trivial⟩ ?_;refine zE hc ?_;cbv;exact aD hc hR rfl rfl
 | 1,_=>
  rw[show t.rot 1=⟨t.b,t.c,t.a⟩ from rfl];generalize aA t.a.x=a1 at *;generalize aA t.a.y=a2 at *;generalize aA t.a.z=a3 at *;generalize aA t.b.x=b1 at *;generalize aA t.b.y=b2 at *;generalize aA t.b.z=b3 at *;generalize aA t.c.x=c1 at *;generalize aA t.c.y=c2 at *;generalize aA t.c.z=c3 at *;refine aG mixed tok [.g [.s (.v a1),.s (.v a2),.s (.v a3),.s (.v b1),.s (.v b2),.s (.v b3),.s (.v c1),.s (.v c2),.s (.v c3)],.i .i64 (.l 1)] Tryz.func183 rfl rfl (lbl rfl) rfl fun c hc hR=>?_
  refine zN hc ?_;cbv;refine aQ hc ⟨pR,pR,trivial⟩ ?_;refine zE hc ?_;cbv;exact aD hc hR rfl rfl
 | 2,_=>
  rw[show t.rot 2=⟨t.c,t.a,t.b⟩ from rfl];generalize aA t.a.x=a1 at *;generalize aA t.a.y=a2 at *;generalize aA t.a.z=a3 at *;generalize aA t.b.x=b1 at *;generalize aA t.b.y=b2 at *;generalize aA t.b.z=b3 at *;generalize aA t.c.x=c1 at *;generalize aA t.c.y=c2 at *;generalize aA t.c.z=c3 at *;refine aG mixed tok [.g [.s (.v a1),.s (.v a2),.s (.v a3),.s (.v b1),.s (.v b2),.s (.v b3),.s (.v c1),.s (.v c2),.s (.v c3)],.i .i64 (.l 2)] Tryz.func183 rfl rfl (lbl rfl) rfl fun c hc hR=>?_
  refine zN hc ?_;cbv;refine aQ hc ⟨pR,pR,trivial⟩ ?_;refine zE hc ?_;cbv;exact aD hc hR rfl rfl
def aCh:Bool→Bool→Bool→Int × Bool
 | true,true,true=>(-1,true)
 | false,false,false=>(-1,false)
 | true,false,false=>(0,true)
 | false,true,false=>(1,true)
 | false,false,true=>(2,true)
 | false,true,true=>(0,false)
 | true,false,true=>(1,false)
 | true,true,false=>(2,false)
def Tri.cutP (t:Tri)(p:Pl):Int × Bool:=aCh (p.over t.a) (p.over t.b) (p.over t.c)
theorem xE {μ:Mu}{a b d a' b' d':BE}(h1:a.den=a'.den)(h2:b.den=b'.den)(h3:d.den=d'.den):aH μ [.b a,.b b,.b d]=aH μ [.b a',.b b',.b d']:=by
 simp[aH,aC,h1,h2,h3]
theorem bDd {t:Tri}{p:Pl}(hp:p.fit (2^26))(ht:t.le (2^26)):Pure PP 182 [nC t,nF p] (.tuple #[.int .i64 (t.cutP p).1,.bool (t.cutP p).2]):=by
 have k1:=aI0 hp.h0 hp.hn hp.ha ht.1
 have k2:=aI0 hp.h0 hp.hn hp.ha ht.2.1
 have k3:=aI0 hp.h0 hp.hn hp.ha ht.2.2
 have e1:=oJ (p.height t.a)
 have e2:=oJ (p.height t.b)
 have e3:=oJ (p.height t.c)
 obtain⟨r,hr⟩:=nm (t.cutP p);rw[←hr];unfold Tri.cutP Pl.over at hr;rw[←e1,←e2,←e3]at hr;clear e1 e2 e3 hp ht;generalize kE (p.height t.a) 0=s1 at *;generalize kE (p.height t.b) 0=s2 at *;generalize kE (p.height t.c) 0=s3 at *;unfold nF nC fS kR at *;generalize aA p.n.x=q1 at *;generalize aA p.n.y=q2 at *;generalize aA p.n.z=q3 at *;generalize aA p.a=q4 at *;generalize aA t.a.x=a1 at *;generalize aA t.a.y=a2 at *;generalize aA t.a.z=a3 at *;generalize aA t.b.x=b1 at *;generalize aA t.b.y=b2 at *;generalize aA t.b.z=b3 at *;generalize aA t.c.x=c1 at *;generalize aA t.c.y=c2 at *;generalize aA t.c.z=c3 at *;refine aG mixed tok [.g [.s (.v a1),.s (.v a2),.s (.v a3),.s (.v b1),.s (.v b2),.s (.v b3),.s (.v c1),.s (.v c2),.s (.v c3)],.g [.s (.v q1),.s (.v q2),.s (.v q3),.s (.v q4)]] Tryz.func182 rfl rfl (lbl rfl) rfl fun c hc hR=>?_
 refine zN hc ?_;cbv;refine aW 4 (fun p hp=>?_);refine hp _ _ _ ?_;refine zN hc ?_;cbv;refine zC hc (.t [.i .i64 (.v s1),.i .i64 (.l 0)]) k1 lH ?_;cbv;refine aE hc rfl 100 (fun h1=>?_) (fun h1=>?_)
 ·have bb1:decide (0<s1)=true:=h1
  cbv;refine hp _ _ _ ?_;refine zN hc ?_;cbv;refine zC hc (.t [.i .i64 (.v s2),.i .i64 (.l 0)]) k2 lH ?_;cbv;refine aE hc rfl 100 (fun h2=>?_) (fun h2=>?_)
  ·have bb2:decide (0<s2)=true:=h2
   cbv;refine hp _ _ _ ?_;refine zN hc ?_;cbv;refine zC hc (.t [.i .i64 (.v s3),.i .i64 (.l 0)]) k3 lH ?_;cbv;refine aE hc rfl 100 (fun h3=>?_) (fun h3=>?_)
   ·have bb3:decide (0<s3)=true:=h3
    cbv;refine hp _ _ _ ?_;refine zN hc ?_;cbv;exact aD hc hR rfl (by rw[hr,bb1,bb2,bb3];rfl)
   ·have bb3:decide (0<s3)=false:=h3
    cbv;refine gM 2 [.b (.l true),.b (.l true),.b (.l false)] rfl rfl (fun μ=>by rw[xE (a':=.l true) (b':=.l true) (d':=.l false) h1 h2 h3]) ?_;refine hp _ _ _ ?_;refine zN hc ?_;cbv;refine cJ hc Tryz.func211 rfl rfl lR rfl (fun c' tm FR hFR hc' L=>?_);refine zN hc' ?_;cbv;refine aW 4 (fun q hq=>?_);refine hq _ _ _ ?_;refine zN hc' ?_;cbv;refine aE hc' rfl 100 (fun h=>nomatch (show false=true from h)) (fun h=>?_);cbv;refine hq _ _ _ ?_;refine zN hc' ?_;cbv;refine aE hc' rfl 100 (fun h=>nomatch (show false=true from h)) (fun h=>?_);cbv;refine hq _ _ _ ?_;refine zN hc' ?_;cbv;refine aE hc' rfl 100 (fun h=>?_) (fun h=>nomatch (show true=false from h));cbv;refine cL hc' L hFR (.head _) rfl ?_;refine zN hc ?_;cbv;exact aD hc hR rfl (by rw[hr,bb1,bb2,bb3];rfl)
  ·have bb2:decide (0<s2)=false:=h2
   cbv;refine hp _ _ _ ?_;refine zN hc ?_;cbv;refine zC hc (.t [.i .i64 (.v s3),.i .i64 (.l 0)]) k3 lH ?_;cbv;refine aE hc rfl 100 (fun h3=>?_) (fun h3=>?_)
   ·have bb3:decide (0<s3)=true:=h3
    cbv;refine gM 2 [.b (.l true),.b (.l false),.b (.l true)] rfl rfl (fun μ=>by rw[xE (a':=.l true) (b':=.l false) (d':=.l true) h1 h2 h3]) ?_;refine hp _ _ _ ?_;refine zN hc ?_;cbv;refine cJ hc Tryz.func211 rfl rfl lR rfl (fun c' tm FR hFR hc' L=>?_);refine zN hc' ?_;cbv;refine aW 4 (fun q hq=>?_);refine hq _ _ _ ?_;refine zN hc' ?_;cbv;refine aE hc' rfl 100 (fun h=>nomatch (show false=true from h)) (fun h=>?_);cbv;refine hq _ _ _ ?_;refine zN hc' ?_;cbv;refine aE hc' rfl 100 (fun h=>?_) (fun h=>nomatch (show true=false from h));cbv;refine cL hc' L hFR (.head _) rfl ?_;refine zN hc ?_;cbv;exact aD hc hR rfl (by rw[hr,bb1,bb2,bb3];rfl)
   ·have bb3:decide (0<s3)=false:=h3
    cbv;refine gM 2 [.b (.l true),.b (.l false),.b (.l false)] rfl rfl (fun μ=>by rw[xE (a':=.l true) (b':=.l false) (d':=.l false) h1 h2 h3]) ?_;refine hp _ _ _ ?_;refine zN hc ?_;cbv;refine cJ hc Tryz.func211 rfl rfl lR rfl (fun c' tm FR hFR hc' L=>?_);refine zN hc' ?_;cbv;refine aW 4 (fun q hq=>?_);refine hq _ _ _ ?_;refine zN hc' ?_;cbv;refine aE hc' rfl 100 (fun h=>?_) (fun h=>nomatch (show true=false from h));cbv;refine cL hc' L hFR (.head _) rfl ?_;refine zN hc ?_;cbv;exact aD hc hR rfl (by rw[hr,bb1,bb2,bb3];rfl)
 ·have bb1:decide (0<s1)=false:=h1
  cbv;refine hp _ _ _ ?_;refine zN hc ?_;cbv;refine zC hc (.t [.i .i64 (.v s2),.i .i64 (.l 0)]) k2 lH ?_;cbv;refine aE hc rfl 100 (fun h2=>?_) (fun h2=>?_)
  ·have bb2:decide (0<s2)=true:=h2
   cbv;refine hp _ _ _ ?_;refine zN hc ?_;cbv;refine zC hc (.t [.i .i64 (.v s3),.i .i64 (.l 0)]) k3 lH ?_;cbv;refine aE hc rfl 100 (fun h3=>?_) (fun h3=>?_)
   ·have bb3:decide (0<s3)=true:=h3
    cbv;refine gM 2 [.b (.l false),.b (.l true),.b (.l true)] rfl rfl (fun μ=>by rw[xE (a':=.l false) (b':=.l true) (d':=.l true) h1 h2 h3]) ?_;refine hp _ _ _ ?_;refine zN hc ?_;cbv;refine cJ hc Tryz.func211 rfl rfl lR rfl (fun c' tm FR hFR hc' L=>?_);refine zN hc' ?_;cbv;refine aW 4 (fun q hq=>?_);refine hq _ _ _ ?_;refine zN hc' ?_;cbv;refine aE hc' rfl 100 (fun h=>?_) (fun h=>nomatch (show true=false from h));cbv;refine cL hc' L hFR (.head _) rfl ?_;refine zN hc ?_;cbv;exact aD hc hR rfl (by rw[hr,bb1,bb2,bb3];rfl)
   ·have bb3:decide (0<s3)=false:=h3
    cbv;refine gM 2 [.b (.l false),.b (.l true),.b (.l false)] rfl rfl (fun μ=>by rw[xE (a':=.l false) (b':=.l true) (d':=.l false) h1 h2 h3]) ?_;refine hp _ _ _ ?_;refine zN hc ?_;cbv;refine cJ hc Tryz.func211 rfl rfl lR rfl (fun c' tm FR hFR hc' L=>?_);refine zN hc' ?_;cbv;refine aW 4 (fun q hq=>?_);refine hq _ _ _ ?_;refine zN hc' ?_;cbv;refine aE hc' rfl 100 (fun h=>nomatch (show false=true from h)) (fun h=>?_);cbv;refine hq _ _ _ ?_;refine zN hc' ?_;cbv;refine aE hc' rfl 100 (fun h=>?_) (fun h=>nomatch (show true=false from h));cbv;refine cL hc' L hFR (.head _) rfl ?_;refine zN hc ?_;cbv;exact aD hc hR rfl (by rw[hr,bb1,bb2,bb3];rfl)
  ·have bb2:decide (0<s2)=false:=h2
   cbv;refine hp _ _ _ ?_;refine zN hc ?_;cbv;refine zC hc (.t [.i .i64 (.v s3),.i .i64 (.l 0)]) k3 lH ?_;cbv;refine aE hc rfl 100 (fun h3=>?_) (fun h3=>?_)
   ·have bb3:decide (0<s3)=true:=h3
    cbv;refine gM 2 [.b (.l false),.b (.l false),.b (.l true)] rfl rfl (fun μ=>by rw[xE (a':=.l false) (b':=.l false) (d':=.l true) h1 h2 h3]) ?_;refine hp _ _ _ ?_;refine zN hc ?_;cbv;refine cJ hc Tryz.func211 rfl rfl lR rfl (fun c' tm FR hFR hc' L=>?_);refine zN hc' ?_;cbv;refine aW 4 (fun q hq=>?_);refine hq _ _ _ ?_;refine zN hc' ?_;cbv;refine aE hc' rfl 100 (fun h=>nomatch (show false=true from h)) (fun h=>?_);cbv;refine hq _ _ _ ?_;refine zN hc' ?_;cbv;refine aE hc' rfl 100 (fun h=>nomatch (show false=true from h)) (fun h=>?_);cbv;refine hq _ _ _ ?_;refine zN hc' ?_;cbv;refine aE hc' rfl 100 (fun h=>?_) (fun h=>nomatch (show true=false from h));cbv;refine cL hc' L hFR (.head _) rfl ?_;refine zN hc ?_;cbv;exact aD hc hR rfl (by rw[hr,bb1,bb2,bb3];rfl)
   ·have bb3:decide (0<s3)=false:=h3
    cbv;refine hp _ _ _ ?_;refine zN hc ?_;cbv;exact aD hc hR rfl (by rw[hr,bb1,bb2,bb3];rfl)
end Go.Ai
