/- Part 25: lemmas for the particulars laws -/
import Derived.Test.YtafimpgfbgigeaaGreatDoorPh23
set_option linter.all false
namespace Go.Ai
open Go Go.Proofs Go.Num
theorem aAu:aB PP 126:=zK
theorem bFn {a b c d e f:ByteArray}:(BE.not ((BE.seq (.v a) (.v d)).and ((BE.seq (.v b) (.v e)).and (BE.seq (.v c) (.v f))))).den=decide ([a,b,c]≠[d,e,f]):=by
 show(!((BE.seq (.v a) (.v d)).den&&((BE.seq (.v b) (.v e)).den&&(BE.seq (.v c) (.v f)).den)))=_
 have key:∀x y:ByteArray,(BE.seq (.v x) (.v y)).den=decide (x=y):=λx y=>by
  rw[aNi];exact decide_eq_decide.2 ⟨λh=>kQ h,λh=>by rw[h]⟩
 rw[key,key,key];by_cases h1:a=d<;>by_cases h2:b=e<;>by_cases h3:c=f<;>simp[h1,h2,h3]
theorem filter_lt {α:Type}{p q:α->Bool}{a:α}:∀{l:List α},(∀x,p x=true->q x=true)->a∈l->q a=true->p a=false->(l.filter p).length<(l.filter q).length
 | [],_,h,_,_=>by cases h
 | x::l,hpq,h,ha,hb=>by
  have le:∀(l:List α),(l.filter p).length<=(l.filter q).length:=by
   intro l;induction l with
   | nil=>exact lRf _
   | cons y l ih=>
    simp only[List.filter_cons];cases hp:p y with
    | true=>simp only[hpq y hp,if_true,List.length_cons];omega
    | false=>cases hq:q y<;>simp<;>omega
  rcases List.mem_cons.1 h with e | e
  ·subst e;simp only[List.filter_cons,ha,hb,if_true,Bool.false_eq_true,if_false,List.length_cons];have:=le l;omega
  ·have:=filter_lt hpq e ha hb
   simp only[List.filter_cons];cases hp:p x with
   | true=>simp only[hpq x hp,if_true,List.length_cons];omega
   | false=>cases hq:q x<;>simp<;>omega
def aKb (Z:Nat)(seen:Array Nat):Nat:=((List.range Z).filter λj=> !seen.contains j).length
theorem wG {Z j:Nat}{seen:Array Nat}(hj:j<Z)(hs:j∉seen):aKb Z (seen.push j)<aKb Z seen:=by
 unfold aKb;refine filter_lt (a:=j) (λx hx=>?_) (by simpa using hj) (by simpa using hs) zA;simp at hx |-;exact hx.1
theorem aH0 {v:Int}{ks:List ByteArray}:aCe (ks,v)=true↔v≠0/\ks.take 3≠ks.drop 3:=by unfold aCe;simp
theorem aS1 {l:List Tri}{j:Nat}{x:List ByteArray × Int}(h:(aBe l)[j]?=some x)(hb:aCe x=true):jS l=17:=by
 unfold jS mX;rw[if_neg];intro h2;rw[List.all_eq_true]at h2;have:=h2 x (List.mem_of_getElem? h);rw[hb]at this;cases this
theorem aWy {l:List Tri}(h:∀(j:Nat) (x:List ByteArray × Int),(aBe l)[j]?=some x->aCe x=false):jS l=0:=by
 unfold jS mX;rw[if_pos];rw[List.all_eq_true];intro x hx;obtain⟨j,hj⟩:=List.getElem?_of_mem hx;rw[h j x hj];rfl
theorem aF6 {l:List Tri}(hl:∀t,t∈l->t.le (2^29))(hn:l.length<=512){X:Nat->Prop}{w:World}{v:Value}(hX:∀b,X b->b<w.heap.size)(hv:(dR l.length (kE l)).p v X w):
  Fn PP 126 [v] X w (eE (.int .i64 (jS l))):=by
 obtain⟨R,hRR⟩:=nm (eE (.int .i64 (jS l)));obtain⟨N,hN⟩:=nm (l.length);obtain⟨Q,hQ⟩:=nm (9*N);rw[<-hN]at hv hn;obtain⟨K,hK⟩:=nm ([KF.cst v (dR N (kE l))]);rw[<-hRR];refine bJ mixed tok [.q v] (K:=K) Tryz.func126 rfl rfl (lbl rfl) rfl hX (by rw[hK];simp;exact hv) λc hc hR=>?_;refine jO 0 N Q (kE l) (by rw[lL,hQ,hN]) rfl rfl (λX μ a w v' H hv'=>cD H (by rw[hK];exact .head _) hv') (λf cap hf dJ=>?_);apply zN hc;cbv;refine aE rfl 100 (λh=>?_) (λh=>?_)
 ·have h:(512:Int)<(N:Int):=BE.lt_t h
  omega
 cbv;clear h;let ι:={x:Nat//x<=N};let I:ι->St:=λx=>⟨[(0,.sl 0 0 (.n N) cap),(18,.sl 0 0 (.n N) cap),(19,.i .i64 (.n N)),(20,.i .i64 (.n x.1))],[.xs Q f],[]⟩
 let x0:ι:=⟨0,Nat.zero_le _⟩
 refine zU 1 (S':=I x0) (K':=K) zL (by subst hK;exact⟨⟨.head _,KFr.cst _ _ _⟩,trivial⟩) trivial ?_;refine bW hc I (λx=>N - x.1) x0 100 ?_;rintro p ⟨x,hx⟩ hy;cbv;refine aE rfl 100 (λh=>?_) (λh=>?_)
 ·have hxN:x<N:=BE.ltn_t h
  have ht:l[x]?=some l[x]:=zA
  obtain⟨t,htt⟩:=nm (l[x]);rw[<-htt]at ht;have aDl:=hl t (List.mem_of_getElem? ht);obtain⟨f0,f1,f2,f3,f4,f5,f6,f7,f8⟩:=aYl hf ht;have k1:=dB aDl.1;have k2:=dB aDl.2.1;have k3:=dB aDl.2.2;unfold gA gT at k1 k2 k3;have o1:(Obl.ltE (.n x) (.n N)).ok:=by show _/\_;simp only[IE.den];omega
  have o2:(Obl.ix 0 (.n x) 9 0 9 Q).ok:=by show aY 0 (x:Int) 9 0+9<=Q;simp only[aY,Int.toNat_natCast];omega
  have o3:(Obl.inR .i64 (.add (.n x) (.l 1))).ok:=by show lo _<=_/\_<=hi _;simp only[lo,hi,IE.den];omega
  obtain⟨x',hx'⟩:=nm (x+1);have hi1:((IE.n x).add (IE.l 1)).den=(IE.n x').den:=by simp only[IE.den,hx'];omega
  have hyx:=hy ⟨x',zW⟩ (by show N - x'<N - x;omega)
  clear hy;have r9:=re9 f0 f1 f2 f3 f4 f5 f6 f7 f8;clear f0 f1 f2 f3 f4 f5 f6 f7 f8;generalize aA t.a.x=a1,aA t.a.y=a2,aA t.a.z=a3,aA t.b.x=b1,aA t.b.y=b2,aA t.b.z=b3,aA t.c.x=c1,aA t.c.y=c2,aA t.c.z=c3 at *;cbv;refine aP hc ⟨o1,o2,trivial⟩ ?_;refine bF1 24 (.g [.s (.v a1),.s (.v a2),.s (.v a3),.s (.v b1),.s (.v b2),.s (.v b3),.s (.v c1),.s (.v c2),.s (.v c3)]) rfl rfl (dV r9) ?_;refine aV 4 (λq hq=>?_);refine hq _ _ _ ?_;apply zN hc;cbv;refine zC (.b (.l true)) k1 dA ?_;cbv;refine hq _ _ _ ?_;apply zN hc;cbv;refine zC (.b (.l true)) k2 dA ?_;cbv;refine hq _ _ _ ?_;apply zN hc;cbv;refine zC (.b (.l true)) k3 dA ?_;cbv;refine hq _ _ _ ?_;apply zN hc;cbv;refine aP hc ⟨o3,trivial⟩ ?_;exact iX 1 (S':=I ⟨x',zW⟩) (K':=K) rfl rfl (show(1:Nat)<=5 by decide) rfl rfl ⟨zS,zS,zS,zI rfl rfl hi1,trivial⟩ (by subst hK;exact⟨⟨.head _,KFr.cst _ _ _⟩,trivial⟩) trivial hyx
 ·cbv;clear hy;obtain⟨M,hM⟩:∃M:Nat->fQ->OF,∀r es,M r es=OF.mp r es:=⟨OF.mp,λ_ _=>rfl⟩;obtain⟨E,hE⟩:∃E:Nat->fQ,∀x,E x=aBe (l.take x):=⟨_,λ_=>rfl⟩;refine aGg hc _ rfl rfl rfl hM rfl (λr=>?_);apply zN hc;cbv;clear h;let J:ι->St:=λx=>⟨[(0,.sl 0 0 (.n N) cap),(7,.o (.map (some r))),(34,.sl 0 0 (.n N) cap),(35,.i .i64 (.n N)),(36,.i .i64 (.n x.1))],[.xs Q f],[M r (E x.1)]⟩
  have hE0:([]:fQ)=E 0:=by rw[hE];rfl
  rw[hE0];refine zU 1 (S':=J x0) (K':=K) zL (by subst hK;exact⟨⟨.head _,KFr.cst _ _ _⟩,trivial⟩) ⟨by rw[hM];exact OFr.mp _ _ _,trivial⟩ ?_;clear hE0;refine bW hc J (λx=>N - x.1) x0 100 ?_;clear hx x;rintro p ⟨x,hx⟩ hy;cbv;refine aE rfl 100 (λh=>?_) (λh=>?_)
  rotate_left
  ·cbv;clear hy;have hxN:x=N:=by have:=BE.ltn_f h;omega
   obtain⟨es,hes⟩:=nm (E x);rw[show E (Subtype.val (⟨x,hx⟩:ι))=es from hes.symm];have bBh:es=aBe l:=by rw[hes,hE,hxN,hN,List.take_of_length_le (lRf _)]
   have hok:jF 6 es:=by rw[bBh];have:=(aCv l l.length (lRf _)).1;rwa [List.take_of_length_le (lRf _)]at this
   obtain⟨T,hT⟩:∃T:Nat->Nat->Nat->Array Nat->OF,∀a b c d,T a b c d=OF.it a b c d:=⟨OF.it,λ_ _ _ _=>rfl⟩;obtain⟨Z,hZ⟩:=nm (es.length);refine aPn hc _ rfl rfl rfl jY [] hM hT rfl rfl rfl (λq=>?_);rw[<-hZ];apply zN hc;cbv;let κ:={seen:Array Nat// ∀j,j∈seen->∀y,es[j]?=some y->aCe y=false};let H:κ->St:=λu=>⟨[(69,.o (.pointer (some ⟨q,0,none⟩)))],[],[T q r Z u.1,M r es]⟩
   let u0:κ:=⟨#[],λj hj=>by simp at hj⟩
   refine zU 0 (S':=H u0) (K':=K) zL (by subst hK;exact⟨⟨.head _,KFr.cst _ _ _⟩,trivial⟩) ⟨by rw[hT];exact OFr.it _ _ _ _ _,by rw[hM];exact OFr.mp _ _ _,trivial⟩ ?_;refine bW hc H (λu=>aKb Z u.1) u0 100 ?_;rintro p ⟨seen,aY0⟩ hy;cbv;dsimp only[H];rw[hZ];refine aVd hc _ rfl rfl rfl hM hT rfl rfl [] rfl (.tail _ (.head _)) (λtI=>?_) (λj ks v hj hns=>?_)
   ·have aTq:jS l=0:=aWy (λj y hj=>by rw[<-bBh]at hj;exact aY0 j (tI j (List.getElem?_eq_some_iff.1 hj).1) y hj)
    rw[aTq]at hRR;apply zN hc;cbv;refine bB hc hR rfl (λX μ a w v' H hv'=>?_);rw[hRR];simp only[aD]at hv';injection hv' with hv'
    exact hv'.symm
   ·have hks:ks.length=6:=hok (ks,v) (List.mem_of_getElem? hj)
    match ks,hks with
    | [a1,a2,a3,b1,b2,b3],_=>
    have hsl:=hy
    apply zN hc;cbv;refine aPj hc _ rfl rfl rfl hM hT rfl rfl (.head _) (.tail _ (.head _)) hj ?_;apply zN hc;cbv;have hgo:aCe ([a1,a2,a3,b1,b2,b3],v)=false->∀i,i∈seen.push j->∀y,es[i]?=some y->aCe y=false:=λhb i hi y hy=>by
     rcases Array.mem_push.1 hi with e | e
     ·exact aY0 i e y hy
     ·subst e;rw[hj]at hy;injection hy with hy;subst hy;exact hb
    rw[<-hZ];refine cG 77 rfl rfl 100 (λh1=>?_) (λh1=>?_)
    ·have hv:v≠0:=by
      have:(!decide (v=0))=true:=h1
      simpa using this
     cbv;refine aE rfl 100 (λh2=>?_) (λh2=>?_)
     ·rw[bFn]at h2;have aTq:jS l=17:=aS1 (by rw[<-bBh];exact hj) ((aH0 (ks:=[a1,a2,a3,b1,b2,b3])).2 ⟨hv,(of_decide_eq_true h2:[a1,a2,a3]≠[b1,b2,b3])⟩);rw[aTq]at hRR;cbv;refine bB hc hR rfl (λX μ a w v' H hv'=>?_);rw[hRR];simp only[aD]at hv';injection hv' with hv'
      exact hv'.symm
     ·rw[bFn]at h2;have hb:aCe ([a1,a2,a3,b1,b2,b3],v)=false:=by
       rw[Bool.eq_false_iff];intro hb;exact(of_decide_eq_false h2:¬[a1,a2,a3]≠[b1,b2,b3]) (aH0.1 hb).2
      let u1:κ:=⟨seen.push j,hgo hb⟩
      cbv;exact zU 0 (S':=H u1) (K':=K) zL (by subst hK;exact⟨⟨.head _,KFr.cst _ _ _⟩,trivial⟩) ⟨by rw[hT];exact OFr.it _ _ _ _ _,by rw[hM];exact OFr.mp _ _ _,trivial⟩ (hy u1 (wG (by rw[hZ];exact(List.getElem?_eq_some_iff.1 hj).1) hns))
    ·have hv:v=0:=by
      have:(!decide (v=0))=false:=h1
      simpa using this
     have hb:aCe ([a1,a2,a3,b1,b2,b3],v)=false:=by
      rw[Bool.eq_false_iff];intro hb;exact(aH0.1 hb).1 hv
     let u1:κ:=⟨seen.push j,hgo hb⟩
     cbv;exact zU 0 (S':=H u1) (K':=K) zL (by subst hK;exact⟨⟨.head _,KFr.cst _ _ _⟩,trivial⟩) ⟨by rw[hT];exact OFr.it _ _ _ _ _,by rw[hM];exact OFr.mp _ _ _,trivial⟩ (hy u1 (wG (by rw[hZ];exact(List.getElem?_eq_some_iff.1 hj).1) hns))
  have hxN:x<N:=BE.ltn_t h
  have ht:l[x]?=some l[x]:=zA
  obtain⟨t,htt⟩:=nm (l[x]);rw[<-htt]at ht;obtain⟨f0,f1,f2,f3,f4,f5,f6,f7,f8⟩:=aYl hf ht;have o1:(Obl.ltE (.n x) (.n N)).ok:=by show _/\_;simp only[IE.den];omega
  have o2:(Obl.ix 0 (.n x) 9 0 9 Q).ok:=by show aY 0 (x:Int) 9 0+9<=Q;simp only[aY,Int.toNat_natCast];omega
  have o3:(Obl.inR .i64 (.add (.n x) (.l 1))).ok:=by show lo _<=_/\_<=hi _;simp only[lo,hi,IE.den];omega
  obtain⟨x',hx'⟩:=nm (x+1);have hi1:((IE.n x).add (IE.l 1)).den=(IE.n x').den:=by simp only[IE.den,hx'];omega
  have hyx:=hy ⟨x',zW⟩ (by show N - x'<N - x;omega)
  clear hy;have v0:oZ (6*x) (E x):=by rw[hE];exact aCv l x zW
  obtain⟨e1,he1⟩:=nm (gD (sL t.a t.b) 1 (E x));have v1:oZ (6*x+1) e1:=by rw[he1];exact v0.add rfl zW
  have g1:-4611686018427387904<=gL (E x) (sL t.a t.b)/\gL (E x) (sL t.a t.b)<=4611686018427387904:=by have:=v0.get (sL t.a t.b);omega
  obtain⟨e2,he2⟩:=nm (gD (sL t.b t.a) (-1) e1);have v2:oZ (6*x+2) e2:=by rw[he2];exact v1.add rfl zW
  have g2:-4611686018427387904<=gL e1 (sL t.b t.a)/\gL e1 (sL t.b t.a)<=4611686018427387904:=by have:=v1.get (sL t.b t.a);omega
  obtain⟨e3,he3⟩:=nm (gD (sL t.b t.c) 1 e2);have v3:oZ (6*x+3) e3:=by rw[he3];exact v2.add rfl zW
  have g3:-4611686018427387904<=gL e2 (sL t.b t.c)/\gL e2 (sL t.b t.c)<=4611686018427387904:=by have:=v2.get (sL t.b t.c);omega
  obtain⟨e4,he4⟩:=nm (gD (sL t.c t.b) (-1) e3);have v4:oZ (6*x+4) e4:=by rw[he4];exact v3.add rfl zW
  have g4:-4611686018427387904<=gL e3 (sL t.c t.b)/\gL e3 (sL t.c t.b)<=4611686018427387904:=by have:=v3.get (sL t.c t.b);omega
  obtain⟨e5,he5⟩:=nm (gD (sL t.c t.a) 1 e4);have v5:oZ (6*x+5) e5:=by rw[he5];exact v4.add rfl zW
  have g5:-4611686018427387904<=gL e4 (sL t.c t.a)/\gL e4 (sL t.c t.a)<=4611686018427387904:=by have:=v4.get (sL t.c t.a);omega
  obtain⟨e6,he6⟩:=nm (gD (sL t.a t.c) (-1) e5);have v6:oZ (6*x+6) e6:=by rw[he6];exact v5.add rfl zW
  have g6:-4611686018427387904<=gL e5 (sL t.a t.c)/\gL e5 (sL t.a t.c)<=4611686018427387904:=by have:=v5.get (sL t.a t.c);omega
  have hE':E x'=e6:=by
   rw[hE,hx',aFj ht,<-hE,he6,he5,he4,he3,he2,he1];rfl
  have r9:=re9 f0 f1 f2 f3 f4 f5 f6 f7 f8
  clear f0 f1 f2 f3 f4 f5 f6 f7 f8;unfold sL at *;generalize aA t.a.x=a1,aA t.a.y=a2,aA t.a.z=a3,aA t.b.x=b1,aA t.b.y=b2,aA t.b.z=b3,aA t.c.x=c1,aA t.c.y=c2,aA t.c.z=c3 at *;cbv;refine aP hc ⟨o1,o2,trivial⟩ ?_;refine bF1 40 (.g [.s (.v a1),.s (.v a2),.s (.v a3),.s (.v b1),.s (.v b2),.s (.v b3),.s (.v c1),.s (.v c2),.s (.v c3)]) rfl rfl (dV r9) ?_;refine jH 1 [.s (.v a1),.s (.v a2),.s (.v a3),.s (.v b1),.s (.v b2),.s (.v b3),.s (.v c1),.s (.v c2),.s (.v c3)] rfl rfl r9 ?_;refine aV 4 (λq hq=>?_);refine hq _ _ _ ?_;apply zN hc;cbv;refine aP hc ⟨rU,trivial⟩ ?_;refine aGf hc jY hM [] (a:=50) (b:=53) (d4:=54) (d5:=55) (d6:=56) (d7:=57) (post:=[]) (es:=(E x)) (ks:=[a1,a2,a3,b1,b2,b3]) (1) rfl rfl rfl rfl rfl rfl rfl rfl rfl rfl rfl rfl rfl rfl rfl rfl rfl rfl rfl rfl rfl (.inl ⟨rfl,rfl⟩) g1 rfl zV rfl rfl rfl rfl v0.1 rfl rfl rfl rfl rfl zG zG zG zG zG zG zG zG zG zG zG (by rfl) ?_;rw[<-he1];apply zN hc;cbv;refine aGf hc jY hM [] (a:=58) (b:=61) (d4:=62) (d5:=63) (d6:=64) (d7:=65) (post:=[]) (es:=e1) (ks:=[b1,b2,b3,a1,a2,a3]) (-1) rfl rfl rfl rfl rfl rfl rfl rfl rfl rfl rfl rfl rfl rfl rfl rfl rfl rfl rfl rfl rfl (.inr ⟨rfl,rfl⟩) g2 rfl zV rfl rfl rfl rfl v1.1 rfl rfl rfl rfl rfl zG zG zG zG zG zG zG zG zG zG zG (by rfl) ?_;rw[<-he2];apply zN hc;cbv;refine hq _ _ _ ?_;apply zN hc;cbv;refine aP hc ⟨rU,trivial⟩ ?_;refine aGf hc jY hM [] (a:=50) (b:=53) (d4:=54) (d5:=55) (d6:=56) (d7:=57) (post:=[]) (es:=e2) (ks:=[b1,b2,b3,c1,c2,c3]) (1) rfl rfl rfl rfl rfl rfl rfl rfl rfl rfl rfl rfl rfl rfl rfl rfl rfl rfl rfl rfl rfl (.inl ⟨rfl,rfl⟩) g3 rfl zV rfl rfl rfl rfl v2.1 rfl rfl rfl rfl rfl zG zG zG zG zG zG zG zG zG zG zG (by rfl) ?_;rw[<-he3];apply zN hc;cbv;refine aGf hc jY hM [] (a:=58) (b:=61) (d4:=62) (d5:=63) (d6:=64) (d7:=65) (post:=[]) (es:=e3) (ks:=[c1,c2,c3,b1,b2,b3]) (-1) rfl rfl rfl rfl rfl rfl rfl rfl rfl rfl rfl rfl rfl rfl rfl rfl rfl rfl rfl rfl rfl (.inr ⟨rfl,rfl⟩) g4 rfl zV rfl rfl rfl rfl v3.1 rfl rfl rfl rfl rfl zG zG zG zG zG zG zG zG zG zG zG (by rfl) ?_;rw[<-he4];apply zN hc;cbv;refine hq _ _ _ ?_;apply zN hc;cbv;refine aP hc ⟨rU,trivial⟩ ?_;refine aGf hc jY hM [] (a:=50) (b:=53) (d4:=54) (d5:=55) (d6:=56) (d7:=57) (post:=[]) (es:=e4) (ks:=[c1,c2,c3,a1,a2,a3]) (1) rfl rfl rfl rfl rfl rfl rfl rfl rfl rfl rfl rfl rfl rfl rfl rfl rfl rfl rfl rfl rfl (.inl ⟨rfl,rfl⟩) g5 rfl zV rfl rfl rfl rfl v4.1 rfl rfl rfl rfl rfl zG zG zG zG zG zG zG zG zG zG zG (by rfl) ?_;rw[<-he5];apply zN hc;cbv;refine aGf hc jY hM [] (a:=58) (b:=61) (d4:=62) (d5:=63) (d6:=64) (d7:=65) (post:=[]) (es:=e5) (ks:=[a1,a2,a3,c1,c2,c3]) (-1) rfl rfl rfl rfl rfl rfl rfl rfl rfl rfl rfl rfl rfl rfl rfl rfl rfl rfl rfl rfl rfl (.inr ⟨rfl,rfl⟩) g6 rfl zV rfl rfl rfl rfl v5.1 rfl rfl rfl rfl rfl zG zG zG zG zG zG zG zG zG zG zG (by rfl) ?_;rw[<-he6];apply zN hc;cbv;refine hq _ _ _ ?_;apply zN hc;cbv;refine aP hc ⟨o3,trivial⟩ ?_;rw[<-hE'];exact iX 1 (S':=J ⟨x',zW⟩) (K':=K) rfl rfl (show(1:Nat)<=8 by decide) rfl rfl ⟨zS,zS,zS,zS,zI rfl rfl hi1,trivial⟩ (by subst hK;exact⟨⟨.head _,KFr.cst _ _ _⟩,trivial⟩) ⟨by rw[hM];exact OFr.mp _ _ _,trivial⟩ hyx
end Go.Ai
namespace Go.Ai
open Go Go.Proofs Go.Num V3
theorem eV {x y:AV}(h:∀μ,aD μ x=aD μ y){v:Value}(hv:aD hJ y=some v:=by exact rfl):aF hJ [x]=some [v]:=by simp[aF,h,hv]
theorem aPz:aB PP 72:=zK
theorem nB:sz 0<=1:=lTr (gS 0) (by rw[eS];decide)
theorem gE {μ:Mu}{v u:Value}(h:aD μ (.q v)=some u):u=v:=by simp only[aD]at h;injection h with h;exact h.symm
theorem aXl {m:Ms}(hm:m.le (2^26)):Pure PP 72 [rS m] (if m.v=0 then .tuple #[.agg #[.string ⟨#[]⟩,.string ⟨#[]⟩,.string ⟨#[]⟩],.int .i64 16]else .tuple #[gA (m.f.scale (1/m.v)),.int .i64 0]):=by
 have k0:=bB8 (hm.mono zV)
 by_cases h0:m.v=0
 ·rw[if_pos h0];have z0:aA m.v=⟨#[48]⟩:=by rw[h0];exact eS
  unfold rS at *;rw[z0]at k0 |-;clear hm h0 z0;generalize aA m.f.x=a1,aA m.f.y=a2,aA m.f.z=a3,aA m.xx=a4,aA m.yy=a5,aA m.zz=a6,aA m.xy=a7,aA m.yz=a8,aA m.zx=a9 at *;refine zF [.g [.s (.v ⟨#[48]⟩),.s (.v a1),.s (.v a2),.s (.v a3),.s (.v a4),.s (.v a5),.s (.v a6),.s (.v a7),.s (.v a8),.s (.v a9)]] Tryz.func72 λc hc hR=>?_;cbv;refine zC (.b (.l true)) k0 aI2 ?_;cbv;refine aE rfl 100 (λh=>?_) (λh=>by rw[aNi]at h;exact absurd rfl (of_decide_eq_false h));cbv;exact zR
 ·rw[if_neg h0];have k1:=aXz (x:=1) (y:=m.v) h0 sz1 (lTr hm.1 zV);rw[oW]at k1;have k2:=bDa (u:=m.f) (q:=1/m.v) (hm.2.1.mono zV) (lTr (kF _ _) (by have:=aIe;have:=hm.1;omega));have z0:=λh=>(h0 (is0 (q:=m.v) h)).elim (C:=False);unfold rS gA gT at *;clear hm h0;generalize aA (m.f.scale (1/m.v)).x=r1,aA (m.f.scale (1/m.v)).y=r2,aA (m.f.scale (1/m.v)).z=r3,aA (1/m.v)=q,aA m.v=a0,aA m.f.x=a1,aA m.f.y=a2,aA m.f.z=a3,aA m.xx=a4,aA m.yy=a5,aA m.zz=a6,aA m.xy=a7,aA m.yz=a8,aA m.zx=a9 at *;refine zF [.g [.s (.v a0),.s (.v a1),.s (.v a2),.s (.v a3),.s (.v a4),.s (.v a5),.s (.v a6),.s (.v a7),.s (.v a8),.s (.v a9)]] Tryz.func72 λc hc hR=>?_;cbv;refine zC (.b (.l true)) k0 aI2 ?_;cbv;refine aE rfl 100 (λh=>(z0 h).elim) (λh=>?_);cbv;refine zC (.t [.s (.v q),.i .i64 (.l 0)]) k1 aG3 ?_;cbv;refine zC (.t [.g [.s (.v r1),.s (.v r2),.s (.v r3)],.i .i64 (.l 0)]) k2 aSl ?_;cbv;exact zR
theorem pE:aB PP 222:=zK
theorem aE8:aB PP 221:=zK
theorem aGy:aB PP 220:=zK
theorem aRs:aB PP 189:=zK
theorem nT:aB PP 247:=zK
structure Pl.fit (p:Pl)(k:Nat):Prop where
 h0:p.n≠V3.zero
 hn:p.n.le k
 ha:sz p.a<=k
theorem Pl.fit.mono {p:Pl}{k m:Nat}(h:p.fit k)(hm:k<=m):p.fit m:=⟨h.h0,h.hn.mono hm,lTr h.ha hm⟩
def Pl.over (p:Pl)(v:V3):Bool:=decide (0<p.height v)
theorem aE5 {p:Pl}{u v:V3}(hp:p.fit (2^24))(hu:u.le (2^24))(hv:v.le (2^24))(hd:p.over u≠p.over v):Pure PP 222 [pC p,gA u,gA v] (gA (p.cut u v)):=by
 have k1:=aGo hp.h0 hp.hn hp.ha hu hv (by
  unfold Pl.over at hd;by_cases h1:0<p.height u<;>by_cases h2:0<p.height v<;>simp[h1,h2]at hd |-)
 clear hp hu hv hd;unfold pC gA gT at *;generalize aA p.n.x=a,aA p.n.y=b,aA p.n.z=d at *;generalize aA p.a=t,aA u.x=a',aA u.y=b',aA u.z=d',aA v.x=a2,aA v.y=b2,aA v.z=d2,aA (p.cut u v).x=y1,aA (p.cut u v).y=y2,aA (p.cut u v).z=y3 at *;refine zF [.g [.s (.v a),.s (.v b),.s (.v d),.s (.v t)],iI a' b' d',iI a2 b2 d2] Tryz.func222 λc hc hR=>?_;cbv;refine zC (.t [iI y1 y2 y3,.i .i64 (.l 0)]) k1 dM ?_;cbv;exact zR
def Tri.rot (t:Tri):Nat->Tri
 | 0=>t
 | 1=>⟨t.b,t.c,t.a⟩
 | _=>⟨t.c,t.a,t.b⟩
theorem aWh (t:Tri){i:Nat}(hi:i<3):Pure PP 221 [oU t,.int .i64 i] (oU (t.rot i)):=by
 unfold oU;match i,hi with
 | 0,_=>
  rw[show t.rot 0=t from rfl];generalize aA t.a.x=a1,aA t.a.y=a2,aA t.a.z=a3,aA t.b.x=b1,aA t.b.y=b2,aA t.b.z=b3,aA t.c.x=c1,aA t.c.y=c2,aA t.c.z=c3 at *;refine zF [.g [.s (.v a1),.s (.v a2),.s (.v a3),.s (.v b1),.s (.v b2),.s (.v b3),.s (.v c1),.s (.v c2),.s (.v c3)],.i .i64 (.l 0)] Tryz.func221 λc hc hR=>?_;cbv;refine aP hc ⟨rU,rU,trivial⟩ ?_;refine zE ?_;cbv;exact zR
 | 1,_=>
  rw[show t.rot 1=⟨t.b,t.c,t.a⟩ from rfl];generalize aA t.a.x=a1,aA t.a.y=a2,aA t.a.z=a3,aA t.b.x=b1,aA t.b.y=b2,aA t.b.z=b3,aA t.c.x=c1,aA t.c.y=c2,aA t.c.z=c3 at *;refine zF [.g [.s (.v a1),.s (.v a2),.s (.v a3),.s (.v b1),.s (.v b2),.s (.v b3),.s (.v c1),.s (.v c2),.s (.v c3)],.i .i64 (.l 1)] Tryz.func221 λc hc hR=>?_;cbv;refine aP hc ⟨rU,rU,trivial⟩ ?_;refine zE ?_;cbv;exact zR
 | 2,_=>
  rw[show t.rot 2=⟨t.c,t.a,t.b⟩ from rfl];generalize aA t.a.x=a1,aA t.a.y=a2,aA t.a.z=a3,aA t.b.x=b1,aA t.b.y=b2,aA t.b.z=b3,aA t.c.x=c1,aA t.c.y=c2,aA t.c.z=c3 at *;refine zF [.g [.s (.v a1),.s (.v a2),.s (.v a3),.s (.v b1),.s (.v b2),.s (.v b3),.s (.v c1),.s (.v c2),.s (.v c3)],.i .i64 (.l 2)] Tryz.func221 λc hc hR=>?_;cbv;refine aP hc ⟨rU,rU,trivial⟩ ?_;refine zE ?_;cbv;exact zR
def aHi:Bool->Bool->Bool->Int × Bool
 | true,true,true=>(-1,true)
 | false,false,false=>(-1,false)
 | true,false,false=>(0,true)
 | false,true,false=>(1,true)
 | false,false,true=>(2,true)
 | false,true,true=>(0,false)
 | true,false,true=>(1,false)
 | true,true,false=>(2,false)
def Tri.cutP (t:Tri)(p:Pl):Int × Bool:=aHi (p.over t.a) (p.over t.b) (p.over t.c)
theorem aAd {μ:Mu}{a b d a' b' d':BE}(h1:a.den=a'.den)(h2:b.den=b'.den)(h3:d.den=d'.den):aF μ [.b a,.b b,.b d]=aF μ [.b a',.b b',.b d']:=by
 simp[aF,aD,h1,h2,h3]
theorem bGh {t:Tri}{p:Pl}(hp:p.fit (2^26))(ht:t.le (2^26)):Pure PP 220 [oU t,pC p] (.tuple #[.int .i64 (t.cutP p).1,.bool (t.cutP p).2]):=by
 have k1:=aLk hp.h0 hp.hn hp.ha ht.1
 have k2:=aLk hp.h0 hp.hn hp.ha ht.2.1
 have k3:=aLk hp.h0 hp.hn hp.ha ht.2.2
 have e1:=mK (p.height t.a)
 have e2:=mK (p.height t.b)
 have e3:=mK (p.height t.c)
 obtain⟨r,hr⟩:=nm (t.cutP p);rw[<-hr];unfold Tri.cutP Pl.over at hr;rw[<-e1,<-e2,<-e3]at hr;clear e1 e2 e3 hp ht;generalize jJ (p.height t.a) 0=s1,jJ (p.height t.b) 0=s2,jJ (p.height t.c) 0=s3 at *;unfold pC oU gA gT at *;generalize aA p.n.x=q1,aA p.n.y=q2,aA p.n.z=q3,aA p.a=q4,aA t.a.x=a1,aA t.a.y=a2,aA t.a.z=a3,aA t.b.x=b1,aA t.b.y=b2,aA t.b.z=b3,aA t.c.x=c1,aA t.c.y=c2,aA t.c.z=c3 at *;refine zF [.g [.s (.v a1),.s (.v a2),.s (.v a3),.s (.v b1),.s (.v b2),.s (.v b3),.s (.v c1),.s (.v c2),.s (.v c3)],.g [.s (.v q1),.s (.v q2),.s (.v q3),.s (.v q4)]] Tryz.func220 λc hc hR=>?_;cbv;refine aV 4 (λp hp=>?_);refine hp _ _ _ ?_;apply zN hc;cbv;refine zC (.t [.i .i64 (.v s1),.i .i64 (.l 0)]) k1 nE ?_;cbv;refine aE rfl 100 (λh1=>?_) (λh1=>?_)
 ·have bb1:decide (0<s1)=true:=h1
  cbv;refine hp _ _ _ ?_;apply zN hc;cbv;refine zC (.t [.i .i64 (.v s2),.i .i64 (.l 0)]) k2 nE ?_;cbv;refine aE rfl 100 (λh2=>?_) (λh2=>?_)
  ·have bb2:decide (0<s2)=true:=h2
   cbv;refine hp _ _ _ ?_;apply zN hc;cbv;refine zC (.t [.i .i64 (.v s3),.i .i64 (.l 0)]) k3 nE ?_;cbv;refine aE rfl 100 (λh3=>?_) (λh3=>?_)
   ·have bb3:decide (0<s3)=true:=h3
    cbv;refine hp _ _ _ ?_;apply zN hc;cbv;exact bR hc hR rfl (by rw[hr,bb1,bb2,bb3];rfl)
   ·have bb3:decide (0<s3)=false:=h3
    cbv;refine jH 2 [.b (.l true),.b (.l true),.b (.l false)] rfl rfl (λμ=>by rw[aAd (a':=.l true) (b':=.l true) (d':=.l false) h1 h2 h3]) ?_;refine hp _ _ _ ?_;apply zN hc;cbv;refine cO hc Tryz.func247 nT (λc' tm FR hFR hc' L=>?_);apply zN hc';cbv;refine aV 4 (λq hq=>?_);refine hq _ _ _ ?_;apply zN hc';cbv;refine aE (hc:=hc') rfl 100 (λh=>nomatch (show false=true from h)) (λh=>?_);cbv;refine hq _ _ _ ?_;apply zN hc';cbv;refine aE (hc:=hc') rfl 100 (λh=>nomatch (show false=true from h)) (λh=>?_);cbv;refine hq _ _ _ ?_;apply zN hc';cbv;refine aE (hc:=hc') rfl 100 (λh=>?_) (λh=>nomatch (show true=false from h));cbv;refine cY hc' L hFR (.head _) ?_;apply zN hc;cbv;exact bR hc hR rfl (by rw[hr,bb1,bb2,bb3];rfl)
  ·have bb2:decide (0<s2)=false:=h2
   cbv;refine hp _ _ _ ?_;apply zN hc;cbv;refine zC (.t [.i .i64 (.v s3),.i .i64 (.l 0)]) k3 nE ?_;cbv;refine aE rfl 100 (λh3=>?_) (λh3=>?_)
   ·have bb3:decide (0<s3)=true:=h3
    cbv;refine jH 2 [.b (.l true),.b (.l false),.b (.l true)] rfl rfl (λμ=>by rw[aAd (a':=.l true) (b':=.l false) (d':=.l true) h1 h2 h3]) ?_;refine hp _ _ _ ?_;apply zN hc;cbv;refine cO hc Tryz.func247 nT (λc' tm FR hFR hc' L=>?_);apply zN hc';cbv;refine aV 4 (λq hq=>?_);refine hq _ _ _ ?_;apply zN hc';cbv;refine aE (hc:=hc') rfl 100 (λh=>nomatch (show false=true from h)) (λh=>?_);cbv;refine hq _ _ _ ?_;apply zN hc';cbv;refine aE (hc:=hc') rfl 100 (λh=>?_) (λh=>nomatch (show true=false from h));cbv;refine cY hc' L hFR (.head _) ?_;apply zN hc;cbv;exact bR hc hR rfl (by rw[hr,bb1,bb2,bb3];rfl)
   ·have bb3:decide (0<s3)=false:=h3
    cbv;refine jH 2 [.b (.l true),.b (.l false),.b (.l false)] rfl rfl (λμ=>by rw[aAd (a':=.l true) (b':=.l false) (d':=.l false) h1 h2 h3]) ?_;refine hp _ _ _ ?_;apply zN hc;cbv;refine cO hc Tryz.func247 nT (λc' tm FR hFR hc' L=>?_);apply zN hc';cbv;refine aV 4 (λq hq=>?_);refine hq _ _ _ ?_;apply zN hc';cbv;refine aE (hc:=hc') rfl 100 (λh=>?_) (λh=>nomatch (show true=false from h));cbv;refine cY hc' L hFR (.head _) ?_;apply zN hc;cbv;exact bR hc hR rfl (by rw[hr,bb1,bb2,bb3];rfl)
 ·have bb1:decide (0<s1)=false:=h1
  cbv;refine hp _ _ _ ?_;apply zN hc;cbv;refine zC (.t [.i .i64 (.v s2),.i .i64 (.l 0)]) k2 nE ?_;cbv;refine aE rfl 100 (λh2=>?_) (λh2=>?_)
  ·have bb2:decide (0<s2)=true:=h2
   cbv;refine hp _ _ _ ?_;apply zN hc;cbv;refine zC (.t [.i .i64 (.v s3),.i .i64 (.l 0)]) k3 nE ?_;cbv;refine aE rfl 100 (λh3=>?_) (λh3=>?_)
   ·have bb3:decide (0<s3)=true:=h3
    cbv;refine jH 2 [.b (.l false),.b (.l true),.b (.l true)] rfl rfl (λμ=>by rw[aAd (a':=.l false) (b':=.l true) (d':=.l true) h1 h2 h3]) ?_;refine hp _ _ _ ?_;apply zN hc;cbv;refine cO hc Tryz.func247 nT (λc' tm FR hFR hc' L=>?_);apply zN hc';cbv;refine aV 4 (λq hq=>?_);refine hq _ _ _ ?_;apply zN hc';cbv;refine aE (hc:=hc') rfl 100 (λh=>?_) (λh=>nomatch (show true=false from h));cbv;refine cY hc' L hFR (.head _) ?_;apply zN hc;cbv;exact bR hc hR rfl (by rw[hr,bb1,bb2,bb3];rfl)
   ·have bb3:decide (0<s3)=false:=h3
    cbv;refine jH 2 [.b (.l false),.b (.l true),.b (.l false)] rfl rfl (λμ=>by rw[aAd (a':=.l false) (b':=.l true) (d':=.l false) h1 h2 h3]) ?_;refine hp _ _ _ ?_;apply zN hc;cbv;refine cO hc Tryz.func247 nT (λc' tm FR hFR hc' L=>?_);apply zN hc';cbv;refine aV 4 (λq hq=>?_);refine hq _ _ _ ?_;apply zN hc';cbv;refine aE (hc:=hc') rfl 100 (λh=>nomatch (show false=true from h)) (λh=>?_);cbv;refine hq _ _ _ ?_;apply zN hc';cbv;refine aE (hc:=hc') rfl 100 (λh=>?_) (λh=>nomatch (show true=false from h));cbv;refine cY hc' L hFR (.head _) ?_;apply zN hc;cbv;exact bR hc hR rfl (by rw[hr,bb1,bb2,bb3];rfl)
  ·have bb2:decide (0<s2)=false:=h2
   cbv;refine hp _ _ _ ?_;apply zN hc;cbv;refine zC (.t [.i .i64 (.v s3),.i .i64 (.l 0)]) k3 nE ?_;cbv;refine aE rfl 100 (λh3=>?_) (λh3=>?_)
   ·have bb3:decide (0<s3)=true:=h3
    cbv;refine jH 2 [.b (.l false),.b (.l false),.b (.l true)] rfl rfl (λμ=>by rw[aAd (a':=.l false) (b':=.l false) (d':=.l true) h1 h2 h3]) ?_;refine hp _ _ _ ?_;apply zN hc;cbv;refine cO hc Tryz.func247 nT (λc' tm FR hFR hc' L=>?_);apply zN hc';cbv;refine aV 4 (λq hq=>?_);refine hq _ _ _ ?_;apply zN hc';cbv;refine aE (hc:=hc') rfl 100 (λh=>nomatch (show false=true from h)) (λh=>?_);cbv;refine hq _ _ _ ?_;apply zN hc';cbv;refine aE (hc:=hc') rfl 100 (λh=>nomatch (show false=true from h)) (λh=>?_);cbv;refine hq _ _ _ ?_;apply zN hc';cbv;refine aE (hc:=hc') rfl 100 (λh=>?_) (λh=>nomatch (show true=false from h));cbv;refine cY hc' L hFR (.head _) ?_;apply zN hc;cbv;exact bR hc hR rfl (by rw[hr,bb1,bb2,bb3];rfl)
   ·have bb3:decide (0<s3)=false:=h3
    cbv;refine hp _ _ _ ?_;apply zN hc;cbv;exact bR hc hR rfl (by rw[hr,bb1,bb2,bb3];rfl)
end Go.Ai
namespace Go.Ai
open Go Go.RowKit
def OF.rk (k:Nat)(base e sz n:Nat)(xs:List Value):OF where
 F μ b:=∃v,μ k=some (.val v)/\v.ownBlock=some b
 p μ w:=∃v,μ k=some (.val v)/\(∃a cap,v=.slice a n cap)/\w.ownsRow base e sz v n xs
 st μ μ' w w' hv hk h:=by
  obtain⟨v,h1,⟨a,cap,rfl⟩,h2⟩:=h;have h1':=hv.fx _ _ rfl h1;have hF:∀b,(Value.slice a n cap).ownBlock=some b->w'.heap[b]?=w.heap[b]?:=λb hb=>hk b ⟨_,h1,hb⟩;refine⟨⟨_,h1',⟨a,cap,rfl⟩,h2.1,?_⟩,λb=>?_⟩
  ·rcases h2.2 with hn | ⟨g,aU,cur,e1,hb,hg,hr⟩
   ·exact .inl hn
   ·exact .inr ⟨g,aU,cur,e1,hb,by rw[hF g (by rw[e1];simp[Value.ownBlock])];exact hg,hr⟩
  ·constructor
   ·rintro ⟨u,q1,q2⟩;rw[h1']at q1;injection q1 with q1;injection q1 with q1;subst q1;exact⟨_,h1,q2⟩
   ·rintro ⟨u,q1,q2⟩;rw[h1]at q1;injection q1 with q1;injection q1 with q1;subst q1;exact⟨_,h1',q2⟩
section
variable {c:Cx}{P:Program}{ty:Nat->Option TyI}{nt:Nat}{K:List KF}{S:St}
theorem aHb (hcP:c.P=P)(bEq:c.ty=ty){o:Oper}{n0:Nat}{D:Nat->Prop}{t e bt j n cap:Nat}{x y:Operand}{a0:Option Addr}{ti ei:TyI}{xs news:List Value}{cells:List AV}{pre post:List OF}{bytes sz m:Nat}
  (hop:o.op=.call {callee:=.builtin .append,args:=#[x,y],argTypes:=#[t,t]}) (hx:fW S.sl x=some (.xs a0 n cap)) (hy:fW S.sl y=some (.sl j 0 (.l (m:Int)) m)) (hm:Nat.ble 1 m=true) (hj:S.hp[j]?=some (.c bt cells)) (iW:aF hJ cells=some news) (mA:cells.all AV.one=true) (hlen:cells.length=m*sz) (h0:Nat.ble 1 sz=true) (how:S.ow=pre++OF.rv (.slice a0 n cap) c.B.heap.size e sz n xs::post)
  (hti:ty t=some ti) (hk:ti.kind=.slice e sz) (hei:ty e=some ei) (hzs:ei.zero.length=sz) (hby:(P.info? e).map (·.bytes)=some bytes) (hle:(n+m)*bytes<=140737488355328) (h63:n+m<=9223372036854775807)
  (hD:∀t,Operand.tmp t∈o.op.operands->D t):
  Cert c K n0 D S o (.e S.hp.length) (some .e) [] (OF.rk S.hp.length c.B.heap.size e sz (n+m) (xs++news)::(pre++post)):=by
 intro X μ a w next Q P' hfr hn
 rw[hop]at hD;have hm1:1<=m:=lbl hm;have hs1:1<=sz:=lbl h0;have e1:=nF (aH P' hx (λt e=>hD t (by subst e;simp[Op.operands,Call.operands])));obtain⟨b,o1,hb1,e2⟩:=oH (aH P' hy (λt e=>hD t (by subst e;simp[Op.operands,Call.operands]))) (by simp only[IE.den];omega);simp only[IE.den]at e2;obtain⟨mv,hv1,hv2⟩:=yD hb1;have hok:=P'.heap j _ mv hj hv1;match mv,hv2,hok,hv1 with
 | .own b',hv2,hok,hv1=>
  simp only[MV.at,Option.some.injEq,Prod.mk.injEq]at hv2;obtain⟨rfl,rfl⟩:=hv2;obtain⟨vs,hvs,aA4⟩:=hok;rw[cW iW]at hvs;injection hvs with hvs
  subst hvs;have T:=c.tok t ti (by rw[bEq];exact hti);have hu:=T.und;rw[hk]at hu;obtain⟨u1,tj,u2,u3⟩:=hu;obtain⟨tj',z,h1,h2,h3,h4,h5⟩:=(c.tok e ei (by rw[bEq];exact hei)).info;rw[u2]at h1;injection h1 with h1;subst h1
  have hzs:z.cells.size=sz:=by have:=bC h4;rw[hzs]at this;simpa using this
  have hb2:tj.bytes=bytes:=by rw[<-hcP,u2]at hby;simpa using hby
  have hf0:OF.rv (.slice a0 n cap) c.B.heap.size e sz n xs∈S.ow:=by rw[how];simp
  obtain⟨hr0,hr1⟩:=P'.own.at_ _ hf0;have hr0:w.ownsRow c.B.heap.size e sz (.slice a0 n cap) n xs:=hr0;have hnl:news.length=m*sz:=by rw[bC iW,hlen]
  obtain⟨v',w',q1,q2,q3,q4⟩:=aCd (P:=c.P) c.B.heap.size t o.type e tj z sz bytes u1 u2 h3 u3 hb2 hzs zW _ _ _ hr0 ⟨b',0+0,none⟩ m m news hnl (λq u hq=>by
    simp[add_eq,World.cell?,aA4,hq]) (uN mA iW) (by simpa[maxLen]using h63) hle P'.bel.size
  have hv':∃a' aU,v'=.slice a' (n+m) aU:=by
   rcases q2.2 with⟨h6,h7⟩ | ⟨g,aU,cur,h6,_⟩
   ·omega
   ·exact⟨_,_,h6⟩
  obtain⟨a',aU,rfl⟩:=hv';have aMl:(execOp a.eval o).run c.P w=.ok (.value (.slice a' (n+m) aU)) w':=by
   simp only[execOp,hop,resolve,invoke,builtin,Sem.run_bind,Sem.run_pure,Result.andThen_ok,List.map_toArray,List.map_cons,List.map_nil,e1,e2];rw[Int.toNat_natCast,q1];rfl
  have bHo:Mu.le μ (μ.upd S.hp.length (.val (.slice a' (n+m) aU))):=Mu.le_upd (hfr rfl)
  have aDk:=Mu.upd_same μ S.hp.length (.val (.slice a' (n+m) aU))
  have hF:∀f,f∈S.ow->∀b,f.F μ b->c.B.heap.size<=b/\b<w.heap.size/\¬X b/\∀k,μ k≠some (.own b):=λf hf=>(P'.own.at_ f hf).2
  have hB:c.B.heap.size<=w.heap.size:=P'.bel.size
  have hap:=P'.own.apart
  rw[how,List.pairwise_append]at hap;obtain⟨p1,p2,p3⟩:=hap;have pA:∀f,f∈pre++post->f∈S.ow:=λf hf=>by
   rw[how];rcases List.mem_append.1 hf with h | h
   ·simp[h]
   ·simp[h]
  have hr:∀b,(Value.slice a0 n cap).ownBlock=some b->∃f,f∈S.ow/\f.F μ b:=λb hb=>⟨_,hf0,hb⟩
  have hr':∀f,f∈pre++post->∀b,(Value.slice a0 n cap).ownBlock=some b->¬f.F μ b:=λf hf b hb hb'=>by
   rcases List.mem_append.1 hf with h | h
   ·exact p3 f h _ List.mem_cons_self b hb' hb
   ·exact List.rel_of_pairwise_cons p2 h b hb hb'
  have tJ:∀b,(Value.slice a' (n+m) aU).ownBlock=some b->(Value.slice a0 n cap).ownBlock=some b\/w.heap.size<=b:=λb hb=>by
   rcases q4 with h6 | h6
   ·left;rw[<-h6];exact hb
   ·right;rw[h6]at hb;injection hb with hb;exact Nat.le_of_eq hb
  have hlt:∀b,(Value.slice a' (n+m) aU).ownBlock=some b->b<w'.heap.size:=λb hb=>(World.ownsRow.lt q2 b hb).2
  have hst:∀f,f∈pre++post->f.p (μ.upd S.hp.length (.val (.slice a' (n+m) aU))) w'/\∀b,f.F (μ.upd S.hp.length (.val (.slice a' (n+m) aU))) b↔f.F μ b:=λf hf=>
   f.st μ _ w w' bHo.v (λk hk=>q3.block k (hF f (pA f hf) k hk).2.1 (λe2=>hr' f hf k e2.symm hk)) (P'.own.at_ f (pA f hf)).1
  have fG:∀k b,(μ.upd S.hp.length (.val (.slice a' (n+m) aU))) k=some (.own b)->μ k=some (.own b):=λk b hk=>by
   by_cases ek:k=S.hp.length
   ·rw[ek,aDk]at hk;injection hk with hk;cases hk
   ·simpa[Mu.upd,ek]using hk
  refine aB8 aMl (hn X _ _ w' ⟨below_grown q3 hB (λb hb=>?_),λb hb hnf=>?_,?_,⟨.val (.slice a' (n+m) aU),rfl,trivial,λb e=>by cases e⟩,λ_ h=>h,λ_ h=>.inl h,?_⟩ (λf hf=>by cases hf))
  ·obtain⟨f,h1,h2⟩:=hr b hb;exact(hF f h1 b h2).1
  ·refine q3.block b hb (λe=>?_);obtain⟨f,h1,h2⟩:=hr b e.symm;exact hnf f h1 h2
  ·simp only[aD,aDk]
  ·refine⟨λf hf=>?_,List.Pairwise.cons (λg hg' b hb hb'=>?_) ?_⟩
   ·rcases List.mem_cons.1 hf with e' | e'
    ·subst e';refine⟨⟨_,aDk,⟨a',aU,rfl⟩,q2⟩,λb hb=>?_⟩;obtain⟨u,u1,u2⟩:=hb;rw[aDk]at u1;injection u1 with u1;injection u1 with u1;subst u1
     rcases tJ b u2 with h7 | e'
     ·obtain⟨f,h1,h2⟩:=hr b h7;obtain⟨q1,q2,q3,q4⟩:=hF f h1 b h2;exact⟨q1,hlt b u2,q3,λk hk=>q4 k (fG k b hk)⟩
     ·exact⟨lTr hB e',hlt _ u2,λhx=>by have:=P'.xlt _ hx;omega,λk hk=>by have:=(P'.loc k _ (fG k b hk)).2.2;omega⟩
    ·obtain⟨h1,h2⟩:=hst f e';refine⟨h1,λb hb=>?_⟩;obtain⟨q1,q2,q3',q4⟩:=hF f (pA f e') b ((h2 b).1 hb);exact⟨q1,Nat.lt_of_lt_of_le q2 q3.size,q3',λk hk=>q4 k (fG k b hk)⟩
   ·obtain⟨u,u1,u2⟩:=hb;rw[aDk]at u1;injection u1 with u1;injection u1 with u1;subst u1
    have bEh:=((hst g hg').2 b).1 hb'
    rcases tJ b u2 with h7 | e'
    ·exact hr' g hg' b h7 bEh
    ·have:=(hF g (pA g hg') b bEh).2.1;omega
   ·have hpw:(pre++post).Pairwise λf g=>∀b,f.F μ b->¬g.F μ b:=List.pairwise_append.2 ⟨p1,List.Pairwise.of_cons p2,λf hf g hg=>p3 f hf g (List.mem_cons_of_mem _ hg)⟩
    refine List.Pairwise.imp_of_mem (λ{f g} hf hg h b hb hb'=>?_) hpw;exact h b (((hst f hf).2 b).1 hb) (((hst g hg).2 b).1 hb')
theorem dT (hc:Ctx c P ty nt){all:Array Oper}{i n0:Nat}{K0:List KF}{k:List KI}(o:Oper)(ho:all[i]?=some o)(hg:guardOf all S.sl o=some true)(hd:cM nt o.dst=true){t e bt j n cap:Nat}{x y:Operand}{a0:Option Addr}{ti ei:TyI}{xs news:List Value}{cells:List AV}(pre:List OF){post:List OF}{bytes sz m:Nat}{G:Option Addr->Nat->Nat->List Value->OF}(hG:∀a n cap l,G a n cap l=OF.rv (.slice a n cap) c.B.heap.size e sz n l)
  {GK:Nat->Nat->List Value->OF} (hGK:∀q n l,GK q n l=OF.rk q c.B.heap.size e sz n l)
  (hop:o.op=.call {callee:=.builtin .append,args:=#[x,y],argTypes:=#[t,t]}) (hx:fW S.sl x=some (.xs a0 n cap)) (hy:fW S.sl y=some (.sl j 0 (.l (m:Int)) m)) (hm:Nat.ble 1 m=true) (hj:S.hp[j]?=some (.c bt cells)) (iW:aF hJ cells=some news) (mA:cells.all AV.one=true) (hlen:cells.length=m*sz) (h0:Nat.ble 1 sz=true) (how:S.ow=pre++G a0 n cap xs::post)
  (hti:ty t=some ti) (hk:ti.kind=.slice e sz) (hei:ty e=some ei) (hzs:ei.zero.length=sz)    (r:Nat)
  (h:∀n' l',n'=n+m->l'=xs++news->Goal c K (run ty nt K r (.dops all (i+1) n0 K0::k) (S.putO o.dst (.e S.hp.length) (some .e) (GK S.hp.length n' l'::(pre++post))) []))(hby:(P.info? e).map (·.bytes)=some bytes:=by kernel_rfl)(hle:(n+m)*bytes<=140737488355328:=by omega)(h63:n+m<=9223372036854775807:=by omega):Goal c K ⟨.dops all i n0 K0::k,S,[]⟩:=by
 rw[hG]at how;have hh:=h _ _ rfl rfl;rw[hGK]at hh;exact yM hc o ho hg (by unfold cF;rw[hop]) hd (λD hD=>aHb hc.hP hc.hty hop hx hy hm hj iW mA hlen h0 how hti hk hei hzs hby hle h63 hD) r hh
theorem bCx {ks:List KI}(d:Nat){k:Nat}(hp:jT ks=true)(hl:look S.sl d=some (.e k)){e sz n:Nat}{l:List Value}{G:Option Addr->Nat->Nat->List Value->OF}(hG:∀a n cap l,G a n cap l=OF.rv (.slice a n cap) c.B.heap.size e sz n l)
  {GK:Nat->Nat->List Value->OF} (hGK:∀q n l,GK q n l=OF.rk q c.B.heap.size e sz n l) (pre:List OF) {post:List OF} (how:S.ow=pre++GK k n l::post)
  (h:∀a cap,Goal c K ⟨ks,{S with sl:=(d,.xs a n cap)::S.sl,ow:=pre++G a n cap l::post},[]⟩):Goal c K ⟨ks,S,[]⟩:=by
 refine jD (ι:=RowZ) (K':=λ_=>K) (S':=λz=>{S with sl:=(d,.xs z.a n z.cap)::S.sl,ow:=pre++G z.a n z.cap l::post}) (p:=λ_=>True) hp (λX μ a w H=>?_) (λz _=>h z.a z.cap);rw[hGK]at how;have hf0:OF.rk k c.B.heap.size e sz n l∈S.ow:=by rw[how];simp
 obtain⟨⟨v,h1,⟨ad,cap,rfl⟩,h2⟩,h3⟩:=H.toP.own.at_ _ hf0;refine⟨⟨ad,cap⟩,X,μ,trivial,?_⟩;rw[hG];have H1:Sim c K {S with ow:=pre++OF.rv (.slice ad n cap) c.B.heap.size e sz n l::post} X μ a w:=by
  have P:=H.toP
  refine⟨⟨P.dfr,P.size,P.slots,P.heap,P.all,P.inj,P.loc,P.xlt,P.xnew,P.xold,P.bel,P.kf,?_⟩,H.dom⟩;have hFF:∀b,(OF.rk k c.B.heap.size e sz n l).F μ b↔(OF.rv (.slice ad n cap) c.B.heap.size e sz n l).F μ b:=λb=>by
   constructor
   ·rintro ⟨u,q1,q2⟩;rw[h1]at q1;injection q1 with q1;injection q1 with q1;subst q1;exact q2
   ·intro q;exact⟨_,h1,q⟩
  have ha:=P.own.apart
  rw[how,List.pairwise_append]at ha;obtain⟨p1,p2,p3⟩:=ha;refine⟨λf hf=>?_,List.pairwise_append.2 ⟨p1,List.Pairwise.cons (λg hg b hb=>List.rel_of_pairwise_cons p2 hg b ((hFF b).2 hb)) (List.Pairwise.of_cons p2),λf hf g hg b hb hb'=>?_⟩⟩
  ·rcases List.mem_append.1 hf with q | q
   ·exact P.own.at_ f (by rw[how];simp[q])
   ·rcases List.mem_cons.1 q with q | q
    ·subst q;exact⟨h2,λb hb=>h3 b ((hFF b).2 hb)⟩
    ·exact P.own.at_ f (by rw[how];simp[q])
  ·rcases List.mem_cons.1 hg with q | q
   ·subst q;exact p3 f hf _ List.mem_cons_self b hb ((hFF b).2 hb')
   ·exact p3 f hf g (List.mem_cons_of_mem _ q) b hb hb'
 exact jW (S:={S with ow:=pre++OF.rv (.slice ad n cap) c.B.heap.size e sz n l::post}) H1 hl (by simp only[aD,h1])
theorem aPm {ks:List KI}(pre:List OF){x:OF}{post:List OF}(hp:jT ks=true)(how:S.ow=x::(pre++post))(h:Goal c K ⟨ks,{S with ow:=pre++x::post},[]⟩):Goal c K ⟨ks,S,[]⟩:=by
 refine oR hp (λX μ a w H=>⟨X,μ,?_⟩) h;have P:=H.toP;refine⟨⟨P.dfr,P.size,P.slots,P.heap,P.all,P.inj,P.loc,P.xlt,P.xnew,P.xold,P.bel,P.kf,?_⟩,H.dom⟩;have ha:=P.own.apart;have hm:∀f,f∈pre++x::post->f∈S.ow:=λf hf=>by
  rw[how];rcases List.mem_append.1 hf with q | q
  ·simp[q]
  ·rcases List.mem_cons.1 q with q | q
   ·simp[q]
   ·simp[q]
 rw[how]at ha;have hx:=λg hg=>List.rel_of_pairwise_cons ha (a':=g) hg;have ht:=List.Pairwise.of_cons ha;rw[List.pairwise_append]at ht;obtain⟨p1,p2,p3⟩:=ht;refine⟨λf hf=>P.own.at_ f (hm f hf),List.pairwise_append.2 ⟨p1,List.Pairwise.cons (λg hg=>hx g (by simp[hg])) p2,λf hf g hg b hb hb'=>?_⟩⟩;rcases List.mem_cons.1 hg with q | q
 ·subst q;exact hx f (by simp[hf]) b hb' hb
 ·exact p3 f hf g q b hb hb'
theorem iP {ks:List KI}(d:Nat){k:Nat}(hp:jT ks=true)(hl:look S.sl d=some (.e k)){e sz n:Nat}{l:List Value}{G:Option Addr->Nat->Nat->List Value->OF}(hG:∀a n cap l,G a n cap l=OF.rv (.slice a n cap) c.B.heap.size e sz n l)
  {GK:Nat->Nat->List Value->OF} (hGK:∀q n l,GK q n l=OF.rk q c.B.heap.size e sz n l) (pre:List OF) {post:List OF} (how:S.ow=GK k n l::(pre++post))
  (h:∀a cap,Goal c K ⟨ks,{S with sl:=(d,.xs a n cap)::S.sl,ow:=pre++G a n cap l::post},[]⟩):Goal c K ⟨ks,S,[]⟩:=
 aPm pre hp how (bCx (S:={S with ow:=pre++GK k n l::post}) d hp hl hG hGK pre rfl h)
end
end Go.Ai
namespace Go.Ai
open Go Go.Proofs Go.Num V3
theorem aRr:aB PP 141:=zK
theorem aPt:aB PP 190:=zK
theorem aLs:aB PP 219:=zK
theorem aRt:aB PP 142:=zK
theorem aE7:aB PP 191:=zK
theorem aCf:aB PP 77:=zK
theorem V3.le_zero (k:Nat)(h:1<=k):V3.zero.le k:=⟨lTr nB h,lTr nB h,lTr nB h⟩
theorem aZ3 {p:Pl}(hp:p.fit (2^26)):Pure PP 189 [pC p] (.int .i64 0):=by
 have k1:=aLk (v:=V3.zero) hp.h0 hp.hn hp.ha (V3.le_zero _ zV)
 unfold gA gT at k1;rw[show aA V3.zero.x=⟨#[48]⟩ from eS,show aA V3.zero.y=⟨#[48]⟩ from eS,show aA V3.zero.z=⟨#[48]⟩ from eS]at k1;clear hp;unfold pC at *;generalize jJ (p.height V3.zero) 0=s,aA p.n.x=a,aA p.n.y=b,aA p.n.z=d at *;generalize aA p.a=t at *;refine zF [.g [.s (.v a),.s (.v b),.s (.v d),.s (.v t)]] Tryz.func189 λc hc hR=>?_;cbv;refine zC (.t [.i .i64 (.v s),.i .i64 (.l 0)]) k1 nE ?_;cbv;exact zR
theorem aZ2 {l:List Tri}{p:Pl}(hp:p.fit (2^26))(hl:∀t,t∈l->t.le (2^29))(hn:l.length<=512)(hok:mX l=true){X:Nat->Prop}{w:World}{v:Value}(hX:∀b,X b->b<w.heap.size)(hv:(dR l.length (kE l)).p v X w):
  Fn PP 141 [v,pC p] X w (eE (.int .i64 0)):=by
 have aDe:∀{X:Nat->Prop} {w:World} {v:Value},(∀b,X b->b<w.heap.size)->(dR l.length (kE l)).p v X w->Fn PP 126 [v] X w (eE (.int .i64 0)):=λhX hv=>by
  have:=aF6 (l:=l) hl hn hX hv
  unfold jS at this;rwa [if_pos hok]at this
 have k1:=aZ3 hp
 obtain⟨R,hRR⟩:=nm (eE (.int .i64 0));obtain⟨N,hN⟩:=nm (l.length);rw[<-hN]at hv hn aDe;obtain⟨K,hK⟩:=nm ([KF.cst v (dR N (kE l))]);rw[<-hRR];unfold pC at *;generalize aA p.n.x=q1,aA p.n.y=q2,aA p.n.z=q3,aA p.a=q4 at *;refine bJ mixed tok [.q v,.g [.s (.v q1),.s (.v q2),.s (.v q3),.s (.v q4)]] (K:=K) Tryz.func141 rfl rfl (lbl rfl) rfl hX (by rw[hK];simp;exact hv) λc hc hR=>?_;apply zN hc;cbv;refine cE hc (.i .i64 (.l 0)) aAu (λn0 D X μ a w aK H hv=>?_) rfl 100 ?_
 ·obtain⟨u,rfl,e⟩:=bN hv;rw[gE e];exact aDe H.xlt (H.cst (by rw[hK];exact .head _))
 cbv;refine zC (.i .i64 (.l 0)) k1 aRs ?_;cbv;refine bB hc hR rfl (λX μ a w v' H hv'=>?_);rw[hRR];simp only[aD]at hv';injection hv' with hv'
 exact hv'.symm
def Tri.turn (t:Tri)(p:Pl):Tri:=t.rot (t.cutP p).1.toNat
def Tri.cx (t:Tri)(p:Pl):V3:=p.cut (t.turn p).a (t.turn p).b
def Tri.cy (t:Tri)(p:Pl):V3:=p.cut (t.turn p).a (t.turn p).c
def Tri.seg (t:Tri)(p:Pl):List Seg:=
 if(t.cutP p).1<0 then []else if t.cx p=t.cy p then []else if(t.cutP p).2 then [⟨t.cx p,t.cy p⟩]else [⟨t.cy p,t.cx p⟩]
def eQ (p:Pl)(l:List Tri):List Seg:=l.flatMap λt=>t.seg p
theorem aCz (a b d:Bool):((aHi a b d)=(-1,true)/\a=true/\b=true/\d=true)\/((aHi a b d)=(-1,false)/\a=false/\b=false/\d=false)\/(0<=(aHi a b d).1/\(aHi a b d).1<3):=by
 cases a<;>cases b<;>cases d<;>simp[aHi]
theorem aRf {t:Tri}{p:Pl}(h:0<=(t.cutP p).1):p.over (t.turn p).a=(t.cutP p).2/\p.over (t.turn p).b= !(t.cutP p).2/\p.over (t.turn p).c= !(t.cutP p).2:=by
 unfold Tri.turn;unfold Tri.cutP at *;cases ha:p.over t.a<;>cases hb:p.over t.b<;>cases hd:p.over t.c<;>simp only[ha,hb,hd,aHi]at h |-<;>first | (exact absurd h zV) | (refine⟨?_,?_,?_⟩<;>simp[Tri.rot,ha,hb,hd])
theorem aUk {t:Tri}{k:Nat}(h:t.le k)(i:Nat):(t.rot i).le k:=by
 unfold Tri.rot;split
 ·exact h
 ·exact⟨h.2.1,h.2.2,h.1⟩
 ·exact⟨h.2.2,h.1,h.2.1⟩
theorem bAt (t:Tri)(p:Pl):(t.cutP p).1.toNat<3:=by
 unfold Tri.cutP;rcases aCz (p.over t.a) (p.over t.b) (p.over t.c)with h | h | h
 ·rw[h.1];decide
 ·rw[h.1];decide
 ·omega
theorem bFj {t:Tri}{p:Pl}{k:Nat}(hp:p.fit k)(h:t.le k):(t.cx p).le (25*k+14)/\(t.cy p).le (25*k+14):=by
 have h1:=aUk h (t.cutP p).1.toNat
 exact⟨aHy hp.hn hp.ha h1.1 h1.2.1,aHy hp.hn hp.ha h1.1 h1.2.2⟩
theorem aYi (t:Tri)(p:Pl):(t.seg p).length<=1:=by
 unfold Tri.seg;split
 ·simp
 ·split
  ·simp
  ·split<;>simp
theorem oB {p:Pl}{l:List Tri}{i:Nat}{t:Tri}(h:l[i]?=some t):eQ p (l.take (i+1))=eQ p (l.take i)++t.seg p:=by
 obtain⟨h1,h2⟩:=List.getElem?_eq_some_iff.1 h;unfold eQ;rw[List.take_succ_eq_append_getElem h1,List.flatMap_append,h2];simp
theorem yQ (p:Pl)(l:List Tri):(eQ p l).length<=l.length:=by
 unfold eQ;induction l with
 | nil=>simp
 | cons t l ih=>have:=aYi t p;simp only[List.flatMap_cons,List.length_append,List.length_cons];omega
theorem aIa {p:Pl}{l:List Tri}{k:Nat}(hp:p.fit k)(hl:∀t,t∈l->t.le k){s:Seg}(hs:s∈eQ p l):s.a.le (25*k+14)/\s.b.le (25*k+14):=by
 unfold eQ at hs;obtain⟨t,ht,h⟩:=List.mem_flatMap.1 hs;have h1:=bFj hp (hl t ht);unfold Tri.seg at h;split at h
 ·cases h
 split at h
 ·cases h
 split at h
 ·simp at h;subst h;exact h1
 ·simp at h;subst h;exact⟨h1.2,h1.1⟩
theorem aN:aB PP 174:=zK
theorem aR7:aB PP 118:=zK
theorem aMx {p:Pl}{v:V3}(hp:p.fit (2^26))(hv:v.le (2^26)):Pure PP 174 [pC p,gA v] (.bool (p.over v)):=by
 have k1:=aLk hp.h0 hp.hn hp.ha hv
 have e:=mK (p.height v)
 unfold Pl.over;rw[<-e];clear hp hv e;unfold pC gA gT at *;generalize jJ (p.height v) 0=s,aA p.n.x=a,aA p.n.y=b,aA p.n.z=d at *;generalize aA p.a=t,aA v.x=a',aA v.y=b',aA v.z=d' at *;refine zF [.g [.s (.v a),.s (.v b),.s (.v d),.s (.v t)],iI a' b' d'] Tryz.func174 λc hc hR=>?_;cbv;refine zC (.t [.i .i64 (.v s),.i .i64 (.l 0)]) k1 nE ?_;cbv;exact zR
theorem uW {d x y z x' y' z':Rat}{k m:Nat}(hd:sz d<=m)(hx:sz x<=k)(hy:sz y<=k)(hz:sz z<=k)(hx':sz x'<=k)(hy':sz y'<=k)(hz':sz z'<=k):sz (oT d x y z x' y' z')<=m+12*k+12:=by
 unfold oT;have h1:=sz_aa (sz_aa hx hy) hz;have h2:=sz_aa (sz_aa hx' hy') hz';have h3:=sz_aa (sz_aa (sz_aa (sz_mm h1 h2) (sz_mm hx hx')) (sz_mm hy hy')) (sz_mm hz hz');exact lTr (sz_mm (sz_mm hd h3) aZk) zW
theorem aNp {d x y z:Rat}{k m:Nat}(hd:sz d<=m)(hx:sz x<=k)(hy:sz y<=k)(hz:sz z<=k):sz (d*(x+y+z)*(1/24))<=m+3*k+6:=
 lTr (sz_mm (sz_mm hd (sz_aa (sz_aa hx hy) hz)) aVn) zW
theorem aBy {t:Tri}{k:Nat}(h:t.le k):t.mass.le (27*k+17):=by
 have hd:=aVo h
 obtain⟨⟨a1,a2,a3⟩,⟨b1,b2,b3⟩,c1,c2,c3⟩:=h;refine⟨lTr (sz_mm hd sz6) zW,⟨?_,?_,?_⟩,?_,?_,?_,?_,?_,?_⟩
 ·exact lTr (aNp hd a1 b1 c1) zW
 ·exact lTr (aNp hd a2 b2 c2) zW
 ·exact lTr (aNp hd a3 b3 c3) zW
 ·exact lTr (uW hd a1 b1 c1 a1 b1 c1) zW
 ·exact lTr (uW hd a2 b2 c2 a2 b2 c2) zW
 ·exact lTr (uW hd a3 b3 c3 a3 b3 c3) zW
 ·exact lTr (uW hd a1 b1 c1 a2 b2 c2) zW
 ·exact lTr (uW hd a2 b2 c2 a3 b3 c3) zW
 ·exact lTr (uW hd a3 b3 c3 a1 b1 c1) zW
def Pl.low (p:Pl)(a n:V3):List V3:=(if p.over a then []else [a])++(if p.over a=p.over n then []else [p.cut a n])
def Tri.low (t:Tri)(p:Pl):List V3:=p.low t.a t.b++p.low t.b t.c++p.low t.c t.a
def fan:List V3->Ms->Ms
 | [a,b,c],s=>s.add (Tri.mass ⟨a,b,c⟩)
 | [a,b,c,d],s=>(s.add (Tri.mass ⟨a,b,c⟩)).add (Tri.mass ⟨a,c,d⟩)
 | _,s=>s
def bF2 (l:List Seg):Ms:=l.foldl (λs g=>s.add (Tri.mass ⟨(l.headD ⟨V3.zero,V3.zero⟩).a,g.a,g.b⟩)) Ms.none
def bFk (p:Pl)(l:List Tri)(s:Ms):Ms:=l.foldl (λs t=>fan (t.low p) s) s
def cC (p:Pl)(l:List Tri):Ms:=bFk p l (bF2 (eQ p l))
theorem Ms.none_le:Ms.none.le 1:=⟨nB,⟨nB,nB,nB⟩,nB,nB,nB,nB,nB,nB⟩
theorem bA1 {p:Pl}{t:Tri}{s:Ms}{k m:Nat}(hp:p.fit k)(ht:t.le k)(hs:s.le m):(fan (t.low p) s).le (m+2*(27*(25*k+14)+18)):=by
 have hc:∀u v:V3,u.le k->v.le k->(p.cut u v).le (25*k+14):=λu v hu hv=>aHy hp.hn hp.ha hu hv
 have key:∀u v w:V3,u.le (25*k+14)->v.le (25*k+14)->w.le (25*k+14)->∀{s:Ms} {m:Nat},s.le m->(s.add (Tri.mass ⟨u,v,w⟩)).le (m+(27*(25*k+14)+18)):=λu v w hu hv hw s m hs=>(Ms.le_add hs (aBy (t:=⟨u,v,w⟩) ⟨hu,hv,hw⟩)).mono zW
 have pV:∀v,v∈t.low p->v.le (25*k+14):=by
  intro v hv;have hl:∀a n:V3,a.le k->n.le k->v∈p.low a n->v.le (25*k+14):=by
   intro a n ha hn hv;unfold Pl.low at hv;rcases List.mem_append.1 hv with h | h
   ·split at h
    ·cases h
    ·simp at h;subst h;exact ha.mono zW
   ·split at h
    ·cases h
    ·simp at h;subst h;exact hc _ _ ha hn
  unfold Tri.low at hv;rcases List.mem_append.1 hv with h | h
  ·rcases List.mem_append.1 h with h | h
   ·exact hl _ _ ht.1 ht.2.1 h
   ·exact hl _ _ ht.2.1 ht.2.2 h
  ·exact hl _ _ ht.2.2 ht.1 h
 generalize t.low p=L at pV;unfold fan;split
 ·exact(key _ _ _ (pV _ zA) (pV _ zA) (pV _ zA) hs).mono zW
 ·exact(key _ _ _ (pV _ zA) (pV _ zA) (pV _ zA) (key _ _ _ (pV _ zA) (pV _ zA) (pV _ zA) hs)).mono zW
 ·exact hs.mono zW
theorem lY {α β:Type}(f:β->α->β)(b:β){l:List α}{i:Nat}{x:α}(h:l[i]?=some x):(l.take (i+1)).foldl f b=f ((l.take i).foldl f b) x:=by
 obtain⟨h1,h2⟩:=List.getElem?_eq_some_iff.1 h;rw[List.take_succ_eq_append_getElem h1,List.foldl_append,h2];rfl
theorem aHm {α:Type}(f:Ms->α->Ms){l:List α}{b:Ms}{m d:Nat}(hb:b.le m)(hf:∀(s:Ms) (x:α) (k:Nat),x∈l->s.le k->(f s x).le (k+d)):∀i,i<=l.length->((l.take i).foldl f b).le (m+i*d)
 | 0,_=>by simpa using hb
 | i+1,h=>by
  have h1:l[i]?=some l[i]:=zA
  rw[lY f b h1];exact(hf _ _ _ (List.getElem_mem _) (aHm f hb hf i zW)).mono (by rw[Nat.add_mul];omega)
theorem aRv:aB PP 136:=zK
theorem aRw:aB PP 137:=zK
theorem aE9:aB PP 186:=zK
theorem lV:aB PP 188:=zK
theorem aIu:aB PP 185:=zK
theorem aIv:aB PP 187:=zK
theorem aR2:aB PP 217:=zK
theorem aR3:aB PP 218:=zK
def dO (n:Nat):Int:=if n=0 then 9 else if 512<n then 8 else 0
theorem bAz {L:List ByteArray}{N:Nat}(hL:L.length=9*N){X:Nat->Prop}{w:World}{v:Value}(hX:∀b,X b->b<w.heap.size)(hv:(dR N L).p v X w):
  Fn PP 136 [v] X w (eE (.int .i64 (dO N))):=by
 obtain⟨R,hRR⟩:=nm (eE (.int .i64 (dO N)));obtain⟨Q,hQ⟩:=nm (9*N);obtain⟨K,hK⟩:=nm ([KF.cst v (dR N L)]);rw[<-hRR];have hs8:N≠0->(512:Int)<(N:Int)->dO N=8:=λh h2=>by unfold dO;rw[if_neg h,if_pos zW]
 have hs0:N≠0->¬(512:Int)<(N:Int)->dO N=0:=λh h2=>by unfold dO;rw[if_neg h,if_neg zW]
 refine bJ mixed tok [.q v] (K:=K) Tryz.func136 rfl rfl (lbl rfl) rfl hX (by rw[hK];simp;exact hv) λc hc hR=>?_;refine jO 0 N Q L (by rw[hL,hQ]) rfl rfl (λX μ a w v' H hv'=>cD H (by rw[hK];exact .head _) hv') (λf cap hf dJ=>?_);have fin:∀k:Int,dO N=k->∀{v':Value} {X:Nat->Prop} {w:World} {μ:Mu},aD μ (.i .i64 (.l k))=some v'->R.p v' X w:=λk hk v' X w μ hv'=>by
  rw[hRR,hk];simp only[aD,IE.den]at hv';injection hv' with hv'
  exact hv'.symm
 apply zN hc;cbv;refine aE rfl 100 (λh=>?_) (λh=>?_)
 ·have h:N=0:=by
   have h:decide ((N:Int)=0)=true:=h
   have:=of_decide_eq_true h
   omega
  cbv;exact bB hc hR rfl (λX μ a w v' H hv'=>fin 9 (by unfold dO;rw[if_pos h]) hv')
 ·have h:N≠0:=by
   have h:decide ((N:Int)=0)=false:=h
   have:=of_decide_eq_false h
   omega
  cbv;refine aE rfl 100 (λh2=>?_) (λh2=>?_)
  ·have h2:(512:Int)<(N:Int):=BE.lt_t h2
   cbv;exact bB hc hR rfl (λX μ a w v' H hv'=>fin 8 (hs8 h h2) hv')
  ·have h2:¬(512:Int)<(N:Int):=BE.lt_f h2
   cbv;exact bB hc hR rfl (λX μ a w v' H hv'=>fin 0 (hs0 h h2) hv')
theorem aC6 {a b d:ByteArray}(ha:a.size<=2^31)(hb:b.size<=2^31)(hd:d.size<=2^31):Pure PP 188 [gT a b d] (.bool (!(cA a&&cA b&&cA d))):=by
 have k1:=aEj ha hb hd
 unfold gT at *;generalize (cA a&&cA b&&cA d)=r at *;refine zF [iI a b d] Tryz.func188 λc hc hR=>?_;cbv;refine zC (.b (.v r)) k1 dA ?_;cbv;exact zR
def aLp (a1 a2 a3 b1 b2 b3 d1 d2 d3:ByteArray):Bool:= !(cA a1&&cA a2&&cA a3)|| !(cA b1&&cA b2&&cA b3)|| !(cA d1&&cA d2&&cA d3)
theorem aW5 {a1 a2 a3 b1 b2 b3 d1 d2 d3:ByteArray}(h1:a1.size<=2^31)(h2:a2.size<=2^31)(h3:a3.size<=2^31)(h4:b1.size<=2^31)(h5:b2.size<=2^31)(h6:b3.size<=2^31)(h7:d1.size<=2^31)(h8:d2.size<=2^31)(h9:d3.size<=2^31):
  Pure PP 186 [.agg #[.string a1,.string a2,.string a3,.string b1,.string b2,.string b3,.string d1,.string d2,.string d3]] (.bool (aLp a1 a2 a3 b1 b2 b3 d1 d2 d3)):=by
 have k1:=aC6 h1 h2 h3
 have k2:=aC6 h4 h5 h6
 have k3:=aC6 h7 h8 h9
 unfold aLp;unfold gT at *;clear h1 h2 h3 h4 h5 h6 h7 h8 h9;generalize (!(cA a1&&cA a2&&cA a3))=x1,(!(cA b1&&cA b2&&cA b3))=x2,(!(cA d1&&cA d2&&cA d3))=x3 at *;refine zF [.g [.s (.v a1),.s (.v a2),.s (.v a3),.s (.v b1),.s (.v b2),.s (.v b3),.s (.v d1),.s (.v d2),.s (.v d3)]] Tryz.func186 λc hc hR=>?_;cbv;refine cO hc Tryz.func187 aIv (λc1 tm1 FR1 gX hc1 L1=>?_);apply zN hc1;cbv;refine cO hc1 Tryz.func218 aR3 (λc2 tm2 FR2 aDd hc2 L2=>?_);apply zN hc2;cbv;refine aV 4 (λp hp=>?_);refine hp _ _ _ ?_;apply zN hc2;cbv;cases x1
 ·refine zC (hc:=hc2) (.b (.l false)) k1 lV ?_;cbv;refine hp _ _ _ ?_;apply zN hc2;cbv;cases x2
  ·refine zC (hc:=hc2) (.b (.l false)) k2 lV ?_;cbv;refine hp _ _ _ ?_;apply zN hc2;cbv;cases x3
   ·refine zC (hc:=hc2) (.b (.l false)) k3 lV ?_;cbv;refine hp _ _ _ ?_;apply zN hc2;cbv;refine cY hc2 L2 aDd (.head _) ?_;apply zN hc1;cbv;refine cY hc1 L1 gX (.tail _ (.head _)) ?_;apply zN hc;cbv;exact zR
   ·refine zC (hc:=hc2) (.b (.l true)) k3 lV ?_;cbv;refine cY hc2 L2 aDd (.head _) ?_;apply zN hc1;cbv;refine cY hc1 L1 gX (.tail _ (.head _)) ?_;apply zN hc;cbv;exact zR
  ·refine zC (hc:=hc2) (.b (.l true)) k2 lV ?_;cbv;refine cY hc2 L2 aDd (.head _) ?_;apply zN hc1;cbv;refine cY hc1 L1 gX (.tail _ (.head _)) ?_;apply zN hc;cbv;exact zR
 ·refine zC (hc:=hc2) (.b (.l true)) k1 lV ?_;cbv;refine cY hc2 L2 aDd (.head _) ?_;apply zN hc1;cbv;refine cY hc1 L1 gX (.tail _ (.head _)) ?_;apply zN hc;cbv;exact zR
def uY (L:List ByteArray):Bool:= !(L.all cA)
theorem nine {L:List ByteArray}{N x:Nat}(hL:L.length=9*N)(hx:x<N):∃a1 a2 a3 b1 b2 b3 d1 d2 d3,L[x*9+0]?=some a1/\L[x*9+1]?=some a2/\L[x*9+2]?=some a3/\L[x*9+3]?=some b1/\L[x*9+4]?=some b2/\L[x*9+5]?=some b3/\L[x*9+6]?=some d1/\L[x*9+7]?=some d2/\L[x*9+8]?=some d3:=by
 have h:∀i,i<9->∃a,L[x*9+i]?=some a:=λi hi=>⟨L[x*9+i]'zW,zA⟩
 obtain⟨a1,e1⟩:=h 0 zW;obtain⟨a2,e2⟩:=h 1 zW;obtain⟨a3,e3⟩:=h 2 zW;obtain⟨b1,e4⟩:=h 3 zW;obtain⟨b2,e5⟩:=h 4 zW;obtain⟨b3,e6⟩:=h 5 zW;obtain⟨d1,e7⟩:=h 6 zW;obtain⟨d2,e8⟩:=h 7 zW;obtain⟨d3,e9⟩:=h 8 zW;exact⟨_,_,_,_,_,_,_,_,_,e1,e2,e3,e4,e5,e6,e7,e8,e9⟩
def bA2 (L:List ByteArray)(x:Nat):Prop:=∀i a,i<x*9->L[i]?=some a->cA a=true
theorem aTh {L:List ByteArray}{N:Nat}(hL:L.length=9*N)(h:bA2 L N):uY L=false:=by
 unfold uY;rw[Bool.not_eq_false',List.all_eq_true];intro a ha;obtain⟨i,hi⟩:=List.getElem?_of_mem ha;exact h i a (by have:=(List.getElem?_eq_some_iff.1 hi).1;omega) hi
theorem rC {L:List ByteArray}{i:Nat}{a:ByteArray}(h:L[i]?=some a)(hb:cA a=false):uY L=true:=by
 unfold uY;rw[Bool.not_eq_true',<-Bool.not_eq_true,List.all_eq_true];intro h2;have:=h2 a (List.mem_of_getElem? h);rw[hb]at this;cases this
theorem bA0 {L:List ByteArray}{N:Nat}(hL:L.length=9*N)(hN:N<=512)(hs:∀a,a∈L->a.size<=2^31){X:Nat->Prop}{w:World}{v:Value}(hX:∀b,X b->b<w.heap.size)(hv:(dR N L).p v X w):
  Fn PP 137 [v] X w (eE (.bool (!uY L))):=by
 obtain⟨R,hRR⟩:=nm (eE (.bool (!uY L)));obtain⟨Q,hQ⟩:=nm (9*N);obtain⟨K,hK⟩:=nm ([KF.cst v (dR N L)]);rw[<-hRR];have fin:∀k:Bool,uY L=k->∀{v':Value} {X:Nat->Prop} {w:World} {μ:Mu},aD μ (.b (.l (!k)))=some v'->R.p v' X w:=λk hk v' X w μ hv'=>by
  rw[hRR,hk];simp only[aD,BE.den]at hv';injection hv' with hv'
  exact hv'.symm
 refine bJ mixed tok [.q v] (K:=K) Tryz.func137 rfl rfl (lbl rfl) rfl hX (by rw[hK];simp;exact hv) λc hc hR=>?_;refine jO 0 N Q L (by rw[hL,hQ]) rfl rfl (λX μ a w v' H hv'=>cD H (by rw[hK];exact .head _) hv') (λf cap hf dJ=>?_);apply zN hc;cbv;refine cO hc Tryz.func185 aIu (λc1 tm1 FR1 gX hc1 L1=>?_);apply zN hc1;cbv;refine cO hc1 Tryz.func217 aR2 (λc2 tm2 FR2 aDd hc2 L2=>?_);apply zN hc2;cbv;let ι:={x:Nat//x<=N/\bA2 L x};let I:ι->St:=λx=>⟨[(0,.sl 0 0 (.n N) cap),(1,.f (.func 186) [] []),(7,.i .i64 (.n N)),(8,.i .i64 (.n x.1))],[.xs Q f],[]⟩
 let x0:ι:=⟨0,Nat.zero_le _,λi a hi=>zW⟩
 refine zU 1 (S':=I x0) (K':=FR2::FR1::K) zL (by subst hK;exact⟨⟨.head _,by rw[aDd];exact KFr.fr rfl _⟩,⟨.tail _ (.head _),by rw[gX];exact KFr.fr rfl _⟩,⟨.tail _ (.tail _ (.head _)),KFr.cst _ _ _⟩,trivial⟩) trivial ?_;refine bW hc2 I (λx=>N - x.1) x0 100 ?_;rintro p ⟨x,hx,aYy⟩ hy;cbv;refine aE (hc:=hc2) rfl 100 (λh=>?_) (λh=>?_)
 ·have hxN:x<N:=BE.ltn_t h
  obtain⟨a1,a2,a3,b1,b2,b3,d1,d2,d3,e0,e1,e2,e3,e4,e5,e6,e7,e8⟩:=nine hL hxN;have r9:=re9 (hf _ _ e0) (hf _ _ e1) (hf _ _ e2) (hf _ _ e3) (hf _ _ e4) (hf _ _ e5) (hf _ _ e6) (hf _ _ e7) (hf _ _ e8);have sz:∀{i:Nat} {a:ByteArray},L[i]?=some a->a.size<=2^31:=λh=>hs _ (List.mem_of_getElem? h);have k1:=aW5 (sz e0) (sz e1) (sz e2) (sz e3) (sz e4) (sz e5) (sz e6) (sz e7) (sz e8);have o1:(Obl.ltE (.n x) (.n N)).ok:=by show _/\_;simp only[IE.den];omega
  have o2:(Obl.ix 0 (.n x) 9 0 9 Q).ok:=by show aY 0 (x:Int) 9 0+9<=Q;simp only[aY,Int.toNat_natCast];omega
  have o3:(Obl.inR .i64 (.add (.n x) (.l 1))).ok:=by show lo _<=_/\_<=hi _;simp only[lo,hi,IE.den];omega
  obtain⟨x',hx'⟩:=nm (x+1);have hi1:((IE.n x).add (IE.l 1)).den=(IE.n x').den:=by simp only[IE.den,hx'];omega
  have aQf:aLp a1 a2 a3 b1 b2 b3 d1 d2 d3=true->uY L=true:=λhb=>by
   unfold aLp at hb;simp only[Bool.or_eq_true,Bool.not_eq_true',Bool.and_eq_false_iff]at hb;rcases hb with((((h | h) | h) | ((h | h) | h)) | ((h | h) | h))
   ·exact rC e0 h
   ·exact rC e1 h
   ·exact rC e2 h
   ·exact rC e3 h
   ·exact rC e4 h
   ·exact rC e5 h
   ·exact rC e6 h
   ·exact rC e7 h
   ·exact rC e8 h
  have aJy:aLp a1 a2 a3 b1 b2 b3 d1 d2 d3=false->bA2 L x':=λhb=>by
   unfold aLp at hb;simp only[Bool.or_eq_false_iff,Bool.not_eq_false',Bool.and_eq_true]at hb;obtain⟨⟨⟨⟨h0,h1⟩,h2⟩,⟨⟨h3,h4⟩,h5⟩⟩,⟨⟨h6,h7⟩,h8⟩⟩:=hb;intro i a hi ha;by_cases hix:i<x*9
   ·exact aYy i a hix ha
   ·have bEo:i=x*9+0\/i=x*9+1\/i=x*9+2\/i=x*9+3\/i=x*9+4\/i=x*9+5\/i=x*9+6\/i=x*9+7\/i=x*9+8:=zW
    rcases bEo with h | h | h | h | h | h | h | h | h<;>subst h
    ·rw[e0]at ha;injection ha with ha;subst ha;exact h0
    ·rw[e1]at ha;injection ha with ha;subst ha;exact h1
    ·rw[e2]at ha;injection ha with ha;subst ha;exact h2
    ·rw[e3]at ha;injection ha with ha;subst ha;exact h3
    ·rw[e4]at ha;injection ha with ha;subst ha;exact h4
    ·rw[e5]at ha;injection ha with ha;subst ha;exact h5
    ·rw[e6]at ha;injection ha with ha;subst ha;exact h6
    ·rw[e7]at ha;injection ha with ha;subst ha;exact h7
    ·rw[e8]at ha;injection ha with ha;subst ha;exact h8
  clear e0 e1 e2 e3 e4 e5 e6 e7 e8;generalize aLp a1 a2 a3 b1 b2 b3 d1 d2 d3=b at k1 aQf aJy;cases b with
  | true=>
   have aQf:=aQf rfl
   cbv;refine aP hc2 ⟨o1,o2,trivial⟩ ?_;refine fT hc2 (.b (.l true)) k1 aE9 (eV (dV r9)) rfl 100 ?_;cbv;refine cY hc2 L2 aDd (.head _) ?_;apply zN hc1;cbv;refine cY hc1 L1 gX (.tail _ (.head _)) ?_;apply zN hc;cbv;refine bB hc hR rfl (λX μ a w v' H hv'=>?_);refine fin true aQf (μ:=μ) ?_;rw[<-hv'];show some (Value.bool _)=some (Value.bool _)
   have:decide ((0:Int)<=(x:Int))=true:=decide_eq_true (Int.natCast_nonneg x)
   congr 2
  | false=>
   have aJy:=aJy rfl
   have hyx:=hy ⟨x',zW,aJy⟩ (by show N - x'<N - x;omega)
   clear hy;cbv;refine aP hc2 ⟨o1,o2,trivial⟩ ?_;refine fT hc2 (.b (.l false)) k1 aE9 (eV (dV r9)) rfl 100 ?_;cbv;refine aP hc2 ⟨o3,trivial⟩ ?_;exact zU 1 (S':=I ⟨x',zW,aJy⟩) (K':=FR2::FR1::K) ⟨zS,zS,zS,zI rfl rfl hi1,trivial⟩ (by subst hK;exact⟨⟨.head _,by rw[aDd];exact KFr.fr rfl _⟩,⟨.tail _ (.head _),by rw[gX];exact KFr.fr rfl _⟩,⟨.tail _ (.tail _ (.head _)),KFr.cst _ _ _⟩,trivial⟩) trivial hyx
 ·have hxN:x=N:=by have:=BE.ltn_f h;omega
  have aQf:uY L=false:=aTh hL (hxN▸aYy)
  clear hy;cbv;refine cY hc2 L2 aDd (.head _) ?_;apply zN hc1;cbv;refine cY hc1 L1 gX (.tail _ (.head _)) ?_;apply zN hc;cbv;refine bB hc hR rfl (λX μ a w v' H hv'=>?_);exact fin false aQf (μ:=μ) (by rw[<-hv'];rfl)
end Go.Ai
