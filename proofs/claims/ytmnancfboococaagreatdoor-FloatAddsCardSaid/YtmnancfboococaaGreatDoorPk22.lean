/- Part 23 of the proof: garboardlaw17.FloatAdds returns true, whatever the input. -/
import Derived.WalkKit
import Derived.Deep.LoopGhost
import Derived.Lib.Walk
import Derived.Lib.SliceRun
import Derived.Test.YtmnancfboococaaGreatDoorPk17
import Derived.Test.YtmnancfboococaaGreatDoorPk18
import Derived.Test.YtmnancfboococaaGreatDoorPk21
set_option linter.all false
namespace Go.Ai
open Go Go.Proofs Go.Num V3
theorem re3 {f:Nat→ByteArray}{x:Nat}{a0 a1 a2:ByteArray}(h0:f (x*3+0)=a0)(h1:f (x*3+1)=a1)(h2:f (x*3+2)=a2):
  ∀μ,aG μ [.s (.fn f 0 (.n x) 3 0),.s (.fn f 0 (.n x) 3 1),.s (.fn f 0 (.n x) 3 2)]=aG μ [.s (.v a0),.s (.v a1),.s (.v a2)]:=by
 intro μ;simp only[aG,aD,SE.den,IE.den,aX,Int.toNat_natCast,Nat.zero_add,h0,h1,h2]
set_option maxRecDepth 100000 in
set_option maxHeartbeats 0 in
theorem aQn {sg:List Seg}{u v:V3}(hu:u.le (2^13))(hw:v.le (2^13))(hl:∀g,g∈sg→g.a.le (2^14)∧g.b.le (2^14))(hn:sg.length≤32)(hok:aRf sg=true){X:Nat→Prop}{w:World}{s:Value}(hX:∀b,X b→b<w.heap.size)(hs:(rowS sg.length (iJ sg)).p s X w):
  Fn PP 51 [s,fL u,fL v] X w (dI (.tuple #[wpV (wpS u v sg),.int .i64 0])):=by
 obtain⟨R,hRR⟩:=nm (dI (.tuple #[wpV (wpS u v sg),.int .i64 0]));rw[←hRR];obtain⟨M,hM⟩:=nm (sg.length);obtain⟨QM,hQM⟩:=nm (6*M);rw[←hM]at hs hn;obtain⟨K,hK⟩:=nm ([KF.cst s (rowS M (iJ sg))]);obtain⟨A,hA⟩:∃A:Nat→Wp,∀x,A x=(sg.take x).foldl (Wp.seg u v) Wp.none:=⟨_,fun _=>rfl⟩;have aGg:∀z r:V3,z.le (2^13)→r.le (2^14)→sz (z.dot r)≤73730:=fun z r h1 h2=>lTr (V3.sz_dot h1 h2) (by decide)
 have A0:(Wp.none).le 1:=⟨oK,oK,oK,oK,oK,oK⟩
 have Ale:∀x,x≤M→(A x).le (1+x*884772):=by
  intro x
  induction x with
  | zero=>intro _;rw[hA];exact A0
  | succ i ih=>
   intro h;have h1:sg[i]?=some (sg[i]'(by omega)):=by simp
   rw[hA,kE _ _ h1,←hA];have hg:=hl _ (List.getElem_mem (l:=sg) (n:=i) (by omega))
   have:=Wp.le_tri (ih (by omega)) (aGg u _ hu hg.1) (aGg v _ hw hg.1) (aGg u _ hu hg.2) (aGg v _ hw hg.2)
   rw[show 1+(i+1)*884772=1+i*884772+(12*73730+12) by omega];exact this
 obtain⟨d0,hd0⟩:∃d0:Nat→ByteArray,∀x,aA (A x).a=d0 x:=⟨_,fun _=>rfl⟩;obtain⟨d1,hd1⟩:∃d1:Nat→ByteArray,∀x,aA (A x).x=d1 x:=⟨_,fun _=>rfl⟩;obtain⟨d2,hd2⟩:∃d2:Nat→ByteArray,∀x,aA (A x).y=d2 x:=⟨_,fun _=>rfl⟩;obtain⟨d3,hd3⟩:∃d3:Nat→ByteArray,∀x,aA (A x).xx=d3 x:=⟨_,fun _=>rfl⟩;obtain⟨d4,hd4⟩:∃d4:Nat→ByteArray,∀x,aA (A x).yy=d4 x:=⟨_,fun _=>rfl⟩;obtain⟨d5,hd5⟩:∃d5:Nat→ByteArray,∀x,aA (A x).xy=d5 x:=⟨_,fun _=>rfl⟩;have kV:R=dI (.tuple #[.agg #[.string (d0 M),.string (d1 M),.string (d2 M),.string (d3 M),.string (d4 M),.string (d5 M)],.int .i64 0]):=by
  rw[hRR,←hd0,←hd1,←hd2,←hd3,←hd4,←hd5,hA,hM,List.take_of_length_le (lRf _)];rfl
 obtain⟨PN,hPN⟩:∃PN:Nat→Nat,∀x,PN x=2+2*x:=⟨_,fun _=>rfl⟩;obtain⟨W,hW⟩:∃W:Nat→List Value,∀x,W x=(ptL (u::v::ends (sg.take x))).map Value.string:=⟨_,fun _=>rfl⟩;obtain⟨Es,hEs⟩:∃Es:Nat→fM,∀x,Es x=tB (sg.take x):=⟨_,fun _=>rfl⟩;obtain⟨P,hP⟩:=nm (u::v::ends sg);have bBp:∀q,q∈P→q.le (2^29):=fun q hq=>by
  rw[hP]at hq
  rcases List.mem_cons.1 hq with e | hq
  ·subst e;exact hu.mono (by decide)
  rcases List.mem_cons.1 hq with e | hq
  ·subst e;exact hw.mono (by decide)
  obtain⟨g,hg,h⟩:=List.mem_flatMap.1 hq;simp only[List.mem_cons,List.not_mem_nil,or_false]at h
  rcases h with e | e<;>subst e
  ·exact(hl g hg).1.mono (by decide)
  ·exact(hl g hg).2.mono (by decide)
 have aUq:P.length=PN M:=by rw[hP,hPN,hM];simp only[List.length_cons,aF8];omega
 have hWM:W M=(ptL P).map Value.string:=by rw[hW,hP,hM,List.take_of_length_le (lRf _)]
 have hW0:W 0=[.string (aA u.x),.string (aA u.y),.string (aA u.z),.string (aA v.x),.string (aA v.y),.string (aA v.z)]:=by rw[hW];rfl
 have aY9:PN 0=2:=by rw[hPN]
 have hE0:Es 0=[]:=by rw[hEs];rfl
 have aZa:∀x,x≤M→PN x≤66:=fun x hx=>by rw[hPN];omega
 have aZg:∀(j:Nat) (ks:List ByteArray) (z:Int),(Es M)[j]?=some (ks,z)→z=0:=fun j ks z hj=>by
  rw[hEs,hM,List.take_of_length_le (lRf _)]at hj;unfold aRf at hok;rw[List.all_eq_true]at hok;have nQ:=List.mem_of_getElem? (l:=tB sg) hj
  have:=hok _ nQ
  simpa using this
 have bBk:iC 3 (Es M):=by rw[hEs];exact(tC sg M (by rw[hM];exact lRf _)).1
 have zz:d0 0=⟨#[48]⟩∧d1 0=⟨#[48]⟩∧d2 0=⟨#[48]⟩∧d3 0=⟨#[48]⟩∧d4 0=⟨#[48]⟩∧d5 0=⟨#[48]⟩:=by
  rw[←hd0,←hd1,←hd2,←hd3,←hd4,←hd5,hA];exact⟨eX,eX,eX,eX,eX,eX⟩
 obtain⟨z0,z1,z2,z3,z4,z5⟩:=zz;have kd:∀z r:V3,z.le (2^13)→r.le (2^14)→Pure PP 102 [fL z,fL r] (.string (aA (z.dot r))):=fun z r h1 h2=>aMw (h1.mono (by decide)) (h2.mono (by decide))
 unfold fL kO at kd ⊢;obtain⟨u1,hu1⟩:∃z,z=aA u.x:=⟨_,rfl⟩;obtain⟨u2,hu2⟩:∃z,z=aA u.y:=⟨_,rfl⟩;obtain⟨u3,hu3⟩:∃z,z=aA u.z:=⟨_,rfl⟩;obtain⟨v1,hv1⟩:∃z,z=aA v.x:=⟨_,rfl⟩;obtain⟨v2,hv2⟩:∃z,z=aA v.y:=⟨_,rfl⟩;obtain⟨v3,hv3⟩:∃z,z=aA v.z:=⟨_,rfl⟩;rw[←hu1,←hu2,←hu3,←hv1,←hv2,←hv3]at hW0 ⊢;refine bE mixed tok [.q s,iF u1 u2 u3,iF v1 v2 v3] (K:=K) Tryz.func51 rfl rfl (lbl rfl) rfl hX (by rw[hK];simp;exact hs) fun c hc hR=>?_
 refine gV 0 M QM (iJ sg) (by rw[aBa,hQM,hM]) rfl rfl (fun X μ a w v' H hv'=>cA H (by rw[hK];exact .head _) hv') (fun f cap hf dH=>?_);refine zN hc ?_;cbv;refine aE hc rfl 100 (fun h=>?_) (fun h=>?_)
 ·have h:(512:Int)<(M:Int):=BE.lt_t h
  omega
 cbv;clear h;obtain⟨E,hE⟩:∃E:Option Addr→Nat→Nat→List Value→OF,∀a n cap l,E a n cap l=OF.rv (.slice a n cap) c.B.heap.size 36 3 n l:=⟨_,fun _ _ _ _=>rfl⟩;obtain⟨Mo,hMo⟩:∃M:Nat→fM→OF,∀r es,M r es=OF.mp r es:=⟨OF.mp,fun _ _=>rfl⟩;refine aQ6 8 4 (n:=2) (sz:=3) hE (K':=K) (l:=[(0,.sl 0 0 (.n M) cap),(4,.p 1 0),(5,.p 2 0),(6,.p 3 0)]) rfl rfl rfl rfl rfl (by decide) rfl ⟨⟨_,rfl,rfl,fun _=>rfl⟩,⟨_,rfl,rfl,fun _=>rfl⟩,⟨_,rfl,rfl,fun _=>rfl⟩,⟨_,rfl,rfl,fun _=>rfl⟩,trivial⟩ rfl (by subst hK;exact⟨⟨(by repeat (first | exact .head _ | apply List.Mem.tail)),KFk.cst _ _ _⟩,trivial⟩) trivial (fun b0=>?_);cbv;refine aDg hc _ rfl rfl rfl hMo rfl (fun r=>?_);refine zN hc ?_;cbv;let ι:={x:Nat × (Option Addr × Nat)//x.1≤M}
 let I:ι→St:=fun x=>⟨[(0,.sl 0 0 (.n M) cap),(4,.p 1 0),(5,.p 2 0),(6,.p 3 0),(8,.xs x.1.2.1 (PN x.1.1) x.1.2.2),(9,.o (.map (some r))),(33,.sl 0 0 (.n M) cap),(34,.i .i64 (.n M)),(35,.i .i64 (.n x.1.1))],[.xs QM f,.c 36 [.s (.v u1),.s (.v u2),.s (.v u3)],.c 36 [.s (.v v1),.s (.v v2),.s (.v v3)],.c 30 [.s (.v ⟨#[]⟩),.s (.v ⟨#[]⟩),.s (.v ⟨#[]⟩),.s (.v ⟨#[]⟩),.s (.v ⟨#[]⟩),.s (.v ⟨#[]⟩)]],[Mo r (Es x.1.1),E x.1.2.1 (PN x.1.1) x.1.2.2 (W x.1.1)]⟩
 let x0:ι:=⟨⟨0,some ⟨b0,0,none⟩,2⟩,Nat.zero_le _⟩
 refine eF 4 (S':=I x0) (K':=K) rfl rfl (lbl rfl) rfl (by simp only[I,x0];rw[hE0,aY9,hW0];rfl) ⟨zS rfl rfl,zS rfl rfl,zS rfl rfl,zS rfl rfl,⟨_,rfl,rfl,fun μ=>by show _=aD μ (.xs _ (PN 0) _);rw[aY9]⟩,zS rfl rfl,zS rfl rfl,zS rfl rfl,zS rfl rfl,trivial⟩ (by subst hK;exact⟨⟨(by repeat (first | exact .head _ | apply List.Mem.tail)),KFr.cst _ _ _⟩,trivial⟩) ⟨by rw[hMo];exact OFr.mp _ _ _,by rw[hE];exact OFr.rv _ _ _ _ _ _ _,trivial⟩ ?_;refine bQ hc I (fun x=>M - x.1.1) x0 100 ?_;rintro pp ⟨⟨x,aa,cc⟩,hx⟩ hy
 dsimp only at hx
 cbv
 dsimp only
 refine aE hc rfl 9 (fun h=>?_) (fun h=>?_)
 ·have hxM:x<M:=BE.ltn_t h
  have hg:sg[x]?=some sg[x]:=by simp
  obtain⟨g,hgg⟩:=nm (sg[x]);rw[←hgg]at hg;have gle:=hl g (List.mem_of_getElem? hg)
  obtain⟨f0,f1,f2,f3,f4,f5⟩:=bA0 hf hg;have o1:(Obl.ltE (.n x) (.n M)).ok:=by show _∧_;simp only[IE.den];omega
  have o2:(Obl.ix 0 (.n x) 6 0 6 QM).ok:=by show aX 0 (x:Int) 6 0+6≤QM;simp only[aX,Int.toNat_natCast];omega
  have o3:(Obl.inR .i64 (.add (.n x) (.l 1))).ok:=by show lo _≤_∧_≤hi _;simp only[lo,hi,IE.den];omega
  obtain⟨x',hx'⟩:=nm (x+1);have hi1:((IE.n x).add (IE.l 1)).den=(IE.n x').den:=by simp only[IE.den,hx'];omega
  have r6:=re6 f0 f1 f2 f3 f4 f5
  clear f0 f1 f2 f3 f4 f5;have v0:tX 3 (2*x) (Es x):=by rw[hEs];exact tC sg x (by omega)
  obtain⟨e1,he1⟩:∃e,e=iG (vK g.a) 1 (Es x):=⟨_,rfl⟩;have v1:tX 3 (2*x+1) e1:=by rw[he1];exact tX.add (n:=3) (k:=vK g.a) (d:=1) rfl (by omega) v0
  have g1:-4611686018427387904≤fK (Es x) (vK g.a)∧fK (Es x) (vK g.a)≤4611686018427387904:=by have:=v0.get (vK g.a);omega
  obtain⟨e2,he2⟩:∃e,e=iG (vK g.b) (-1) e1:=⟨_,rfl⟩;have g2:-4611686018427387904≤fK e1 (vK g.b)∧fK e1 (vK g.b)≤4611686018427387904:=by have:=v1.get (vK g.b);omega
  have hE':Es x'=e2:=by rw[hEs,hx',xJ hg,←hEs,he2,he1];rfl
  have hW':W x'=W x++[.string (aA g.a.x),.string (aA g.a.y),.string (aA g.a.z),.string (aA g.b.x),.string (aA g.b.y),.string (aA g.b.z)]:=by
   rw[hW,hW,hx',aMj hg,show u::v::(ends (sg.take x)++[g.a,g.b])=(u::v::ends (sg.take x))++[g.a,g.b] from rfl,aTv,List.map_append];rfl
  have hP':PN x'=PN x+2:=by rw[hPN,hPN];omega
  have hb:=aZa x hx
  unfold vK at *;generalize aA g.a.x=t1 at *;generalize aA g.a.y=t2 at *;generalize aA g.a.z=t3 at *;generalize aA g.b.x=t4 at *;generalize aA g.b.y=t5 at *;generalize aA g.b.z=t6 at *;cbv;refine aQ hc ⟨o1,o2,trivial⟩ ?_;refine gU 4 [.s (.v t1),.s (.v t2),.s (.v t3),.s (.v t4),.s (.v t5),.s (.v t6)] rfl rfl r6 ?_;refine zN hc ?_;cbv;refine bW hc _ rfl rfl rfl (pre:=[_]) (m:=2) (bytes:=48) (G:=E) hE rfl rfl rfl rfl rfl rfl rfl rfl rfl rfl rfl rfl rfl rfl (by kernel_rfl) (by omega) (by omega) (fun ae ne ce le hne hle=>?_);rw[←hP']at hne;have hle:=hle.trans hW'.symm
  subst hne;subst hle;refine aLq [_] rfl rfl ?_;refine zN hc ?_;cbv;refine aQ4 hc wT hMo [] (a:=46) (b:=48) (d4:=49) (d5:=50) (d6:=51) (d7:=52) (post:=[_]) (es:=Es x) (ks:=[t1,t2,t3]) (1) rfl rfl rfl rfl rfl rfl rfl rfl rfl rfl rfl rfl rfl rfl rfl rfl rfl rfl rfl rfl rfl (.inl ⟨rfl,rfl⟩) g1 rfl (by decide) rfl rfl rfl rfl v0.1 rfl rfl rfl rfl rfl (by kernel_rfl) (by kernel_rfl) (by kernel_rfl) (by kernel_rfl) (by kernel_rfl) (by kernel_rfl) (by kernel_rfl) (by kernel_rfl) (by kernel_rfl) (by kernel_rfl) (by kernel_rfl) (by rfl) ?_;rw[←he1];refine zN hc ?_;cbv;refine aQ4 hc wT hMo [] (a:=53) (b:=55) (d4:=56) (d5:=57) (d6:=58) (d7:=59) (post:=[_]) (es:=e1) (ks:=[t4,t5,t6]) (-1) rfl rfl rfl rfl rfl rfl rfl rfl rfl rfl rfl rfl rfl rfl rfl rfl rfl rfl rfl rfl rfl (.inr ⟨rfl,rfl⟩) g2 rfl (by decide) rfl rfl rfl rfl v1.1 rfl rfl rfl rfl rfl (by kernel_rfl) (by kernel_rfl) (by kernel_rfl) (by kernel_rfl) (by kernel_rfl) (by kernel_rfl) (by kernel_rfl) (by kernel_rfl) (by kernel_rfl) (by kernel_rfl) (by kernel_rfl) (by rfl) ?_;rw[←he2,←hE'];refine zN hc ?_;cbv;refine aQ hc ⟨o3,trivial⟩ ?_;exact zU 4 (S':=I ⟨⟨x',ae,ce⟩,by show x'≤M;omega⟩) (K':=K) ⟨zS rfl rfl,zS rfl rfl,zS rfl rfl,zS rfl rfl,zS rfl rfl,zS rfl rfl,zS rfl rfl,zS rfl rfl,zI rfl rfl hi1,trivial⟩ (by subst hK;exact⟨⟨(by repeat (first | exact .head _ | apply List.Mem.tail)),KFr.cst _ _ _⟩,trivial⟩) ⟨by rw[hMo];exact OFr.mp _ _ _,by rw[hE];exact OFr.rv _ _ _ _ _ _ _,trivial⟩ (hy ⟨⟨x',ae,ce⟩,by show x'≤M;omega⟩ (by show M - x'<M - x;omega))
 ·have hxM:x=M:=by have:=BE.ltn_f h;omega
  subst hxM;clear hy;obtain⟨QP,hQP⟩:=nm (3*PN x);obtain⟨np,hnp⟩:=nm (PN x);have bDn:np≤66:=by rw[hnp];exact aZa x (lRf _)
  rw[←hnp]at hQP aUq ⊢;cbv;refine eI (sz:=3) (hE _ _ _ _) rfl rfl (pre:=[_]) rfl ?_;refine gV 61 np QP (ptL P) (by rw[aLg,aUq,hQP]) rfl rfl (fun X μ a w v' Hs hv'=>by
   have:=Hs.toP.cst (.head _)
   simp only[aD]at hv';injection hv' with hv'
   rw[←hv'];rw[hWM]at this;exact this) (fun fp capp hfp bDi=>?_)
  refine zN hc ?_;cbv;let κ:={y:Nat//y≤np}
  let J:κ→St:=fun y=>⟨[(0,.sl 0 0 (.n x) cap),(4,.p 1 0),(5,.p 2 0),(6,.p 3 0),(9,.o (.map (some r))),(61,.sl 4 0 (.n np) capp),(62,.i .i64 (.n np)),(63,.i .i64 (.n y.1))],[.xs QM f,.c 36 [.s (.v u1),.s (.v u2),.s (.v u3)],.c 36 [.s (.v v1),.s (.v v2),.s (.v v3)],.c 30 [.s (.v ⟨#[]⟩),.s (.v ⟨#[]⟩),.s (.v ⟨#[]⟩),.s (.v ⟨#[]⟩),.s (.v ⟨#[]⟩),.s (.v ⟨#[]⟩)],.xs QP fp],[Mo r (Es x)]⟩
  let y0:κ:=⟨0,Nat.zero_le _⟩
  refine zU 5 (S':=J y0) (K':=K) ⟨zS rfl rfl,zS rfl rfl,zS rfl rfl,zS rfl rfl,zS rfl rfl,zS rfl rfl,zS rfl rfl,zS rfl rfl,trivial⟩ (by subst hK;exact⟨⟨(by repeat (first | exact .head _ | apply List.Mem.tail)),KFr.cst _ _ _⟩,trivial⟩) ⟨by rw[hMo];exact OFr.mp _ _ _,trivial⟩ ?_;refine bQ hc J (fun y=>np - y.1) y0 100 ?_;rintro p2 ⟨y,hy⟩ hh;cbv;refine aE hc rfl 100 (fun h=>?_) (fun h=>?_)
  ·have hyN:y<np:=BE.ltn_t h
   have hq:P[y]?=some (P[y]'(by omega)):=by simp
   obtain⟨q,hqq⟩:=nm (P[y]'(by omega));rw[←hqq]at hq;have kq:=dE (bBp q (List.mem_of_getElem? hq))
   have r3:=re3 (hfp _ _ ((yP hq (show 0<3 by decide)).trans rfl)) (hfp _ _ ((yP hq (show 1<3 by decide)).trans rfl)) (hfp _ _ ((yP hq (show 2<3 by decide)).trans rfl))
   have o1:(Obl.ltE (.n y) (.n np)).ok:=by show _∧_;simp only[IE.den];omega
   have o2:(Obl.ix 0 (.n y) 3 0 3 QP).ok:=by show aX 0 (y:Int) 3 0+3≤QP;simp only[aX,Int.toNat_natCast];omega
   have o3:(Obl.inR .i64 (.add (.n y) (.l 1))).ok:=by show lo _≤_∧_≤hi _;simp only[lo,hi,IE.den];omega
   obtain⟨y',hy'⟩:=nm (y+1);have hi1:((IE.n y).add (IE.l 1)).den=(IE.n y').den:=by simp only[IE.den,hy'];omega
   have hyx:=hh ⟨y',by omega⟩ (by show np - y'<np - y;omega)
   clear hh hq hqq;unfold fL kO at kq;generalize aA q.x=t1 at *;generalize aA q.y=t2 at *;generalize aA q.z=t3 at *;cbv;refine aQ hc ⟨o1,o2,trivial⟩ ?_;refine fA hc (.b (.l true)) kq eG (dM (cY r3) rfl) rfl 100 ?_;cbv;refine aQ hc ⟨o3,trivial⟩ ?_;exact zU 5 (S':=J ⟨y',by omega⟩) (K':=K) ⟨zS rfl rfl,zS rfl rfl,zS rfl rfl,zS rfl rfl,zS rfl rfl,zS rfl rfl,zS rfl rfl,zI rfl rfl hi1,trivial⟩ (by subst hK;exact⟨⟨(by repeat (first | exact .head _ | apply List.Mem.tail)),KFr.cst _ _ _⟩,trivial⟩) ⟨by rw[hMo];exact OFr.mp _ _ _,trivial⟩ hyx
  ·clear hh;obtain⟨T,hT⟩:∃T:Nat→Nat→Nat→Array Nat→OF,∀a b c d,T a b c d=OF.it a b c d:=⟨OF.it,fun _ _ _ _=>rfl⟩;obtain⟨es,hes⟩:=nm (Es x);obtain⟨Z,hZ⟩:=nm (es.length);rw[←hes]at aZg bBk ⊢;cbv;refine zN hc ?_;cbv;refine aLr hc _ rfl rfl rfl wT [] hMo hT rfl rfl rfl (fun qi=>?_);rw[←hZ];refine zN hc ?_;cbv;let H:Array Nat→St:=fun sn=>⟨[(0,.sl 0 0 (.n x) cap),(4,.p 1 0),(5,.p 2 0),(6,.p 3 0),(73,.o (.pointer (some ⟨qi,0,none⟩)))],[.xs QM f,.c 36 [.s (.v u1),.s (.v u2),.s (.v u3)],.c 36 [.s (.v v1),.s (.v v2),.s (.v v3)],.c 30 [.s (.v ⟨#[]⟩),.s (.v ⟨#[]⟩),.s (.v ⟨#[]⟩),.s (.v ⟨#[]⟩),.s (.v ⟨#[]⟩),.s (.v ⟨#[]⟩)]],[T qi r Z sn,Mo r es]⟩
   refine zU 4 (S':=H #[]) (K':=K) ⟨zS rfl rfl,zS rfl rfl,zS rfl rfl,zS rfl rfl,zS rfl rfl,trivial⟩ (by subst hK;exact⟨⟨(by repeat (first | exact .head _ | apply List.Mem.tail)),KFr.cst _ _ _⟩,trivial⟩) ⟨by rw[hT];exact OFr.it _ _ _ _ _,by rw[hMo];exact OFr.mp _ _ _,trivial⟩ ?_;refine bQ hc H (fun sn=>aGw Z sn) #[] 100 ?_;rintro p3 seen hh;cbv
   dsimp only[H]
   rw[hZ];refine aQ8 hc _ rfl rfl rfl hMo hT rfl rfl [] rfl (.tail _ (.head _)) (fun qW=>?_) (fun j ks v hj hns=>?_)
   rotate_left
   ·have hv:v=0:=aZg j ks v hj
    subst hv;have hyx:=hh (seen.push j) (tM (by rw[hZ];exact(List.getElem?_eq_some_iff.1 hj).1) hns)
    refine zN hc ?_;cbv;refine aLn hc _ rfl rfl rfl hMo hT rfl rfl (.head _) (.tail _ (.head _)) hj ?_;refine zN hc ?_;cbv
    try rw[←hZ]
    refine aE hc rfl 100 (fun h=>nomatch (show false=true from h)) (fun h=>?_);cbv;exact zU 4 (S':=H (seen.push j)) (K':=K) ⟨zS rfl rfl,zS rfl rfl,zS rfl rfl,zS rfl rfl,zS rfl rfl,trivial⟩ (by subst hK;exact⟨⟨(by repeat (first | exact .head _ | apply List.Mem.tail)),KFr.cst _ _ _⟩,trivial⟩) ⟨by rw[hT];exact OFr.it _ _ _ _ _,by rw[hMo];exact OFr.mp _ _ _,trivial⟩ hyx
   ·clear hh
    try rw[←hZ]
    refine zN hc ?_;cbv;let I4t:={y:Nat//y≤x}
    let L4:I4t→St:=fun y=>⟨[(4,.p 1 0),(5,.p 2 0),(6,.p 3 0),(16,.p 4 0),(17,.f (.func 102) [] []),(82,.sl 0 0 (.n x) cap),(83,.i .i64 (.n x)),(84,.i .i64 (.n y.1))],[.xs QM f,.c 36 [.s (.v u1),.s (.v u2),.s (.v u3)],.c 36 [.s (.v v1),.s (.v v2),.s (.v v3)],.c 30 [.s (.v ⟨#[]⟩),.s (.v ⟨#[]⟩),.s (.v ⟨#[]⟩),.s (.v ⟨#[]⟩),.s (.v ⟨#[]⟩),.s (.v ⟨#[]⟩)],.c 30 [.s (.v (d0 y.1)),.s (.v (d1 y.1)),.s (.v (d2 y.1)),.s (.v (d3 y.1)),.s (.v (d4 y.1)),.s (.v (d5 y.1))]],[T qi r Z seen,Mo r es]⟩
    let y0:I4t:=⟨0,Nat.zero_le _⟩
    refine eF 5 (S':=L4 y0) (K':=K) rfl (by simp only[L4,y0,z0,z1,z2,z3,z4,z5];rfl) (lbl rfl) rfl rfl ⟨zS rfl rfl,zS rfl rfl,zS rfl rfl,zS rfl rfl,zS rfl rfl,zS rfl rfl,zS rfl rfl,zS rfl rfl,trivial⟩ (by subst hK;exact⟨⟨(by repeat (first | exact .head _ | apply List.Mem.tail)),KFr.cst _ _ _⟩,trivial⟩) ⟨by rw[hT];exact OFr.it _ _ _ _ _,by rw[hMo];exact OFr.mp _ _ _,trivial⟩ ?_;refine bQ hc L4 (fun y=>x - y.1) y0 100 ?_;rintro p4 ⟨y,hy⟩ hh;cbv
    dsimp only[L4]
    refine aE hc rfl 9 (fun h=>?_) (fun h=>?_)
    ·have hyM:y<x:=BE.ltn_t h
     have hg:sg[y]?=some sg[y]:=by simp
     obtain⟨g,hgg⟩:=nm (sg[y]);rw[←hgg]at hg;obtain⟨ga,gb⟩:=hl g (List.mem_of_getElem? hg);obtain⟨f0,f1,f2,f3,f4,f5⟩:=bA0 hf hg;have o1:(Obl.ltE (.n y) (.n x)).ok:=by show _∧_;simp only[IE.den];omega
     have o2:(Obl.ix 0 (.n y) 6 0 6 QM).ok:=by show aX 0 (y:Int) 6 0+6≤QM;simp only[aX,Int.toNat_natCast];omega
     have o3:(Obl.inR .i64 (.add (.n y) (.l 1))).ok:=by show lo _≤_∧_≤hi _;simp only[lo,hi,IE.den];omega
     obtain⟨y',hy'⟩:=nm (y+1);have hi1:((IE.n y).add (IE.l 1)).den=(IE.n y').den:=by simp only[IE.den,hy'];omega
     have r6:=re6 f0 f1 f2 f3 f4 f5
     clear f0 f1 f2 f3 f4 f5;have hyx:=hh ⟨y',by omega⟩ (by show x - y'<x - y;omega)
     clear hh;have q1:=kd u g.a hu ga
     have q2:=kd v g.a hw ga
     have q3:=kd u g.b hu gb
     have q4:=kd v g.b hw gb
     rw[←hu1,←hu2,←hu3]at q1 q3;rw[←hv1,←hv2,←hv3]at q2 q4;have s1:=aGg u g.a hu ga
     have s2:=aGg v g.a hw ga
     have s3:=aGg u g.b hu gb
     have s4:=aGg v g.b hw gb
     have hA':A y'=(A y).tri (u.dot g.a) (v.dot g.a) (u.dot g.b) (v.dot g.b):=by rw[hA,hA,hy',kE _ _ hg];rfl
     obtain⟨yb,⟨b0',b1',b2',b3',b4',b5'⟩,hyb⟩:∃z:Nat,(A y).le (1+z)∧z≤28312704:=⟨y*884772,Ale y (by omega),by omega⟩;generalize u.dot g.a=ax at *;generalize v.dot g.a=ay at *;generalize u.dot g.b=bx at *;generalize v.dot g.b=by' at *
     have m1:=lD (x:=ax) (y:=by') (lTr s1 (by omega)) (lTr s4 (by omega))
     have m2:=lD (x:=bx) (y:=ay) (lTr s3 (by omega)) (lTr s2 (by omega))
     have m3:=bC4 (x:=ax*by') (y:=bx*ay) (lTr (sz_mm s1 s4) (by omega)) (lTr (sz_mm s3 s2) (by omega))
     have sc:=sz_ss (sz_mm s1 s4) (sz_mm s3 s2)
     obtain⟨cc,hcc⟩:∃q,q=ax*by' - bx*ay:=⟨_,rfl⟩
     rw[←hcc]at m3 sc;have w0:aA ((A y).a+cc*(1/2))=d0 y':=by rw[←hd0,hA',hcc];rfl
     have w1:aA ((A y).x+cc*(ax+bx)*(1/6))=d1 y':=by rw[←hd1,hA',hcc];rfl
     have w2:aA ((A y).y+cc*(ay+by')*(1/6))=d2 y':=by rw[←hd2,hA',hcc];rfl
     have w3:aA ((A y).xx+cc*(ax*ax+ax*bx+bx*bx)*(1/12))=d3 y':=by rw[←hd3,hA',hcc];rfl
     have w4:aA ((A y).yy+cc*(ay*ay+ay*by'+by'*by')*(1/12))=d4 y':=by rw[←hd4,hA',hcc];rfl
     have w5:aA ((A y).xy+cc*(2*ax*ay+ax*by'+bx*ay+2*bx*by')*(1/24))=d5 y':=by rw[←hd5,hA',hcc];rfl
     have n1:=lD (x:=cc) (y:=1/2) (lTr sc (by omega)) (lTr szh (by omega))
     have n2:=rB (x:=(A y).a) (y:=cc*(1/2)) (lTr b0' (by omega)) (lTr (sz_mm sc szh) (by omega))
     have n3:=rB (x:=ax) (y:=bx) (lTr s1 (by omega)) (lTr s3 (by omega))
     have n4:=uZ (x:=cc) (y:=ax+bx) (z:=1/6) (lTr sc (by omega)) (lTr (sz_aa s1 s3) (by omega)) (lTr sz6 (by omega)) (lTr (sz_mm sc (sz_aa s1 s3)) (by omega))
     have n5:=rB (x:=(A y).x) (y:=cc*(ax+bx)*(1/6)) (lTr b1' (by omega)) (lTr (sz_mm (sz_mm sc (sz_aa s1 s3)) sz6) (by omega))
     have n6:=rB (x:=ay) (y:=by') (lTr s2 (by omega)) (lTr s4 (by omega))
     have n7:=uZ (x:=cc) (y:=ay+by') (z:=1/6) (lTr sc (by omega)) (lTr (sz_aa s2 s4) (by omega)) (lTr sz6 (by omega)) (lTr (sz_mm sc (sz_aa s2 s4)) (by omega))
     have n8:=rB (x:=(A y).y) (y:=cc*(ay+by')*(1/6)) (lTr b2' (by omega)) (lTr (sz_mm (sz_mm sc (sz_aa s2 s4)) sz6) (by omega))
     have i1:=lD (x:=ax) (y:=ax) (lTr s1 (by omega)) (lTr s1 (by omega))
     have i2:=lD (x:=ax) (y:=bx) (lTr s1 (by omega)) (lTr s3 (by omega))
     have i3:=lD (x:=bx) (y:=bx) (lTr s3 (by omega)) (lTr s3 (by omega))
     have i4:=aGx (x:=ax*ax) (y:=ax*bx) (z:=bx*bx) (lTr (sz_mm s1 s1) (by omega)) (lTr (sz_mm s1 s3) (by omega)) (lTr (sz_mm s3 s3) (by omega)) (lTr (sz_aa (sz_mm s1 s1) (sz_mm s1 s3)) (by omega))
     have i5:=uZ (x:=cc) (y:=ax*ax+ax*bx+bx*bx) (z:=1/12) (lTr sc (by omega)) (lTr (sz_aa (sz_aa (sz_mm s1 s1) (sz_mm s1 s3)) (sz_mm s3 s3)) (by omega)) (lTr aNp (by omega)) (lTr (sz_mm sc (sz_aa (sz_aa (sz_mm s1 s1) (sz_mm s1 s3)) (sz_mm s3 s3))) (by omega))
     have i6:=rB (x:=(A y).xx) (y:=cc*(ax*ax+ax*bx+bx*bx)*(1/12)) (lTr b3' (by omega)) (lTr (sz_mm (sz_mm sc (sz_aa (sz_aa (sz_mm s1 s1) (sz_mm s1 s3)) (sz_mm s3 s3))) aNp) (by omega))
     have j1:=lD (x:=ay) (y:=ay) (lTr s2 (by omega)) (lTr s2 (by omega))
     have j2:=lD (x:=ay) (y:=by') (lTr s2 (by omega)) (lTr s4 (by omega))
     have j3:=lD (x:=by') (y:=by') (lTr s4 (by omega)) (lTr s4 (by omega))
     have j4:=aGx (x:=ay*ay) (y:=ay*by') (z:=by'*by') (lTr (sz_mm s2 s2) (by omega)) (lTr (sz_mm s2 s4) (by omega)) (lTr (sz_mm s4 s4) (by omega)) (lTr (sz_aa (sz_mm s2 s2) (sz_mm s2 s4)) (by omega))
     have j5:=uZ (x:=cc) (y:=ay*ay+ay*by'+by'*by') (z:=1/12) (lTr sc (by omega)) (lTr (sz_aa (sz_aa (sz_mm s2 s2) (sz_mm s2 s4)) (sz_mm s4 s4)) (by omega)) (lTr aNp (by omega)) (lTr (sz_mm sc (sz_aa (sz_aa (sz_mm s2 s2) (sz_mm s2 s4)) (sz_mm s4 s4))) (by omega))
     have j6:=rB (x:=(A y).yy) (y:=cc*(ay*ay+ay*by'+by'*by')*(1/12)) (lTr b4' (by omega)) (lTr (sz_mm (sz_mm sc (sz_aa (sz_aa (sz_mm s2 s2) (sz_mm s2 s4)) (sz_mm s4 s4))) aNp) (by omega))
     have k1:=uZ (x:=2) (y:=ax) (z:=ay) (lTr sz2 (by omega)) (lTr s1 (by omega)) (lTr s2 (by omega)) (lTr (sz_mm sz2 s1) (by omega))
     have k4:=uZ (x:=2) (y:=bx) (z:=by') (lTr sz2 (by omega)) (lTr s3 (by omega)) (lTr s4 (by omega)) (lTr (sz_mm sz2 s3) (by omega))
     have k5:=aU1 (x:=2*ax*ay) (y:=ax*by') (z:=bx*ay) (u:=2*bx*by') (lTr (sz_mm (sz_mm sz2 s1) s2) (by omega)) (lTr (sz_mm s1 s4) (by omega)) (lTr (sz_mm s3 s2) (by omega)) (lTr (sz_mm (sz_mm sz2 s3) s4) (by omega)) (lTr (sz_aa (sz_mm (sz_mm sz2 s1) s2) (sz_mm s1 s4)) (by omega)) (lTr (sz_aa (sz_aa (sz_mm (sz_mm sz2 s1) s2) (sz_mm s1 s4)) (sz_mm s3 s2)) (by omega))
     have k6:=uZ (x:=cc) (y:=2*ax*ay+ax*by'+bx*ay+2*bx*by') (z:=1/24) (lTr sc (by omega)) (lTr (sz_aa (sz_aa (sz_aa (sz_mm (sz_mm sz2 s1) s2) (sz_mm s1 s4)) (sz_mm s3 s2)) (sz_mm (sz_mm sz2 s3) s4)) (by omega)) (lTr aRm (by omega)) (lTr (sz_mm sc (sz_aa (sz_aa (sz_aa (sz_mm (sz_mm sz2 s1) s2) (sz_mm s1 s4)) (sz_mm s3 s2)) (sz_mm (sz_mm sz2 s3) s4))) (by omega))
     have k7:=rB (x:=(A y).xy) (y:=cc*(2*ax*ay+ax*by'+bx*ay+2*bx*by')*(1/24)) (lTr b5' (by omega)) (lTr (sz_mm (sz_mm sc (sz_aa (sz_aa (sz_aa (sz_mm (sz_mm sz2 s1) s2) (sz_mm s1 s4)) (sz_mm s3 s2)) (sz_mm (sz_mm sz2 s3) s4))) aRm) (by omega))
     rw[w0,hd0]at n2;rw[w1,hd1]at n5;rw[w2,hd2]at n8;rw[w3,hd3]at i6;rw[w4,hd4]at j6;rw[w5,hd5]at k7;rw[aR2]at n1;rw[aUi]at n4 n7;rw[aVh]at i5 j5;rw[aRy]at k6;rw[aR0]at k1 k4;clear hA' hcc sc s1 s2 s3 s4 w0 w1 w2 w3 w4 w5 b0' b1' b2' b3' b4' b5' hyb hg hgg ga gb;generalize aA (ax*by')=r1 at *;generalize aA (bx*ay)=r2 at *;generalize aA (cc*(1/2))=r3 at *;generalize aA (ax+bx)=r4 at *;generalize aA (cc*(ax+bx)*(1/6))=r5 at *;generalize aA (ay+by')=r6' at *;generalize aA (cc*(ay+by')*(1/6))=r7 at *;generalize aA (ax*ax)=r8 at *;generalize aA (ax*bx)=r9 at *;generalize aA (bx*bx)=r10 at *;generalize aA (ax*ax+ax*bx+bx*bx)=r11 at *;generalize aA (cc*(ax*ax+ax*bx+bx*bx)*(1/12))=r12 at *;generalize aA (ay*ay)=r13 at *;generalize aA (ay*by')=r14 at *;generalize aA (by'*by')=r15 at *;generalize aA (ay*ay+ay*by'+by'*by')=r16 at *;generalize aA (cc*(ay*ay+ay*by'+by'*by')*(1/12))=r17 at *;generalize aA (2*ax*ay)=r18 at *;generalize aA (2*bx*by')=r19 at *;generalize aA (2*ax*ay+ax*by'+bx*ay+2*bx*by')=r20 at *;generalize aA (cc*(2*ax*ay+ax*by'+bx*ay+2*bx*by')*(1/24))=r21 at *;generalize aA (cc)=rc at *;generalize aA (ax)=ra at *;generalize aA (ay)=rb at *;generalize aA (bx)=rd at *;generalize aA (by')=re at *;generalize aA g.a.x=t1 at *;generalize aA g.a.y=t2 at *;generalize aA g.a.z=t3 at *;generalize aA g.b.x=t4 at *;generalize aA g.b.y=t5 at *;generalize aA g.b.z=t6 at *;cbv;refine aQ hc ⟨o1,o2,trivial⟩ ?_;refine gU 5 [.s (.v t1),.s (.v t2),.s (.v t3),.s (.v t4),.s (.v t5),.s (.v t6)] rfl rfl r6 ?_;refine zN hc ?_;cbv;refine zD hc (.s (.v ra)) q1 nE ?_;cbv;refine zD hc (.s (.v rb)) q2 nE ?_;cbv;refine zD hc (.s (.v rd)) q3 nE ?_;cbv;refine zD hc (.s (.v re)) q4 nE ?_;cbv;refine bX hc _ rfl rfl rfl rfl rfl 0 ?_;cbv;refine bX hc _ rfl rfl rfl rfl rfl 0 ?_;cbv;refine bX hc _ rfl rfl rfl rfl rfl 0 ?_;cbv;refine bX hc _ rfl rfl rfl rfl rfl 0 ?_;cbv;refine zE hc ?_;cbv;refine lM hc (n:=2) (.s (.v r1)) m1 dK rfl rfl rfl rfl rfl 100 ?_;cbv;refine lM hc (n:=2) (.s (.v r2)) m2 dK rfl rfl rfl rfl rfl 100 ?_;cbv;refine zC hc (.s (.v rc)) m3 aVw ?_;cbv;refine bI hc (n:=2) (.s (.v r3)) n1 dK rfl rfl rfl rfl rfl 100 ?_;cbv;refine bI hc (n:=2) (.s (.v (d0 y'))) n2 gH rfl rfl rfl rfl rfl 100 ?_;cbv;refine zE hc ?_;cbv;refine bI hc (n:=2) (.s (.v r4)) n3 gH rfl rfl rfl rfl rfl 100 ?_;cbv;refine bI hc (n:=3) (.s (.v r5)) n4 dK rfl rfl rfl rfl rfl 100 ?_;cbv;refine bI hc (n:=2) (.s (.v (d1 y'))) n5 gH rfl rfl rfl rfl rfl 100 ?_;cbv;refine zE hc ?_;cbv;refine bI hc (n:=2) (.s (.v r6')) n6 gH rfl rfl rfl rfl rfl 100 ?_;cbv;refine bI hc (n:=3) (.s (.v r7)) n7 dK rfl rfl rfl rfl rfl 100 ?_;cbv;refine bI hc (n:=2) (.s (.v (d2 y'))) n8 gH rfl rfl rfl rfl rfl 100 ?_;cbv;refine zE hc ?_;cbv;refine bI hc (n:=2) (.s (.v r8)) i1 dK rfl rfl rfl rfl rfl 100 ?_;cbv;refine bI hc (n:=2) (.s (.v r9)) i2 dK rfl rfl rfl rfl rfl 100 ?_;cbv;refine bI hc (n:=2) (.s (.v r10)) i3 dK rfl rfl rfl rfl rfl 100 ?_;cbv;refine bI hc (n:=3) (.s (.v r11)) i4 gH rfl rfl rfl rfl rfl 100 ?_;cbv;refine bI hc (n:=3) (.s (.v r12)) i5 dK rfl rfl rfl rfl rfl 100 ?_;cbv;refine bI hc (n:=2) (.s (.v (d3 y'))) i6 gH rfl rfl rfl rfl rfl 100 ?_;cbv;refine zE hc ?_;cbv;refine bI hc (n:=2) (.s (.v r13)) j1 dK rfl rfl rfl rfl rfl 100 ?_;cbv;refine bI hc (n:=2) (.s (.v r14)) j2 dK rfl rfl rfl rfl rfl 100 ?_;cbv;refine bI hc (n:=2) (.s (.v r15)) j3 dK rfl rfl rfl rfl rfl 100 ?_;cbv;refine bI hc (n:=3) (.s (.v r16)) j4 gH rfl rfl rfl rfl rfl 100 ?_;cbv;refine bI hc (n:=3) (.s (.v r17)) j5 dK rfl rfl rfl rfl rfl 100 ?_;cbv;refine bI hc (n:=2) (.s (.v (d4 y'))) j6 gH rfl rfl rfl rfl rfl 100 ?_;cbv;refine zE hc ?_;cbv;refine bI hc (n:=3) (.s (.v r18)) k1 dK rfl rfl rfl rfl rfl 100 ?_;cbv;refine bI hc (n:=2) (.s (.v r1)) m1 dK rfl rfl rfl rfl rfl 100 ?_;cbv;refine bI hc (n:=2) (.s (.v r2)) m2 dK rfl rfl rfl rfl rfl 100 ?_;cbv;refine bI hc (n:=3) (.s (.v r19)) k4 dK rfl rfl rfl rfl rfl 100 ?_;cbv;refine bI hc (n:=4) (.s (.v r20)) k5 gH rfl rfl rfl rfl rfl 100 ?_;cbv;refine bI hc (n:=3) (.s (.v r21)) k6 dK rfl rfl rfl rfl rfl 100 ?_;cbv;refine bI hc (n:=2) (.s (.v (d5 y'))) k7 gH rfl rfl rfl rfl rfl 100 ?_;cbv;refine zE hc ?_;cbv;refine aQ hc ⟨o3,trivial⟩ ?_;exact zU 5 (S':=L4 ⟨y',by omega⟩) (K':=K) ⟨zS rfl rfl,zS rfl rfl,zS rfl rfl,zS rfl rfl,zS rfl rfl,zS rfl rfl,zS rfl rfl,zI rfl rfl hi1,trivial⟩ (by subst hK;exact⟨⟨(by repeat (first | exact .head _ | apply List.Mem.tail)),KFr.cst _ _ _⟩,trivial⟩) ⟨by rw[hT];exact OFr.it _ _ _ _ _,by rw[hMo];exact OFr.mp _ _ _,trivial⟩ hyx
    ·have hyM:y=x:=by have:=BE.ltn_f h;omega
     subst hyM;clear hh;cbv;refine zN hc ?_;cbv;refine aS hc hR rfl (fun X μ a w v' H hv'=>?_);rw[kV];simp only[aD,aG]at hv';injection hv' with hv'
     exact hv'.symm
theorem aL2:aB PP 26:=zK
theorem aBo:aB PP 13:=zK
theorem zF:aB PP 50:=zK
theorem aIp {r:Raw}{l:List Tri}{p:Pl}(hg:r.good l p)(hp:p.fit (2^9))(hl:∀t,t∈l→t.le (2^9))(hN:r.N≤32)(hL:r.L.length=9*r.N)(hb:(bD p l).le (2^26))(hv0:(bD p l).v≠0){X:Nat→Prop}{w:World}{v:Value}(hX:∀b,X b→b<w.heap.size)(hv:(rowS r.N r.L).p v X w):
  Fn PP 26 [v,r.attV,.string r.d] X w (dI (.tuple #[fL ((bD p l).f.scale (1/(bD p l).v)),.int .i64 0])):=by
 have kw:∀{X:Nat→Prop} {w:World} {v:Value},(∀b,X b→b<w.heap.size)→(rowS r.N r.L).p v X w→Fn PP 60 [v,r.attV,.string r.d] X w (dI (.tuple #[oF (bD p l),.int .i64 0])):=fun hX hv=>wQ hg hp hl hN hL hX hv
 have kc:=aTo hb
 rw[if_neg hv0]at kc;clear hg hp hb hv0;obtain⟨R,hRR⟩:=nm (dI (.tuple #[fL ((bD p l).f.scale (1/(bD p l).v)),.int .i64 0]));rw[←hRR];unfold Raw.attV at *;obtain⟨RS,hRS⟩:=nm (rowS r.N r.L);rw[←hRS]at hv kw;obtain⟨K,hK⟩:=nm ([KF.cst v RS]);obtain⟨m0,m1,m2,m3,m4,m5,m6,m7,m8,m9,hm⟩:∃m0 m1 m2 m3 m4 m5 m6 m7 m8 m9:ByteArray,oF (bD p l)=.agg #[.string m0,.string m1,.string m2,.string m3,.string m4,.string m5,.string m6,.string m7,.string m8,.string m9]:=⟨_,_,_,_,_,_,_,_,_,_,rfl⟩;rw[hm]at kw kc;unfold fL kO at *;generalize aA ((bD p l).f.scale (1/(bD p l).v)).x=c1 at *;generalize aA ((bD p l).f.scale (1/(bD p l).v)).y=c2 at *;generalize aA ((bD p l).f.scale (1/(bD p l).v)).z=c3 at *;refine bE mixed tok [.q v,.g [.s (.v r.h),.s (.v r.t)],.s (.v r.d)] (K:=K) Tryz.func26 rfl rfl (lbl rfl) rfl hX (by rw[hK];simp;exact hv) fun c hc hR=>?_
 refine zN hc ?_;cbv;refine bJ hc (.t [.g [.s (.v m0),.s (.v m1),.s (.v m2),.s (.v m3),.s (.v m4),.s (.v m5),.s (.v m6),.s (.v m7),.s (.v m8),.s (.v m9)],.i .i64 (.l 0)]) qD (fun n0 D X μ a w aK H hv=>?_) rfl 100 ?_
 ·obtain⟨u1,u2,u3,rfl,e1,e2,e3⟩:=dV hv;rw[bO e1,show u2=_ from(Option.some.inj e2).symm,show u3=_ from(Option.some.inj e3).symm];exact kw H.xlt (H.cst (by rw[hK];exact .head _))
 cbv;refine zC hc (.t [iF c1 c2 c3,.i .i64 (.l 0)]) kc aL5 ?_;cbv;refine aS hc hR rfl (fun X μ a w v' H hv'=>?_);rw[hRR];simp only[aD,aG]at hv';injection hv' with hv'
 exact hv'.symm
theorem aAi {r:Raw}{l:List Tri}{p:Pl}{a:At}(hg:r.good l p)(hp:p.fit (2^9))(hl:∀t,t∈l→t.le (2^9))(hN:r.N≤32)(hL:r.L.length=9*r.N)(ha:a.le (2^10))(hk:a.ok=true)(hra:r.attV=atV a)(aIw:aRf (eC p l)=true){X:Nat→Prop}{w:World}{v:Value}(hX:∀b,X b→b<w.heap.size)(hv:(rowS r.N r.L).p v X w):
  Fn PP 13 [v,r.attV,.string r.d] X w (dI (.tuple #[wpV (wpS a.ahead a.side (eC p l)),.int .i64 0])):=by
 have hlen:l.length=r.N:=by
  have:=hL
  rw[hg.eq,eQ]at this;omega
 have kw:∀{X:Nat→Prop} {w:World} {v:Value},(∀b,X b→b<w.heap.size)→(rowS r.N r.L).p v X w→Fn PP 48 [v,r.attV,.string r.d] X w (dI (.tuple #[mY p,.int .i64 0])):=fun hX hv=>aCy hg hL hX hv
 have ks:∀{X:Nat→Prop} {w:World} {v:Value},(∀b,X b→b<w.heap.size)→(rowS r.N r.L).p v X w→Fn PP 52 [v,mY p] X w (codeF (rowS (eC p l).length (iJ (eC p l)))):=fun {X} {w} {v} hX hv=>by
  rw[hg.eq,←hlen]at hv;exact aFh (hp.mono (by decide)) (fun t ht=>⟨(hl t ht).1.mono (by decide),(hl t ht).2.1.mono (by decide),(hl t ht).2.2.mono (by decide)⟩) (by omega) hg.ok hX hv
 have ko:=tOf (a:=a) ⟨lTr ha.1 (by decide),lTr ha.2 (by decide)⟩ hk
 have km:∀{X:Nat→Prop} {w:World} {v:Value},(∀b,X b→b<w.heap.size)→(rowS (eC p l).length (iJ (eC p l))).p v X w→Fn PP 51 [v,fL a.ahead,fL a.side] X w (dI (.tuple #[wpV (wpS a.ahead a.side (eC p l)),.int .i64 0])):=fun hX hv=>
  aQn ((At.le_ahead ha).mono (by decide)) ((At.le_side ha).mono (by decide)) (fun g h=>by
   have:=aE3 hp hl h
   exact⟨this.1.mono (by decide),this.2.mono (by decide)⟩) (lTr (vN p l) (by omega)) aIw hX hv
 clear hg hp;obtain⟨R,hRR⟩:=nm (dI (.tuple #[wpV (wpS a.ahead a.side (eC p l)),.int .i64 0]));obtain⟨R',hR'⟩:=nm (rowS (eC p l).length (iJ (eC p l)));obtain⟨RC,hRC⟩:=nm (codeF R');rw[←hRR];rw[←hR',←hRC]at ks;rw[←hR']at km;rw[hra]at kw ⊢;unfold atV aWj at *;obtain⟨RS,hRS⟩:=nm (rowS r.N r.L);rw[←hRS]at hv kw ks;obtain⟨K,hK⟩:=nm ([KF.cst v RS]);obtain⟨y0,y1,y2,y3,y4,y5,hy⟩:∃y0 y1 y2 y3 y4 y5:ByteArray,wpV (wpS a.ahead a.side (eC p l))=.agg #[.string y0,.string y1,.string y2,.string y3,.string y4,.string y5]:=⟨_,_,_,_,_,_,rfl⟩;rw[hy]at hRR km;unfold mY fL kO at *;generalize aA p.n.x=q1 at *;generalize aA p.n.y=q2 at *;generalize aA p.n.z=q3 at *;generalize aA p.a=q4 at *;rw[show aA a.side.x=⟨#[48]⟩ from eX]at *;generalize aA a.ahead.x=x0 at *;generalize aA a.ahead.y=x1 at *;generalize aA a.ahead.z=x2 at *;generalize aA a.side.y=x4 at *;generalize aA a.side.z=x5 at *;generalize aA a.up.x=x6 at *;generalize aA a.up.y=x7 at *;generalize aA a.up.z=x8 at *;generalize aA a.h=h0 at *;generalize aA a.t=t0 at *;refine bE mixed tok [.q v,.g [.s (.v h0),.s (.v t0)],.s (.v r.d)] (K:=K) Tryz.func13 rfl rfl (lbl rfl) rfl hX (by rw[hK];simp;exact hv) fun c hc hR=>?_
 refine zN hc ?_;cbv;refine bJ hc (.t [.g [.s (.v q1),.s (.v q2),.s (.v q3),.s (.v q4)],.i .i64 (.l 0)]) zB (fun n0 D X μ a w aK H hv=>?_) rfl 100 ?_
 ·obtain⟨u1,u2,u3,rfl,e1,e2,e3⟩:=dV hv;rw[bO e1,show u2=_ from(Option.some.inj e2).symm,show u3=_ from(Option.some.inj e3).symm];exact kw H.xlt (H.cst (by rw[hK];exact .head _))
 cbv;refine zC hc (.t [.g [.s (.v x0),.s (.v x1),.s (.v x2),.s (.v ⟨#[48]⟩),.s (.v x4),.s (.v x5),.s (.v x6),.s (.v x7),.s (.v x8)],.i .i64 (.l 0)]) ko aYy ?_;cbv;refine dZ hc (R:=RC) zA (fun n0 D X μ a w aK H hv=>?_) 0 ?_
 ·obtain⟨u,u',rfl,e,e'⟩:=bL hv;rw[bO e];rw[show u'=_ from(Option.some.inj e').symm];exact ks H.xlt (H.cst (by rw[hK];exact .head _))
 cbv;refine aQ3 40 5 rfl rfl (.head _) hRC (fun z=>?_);refine zN hc ?_;cbv;refine cN hc Tryz.func50 rfl rfl zF rfl (fun c1 tm1 FR1 fV hc1 L1=>?_);refine zN hc1 ?_;cbv;refine bJ hc1 (.t [.g [.s (.v y0),.s (.v y1),.s (.v y2),.s (.v y3),.s (.v y4),.s (.v y5)],.i .i64 (.l 0)]) aIa (fun n0 D X μ a w aK H hv=>?_) rfl 100 ?_
 ·obtain⟨u1,u2,u3,rfl,e1,e2,e3⟩:=dV hv;rw[bO e1,show u2=_ from(Option.some.inj e2).symm,show u3=_ from(Option.some.inj e3).symm];exact km H.xlt (H.cst (.tail _ (.head _)))
 cbv;refine cM hc1 L1 fV (.head _) rfl ?_;refine zN hc ?_;cbv;refine aS hc hR rfl (fun X μ a w v' H hv'=>?_);rw[hRR];simp only[aD,aG]at hv';injection hv' with hv'
 exact hv'.symm
end Go.Ai
namespace Go.Ai
open Go Go.Proofs Go.Num Go.RowKit Go.Lib
theorem gN:aB PP 14:=zK
set_option maxRecDepth 100000 in
theorem aDn:PP.underlying 23=some (.slice 38)∧∃i z,PP.info? 38=some i∧i.size=9∧i.bytes=144∧i.zero=some z∧z.cells.size=9:=by
 obtain⟨ti,hti⟩:∃ti,ty 23=some ti∧ti.kind=.slice 38 9:=⟨_,rfl,rfl⟩;obtain⟨ei,hei⟩:∃ei,ty 38=some ei∧ei.zero.length=9:=⟨_,rfl,rfl⟩;have T:=tok _ ti hti.1
 have hu:=T.und
 rw[hti.2]at hu;obtain⟨u1,tj,u2,u3⟩:=hu;obtain⟨tj',z,h1,h2,h3,h4,h5⟩:=(tok _ ei hei.1).info;rw[u2]at h1;injection h1 with h1;subst h1
 have hb:(PP.info? 38).map (·.bytes)=some 144:=by kernel_rfl
 rw[u2]at hb;exact⟨u1,tj,z,u2,u3,by simpa using hb,h3,by have:=aZ h4;rw[hei.2]at this;simpa using this⟩
set_option maxHeartbeats 2000000 in
set_option maxRecDepth 100000 in
theorem aIj (b off n c:Nat)(xs:List Value)(w:World)(hl:xs.length=n*9)(aZj:n*144≤140737488355328)(h1:∀u∈xs,u.oneCell'=true)(hc:∀j u,xs[j]?=some u→w.cell? ⟨b,off+j,none⟩=some u):
  Calls PP 14 #[.slice (some ⟨b,off,none⟩) n c] w fun e w'=>∃v',e=.returned v'∧w'.ownsRow w.heap.size 38 9 v' n xs∧Below w.heap.size w w':=by
 obtain⟨t22,i0,z,hi,hz1,hz2,hz0,hz3⟩:=aDn;have q22:∀(w:World) (a:Option Addr) (n c n' c':Nat),(binOp .eql 23 (.slice a n c) (.slice none n' c')).run PP w=.ok (.bool a.isNone) w:=fun w a n c n' c'=>Lib.run_eql_slice_nil w _ _ a n c n' c' t22
 have u22:∀w,Sem.run PP (underlying 23) w=.ok (TypeDesc.slice 38) w:=run_underlying t22
 have A:Aside (∀j u,xs[j]?=some u→w.cell? ⟨b,off+j,none⟩=some u):=hc
 clear hc
 go_enter Tryz.func14,Tryz.ntmps14
 go_wp2_with (at_builtin;refine wpList_append_own _ rfl _ _ 23 rfl w.heap.size 38 i0 z 9 144 t22 hi hz0 hz1 hz2 hz3 (by decide) _ _ _ rfl (World.ownsRow_made w #[] 0 (lRf _) (Nat.zero_le _) rfl) ⟨b,off,none⟩ n c xs rfl ?qc1 ?qc2 ?qc3 ?qc4 ?qc5 ?qc6 ?_)
 case qc1=>exact hl
 case qc2=>
  intro j u hj;rw[Addr.add_lit];refine Lib.cell?_alloc_some _ ?_;exact A.out j u hj
 case qc3=>exact h1
 case qc4=>unfold maxLen;omega
 case qc5=>omega
 case qc6=>simp
 intro v' w1 dX aGi aZ2
 go_wp2
 go_ret
 refine⟨v',rfl,by simpa using dX,?_⟩;exact((Below.refl _ w).alloc (lRf _) _).grown aGi (by simp) (by intro k hk;simp[Value.ownBlock]at hk;omega)
set_option maxHeartbeats 1000000 in
theorem aMb (n c:Nat)(w:World):
  Calls PP 14 #[.slice none n c] w fun e w'=>e=.returned (.slice none 0 0)∧w'=w:=by
 obtain⟨t22,_⟩:=aDn;have q22:∀(w:World) (a:Option Addr) (n c n' c':Nat),(binOp .eql 23 (.slice a n c) (.slice none n' c')).run PP w=.ok (.bool a.isNone) w:=fun w a n c n' c'=>Lib.run_eql_slice_nil w _ _ a n c n' c' t22
 go_enter Tryz.func14,Tryz.ntmps14
 go_wp2
 go_ret
 exact⟨rfl,rfl⟩
theorem aQ2 {L:List ByteArray}{N:Nat}(hL:L.length=9*N)(hN:N*144≤140737488355328){X:Nat→Prop}{w:World}{v:Value}(hv:(rowS N L).p v X w):
  Fn PP 14 [v] X w (rowS N L):=by
 intro _;obtain⟨ad,cap,rfl,dH,h3⟩:=hv;cases ad with
 | none=>
  obtain⟨e1,e2,e3⟩:=h3;refine Calls.mono (aMb N cap w) ?_;rintro e w' ⟨rfl,rfl⟩;refine⟨.slice none 0 0,X,rfl,Below.refl _ _,fun _ h=>h,fun _ h=>.inl h,none,0,?_,by omega,e1,rfl,e3⟩;rw[e1];rfl
 | some x=>
  obtain⟨b,o⟩:=x;obtain⟨hb,cs,ty',sO,hcs⟩:=h3;refine Calls.mono (aIj b o N cap (L.map Value.string) w (by rw[List.length_map,hL];omega) hN (fun u hu=>by obtain⟨x,_,rfl⟩:=List.mem_map.1 hu;rfl) (fun j u hj=>?_)) ?_
  ·simp only[World.cell?,sO];have:=hcs j u hj
   simp[this]
  ·rintro e w' ⟨v',rfl,dX,aPq⟩;have aK3:=dX
   obtain⟨hlen,h2⟩:=dX;refine⟨v',fun b=>X b∨v'.ownBlock=some b,rfl,aPq,fun _ h=>.inl h,fun b' h=>h.imp id (fun h=>World.ownsRow.lt aK3 b' h),?_⟩
   rcases h2 with⟨rfl,h2⟩ | ⟨g,aU,cur,rfl,_,hg,hnc,_,bDy,htk⟩
   ·subst h2;have hLn:L=[]:=List.eq_nil_of_length_eq_zero (by simpa using hL)
    subst hLn;exact⟨none,0,rfl,lRf _,rfl,rfl,rfl⟩
   ·refine⟨some (g,0),aU,rfl,hnc,.inr rfl,cur,(38,(0,0)),hg,fun i x hx=>?_⟩;have h3:(cur.toList.take (N*9))[i]?=some x:=by rw[htk];exact hx
    rw[List.getElem?_take]at h3;split at h3
    ·simpa using h3
    ·cases h3
end Go.Ai
namespace Go.Ai
open Go Go.Proofs Go.Num V3
theorem aVv:aB PP 44:=zK
theorem nD:aB PP 95:=zK
theorem aOe:aB PP 11:=zK
theorem xU (a b d:ByteArray):Pure PP 95 [.string a,.string b,.string d] (kO a b d):=by
 unfold kO;refine aH mixed tok [.s (.v a),.s (.v b),.s (.v d)] Tryz.func95 rfl rfl (lbl rfl) rfl fun c hc hR=>?_
 refine zN hc ?_;cbv;exact aF hc hR rfl rfl
def bx (a b c d:Rat):List Tri:=
 let p0:V3:=⟨a,-b,0⟩
 let p1:V3:=⟨c,-b,0⟩
 let p2:V3:=⟨c,b,0⟩
 let p3:V3:=⟨a,b,0⟩
 let q0:V3:=⟨a,-b,d⟩
 let q1:V3:=⟨c,-b,d⟩
 let q2:V3:=⟨c,b,d⟩
 let q3:V3:=⟨a,b,d⟩
 [⟨p0,p2,p1⟩,⟨p0,p3,p2⟩,⟨q0,q1,q2⟩,⟨q0,q2,q3⟩,⟨p0,p1,q1⟩,⟨p0,q1,q0⟩,⟨p1,p2,q2⟩,⟨p1,q2,q1⟩,⟨p2,p3,q3⟩,⟨p2,q3,q2⟩,⟨p3,p0,q0⟩,⟨p3,q0,q3⟩]
def mC:List Tri:=bx 0 2 10 3
def aYu:List ByteArray:=[⟨#[48]⟩,⟨#[45,50]⟩,⟨#[48]⟩,⟨#[49,48]⟩,⟨#[50]⟩,⟨#[48]⟩,⟨#[49,48]⟩,⟨#[45,50]⟩,⟨#[48]⟩,⟨#[48]⟩,⟨#[45,50]⟩,⟨#[48]⟩,⟨#[48]⟩,⟨#[50]⟩,⟨#[48]⟩,⟨#[49,48]⟩,⟨#[50]⟩,⟨#[48]⟩,⟨#[48]⟩,⟨#[45,50]⟩,⟨#[51]⟩,⟨#[49,48]⟩,⟨#[45,50]⟩,⟨#[51]⟩,⟨#[49,48]⟩,⟨#[50]⟩,⟨#[51]⟩,⟨#[48]⟩,⟨#[45,50]⟩,⟨#[51]⟩,⟨#[49,48]⟩,⟨#[50]⟩,⟨#[51]⟩,⟨#[48]⟩,⟨#[50]⟩,⟨#[51]⟩,⟨#[48]⟩,⟨#[45,50]⟩,⟨#[48]⟩,⟨#[49,48]⟩,⟨#[45,50]⟩,⟨#[48]⟩,⟨#[49,48]⟩,⟨#[45,50]⟩,⟨#[51]⟩,⟨#[48]⟩,⟨#[45,50]⟩,⟨#[48]⟩,⟨#[49,48]⟩,⟨#[45,50]⟩,⟨#[51]⟩,⟨#[48]⟩,⟨#[45,50]⟩,⟨#[51]⟩,⟨#[49,48]⟩,⟨#[45,50]⟩,⟨#[48]⟩,⟨#[49,48]⟩,⟨#[50]⟩,⟨#[48]⟩,⟨#[49,48]⟩,⟨#[50]⟩,⟨#[51]⟩,⟨#[49,48]⟩,⟨#[45,50]⟩,⟨#[48]⟩,⟨#[49,48]⟩,⟨#[50]⟩,⟨#[51]⟩,⟨#[49,48]⟩,⟨#[45,50]⟩,⟨#[51]⟩,⟨#[49,48]⟩,⟨#[50]⟩,⟨#[48]⟩,⟨#[48]⟩,⟨#[50]⟩,⟨#[48]⟩,⟨#[48]⟩,⟨#[50]⟩,⟨#[51]⟩,⟨#[49,48]⟩,⟨#[50]⟩,⟨#[48]⟩,⟨#[48]⟩,⟨#[50]⟩,⟨#[51]⟩,⟨#[49,48]⟩,⟨#[50]⟩,⟨#[51]⟩,⟨#[48]⟩,⟨#[50]⟩,⟨#[48]⟩,⟨#[48]⟩,⟨#[45,50]⟩,⟨#[48]⟩,⟨#[48]⟩,⟨#[45,50]⟩,⟨#[51]⟩,⟨#[48]⟩,⟨#[50]⟩,⟨#[48]⟩,⟨#[48]⟩,⟨#[45,50]⟩,⟨#[51]⟩,⟨#[48]⟩,⟨#[50]⟩,⟨#[51]⟩]
set_option maxRecDepth 100000 in
theorem aSj:gJ mC=aYu:=by decide+kernel
set_option maxRecDepth 100000 in
theorem bC2 {X:Nat→Prop}{w:World}(hX:∀b,X b→b<w.heap.size):Fn PP 44 [.string ⟨#[48]⟩,.string ⟨#[50]⟩,.string ⟨#[49,48]⟩,.string ⟨#[51]⟩] X w (rowS 12 (gJ mC)):=by
 rw[aSj];obtain⟨R,hRR⟩:=nm (rowS 12 aYu);rw[←hRR];obtain⟨K,hK⟩:∃K:List KF,K=[]:=⟨_,rfl⟩;refine bE mixed tok [.s (.v ⟨#[48]⟩),.s (.v ⟨#[50]⟩),.s (.v ⟨#[49,48]⟩),.s (.v ⟨#[51]⟩)] (K:=K) Tryz.func44 rfl rfl (lbl rfl) rfl hX (by rw[hK];simp) fun c hc hR=>?_
 refine zN hc ?_;cbv;refine aQ hc ⟨by show _≤_;decide,trivial⟩ ?_;refine fA hc (iF ⟨#[48]⟩ ⟨#[45,50]⟩ ⟨#[48]⟩) (xU ⟨#[48]⟩ ⟨#[45,50]⟩ ⟨#[48]⟩) nD (by kernel_rfl) (by kernel_rfl) 100 ?_;cbv;refine fA hc (iF ⟨#[49,48]⟩ ⟨#[45,50]⟩ ⟨#[48]⟩) (xU ⟨#[49,48]⟩ ⟨#[45,50]⟩ ⟨#[48]⟩) nD (by kernel_rfl) (by kernel_rfl) 100 ?_;cbv;refine fA hc (iF ⟨#[49,48]⟩ ⟨#[50]⟩ ⟨#[48]⟩) (xU ⟨#[49,48]⟩ ⟨#[50]⟩ ⟨#[48]⟩) nD (by kernel_rfl) (by kernel_rfl) 100 ?_;cbv;refine fA hc (iF ⟨#[48]⟩ ⟨#[50]⟩ ⟨#[48]⟩) (xU ⟨#[48]⟩ ⟨#[50]⟩ ⟨#[48]⟩) nD (by kernel_rfl) (by kernel_rfl) 100 ?_;cbv;refine fA hc (iF ⟨#[48]⟩ ⟨#[45,50]⟩ ⟨#[51]⟩) (xU ⟨#[48]⟩ ⟨#[45,50]⟩ ⟨#[51]⟩) nD (by kernel_rfl) (by kernel_rfl) 100 ?_;cbv;refine fA hc (iF ⟨#[49,48]⟩ ⟨#[45,50]⟩ ⟨#[51]⟩) (xU ⟨#[49,48]⟩ ⟨#[45,50]⟩ ⟨#[51]⟩) nD (by kernel_rfl) (by kernel_rfl) 100 ?_;cbv;refine fA hc (iF ⟨#[49,48]⟩ ⟨#[50]⟩ ⟨#[51]⟩) (xU ⟨#[49,48]⟩ ⟨#[50]⟩ ⟨#[51]⟩) nD (by kernel_rfl) (by kernel_rfl) 100 ?_;cbv;refine fA hc (iF ⟨#[48]⟩ ⟨#[50]⟩ ⟨#[51]⟩) (xU ⟨#[48]⟩ ⟨#[50]⟩ ⟨#[51]⟩) nD (by kernel_rfl) (by kernel_rfl) 100 ?_;cbv;obtain⟨E,hE⟩:∃E:Option Addr→Nat→Nat→List Value→OF,∀a n cap l,E a n cap l=OF.rv (.slice a n cap) c.B.heap.size 38 9 n l:=⟨_,fun _ _ _ _=>rfl⟩;refine aQ6 8 8 (n:=12) (sz:=9) hE (K':=K) (l:=[]) rfl rfl rfl rfl rfl (by decide) rfl trivial rfl (by subst hK;trivial) trivial (fun b0=>?_);cbv;refine eI (sz:=9) (hE _ _ _ _) rfl rfl (pre:=[]) rfl ?_;cbv;refine aS hc hR rfl (fun X μ a w v' Hs hv'=>?_);have:=Hs.toP.cst (.head _)
 simp only[aD]at hv';injection hv' with hv'
 rw[hRR,←hv'];exact this
def at0:At:=⟨0,0⟩
def pl0:Pl:=at0.water 1
def aM8:Raw:=⟨gJ mC,12,⟨#[48]⟩,⟨#[48]⟩,⟨#[49]⟩⟩
theorem oV:∀t,t∈mC→t.le (2^9):=by
 unfold Tri.le V3.le;decide+kernel
theorem aEx:pl0.fit (2^9):=⟨fun h=>by have:=congrArg V3.z h;revert this;decide+kernel,by unfold V3.le;decide+kernel,by decide+kernel⟩
theorem aN1 (l:List Tri):oT (gJ l)=false:=by
 unfold oT;rw[Bool.not_eq_false',List.all_eq_true];intro a ha;obtain⟨t,_,h⟩:=List.mem_flatMap.1 ha;unfold aRt at h;simp only[List.mem_cons,List.not_mem_nil,or_false]at h
 rcases h with h | h | h | h | h | h | h | h | h<;>rw[h]<;>exact yO _
theorem aYe {l:List Tri}{k:Nat}(hk:2*k+2≤2^31)(hl:∀t,t∈l→t.le k):∀a,a∈gJ l→a.size≤2^31:=by
 intro a ha;obtain⟨t,ht,h⟩:=List.mem_flatMap.1 ha;have:=hl t ht
 obtain⟨⟨a1,a2,a3⟩,⟨b1,b2,b3⟩,c1,c2,c3⟩:=this;unfold aRt at h;simp only[List.mem_cons,List.not_mem_nil,or_false]at h
 rcases h with h | h | h | h | h | h | h | h | h<;>rw[h]<;>exact lTr (bN _) (by omega)
theorem aPo:aM8.good mC pl0:=by
 refine⟨rfl,aN1 _,aYe (k:=2^9) (by decide) oV,rfl,fun t ht=>⟨(oV t ht).1.mono (by decide),(oV t ht).2.1.mono (by decide),(oV t ht).2.2.mono (by decide)⟩,?_,by decide+kernel⟩;have k:=aRp (a:=at0) (d:=1) ⟨by decide+kernel,by decide+kernel⟩ (by decide+kernel)
 rw[if_pos (show at0.ok=true by decide+kernel)]at k;unfold atV at k;rw[show aA at0.h=⟨#[48]⟩ from eX,show aA at0.t=⟨#[48]⟩ from eX,pY]at k;exact k
theorem bDe:aA (bD pl0 mC).v=⟨#[52,48]⟩:=by decide+kernel
theorem bBb:fL ((bD pl0 mC).f.scale (1/(bD pl0 mC).v))=.agg #[.string ⟨#[53]⟩,.string ⟨#[48]⟩,.string ⟨#[49,47,50]⟩]:=by
 unfold fL kO;rw[show aA ((bD pl0 mC).f.scale (1/(bD pl0 mC).v)).x=⟨#[53]⟩ by decide+kernel,show aA ((bD pl0 mC).f.scale (1/(bD pl0 mC).v)).y=⟨#[48]⟩ by decide+kernel,show aA ((bD pl0 mC).f.scale (1/(bD pl0 mC).v)).z=⟨#[49,47,50]⟩ by decide+kernel]
theorem wp0:wpV (wpS at0.ahead at0.side (eC pl0 mC))=.agg #[.string ⟨#[52,48]⟩,.string ⟨#[50,48,48]⟩,.string ⟨#[48]⟩,.string ⟨#[52,48,48,48,47,51]⟩,.string ⟨#[49,54,48,47,51]⟩,.string ⟨#[48]⟩]:=by
 unfold wpV;rw[show aA (wpS at0.ahead at0.side (eC pl0 mC)).a=⟨#[52,48]⟩ by decide+kernel,show aA (wpS at0.ahead at0.side (eC pl0 mC)).x=⟨#[50,48,48]⟩ by decide+kernel,show aA (wpS at0.ahead at0.side (eC pl0 mC)).y=⟨#[48]⟩ by decide+kernel,show aA (wpS at0.ahead at0.side (eC pl0 mC)).xx=⟨#[52,48,48,48,47,51]⟩ by decide+kernel,show aA (wpS at0.ahead at0.side (eC pl0 mC)).yy=⟨#[49,54,48,47,51]⟩ by decide+kernel,show aA (wpS at0.ahead at0.side (eC pl0 mC)).xy=⟨#[48]⟩ by decide+kernel]
theorem aXk {X:Nat→Prop}{w:World}(hX:∀b,X b→b<w.heap.size):Fn PP 11 [] X w (dI (.bool true)):=by
 have hL:aM8.L.length=9*aM8.N:=by show(gJ mC).length=9*12;rw[eQ];rfl
 obtain⟨RS,hRS⟩:=nm (rowS 12 (gJ mC));have kb:∀{X:Nat→Prop} {w:World},(∀b,X b→b<w.heap.size)→Fn PP 44 [.string ⟨#[48]⟩,.string ⟨#[50]⟩,.string ⟨#[49,48]⟩,.string ⟨#[51]⟩] X w RS:=fun hX=>by rw[hRS];exact bC2 hX
 have kc:∀{X:Nat→Prop} {w:World} {v:Value},RS.p v X w→Fn PP 14 [v] X w RS:=fun {X} {w} {v} hv=>by
  rw[hRS]at hv ⊢;exact aQ2 (by rw[eQ];rfl) (by decide) hv
 have kv:∀{X:Nat→Prop} {w:World} {v:Value},(∀b,X b→b<w.heap.size)→RS.p v X w→Fn PP 19 [v,.agg #[.string ⟨#[48]⟩,.string ⟨#[48]⟩],.string ⟨#[49]⟩] X w (dI (.tuple #[.string ⟨#[52,48]⟩,.int .i64 0])):=fun {X} {w} {v} hX hv=>by
  rw[hRS]at hv;have:=aAh (r:=aM8) aPo aEx oV (by decide) hL hX hv
  rw[bDe]at this;exact this
 have ke:∀{X:Nat→Prop} {w:World} {v:Value},(∀b,X b→b<w.heap.size)→RS.p v X w→Fn PP 26 [v,.agg #[.string ⟨#[48]⟩,.string ⟨#[48]⟩],.string ⟨#[49]⟩] X w (dI (.tuple #[.agg #[.string ⟨#[53]⟩,.string ⟨#[48]⟩,.string ⟨#[49,47,50]⟩],.int .i64 0])):=fun {X} {w} {v} hX hv=>by
  rw[hRS]at hv;have:=aIp (r:=aM8) aPo aEx oV (by decide) hL (by unfold Ms.le V3.le;decide+kernel) (by decide+kernel) hX hv
  rw[bBb]at this;exact this
 have kp:∀{X:Nat→Prop} {w:World} {v:Value},(∀b,X b→b<w.heap.size)→RS.p v X w→Fn PP 13 [v,.agg #[.string ⟨#[48]⟩,.string ⟨#[48]⟩],.string ⟨#[49]⟩] X w (dI (.tuple #[.agg #[.string ⟨#[52,48]⟩,.string ⟨#[50,48,48]⟩,.string ⟨#[48]⟩,.string ⟨#[52,48,48,48,47,51]⟩,.string ⟨#[49,54,48,47,51]⟩,.string ⟨#[48]⟩],.int .i64 0])):=fun {X} {w} {v} hX hv=>by
  rw[hRS]at hv;have:=aAi (r:=aM8) (a:=at0) aPo aEx oV (by decide) hL ⟨by decide+kernel,by decide+kernel⟩ (by decide+kernel) (by unfold Raw.attV atV;rw[show aA at0.h=⟨#[48]⟩ from eX,show aA at0.t=⟨#[48]⟩ from eX];rfl) (by decide+kernel) hX hv
  rw[wp0]at this;exact this
 obtain⟨R,hRR⟩:=nm (dI (.bool true));rw[←hRR];obtain⟨K,hK⟩:∃K:List KF,K=[]:=⟨_,rfl⟩;refine bE mixed tok [] (K:=K) Tryz.func11 rfl rfl (lbl rfl) rfl hX (by rw[hK];simp) fun c hc hR=>?_
 refine zN hc ?_;cbv;refine dZ hc (R:=RS) aVv (fun n0 D X μ a w aK H hv=>?_) 100 ?_
 ·rw[←(Option.some.inj hv)];exact kb H.xlt
 cbv;refine fZ hc (R:=RS) gN (fun D X μ a w aK H hv=>?_) 100 ?_
 ·obtain⟨u,rfl,e⟩:=aV hv;exact kc (H.val (R:=RS) (by repeat (first | exact .head _ | apply List.Mem.tail)) e)
 cbv;refine jR hc (.t [.s (.v ⟨#[52,48]⟩),.i .i64 (.l 0)]) nW (fun D X μ a w aK H hv=>?_) rfl 100 ?_
 ·obtain⟨u1,u2,u3,rfl,e1,e2,e3⟩:=dV hv;rw[show u2=_ from(Option.some.inj e2).symm,show u3=_ from(Option.some.inj e3).symm];exact kv H.xlt (H.val (R:=RS) (by repeat (first | exact .head _ | apply List.Mem.tail)) e1)
 cbv;refine bX hc _ rfl rfl rfl rfl rfl 0 ?_;cbv;refine bX hc _ rfl rfl rfl rfl rfl 0 ?_;cbv;refine zE hc ?_;cbv;refine fZ hc (R:=RS) gN (fun D X μ a w aK H hv=>?_) 100 ?_
 ·obtain⟨u,rfl,e⟩:=aV hv;exact kc (H.val (R:=RS) (by repeat (first | exact .head _ | apply List.Mem.tail)) e)
 cbv;refine jR hc (.t [iF ⟨#[53]⟩ ⟨#[48]⟩ ⟨#[49,47,50]⟩,.i .i64 (.l 0)]) aL2 (fun D X μ a w aK H hv=>?_) rfl 3 ?_
 ·obtain⟨u1,u2,u3,rfl,e1,e2,e3⟩:=dV hv;rw[show u2=_ from(Option.some.inj e2).symm,show u3=_ from(Option.some.inj e3).symm];exact ke H.xlt (H.val (R:=RS) (by repeat (first | exact .head _ | apply List.Mem.tail)) e1)
 cbv;refine hJ hc _ rfl rfl rfl rfl ?_;cbv;refine aLm hc 9 (by kernel_rfl) (by decide) (by decide) rfl 100 ?_;cbv;refine fZ hc (R:=RS) gN (fun D X μ a w aK H hv=>?_) 100 ?_
 ·obtain⟨u,rfl,e⟩:=aV hv;exact kc (H.val (R:=RS) (by repeat (first | exact .head _ | apply List.Mem.tail)) e)
 cbv;refine jR hc (.t [.g [.s (.v ⟨#[52,48]⟩),.s (.v ⟨#[50,48,48]⟩),.s (.v ⟨#[48]⟩),.s (.v ⟨#[52,48,48,48,47,51]⟩),.s (.v ⟨#[49,54,48,47,51]⟩),.s (.v ⟨#[48]⟩)],.i .i64 (.l 0)]) aBo (fun D X μ a w aK H hv=>?_) rfl 3 ?_
 ·obtain⟨u1,u2,u3,rfl,e1,e2,e3⟩:=dV hv;rw[show u2=_ from(Option.some.inj e2).symm,show u3=_ from(Option.some.inj e3).symm];exact kp H.xlt (H.val (R:=RS) (by repeat (first | exact .head _ | apply List.Mem.tail)) e1)
 cbv;refine hJ hc _ rfl rfl rfl rfl ?_;cbv;refine aLm hc 9 (by kernel_rfl) (by decide) (by decide) rfl 100 ?_;cbv;refine bU hc 34 rfl rfl 100 (fun h=>?_) (fun h=>absurd h (by decide+kernel));cbv;refine bU hc 39 rfl rfl 100 (fun h=>?_) (fun h=>absurd h (by decide+kernel));cbv;refine bU hc 44 rfl rfl 100 (fun h=>?_) (fun h=>absurd h (by decide+kernel));cbv;refine aS hc hR rfl (fun X μ a w v' H hv'=>?_);rw[hRR];simp only[aD]at hv';injection hv' with hv'
 rw[←hv'];show Value.bool _=Value.bool true
 first | rfl | exact congrArg Value.bool (by decide+kernel)
theorem fS:aB PP 45:=zK
theorem lR:aB PP 96:=zK
theorem aCb:aB PP 47:=zK
theorem aCc:aB PP 46:=zK
theorem aOf:aB PP 12:=zK
def sh (s:ByteArray):Bool:=decide ((s.size:Int)≤40)
theorem tG (s:ByteArray):Pure PP 45 [.string s] (.bool (sh s)):=by
 unfold sh;refine aH mixed tok [.s (.v s)] Tryz.func45 rfl rfl (lbl rfl) rfl fun c hc hR=>?_
 refine zN hc ?_;cbv;exact aF hc hR rfl rfl
theorem aK0 (h t:ByteArray):Pure PP 47 [.agg #[.string h,.string t]] (.bool (sh h&&sh t)):=by
 have k1:=tG h
 have k2:=tG t
 generalize sh h=b1 at *;generalize sh t=b2 at *;refine aH mixed tok [.g [.s (.v h),.s (.v t)]] Tryz.func47 rfl rfl (lbl rfl) rfl fun c hc hR=>?_
 refine zN hc ?_;cbv;cases b1
 ·refine zC hc (.b (.l false)) k1 fS ?_;cbv;exact aF hc hR rfl rfl
 ·refine zC hc (.b (.l true)) k1 fS ?_;cbv;cases b2
  ·refine zC hc (.b (.l false)) k2 fS ?_;cbv;exact aF hc hR rfl rfl
  ·refine zC hc (.b (.l true)) k2 fS ?_;cbv;exact aF hc hR rfl rfl
theorem aEk (a b d:ByteArray):Pure PP 96 [kO a b d] (.bool (sh a&&sh b&&sh d)):=by
 have k1:=tG a
 have k2:=tG b
 have k3:=tG d
 unfold kO;generalize sh a=b1 at *;generalize sh b=b2 at *;generalize sh d=b3 at *;refine aH mixed tok [iF a b d] Tryz.func96 rfl rfl (lbl rfl) rfl fun c hc hR=>?_
 refine zN hc ?_;cbv;cases b1
 ·refine zC hc (.b (.l false)) k1 fS ?_;cbv;exact aF hc hR rfl rfl
 ·refine zC hc (.b (.l true)) k1 fS ?_;cbv;cases b2
  ·refine zC hc (.b (.l false)) k2 fS ?_;cbv;exact aF hc hR rfl rfl
  ·refine zC hc (.b (.l true)) k2 fS ?_;cbv;cases b3
   ·refine zC hc (.b (.l false)) k3 fS ?_;cbv;exact aF hc hR rfl rfl
   ·refine zC hc (.b (.l true)) k3 fS ?_;cbv;exact aF hc hR rfl rfl
def aJq (L:List ByteArray)(x:Nat):Prop:=∀i a,i<x*9→L[i]?=some a→sh a=true
def shS (L:List ByteArray)(n:Nat):Bool:=decide (n=513)||(L.all sh&&decide (n≤24))
theorem aJr {L:List ByteArray}{N:Nat}(hL:L.length=9*N)(h:aJq L N):L.all sh=true:=by
 rw[List.all_eq_true];intro a ha;obtain⟨i,hi⟩:=List.getElem?_of_mem ha;exact h i a (by have:=(List.getElem?_eq_some_iff.1 hi).1;omega) hi
theorem gZ {L:List ByteArray}{i n:Nat}{a:ByteArray}(hn:n≠513)(h:L[i]?=some a)(hb:sh a=false):shS L n=false:=by
 unfold shS;have:L.all sh=false:=by
  rw[←Bool.not_eq_true,List.all_eq_true];intro h2;have:=h2 a (List.mem_of_getElem? h)
  rw[hb]at this;cases this
 rw[this];simp[hn]
theorem aTh {L:List ByteArray}{N:Nat}(hL:L.length=9*N)(hN:N≤2^62){X:Nat→Prop}{w:World}{v:Value}(hX:∀b,X b→b<w.heap.size)(hv:(rowS N L).p v X w):
  Fn PP 46 [v] X w (dI (.bool (shS L N))):=by
 obtain⟨R,hRR⟩:=nm (dI (.bool (shS L N)));obtain⟨Q,hQ⟩:=nm (9*N);obtain⟨K,hK⟩:=nm ([KF.cst v (rowS N L)]);rw[←hRR];have fin:∀k:Bool,shS L N=k→∀{v':Value} {X:Nat→Prop} {w:World} {μ:Mu} {e:BE},e.den=k→aD μ (.b e)=some v'→R.p v' X w:=fun k hk v' X w μ e he hv'=>by
  rw[hRR,hk];simp only[aD,he]at hv';injection hv' with hv'
  exact hv'.symm
 have f513:decide ((N:Int)=513)=true→shS L N=true:=fun h=>by
  have:N=513:=by have:=of_decide_eq_true h;omega
  unfold shS;rw[this];rfl
 have n513:decide ((N:Int)=513)=false→N≠513:=fun h=>by have:=of_decide_eq_false h;omega
 have fend:N≠513→L.all sh=true→shS L N=decide ((N:Int)≤24):=fun h1 h2=>by
  unfold shS;rw[h2];simp only[h1,decide_false,Bool.true_and,Bool.false_or];exact decide_eq_decide.2 (by omega)
 have o3g:∀x:Nat,x<N→(Obl.inR .i64 (.add (.n x) (.l 1))).ok:=fun x hx=>by show lo _≤_∧_≤hi _;simp only[lo,hi,IE.den];omega
 refine bE mixed tok [.q v] (K:=K) Tryz.func46 rfl rfl (lbl rfl) rfl hX (by rw[hK];simp;exact hv) fun c hc hR=>?_
 refine gV 0 N Q L (by rw[hL,hQ]) rfl rfl (fun X μ a w v' H hv'=>cA H (by rw[hK];exact .head _) hv') (fun f cap hf dH=>?_);refine zN hc ?_;cbv;refine aE hc rfl 100 (fun h=>?_) (fun h=>?_)
 ·have h:=f513 h
  cbv;exact aS hc hR rfl (fun X μ a w v' H hv'=>fin true h (μ:=μ) rfl hv')
 have hn:=n513 h
 cbv;let ι:={x:Nat//x≤N∧aJq L x}
 let I:ι→St:=fun x=>⟨[(0,.sl 0 0 (.n N) cap),(8,.sl 0 0 (.n N) cap),(9,.i .i64 (.n N)),(10,.i .i64 (.n x.1))],[.xs Q f],[]⟩
 let x0:ι:=⟨0,Nat.zero_le _,fun i a hi=>by omega⟩
 refine zU 1 (S':=I x0) (K':=K) ⟨zS rfl rfl,zS rfl rfl,zS rfl rfl,zS rfl rfl,trivial⟩ (by subst hK;exact⟨⟨.head _,KFr.cst _ _ _⟩,trivial⟩) trivial ?_;refine bQ hc I (fun x=>N - x.1) x0 100 ?_;rintro p ⟨x,hx,hsh⟩ hy;cbv;refine aE hc rfl 9 (fun h=>?_) (fun h=>?_)
 ·have hxN:x<N:=BE.ltn_t h
  obtain⟨a1,a2,a3,b1,b2,b3,d1,d2,d3,e0,e1,e2,e3,e4,e5,e6,e7,e8⟩:=nine hL hxN;have r9:=re9 (hf _ _ e0) (hf _ _ e1) (hf _ _ e2) (hf _ _ e3) (hf _ _ e4) (hf _ _ e5) (hf _ _ e6) (hf _ _ e7) (hf _ _ e8)
  have k1:=aEk a1 a2 a3
  have k2:=aEk b1 b2 b3
  have k3:=aEk d1 d2 d3
  unfold kO at k1 k2 k3;have o1:(Obl.ltE (.n x) (.n N)).ok:=by show _∧_;simp only[IE.den];omega
  have o2:(Obl.ix 0 (.n x) 9 0 9 Q).ok:=by show aX 0 (x:Int) 9 0+9≤Q;simp only[aX,Int.toNat_natCast];omega
  have o3:=o3g x hxN
  obtain⟨x',hx'⟩:=nm (x+1);have hi1:((IE.n x).add (IE.l 1)).den=(IE.n x').den:=by simp only[IE.den,hx'];omega
  have bad1:(sh a1&&sh a2&&sh a3)=false→shS L N=false:=fun hb=>by
   simp only[Bool.and_eq_false_iff]at hb
   rcases hb with((h | h) | h)
   ·exact gZ hn e0 h
   ·exact gZ hn e1 h
   ·exact gZ hn e2 h
  have bad2:(sh b1&&sh b2&&sh b3)=false→shS L N=false:=fun hb=>by
   simp only[Bool.and_eq_false_iff]at hb
   rcases hb with((h | h) | h)
   ·exact gZ hn e3 h
   ·exact gZ hn e4 h
   ·exact gZ hn e5 h
  have bad3:(sh d1&&sh d2&&sh d3)=false→shS L N=false:=fun hb=>by
   simp only[Bool.and_eq_false_iff]at hb
   rcases hb with((h | h) | h)
   ·exact gZ hn e6 h
   ·exact gZ hn e7 h
   ·exact gZ hn e8 h
  have sP:(sh a1&&sh a2&&sh a3)=true→(sh b1&&sh b2&&sh b3)=true→(sh d1&&sh d2&&sh d3)=true→aJq L x':=fun g1 g2 g3=>by
   simp only[Bool.and_eq_true]at g1 g2 g3;obtain⟨⟨h0,h1⟩,h2⟩:=g1;obtain⟨⟨h3,h4⟩,h5⟩:=g2;obtain⟨⟨h6,h7⟩,h8⟩:=g3;intro i a hi ha
   by_cases hix:i<x*9
   ·exact hsh i a hix ha
   ·have aPt:i=x*9+0∨i=x*9+1∨i=x*9+2∨i=x*9+3∨i=x*9+4∨i=x*9+5∨i=x*9+6∨i=x*9+7∨i=x*9+8:=by omega
    rcases aPt with h | h | h | h | h | h | h | h | h<;>subst h
    ·rw[e0]at ha;injection ha with ha;subst ha;exact h0
    ·rw[e1]at ha;injection ha with ha;subst ha;exact h1
    ·rw[e2]at ha;injection ha with ha;subst ha;exact h2
    ·rw[e3]at ha;injection ha with ha;subst ha;exact h3
    ·rw[e4]at ha;injection ha with ha;subst ha;exact h4
    ·rw[e5]at ha;injection ha with ha;subst ha;exact h5
    ·rw[e6]at ha;injection ha with ha;subst ha;exact h6
    ·rw[e7]at ha;injection ha with ha;subst ha;exact h7
    ·rw[e8]at ha;injection ha with ha;subst ha;exact h8
  clear e0 e1 e2 e3 e4 e5 e6 e7 e8;generalize (sh a1&&sh a2&&sh a3)=g1 at *;generalize (sh b1&&sh b2&&sh b3)=g2 at *;generalize (sh d1&&sh d2&&sh d3)=g3 at *;cbv;refine aQ hc ⟨o1,o2,trivial⟩ ?_;refine gU 1 [.s (.v a1),.s (.v a2),.s (.v a3),.s (.v b1),.s (.v b2),.s (.v b3),.s (.v d1),.s (.v d2),.s (.v d3)] rfl rfl r9 ?_;refine zN hc ?_;cbv;cases g1
  ·have h:=bad1 rfl
   refine zC hc (.b (.l false)) k1 lR ?_;cbv;exact aS hc hR rfl (fun X μ a w v' H hv'=>fin false h (μ:=μ) rfl hv')
  refine zC hc (.b (.l true)) k1 lR ?_;cbv;cases g2
  ·have h:=bad2 rfl
   refine zC hc (.b (.l false)) k2 lR ?_;cbv;exact aS hc hR rfl (fun X μ a w v' H hv'=>fin false h (μ:=μ) rfl hv')
  refine zC hc (.b (.l true)) k2 lR ?_;cbv;cases g3
  ·have h:=bad3 rfl
   refine zC hc (.b (.l false)) k3 lR ?_;cbv;exact aS hc hR rfl (fun X μ a w v' H hv'=>fin false h (μ:=μ) rfl hv')
  have sP:=sP rfl rfl rfl
  have hyx:=hy ⟨x',by omega,sP⟩ (by show N - x'<N - x;omega)
  clear hy;refine zC hc (.b (.l true)) k3 lR ?_;cbv;refine aQ hc ⟨o3,trivial⟩ ?_;exact zU 1 (S':=I ⟨x',by omega,sP⟩) (K':=K) ⟨zS rfl rfl,zS rfl rfl,zS rfl rfl,zI rfl rfl hi1,trivial⟩ (by subst hK;exact⟨⟨.head _,KFr.cst _ _ _⟩,trivial⟩) trivial hyx
 ·have hxN:x=N:=by have:=BE.ltn_f h;omega
  have kV:=fend hn (aJr hL (hxN▸hsh))
  clear hy;cbv;refine zN hc ?_;cbv;refine aS hc hR rfl (fun X μ a w v' H hv'=>?_);exact fin _ kV (μ:=μ) rfl hv'
end Go.Ai
