/- Part 29 of the proof: garboardlaw17.FloatMirrors returns true, where what it reads is of bulk at most 1048576. -/
import Derived.Test.YtmnancfboococaaGreatDoorRows
import Derived.Test.YtmnancfboococaaGreatDoorTie
import Derived.Test.YtmnancfboococaaGreatDoorCards
import Derived.ProofKit
import Derived.LaidMore
import Derived.OpenShut
import Derived.Handed
import Derived.Deep.Strs
import Derived.Stop.Joined
import Derived.Shelf.Vars
import Derived.Lib.LaidTab
import Derived.JoinedCond
import Derived.Deep.DeepHandedRow
import Derived.Deep.DeepWitnessRowRef
import Derived.Stop.LaidErr
import Derived.Test.YtmnancfboococaaGreatDoorPm26
import Derived.Test.YtmnancfboococaaGreatDoorPm27
set_option linter.all false
namespace Go.Ai
open Go Go.Proofs Go.Num V3
def aU9 (b:Bool)(R:VF):VF where
 p v X w:=∃s,v=.tuple #[s,.bool b]∧R.p s X w
 st v X X' w w' hs hw h:=by
  obtain⟨s,h1,h2⟩:=h;exact⟨s,h1,R.st s X X' w w' hs hw h2⟩
section
variable {c:Cx}{K:List KF}{S:St}
theorem bC0 {ks:List KI}(d k:Nat){b:Bool}{R R':VF}(hp:iO ks=true)(hl:look S.sl d=some (.e k))(hf:KF.at k R∈K)(hR:R=aU9 b R')
  (h:∀s,Goal c (KF.cst s R'::K) ⟨ks,{S with sl:=(d,.t [.q s,.b (.l b)])::S.sl},[]⟩):Goal c K ⟨ks,S,[]⟩:=by
 refine gO (ι:=Value) (K':=fun z=>KF.cst z R'::K) (S':=fun z=>{S with sl:=(d,.t [.q z,.b (.l b)])::S.sl}) (p:=fun _=>True) hp (fun X μ a w H=>?_) (fun z _=>h z);obtain⟨v,h1,h2⟩:=H.toP.slots d _ trivial hl;have h3:=H.toP.val hf h1
 rw[hR]at h3;obtain⟨s,rfl,h4⟩:=h3;exact⟨s,X,μ,trivial,pZ (S:={S with sl:=(d,.t [.q s,.b (.l b)])::S.sl}) (f:=KF.cst s R') (iC H hl (by rw[h1];rfl)) h4⟩
end
theorem aGf:aB PP 34:=zK
structure MirI where
 x:Nat
 a:Option Addr
 c:Nat
set_option maxHeartbeats 0 in
theorem aN7 {L:List ByteArray}{N:Nat}(hL:L.length=9*N)(hs:∀a,a∈L→a.size≤2^30)(hN:N≤2^62){X:Nat→Prop}{w:World}{v:Value}(hX:∀b,X b→b<w.heap.size)(hv:(rowS N L).p v X w):
  Fn PP 34 [v] X w (aU9 (decide (N≤24)&&okY L) (if(decide (N≤24)&&okY L)=true then rowS N (pP L)else dJ (.slice none 0 0))):=by
 obtain⟨R,hRR⟩:=nm (aU9 (decide (N≤24)&&okY L) (if(decide (N≤24)&&okY L)=true then rowS N (pP L)else dJ (.slice none 0 0)));obtain⟨Q,hQ⟩:=nm (9*N);obtain⟨K,hK⟩:=nm ([KF.cst v (rowS N L)]);rw[←hRR];have fno:¬(N≤24∧okY L=true)→∀{v':Value} {X:Nat→Prop} {w:World},v'=(.tuple #[.slice none 0 0,.bool false])→R.p v' X w:=fun h v' X w e=>by
  have hb:(decide (N≤24)&&okY L)=false:=by
   rw[←Bool.not_eq_true,Bool.and_eq_true,decide_eq_true_eq];exact h
  rw[hRR,hb,if_neg (by decide)];exact⟨_,e,rfl⟩
 have nilF:∀{v':Value} {μ:Mu},aC μ (.t [.xs none 0 0,.b (.l false)])=some v'→v'=.tuple #[.slice none 0 0,.bool false]:=fun hv'=>by
  obtain⟨vs,q1,rfl⟩:=mH hv';obtain⟨u1,u2,rfl,e1,e2⟩:=bX q1;rw[fU e2,show u1=_ from(Option.some.inj e1).symm]
  rfl
 have kr:∀a,a∈L→(∃b R1 R2,yY PP 29 [.one (.s (.v a))] (.tp [.agg [.b (.l b),.x R1,.x R2],.one (.b (.l false))])∧iK a=false)∨
   ∃b R1 R2 b' R3 R4,yY PP 29 [.one (.s (.v a))] (.tp [.agg [.b (.l b),.x R1,.x R2],.one (.b (.l true))])∧yY PP 37 [.agg [.b (.l b),.x R1,.x R2]] (.sg (.agg [.b (.l b'),.x R3,.x R4]))∧
    yY PP 36 [.agg [.b (.l b'),.x R3,.x R4]] (.sg (.one (.s (.v (yW a)))))∧iK a=true:=fun a ha=>by
  have hsa:=hs a ha
  cases hq:nU a.data.toList with
  | none=>exact .inl ⟨_,_,_,aOm (by omega) hq,by unfold iK;rw[hq];rfl⟩
  | some q=>
   have e:=mT hq
   have h1:sz q≤2^30:=by rw[e]at hsa;exact lTr (fE q) hsa
   subst e;refine .inr ⟨_,_,_,_,_,_,aWt (by omega),bCu q,?_,sI q⟩;rw[aHz];have z1:dl (-q).num.natAbs≤2^30:=lTr (Nat.le_max_left _ _) (by rw[←fD]at h1;exact h1)
   have z2:dl (-q).den≤2^30:=lTr (Nat.le_max_right _ _) (by rw[←fD]at h1;exact h1)
   have y1:=iF (-q).num.natAbs
   have y2:=iF (-q).den
   exact qTo (by omega) (by omega) (by rw[fD];omega)
 refine bE mixed tok [.q v] (K:=K) Tryz.func34 rfl rfl (lbl rfl) rfl hX (by rw[hK];simp;exact hv) fun c hc hR=>?_
 refine iB 0 N Q L (by rw[hL,hQ]) rfl rfl (fun X μ a w v' H hv'=>cE H (by rw[hK];exact .head _) hv') (fun f cap hf dI=>?_);refine zN hc ?_;cbv;refine aE hc rfl 100 (fun h=>?_) (fun h=>?_)
 ·have h24:24<N:=Int.ofNat_lt.1 (BE.lt_t h)
  cbv;exact aS hc hR rfl (fun X μ a w v' H hv'=>fno (fun e=>Nat.not_lt.2 e.1 h24) (nilF hv'))
 have aYi:N≤24:=Int.ofNat_le.1 (Int.not_lt.1 (BE.lt_f h))
 cbv;obtain⟨W,hW⟩:∃W:Nat→List Value,∀x,W x=(pP (L.take (9*x))).map Value.string:=⟨_,fun _=>rfl⟩;have hW0:([]:List Value)=W 0:=by rw[hW];rfl
 obtain⟨G,hG⟩:∃G:Option Addr→Nat→Nat→List Value→OF,∀a n cap l,G a n cap l=OF.rv (.slice a n cap) c.B.heap.size 38 9 n l:=⟨_,fun _ _ _ _=>rfl⟩;refine eQ hG rfl ?_;cbv;let ι:={s:MirI//s.x≤N∧okY (L.take (9*s.x))=true}
 let I:ι→St:=fun s=>⟨[(4,.xs s.1.a s.1.x s.1.c),(13,.sl 0 0 (.n N) cap),(14,.i .i64 (.n N)),(15,.i .i64 (.n s.1.x))],[.xs Q f],[G s.1.a s.1.x s.1.c (W s.1.x)]⟩
 let x0:ι:=⟨⟨0,none,0⟩,Nat.zero_le _,rfl⟩
 refine eG 1 (S':=I x0) (K':=K) rfl rfl (lRf 1) rfl (by show _=_;simp only[I,x0];rw[←hW0]) ⟨zS rfl rfl,zS rfl rfl,zS rfl rfl,zS rfl rfl,trivial⟩ (by subst hK;exact⟨⟨.head _,KFr.cst _ _ _⟩,trivial⟩) ⟨by rw[hG];exact OFr.rv _ _ _ _ _ _ _,trivial⟩ ?_;refine bP hc I (fun s=>N - s.1.x) x0 100 ?_;rintro pp ⟨⟨x,a,cc⟩,hx,hok⟩ hy
 dsimp only at hx hok
 cbv
 dsimp only
 refine aE hc rfl 9 (fun h=>?_) (fun h=>?_)
 ·have hxN:x<N:=BE.ltn_t h
  obtain⟨a1,a2,a3,b1,b2,b3,d1,d2,d3,M,hD,_⟩:=sG (n:=N - x - 1) (L:=L.drop (9*x)) (by rw[List.length_drop];omega);have la:∀i u,(a1::a2::a3::b1::b2::b3::d1::d2::d3::M)[i]?=some u→L[x*9+i]?=some u:=fun i u h=>by
   rw[show x*9+i=9*x+i by omega,←List.getElem?_drop,hD];exact h
  have l0:=la 0 _ rfl
  have l1:=la 1 _ rfl
  have l2:=la 2 _ rfl
  have l3:=la 3 _ rfl
  have l4:=la 4 _ rfl
  have l5:=la 5 _ rfl
  have l6:=la 6 _ rfl
  have l7:=la 7 _ rfl
  have l8:=la 8 _ rfl
  clear la;have hlt:(L.take (9*x)).length=9*x:=by rw[List.length_take];omega
  have htk:L.take (9*(x+1))=L.take (9*x)++[a1,a2,a3,b1,b2,b3,d1,d2,d3]:=by
   rw[show 9*(x+1)=9*x+9 by omega,List.take_add,hD];rfl
  have r9:=re9 (hf _ _ l0) (hf _ _ l1) (hf _ _ l2) (hf _ _ l3) (hf _ _ l4) (hf _ _ l5) (hf _ _ l6) (hf _ _ l7) (hf _ _ l8)
  have o1:(Obl.ltE (.n x) (.n N)).ok:=by show _∧_;simp only[IE.den];omega
  have o2:(Obl.ix 0 (.n x) 9 0 9 Q).ok:=by show aX 0 (x:Int) 9 0+9≤Q;simp only[aX,Int.toNat_natCast];omega
  have o3:(Obl.inR .i64 (.add (.n x) (.l 1))).ok:=by show lo _≤_∧_≤hi _;simp only[lo,hi,IE.den];omega
  obtain⟨x',hx'⟩:=nm (x+1);have hi1:((IE.n x).add (IE.l 1)).den=(IE.n x').den:=by simp only[IE.den,hx'];omega
  have m0:a2∈L:=List.mem_of_getElem? l1
  have m1:b2∈L:=List.mem_of_getElem? l4
  have m2:d2∈L:=List.mem_of_getElem? l7
  have hsp:okY L=true→iK a2=true∧iK b2=true∧iK d2=true:=fun h=>by
   rw[←List.take_append_drop (9*x) L,aFl x _ _ hlt,hD]at h;simp only[okY,Bool.and_eq_true]at h;exact⟨h.2.1.1.1,h.2.1.1.2,h.2.1.2⟩
  have cW:iK a2=true→iK b2=true→iK d2=true→okY (L.take (9*(x+1)))=true:=fun h1 h2 h3=>by
   rw[htk,aFl x _ _ hlt,hok];simp only[okY,h1,h2,h3];rfl
  obtain⟨na,hna⟩:∃y,y=yW a2:=⟨_,rfl⟩;obtain⟨nb,hnb⟩:∃y,y=yW b2:=⟨_,rfl⟩;obtain⟨nd,hnd⟩:∃y,y=yW d2:=⟨_,rfl⟩;have hWx:W (x+1)=W x++[.string a1,.string na,.string a3,.string d1,.string nd,.string d3,.string b1,.string nb,.string b3]:=by
   rw[hW,hW,htk,aHv x _ _ hlt,List.map_append,hna,hnb,hnd];rfl
  clear hD htk l0 l1 l2 l3 l4 l5 l6 l7 l8;have kr0:=kr a2 m0
  have kr1:=kr b2 m1
  have kr2:=kr d2 m2
  rw[←hna]at kr0;rw[←hnb]at kr1;rw[←hnd]at kr2;have hs0:=fun h=>(hsp h).1
  have hs1:=fun h=>(hsp h).2.1
  have hs2:=fun h=>(hsp h).2.2
  cbv;refine aQ hc ⟨o1,o2,trivial⟩ ?_;refine gM 1 [.s (.v a1),.s (.v a2),.s (.v a3),.s (.v b1),.s (.v b2),.s (.v b3),.s (.v d1),.s (.v d2),.s (.v d3)] rfl rfl r9 ?_;refine zN hc ?_;cbv;refine aW 4 (fun rr hrr=>?_);refine hrr _ _ _ ?_;refine zN hc ?_;cbv
  rcases kr0 with⟨bb,P1,P2,kb,hb⟩ | ⟨bb,P1,P2,bc,P3,P4,kf,kn,kt,hg0⟩
  ·refine dZ hc pC kb ⟨.s rfl,trivial⟩ (.t [.g [.b (.l bb),.ec 2 1,.ec 2 2],.b (.l false)]) rfl 100 (fun FB hFB=>?_);cbv;refine aS hc hR rfl (fun X μ a w v' H hv'=>fno (fun e=>?_) ?_)
   ·rw[hs0 e.2]at hb;cases hb
   ·exact nilF hv'
  refine dZ hc pC kf ⟨.s rfl,trivial⟩ (.t [.g [.b (.l bb),.ec 2 1,.ec 2 2],.b (.l true)]) rfl 100 (fun FB0 bA7=>?_);cbv;refine dZ hc aEt kn ⟨⟨.b rfl,.ec (by repeat (first | exact .head _ | apply List.Mem.tail)) bA7 rfl,.ec (by repeat (first | exact .head _ | apply List.Mem.tail)) bA7 rfl,trivial⟩,trivial⟩ (.g [.b (.l bc),.ec 4 1,.ec 4 2]) rfl 100 (fun FC0 bBa=>?_);cbv;refine dZ hc aLq kt ⟨⟨.b rfl,.ec (by repeat (first | exact .head _ | apply List.Mem.tail)) bBa rfl,.ec (by repeat (first | exact .head _ | apply List.Mem.tail)) bBa rfl,trivial⟩,trivial⟩ (.s (.v na)) rfl 100 (fun FD0 bFu=>?_);cbv;refine hrr _ _ _ ?_;refine zN hc ?_;cbv
  rcases kr1 with⟨bb,P1,P2,kb,hb⟩ | ⟨bb,P1,P2,bc,P3,P4,kf,kn,kt,hg1⟩
  ·refine dZ hc pC kb ⟨.s rfl,trivial⟩ (.t [.g [.b (.l bb),.ec 6 1,.ec 6 2],.b (.l false)]) rfl 100 (fun FB hFB=>?_);cbv;refine aS hc hR rfl (fun X μ a w v' H hv'=>fno (fun e=>?_) ?_)
   ·rw[hs1 e.2]at hb;cases hb
   ·exact nilF hv'
  refine dZ hc pC kf ⟨.s rfl,trivial⟩ (.t [.g [.b (.l bb),.ec 6 1,.ec 6 2],.b (.l true)]) rfl 100 (fun FB1 bA8=>?_);cbv;refine dZ hc aEt kn ⟨⟨.b rfl,.ec (by repeat (first | exact .head _ | apply List.Mem.tail)) bA8 rfl,.ec (by repeat (first | exact .head _ | apply List.Mem.tail)) bA8 rfl,trivial⟩,trivial⟩ (.g [.b (.l bc),.ec 8 1,.ec 8 2]) rfl 100 (fun FC1 bBb=>?_);cbv;refine dZ hc aLq kt ⟨⟨.b rfl,.ec (by repeat (first | exact .head _ | apply List.Mem.tail)) bBb rfl,.ec (by repeat (first | exact .head _ | apply List.Mem.tail)) bBb rfl,trivial⟩,trivial⟩ (.s (.v nb)) rfl 100 (fun FD1 bFv=>?_);cbv;refine hrr _ _ _ ?_;refine zN hc ?_;cbv
  rcases kr2 with⟨bb,P1,P2,kb,hb⟩ | ⟨bb,P1,P2,bc,P3,P4,kf,kn,kt,hg2⟩
  ·refine dZ hc pC kb ⟨.s rfl,trivial⟩ (.t [.g [.b (.l bb),.ec 10 1,.ec 10 2],.b (.l false)]) rfl 100 (fun FB hFB=>?_);cbv;refine aS hc hR rfl (fun X μ a w v' H hv'=>fno (fun e=>?_) ?_)
   ·rw[hs2 e.2]at hb;cases hb
   ·exact nilF hv'
  refine dZ hc pC kf ⟨.s rfl,trivial⟩ (.t [.g [.b (.l bb),.ec 10 1,.ec 10 2],.b (.l true)]) rfl 100 (fun FB2 bA9=>?_);cbv;refine dZ hc aEt kn ⟨⟨.b rfl,.ec (by repeat (first | exact .head _ | apply List.Mem.tail)) bA9 rfl,.ec (by repeat (first | exact .head _ | apply List.Mem.tail)) bA9 rfl,trivial⟩,trivial⟩ (.g [.b (.l bc),.ec 12 1,.ec 12 2]) rfl 100 (fun FC2 bBc=>?_);cbv;refine dZ hc aLq kt ⟨⟨.b rfl,.ec (by repeat (first | exact .head _ | apply List.Mem.tail)) bBc rfl,.ec (by repeat (first | exact .head _ | apply List.Mem.tail)) bBc rfl,trivial⟩,trivial⟩ (.s (.v nd)) rfl 100 (fun FD2 bFw=>?_);cbv;refine hrr _ _ _ ?_;refine zN hc ?_;cbv;refine bN hc _ rfl rfl rfl (pre:=[]) (m:=1) (bytes:=144) (G:=G) hG rfl rfl rfl rfl rfl rfl rfl rfl rfl rfl rfl rfl rfl rfl (by kernel_rfl) (by omega) (by omega) (fun ae ne ce le hne hle=>?_);cbv;refine zN hc ?_;cbv;refine aQ hc ⟨o3,trivial⟩ ?_;let y:ι:=⟨⟨x',ae,ce⟩,by show x'≤N;omega,by show okY (L.take (9*x'))=true;rw[hx'];exact cW hg0 hg1 hg2⟩
  have eW:le=W x':=by rw[hle,hx',hWx];rfl
  have eN:ne=x':=by rw[hne,hx']
  subst eW;subst eN;refine zU 1 (S':=I y) (K':=K) ⟨zS rfl rfl,zS rfl rfl,zS rfl rfl,zI rfl rfl hi1,trivial⟩ (by subst hK;exact⟨⟨(by repeat (first | exact .head _ | apply List.Mem.tail)),KFr.cst _ _ _⟩,trivial⟩) ⟨by rw[hG];exact OFr.rv _ _ _ _ _ _ _,trivial⟩ (hy y (by show N - ne<N - x;omega))
 ·have hxN:x=N:=by have:=BE.ltn_f h;omega
  subst hxN;cbv;refine eC (sz:=9) (hG _ _ _ _) rfl rfl (pre:=[]) rfl ?_;cbv;refine aS hc hR rfl (fun X μ a w v' H hv'=>?_);have hr:=H.toP.cst (.head _)
  have aWh:L.take (9*x)=L:=List.take_of_length_le (by omega)
  rw[aWh]at hok;rw[hRR,decide_eq_true aYi,hok,show(true&&true)=true from rfl,if_pos rfl];obtain⟨vs,q1,rfl⟩:=mH hv';obtain⟨u1,u2,rfl,e1,e2⟩:=bX q1;rw[fU e2,show u1=_ from(Option.some.inj e1).symm];rw[hW,aWh]at hr;exact⟨_,rfl,hr⟩
end Go.Ai
namespace Go.Ai
open Go Go.Proofs Go.Num V3
theorem aS9 {h t:ByteArray}(hh:h.size≤2^20)(ht:t.size≤2^20):∃hm tm em,Pure PP 35 [.agg #[.string h,.string t]] (.tuple #[.agg #[.string hm,.string tm],.int .i64 em])∧
  (em=0→∃a:At,h=aA a.h∧t=aA a.t∧a.ok=true∧hm=aA (-a.h)∧tm=aA a.t):=by
 cases hq:(iK h&&iK t)with
 | false=>exact⟨_,_,1,aB7 (by decide) (aK4 (by omega) (by omega) hq),fun h=>absurd h (by decide)⟩
 | true=>
  obtain⟨q1,q2⟩:=Bool.and_eq_true_iff.1 hq;obtain⟨x,hx⟩:=Option.isSome_iff_exists.1 q1;obtain⟨y,hy⟩:=Option.isSome_iff_exists.1 q2;have e1:=mT hx
  have e2:=mT hy
  have z1:sz x≤2^20:=by rw[e1]at hh;exact lTr (fE x) hh
  have z2:sz y≤2^20:=by rw[e2]at ht;exact lTr (fE y) ht
  have ha:At.le ⟨x,y⟩ (2^25):=⟨by show sz x≤_;omega,by show sz y≤_;omega⟩
  subst e1;subst e2;cases hk:At.ok ⟨x,y⟩with
  | true=>
   have k:=aVx ha hk
   unfold atV At.mir at k;exact⟨aA (-x),aA y,0,k,fun _=>⟨⟨x,y⟩,rfl,rfl,hk,rfl,rfl⟩⟩
  | false=>
   have k:=aFy ha
   unfold At.code at k;rw[hk,if_neg (by decide)]at k;exact⟨_,_,2,aB7 (by decide) k,fun h=>absurd h (by decide)⟩
structure RetV (r:Raw)(tv fx fy fz:ByteArray)(e:Int):Prop where
 vol:∀{X:Nat→Prop} {w:World} {v:Value},(∀b,X b→b<w.heap.size)→(rowS r.N r.L).p v X w→Fn PP 19 [v,r.attV,.string r.d] X w (dJ (.tuple #[.string tv,.int .i64 e]))
 mom:∀{X:Nat→Prop} {w:World} {v:Value},(∀b,X b→b<w.heap.size)→(rowS r.N r.L).p v X w→Fn PP 24 [v,r.attV,.string r.d] X w (dJ (.tuple #[.agg #[.string fx,.string fy,.string fz],.int .i64 e]))
theorem aO8 {r r':Raw}(h:Twin r r')(hL:r.L.length=9*r.N)(hL':r'.L.length=9*r'.N):∃tv e fx fy fz fy',RetV r tv fx fy fz e∧RetV r' tv fx fy' fz e∧(e≠0∨(e=0∧∃q,fy=aA q∧fy'=aA (-q)∧sz q≤2^29)):=by
 cases h with
 | bad e h1 h2=>exact⟨_,e,_,_,_,_,⟨fun hX hv=>yK h1 hL hX hv,fun hX hv=>vA h1 hL hX hv⟩,⟨fun hX hv=>yK h2 hL' hX hv,fun hX hv=>vA h2 hL' hX hv⟩,.inl h1.ne⟩
 | ok l p g1 g2 f1 f2 l1 l2 hn=>
  have n1:l.length=r.N:=by
   have:=hL
   rw[g1.eq,fP]at this;omega
  have n2:l.length=r'.N:=by
   have:=hL'
   rw[g2.eq,fP,List.length_map]at this;omega
  obtain⟨ev,ef⟩:=aNa f1.h0 g1.ok;have hb:=(aN9 f1 l1 (by omega)).2.1.2.1
  refine⟨aA (aT p l).v,0,aA (aT p l).f.x,aA (aT p l).f.y,aA (aT p l).f.z,aA (-(aT p l).f.y),⟨fun hX hv=>tR g1 f1 l1 (by omega) hL hX hv,fun hX hv=>yJ g1 f1 l1 (by omega) hL hX hv⟩,⟨fun {X w v} hX hv=>?_,fun {X w v} hX hv=>?_⟩,.inr ⟨rfl,_,rfl,rfl,hb⟩⟩
  ·have:=tR g2 f2 l2 (by omega) hL' hX hv
   rwa [ev]at this
  ·have:=yJ g2 f2 l2 (by omega) hL' hX hv
   rwa [ef]at this
set_option maxHeartbeats 0 in
theorem lMirrors {L:List ByteArray}{N:Nat}(hL:L.length=9*N)(hs:∀a,a∈L→a.size≤2^20)(hN:N≤2^62){h0 t0 d0:ByteArray}(hh:h0.size≤2^20)(ht:t0.size≤2^20){X:Nat→Prop}{w:World}{v:Value}(hX:∀b,X b→b<w.heap.size)(hv:(rowS N L).p v X w):
  Fn PP 7 [v,.agg #[.string h0,.string t0],.string d0] X w (dJ (.bool true)):=by
 have kS:∀{X:Nat→Prop} {w:World} {v:Value},(∀b,X b→b<w.heap.size)→(rowS N L).p v X w→Fn PP 46 [v] X w (dJ (.bool (shS L N))):=fun hX hv=>aUx hL hN hX hv
 obtain⟨ok,hok⟩:=nm ((decide (N≤24)&&okY L));obtain⟨RM,hRM⟩:=nm (if ok=true then rowS N (pP L)else dJ (.slice none 0 0));obtain⟨RK,hRK⟩:=nm (aU9 ok RM);have kM:∀{X:Nat→Prop} {w:World} {v:Value},(∀b,X b→b<w.heap.size)→(rowS N L).p v X w→Fn PP 34 [v] X w RK:=fun hX hv=>by
  rw[hRK,hRM,hok];exact aN7 hL (fun a ha=>lTr (hs a ha) (by decide)) hN hX hv
 obtain⟨hm,tm,em,kT,hem⟩:=aS9 hh ht;obtain⟨RS,hRS⟩:=nm (rowS N L);rw[←hRS]at hv kS kM;have ks0:=xJ d0
 have ka0:=aUw h0 t0
 obtain⟨R,hRR⟩:=nm (dJ (.bool true));rw[←hRR];obtain⟨K,hK⟩:=nm ([KF.cst v RS]);have mK:KF.cst v RS∈K:=by rw[hK];exact .head _
 refine bE mixed tok [.q v,.g [.s (.v h0),.s (.v t0)],.s (.v d0)] (K:=K) Tryz.func7 rfl rfl (lbl rfl) rfl hX (by rw[hK];simp;exact hv) fun c hc hR=>?_
 have aHi:∀{K':List KF} {S:St} {X:Nat→Prop} {μ:Mu} {a:Act} {w:World} {v:Value},Sim c K' S X μ a w→aC μ (.b (.l true))=some v→R.p v X w:=fun H hv=>by
  rw[hRR];exact fU hv
 refine zN hc ?_;cbv;refine bL hc (.b (.l true)) aPv (fun n0 D X μ a w aL H hv=>?_) rfl 100 ?_
 ·rw[←(Option.some.inj hv)];exact aZi H.xlt
 cbv;refine eE hc (R:=RK) aGf (fun n0 D X μ a w aL H hv=>?_) 0 ?_
 ·obtain⟨u,rfl,e⟩:=aV hv;rw[cA e];exact kM H.xlt (H.cst (by repeat (first | exact mK | apply List.Mem.tail)))
 cbv;refine bC0 25 1 rfl rfl (.head _) hRK (fun z=>?_);refine zN hc ?_;cbv;refine zC hc (.t [.g [.s (.v hm),.s (.v tm)],.i .i64 (.v em)]) kT aNl ?_;cbv;obtain⟨q0,hq0⟩:∃q,q=sh d0:=⟨_,rfl⟩;obtain⟨a0,ha0⟩:∃q,q=(sh h0&&sh t0):=⟨_,rfl⟩;obtain⟨sS,hsS⟩:∃q,q=shS L N:=⟨_,rfl⟩;rw[←hq0]at ks0;rw[←ha0]at ka0;rw[←hsS]at kS;refine cJ hc Tryz.func12 rfl rfl aXl rfl (fun c' tm' FR hFR hc' Lk=>?_);refine zN hc' ?_;cbv;refine aW 2 (fun p hp=>?_);refine hp _ _ _ ?_;refine zN hc' ?_;cbv;refine zC hc' (.b (.l q0)) ks0 gR ?_;cbv;cases q0 with
 | false=>
  refine zN hc' ?_;cbv;refine cL hc' Lk hFR (by repeat (first | exact .head _ | apply List.Mem.tail)) rfl ?_;refine zN hc ?_;cbv;exact aS hc hR rfl (fun X μ a w v H hv=>aHi H hv)
 | true=>
 refine zN hc' ?_;cbv;refine hp _ _ _ ?_;refine zN hc' ?_;cbv;refine bL hc' (.b (.l sS)) aNg (fun n0 D X μ a w aL H aJ=>?_) rfl 100 ?_
 ·obtain⟨u,rfl,e'⟩:=aV aJ;rw[cA e'];exact kS H.xlt (H.cst (by repeat (first | exact mK | apply List.Mem.tail)))
 cbv;cases sS with
 | false=>
  refine zN hc' ?_;cbv;refine cL hc' Lk hFR (by repeat (first | exact .head _ | apply List.Mem.tail)) rfl ?_;refine zN hc ?_;cbv;exact aS hc hR rfl (fun X μ a w v H hv=>aHi H hv)
 | true=>
 refine zN hc' ?_;cbv;refine zC hc' (.b (.l a0)) ka0 aNf ?_;cbv;cases a0 with
 | false=>
  refine zN hc' ?_;cbv;refine cL hc' Lk hFR (by repeat (first | exact .head _ | apply List.Mem.tail)) rfl ?_;refine zN hc ?_;cbv;exact aS hc hR rfl (fun X μ a w v H hv=>aHi H hv)
 | true=>
 refine zN hc' ?_;cbv;refine cL hc' Lk hFR (by repeat (first | exact .head _ | apply List.Mem.tail)) rfl ?_;cases ok with
 | false=>
  refine zN hc ?_;cbv;exact aS hc hR rfl (fun X μ a w v H hv=>aHi H hv)
 | true=>
 refine zN hc ?_;cbv;refine aE hc rfl 100 (fun h=>?_) (fun h=>?_)
 ·cbv;exact aS hc hR rfl (fun X μ a w v H hv=>aHi H hv)
 have bD7:em=0:=by
  have h:(!decide (em=0))=false:=h
  simpa using h
 obtain⟨a,e1,e2,hk,e3,e4⟩:=hem bD7;have sa:=Bool.and_eq_true_iff.1 ha0.symm
 have bBh:a.le 40:=by
  have y1:=pX sa.1
  have y2:=pX sa.2
  rw[e1]at y1;rw[e2]at y2;exact⟨lTr (fE _) y1,lTr (fE _) y2⟩
 have aYi:N≤24:=of_decide_eq_true (Bool.and_eq_true_iff.1 hok.symm).1
 have cG:L.all sh=true:=by
  have h:=hsS.symm
  unfold shS at h
  rcases Bool.or_eq_true_iff.1 h with h | h
  ·have:=of_decide_eq_true h;omega
  ·exact(Bool.and_eq_true_iff.1 h).1
 have hL':=aHx N L hL
 obtain⟨tv,e,fx,fy,fz,fy',r1,r2,jF⟩:=aO8 (bFe hL cG aYi (Bool.and_eq_true_iff.1 hok.symm).2 bBh hk hq0.symm) hL hL';have kv1:∀{X:Nat→Prop} {w:World} {v:Value},(∀b,X b→b<w.heap.size)→RS.p v X w→Fn PP 19 [v,.agg #[.string h0,.string t0],.string d0] X w (dJ (.tuple #[.string tv,.int .i64 e])):=fun hX hv=>by rw[hRS]at hv;rw[e1,e2];exact r1.vol hX hv
 have km1:∀{X:Nat→Prop} {w:World} {v:Value},(∀b,X b→b<w.heap.size)→RS.p v X w→Fn PP 24 [v,.agg #[.string h0,.string t0],.string d0] X w (dJ (.tuple #[.agg #[.string fx,.string fy,.string fz],.int .i64 e])):=fun hX hv=>by rw[hRS]at hv;rw[e1,e2];exact r1.mom hX hv
 have kv2:∀{X:Nat→Prop} {w:World} {v:Value},(∀b,X b→b<w.heap.size)→RM.p v X w→Fn PP 19 [v,.agg #[.string hm,.string tm],.string d0] X w (dJ (.tuple #[.string tv,.int .i64 e])):=fun hX hv=>by rw[hRM,if_pos rfl]at hv;rw[e3,e4];exact r2.vol hX hv
 have km2:∀{X:Nat→Prop} {w:World} {v:Value},(∀b,X b→b<w.heap.size)→RM.p v X w→Fn PP 24 [v,.agg #[.string hm,.string tm],.string d0] X w (dJ (.tuple #[.agg #[.string fx,.string fy',.string fz],.int .i64 e])):=fun hX hv=>by rw[hRM,if_pos rfl]at hv;rw[e3,e4];exact r2.mom hX hv
 have kc1:∀{X:Nat→Prop} {w:World} {v:Value},RS.p v X w→Fn PP 14 [v] X w RS:=fun {X} {w} {v} hv=>by
  rw[hRS]at hv ⊢;exact aKq hL (by omega) hv
 have kc2:∀{X:Nat→Prop} {w:World} {v:Value},RM.p v X w→Fn PP 14 [v] X w RM:=fun {X} {w} {v} hv=>by
  rw[hRM,if_pos rfl]at hv ⊢;exact aKq hL' (by omega) hv
 have jF:e≠0∨(e=0∧∃b R1 R2 b' R3 R4,yY PP 29 [.one (.s (.v fy))] (.tp [.agg [.b (.l b),.x R1,.x R2],.one (.b (.l true))])∧yY PP 37 [.agg [.b (.l b),.x R1,.x R2]] (.sg (.agg [.b (.l b'),.x R3,.x R4]))∧
   yY PP 36 [.agg [.b (.l b'),.x R3,.x R4]] (.sg (.one (.s (.v fy'))))):=by
  rcases jF with h | ⟨h,q,rfl,rfl,hq⟩
  ·exact .inl h
  ·refine .inr ⟨h,_,_,_,_,_,_,aWt (by omega),bCu q,?_⟩;have z1:dl (-q).num.natAbs≤2^29:=lTr (Nat.le_max_left _ _) (by rw[←fD]at hq;exact hq)
   have z2:dl (-q).den≤2^29:=lTr (Nat.le_max_right _ _) (by rw[←fD]at hq;exact hq)
   have y1:=iF (-q).num.natAbs
   have y2:=iF (-q).den
   exact qTo (by omega) (by omega) (by rw[fD];omega)
 clear r1 r2 e1 e2 e3 e4 bBh cG hk hem kT hRM;cbv;refine mY hc (R:=RS) mE (fun D X μ a w aL H hv=>?_) 100 ?_
 ·obtain⟨u,rfl,e⟩:=aV hv;rw[cA e];exact kc1 (H.cst (by repeat (first | exact mK | apply List.Mem.tail)))
 cbv;refine pV hc (.t [.s (.v tv),.i .i64 (.v e)]) wW (fun D X μ a w aL H hv=>?_) rfl 100 ?_
 ·obtain⟨w1,w2,w3,rfl,e1,e2,e3⟩:=eX hv;rw[show w2=_ from(Option.some.inj e2).symm,show w3=_ from(Option.some.inj e3).symm];exact kv1 H.xlt (H.val (R:=RS) (.head _) e1)
 cbv;refine cP hc _ rfl rfl rfl rfl rfl 0 ?_;cbv;refine cP hc _ rfl rfl rfl rfl rfl 0 ?_;cbv;refine zE hc ?_;cbv;refine mY hc (R:=RM) mE (fun D X μ a w aL H hv=>?_) 100 ?_
 ·obtain⟨u,rfl,e⟩:=aV hv;rw[cA e];exact kc2 (H.cst (by repeat (first | exact .head _ | apply List.Mem.tail)))
 cbv;refine pV hc (.t [.s (.v tv),.i .i64 (.v e)]) wW (fun D X μ a w aL H hv=>?_) rfl 100 ?_
 ·obtain⟨w1,w2,w3,rfl,e1,e2,e3⟩:=eX hv;rw[show w2=_ from(Option.some.inj e2).symm,show w3=_ from(Option.some.inj e3).symm];exact kv2 H.xlt (H.val (R:=RM) (.head _) e1)
 cbv;refine cP hc _ rfl rfl rfl rfl rfl 0 ?_;cbv;refine cP hc _ rfl rfl rfl rfl rfl 0 ?_;cbv;refine zE hc ?_;cbv;refine mY hc (R:=RS) mE (fun D X μ a w aL H hv=>?_) 100 ?_
 ·obtain⟨u,rfl,e⟩:=aV hv;rw[cA e];exact kc1 (H.cst (by repeat (first | exact mK | apply List.Mem.tail)))
 cbv;refine pV hc (.t [.g [.s (.v fx),.s (.v fy),.s (.v fz)],.i .i64 (.v e)]) aAh (fun D X μ a w aL H hv=>?_) rfl 3 ?_
 ·obtain⟨w1,w2,w3,rfl,e1,e2,e3⟩:=eX hv;rw[show w2=_ from(Option.some.inj e2).symm,show w3=_ from(Option.some.inj e3).symm];exact km1 H.xlt (H.val (R:=RS) (.head _) e1)
 cbv;refine fM hc _ rfl rfl rfl rfl ?_;cbv;refine aAb hc 10 (by kernel_rfl) (by decide) (by decide) rfl 100 ?_;cbv;refine mY hc (R:=RM) mE (fun D X μ a w aL H hv=>?_) 100 ?_
 ·obtain⟨u,rfl,e⟩:=aV hv;rw[cA e];exact kc2 (H.cst (by repeat (first | exact .head _ | apply List.Mem.tail)))
 cbv;refine pV hc (.t [.g [.s (.v fx),.s (.v fy'),.s (.v fz)],.i .i64 (.v e)]) aAh (fun D X μ a w aL H hv=>?_) rfl 3 ?_
 ·obtain⟨w1,w2,w3,rfl,e1,e2,e3⟩:=eX hv;rw[show w2=_ from(Option.some.inj e2).symm,show w3=_ from(Option.some.inj e3).symm];exact km2 H.xlt (H.val (R:=RM) (.head _) e1)
 cbv;refine fM hc _ rfl rfl rfl rfl ?_;cbv;refine aAb hc 10 (by kernel_rfl) (by decide) (by decide) rfl 100 ?_;cbv
 rcases jF with he | he
 ·have b0:(BE.not (.eq (.v e) (.l 0))).den=true:=by show(!decide (e=0))=true;simp[he]
  have b1:(BE.eq (.v e) (.v e)).den=true:=decide_eq_true rfl
  refine bT hc 81 rfl rfl 100 (fun _=>?_) (fun h=>absurd (b0.symm.trans h) (by decide));cbv;refine bT hc 88 rfl rfl 100 (fun _=>?_) (fun h=>absurd (b1.symm.trans h) (by decide));cbv;refine aS hc hR rfl (fun X μ a w v' H hv'=>?_);rw[hRR,fU hv'];exact congrArg Value.bool b1
 obtain⟨he,bb,P1,P2,bc,P3,P4,kf,kn,kt⟩:=he;have b0:(BE.not (.eq (.v e) (.l 0))).den=false:=by show(!decide (e=0))=false;simp[he]
 have b1:(BE.eq (.v e) (.v e)).den=true:=decide_eq_true rfl
 have b2:(BE.seq (.v tv) (.v tv)).den=true:=by rw[nW];simp
 refine bT hc 81 rfl rfl 100 (fun h=>absurd (b0.symm.trans h) (by decide)) (fun _=>?_);cbv;refine aE hc rfl 100 (fun h=>absurd (b0.symm.trans h) (by decide)) (fun _=>?_);cbv;refine dZ hc pC kf ⟨.s rfl,trivial⟩ (.t [.g [.b (.l bb),.ec 11 1,.ec 11 2],.b (.l true)]) rfl 100 (fun FB hFB=>?_);cbv;refine bT hc 102 rfl rfl 100 (fun _=>?_) (fun h=>absurd (b2.symm.trans h) (by decide));cbv;refine bT hc 107 rfl rfl 100 (fun _=>?_) (fun h=>absurd (b1.symm.trans h) (by decide));cbv;refine aKs hc aEt kn ⟨⟨.b rfl,.ec (.head _) hFB rfl,.ec (.head _) hFB rfl,trivial⟩,trivial⟩ (.g [.b (.l bc),.ec 13 1,.ec 13 2]) rfl 100 (fun FC hFC=>?_);cbv;refine aKs hc aLq kt ⟨⟨.b rfl,.ec (.head _) hFC rfl,.ec (.head _) hFC rfl,trivial⟩,trivial⟩ (.s (.v fy')) rfl 100 (fun FD hFD=>?_);cbv;refine zE hc ?_;cbv;refine aS hc hR rfl (fun X μ a w v' H hv'=>?_);rw[hRR,fU hv'];refine congrArg Value.bool ?_;show((BE.seq (.v fx) (.v fx)).den&&((BE.seq (.v fy') (.v fy')).den&&(BE.seq (.v fz) (.v fz)).den))=true
 rw[nW,nW,nW];simp
end Go.Ai
namespace Go.Proofs.YtmnancfboococaaGreatDoor
open Go Go.ChangeShapes Go.WideShapes Go.ChangeAt Go.WideElems Go.RowKit
section
variable {H:Type}{enc:TypeId × Value→H}
variable {W w:World}{base:Nat}{sp:Nat→Bool}{held:Bool}{n:Nat}{cs:List Value}{x:DataW H × List MemPlace}
theorem aFn {d:DataW H}:∀{l:List (DataW H)},d∈l→Rows.uptoBulk d≤Rows.uptoBulkAll l
 | x::r,h=>by
  simp only[Rows.uptoBulkAll]
  rcases List.mem_cons.1 h with e | e
  ·subst e;omega
  ·have:=aFn e;omega
theorem one_le (d:DataW H):1≤Rows.uptoBulk d:=by
 cases d with
 | lit l=>cases l<;>simp[Rows.uptoBulk]
 | _=>simp[Rows.uptoBulk]
theorem length_le:∀l:List (DataW H),l.length≤Rows.uptoBulkAll l
 | []=>Nat.zero_le _
 | x::r=>by have:=one_le x;have:=length_le r;simp only[Rows.uptoBulkAll,List.length_cons];omega
theorem wO {d:DataW H}{l:List (DataW H)}(h:d∈l):Rows.uptoBulk d≤Rows.uptoBulk (.agg l):=by
 have:=aFn h
 simp only[Rows.uptoBulk];omega
theorem sR {y:DataW H × List MemPlace}{cs:List Value}(h:DataW.trod enc Tryz.prog w base sp held n 24 cs=some y):∃s:ByteArray,cs=[.string s]∧s.size≤Rows.uptoBulk y.1:=by
 obtain⟨s,e,rfl,_⟩:=DataW.trod_string Tryz.underlying24 h;refine⟨s,e,?_⟩;simp only[Rows.uptoBulk];exact Nat.le_succ _
theorem aK6 (h:DataW.trod enc Tryz.prog w base sp held n 38 cs=some x):∀j,j<9→∃s:ByteArray,cs[j]?=some (.string s)∧s.size≤Rows.uptoBulk x.1:=by
 obtain⟨xs,m,_,rfl,_,hn,hel⟩:=DataW.trod_array Tryz.underlying38 h;intro j hj;have h1:=hel (j/3) (by omega)
 rw[List.getElem?_eq_getElem (show j/3<xs.length by omega),c36]at h1;have hin:Rows.uptoBulk xs[j/3].1≤Rows.uptoBulk (.agg (xs.map (·.1))):=wO (List.mem_map.2 ⟨_,List.getElem_mem _,rfl⟩)
 generalize hy:xs[j/3]=yy at h1 hin;obtain⟨y0,y1,y2,k,rfl,_,e0,e1,e2⟩:=Deep.trod_struct3 Tryz.underlying36 h1
 dsimp only at e0 e1 e2 hin ⊢
 rw[c24]at e0 e1 e2;have hm:j%3=0∨j%3=1∨j%3=2:=by omega
 rcases hm with hm | hm | hm
 ·obtain⟨s,e,hs⟩:=sR e0;exact⟨s,by have:=nth (by decide) e;rwa [show j/3*3+0=j by omega]at this,lTr hs (lTr (wO (by simp)) hin)⟩
 ·obtain⟨s,e,hs⟩:=sR e1;exact⟨s,by have:=nth (by decide) e;rwa [show j/3*3+1=j by omega]at this,lTr hs (lTr (wO (by simp)) hin)⟩
 ·obtain⟨s,e,hs⟩:=sR e2;exact⟨s,by have:=nth (by decide) e;rwa [show j/3*3+2=j by omega]at this,lTr hs (lTr (wO (by simp)) hin)⟩
theorem aM8 (h:DataW.trod enc Tryz.prog w base sp held n 26 cs=some x):∃a b:ByteArray,cs=[.string a,.string b]∧a.size≤Rows.uptoBulk x.1∧b.size≤Rows.uptoBulk x.1:=by
 obtain⟨y0,y1,k,rfl,hl,e0,e1⟩:=trod_struct2 Tryz.underlying26 h
 dsimp only at e0 e1 ⊢
 rw[c24]at e0 e1;rw[c26]at hl;obtain⟨a,ea,ha⟩:=sR e0;obtain⟨b,eb,hb⟩:=sR e1;refine⟨a,b,?_,lTr ha (wO (by simp)),lTr hb (wO (by simp))⟩
 rcases cs with _ | ⟨x0,_ | ⟨x1,_ | ⟨x2,l⟩⟩⟩<;>simp at hl ea eb
 rw[ea,eb]
set_option maxRecDepth 100000 in
theorem aKe {v:Value}{d:DataW H}{p:List MemPlace}(vJ:Value.okWide Tryz.prog W .any base 23 v)
  (h:DataW.Trod enc Tryz.prog W 0 (fun _=>true) true 23 v d p):∃L N,L.length=9*N∧N≤Rows.uptoBulk d∧(∀a,a∈L→a.size≤Rows.uptoBulk d)∧(Ai.rowS N L).p v (· <W.heap.size) W:=by
 obtain⟨a,len,cap,rfl⟩:=okWide_slice Tryz.underlying23 vJ;obtain⟨m,h⟩:=h
 rcases Deep.open_slice Tryz.underlying23 h with⟨e,_⟩ | ⟨a',len',aZ,m',n,D,Pl,e,_,hlc,_,hm,hd,hx⟩
 ·simp only[Value.cells,List.cons.injEq,Value.slice.injEq]at e;obtain⟨⟨rfl,rfl,rfl⟩,_⟩:=e;exact⟨[],0,rfl,Nat.zero_le _,(fun a ha=>by cases ha),none,0,rfl,lRf 0,rfl,rfl,rfl⟩
 ·simp only[Value.cells,List.cons.injEq,Value.slice.injEq]at e;obtain⟨⟨rfl,rfl,rfl⟩,_⟩:=e;simp only[if_pos]at hm;subst hm;rw[c38]at hx;obtain⟨hd,_⟩:=Prod.mk.inj hd;have bBq:∀i,i<len→Rows.uptoBulk (D i)≤Rows.uptoBulk d:=fun i hi=>by
   rw[hd];have:=aFn (d:=D i) (l:=(List.range len).map D) (List.mem_map.2 ⟨i,List.mem_range.2 hi,rfl⟩)
   simp only[Rows.uptoBulk];omega
  have hN:len≤Rows.uptoBulk d:=by
   rw[hd];have:=length_le ((List.range len).map D)
   simp only[List.length_map,List.length_range]at this;simp only[Rows.uptoBulk];omega
  have cell:∀j,j<9*len→∃s:ByteArray,W.cell? (a'.add j)=some (.string s)∧s.size≤Rows.uptoBulk d:=by
   intro j hj;obtain⟨cs',h1,h2⟩:=hx (j/9) (by omega);obtain⟨s,hs,hz⟩:=aK6 h2 (j%9) (by omega);obtain⟨_,_,h3⟩:=World.cells?_some h1;have h4:=h3 (j%9) (by omega)
   rw[Deep.add_add,show j/9*9+j%9=j by omega,hs]at h4;exact⟨s,h4,lTr hz (bBq (j/9) (by omega))⟩
  have hh:W.has Tryz.prog .any base a' 38 m':=by
   simp only[Value.okWide,Tryz.underlying23,Cell.okWide,Cell.ok]at vJ;exact vJ.2.2
  obtain⟨_,hsp,row,ncs,hs,_⟩:=hh;unfold World.shape? at hs;split at hs
  ·rename_i c ty fz hb;have hlt:a'.block<W.heap.size:=(Array.getElem?_eq_some_iff.1 hb).1
   have:Inhabited ByteArray:=⟨⟨#[]⟩⟩
   obtain⟨f,hf⟩:=Deep.choose_lt cell;refine⟨(List.range (9*len)).map f,len,by simp,hN,(fun s hs=>?_),some (a'.block,a'.off),m',?_,hlc,hlt,c,(ty,fz),hb,fun i y hy=>?_⟩
   ·obtain⟨i,hi,rfl⟩:=List.mem_map.1 hs;exact(hf i (List.mem_range.1 hi)).2
   ·cases a';simp only at hsp;subst hsp
    rfl
   ·simp only[List.getElem?_map,Option.map_map]at hy
    rcases Nat.lt_or_ge i (9*len)with hi | hi
    ·rw[List.getElem?_range hi]at hy;obtain rfl:Value.string (f i)=y:=by simpa using hy
     have h0:=(hf i (by omega)).1
     have hb':(a'.add i).block=a'.block:=by unfold Addr.add;split<;>rfl
     have ho:(a'.add i).off=a'.off+i:=by unfold Addr.add;split<;>simp_all
     unfold World.cell? at h0;rw[hb',hb]at h0;simp only at h0;split at h0
     ·cases h0
     ·rw[ho]at h0;exact h0
    ·rw[List.getElem?_eq_none (by simpa using hi)]at hy;cases hy
  ·cases hs
end
end Go.Proofs.YtmnancfboococaaGreatDoor
namespace Go.Proofs.YtmnancfboococaaGreatDoor
open Go Go.ChangeShapes Go.WideShapes Go.ChangeAt Go.WideElems Go.RowKit
theorem laidOut:laidOutB Tryz.prog=true:=by kernel_rfl
theorem bCx:mapsRowed Tryz.prog=true:=by kernel_rfl
theorem aNz:Tryz.prog.inPlace 7=Rows.floatMirrorsUptoRow.inPlace:=by kernel_rfl
theorem aE7:Tryz.prog.unfollowed 7=true:=by kernel_rfl
theorem aJs:Tryz.prog.recurses 7=true:=by kernel_rfl
theorem aUt:Tryz.prog.varsNamed 7=Rows.floatMirrorsUptoRow.named:=by kernel_rfl
theorem aX9:false=Rows.floatMirrorsUptoRow.goesBy Tryz.pinned.checked.prog:=by kernel_rfl
theorem aUs:true=Tryz.pinned.checked.prog.looks []:=by kernel_rfl
theorem aQ3:joinedFacts Tryz.prog 7 Tryz.f7 (Rows.OpenSpec.upto Rows.floatMirrorsSpec).bare Rows.floatMirrorsUptoRow=true:=by
 unfold joinedFacts;rw[laidOut,bCx,aNz,aE7,aJs,aUt]
 kernel_rfl
theorem own:ownKnob Tryz.prog.godebug=none:=by kernel_rfl
theorem aQt (os:Os)(args:Array Value):laidMetH Tryz.prog Rows.floatMirrorsUptoRow.laid ((World.doorLaid Tryz.prog 62 os).forCall (fun _ _=>0) ⟨#[],args,[]⟩).memory:=
 laidMetH_of_parts3 (fuel:=8) (laidMet_of_run' 8 (by kernel_rfl) (by kernel_rfl)) (by kernel_rfl) (by kernel_rfl)
theorem aUu {W:World}(hL:laidMetH Tryz.prog Rows.floatMirrorsUptoRow.laid W)(hsh:W.ShapedOpen Tryz.prog):Ai.Glob Tryz.prog W:=by
 refine⟨?_,?_⟩
 ·obtain⟨m,hm⟩:=cell_of_shapedOpen_int (g:=0) (zero:=#[.int .i64 0]) (t:=3) hsh (of_decide_eq_true (by kernel_rfl)) (by kernel_rfl) rfl (by kernel_rfl) (by kernel_rfl) Tryz.underlying3;obtain⟨cs,hh,hs,_⟩:=hsh.1 0 #[.int .i64 0] 3 (of_decide_eq_true (by kernel_rfl)) (by kernel_rfl);refine⟨m,?_⟩;unfold World.var?;rw[show Tryz.prog.globalNamed "internal/bytealg.MaxLen"=some 0 by kernel_rfl];simp only[Option.bind_some,hh];simp only[World.cell?,hh]at hm;obtain⟨l⟩:=cs
  match l,hs,hm with
  | [c],_,hm=>
   simp at hm;rw[hm]
 ·rw[MakeChecks.laidMetH_plain _ _ _ (by kernel_rfl)]at hL;exact Lib.tabIs_of_head (k:=.u64) (zs:=Lib.pow10Tab) (g:=3) (t:=364) (e:=181) (n:=20) (by kernel_rfl) (by kernel_rfl) Tryz.underlying364 Tryz.underlying181 (by kernel_rfl) (by kernel_rfl) (laidMet.tail (laidMet.tail hL))
def aTx:Array Value:=#[.slice none 0 0,.agg #[.string ⟨#[]⟩,.string ⟨#[]⟩],.string ⟨#[]⟩]
theorem reads (os:Os){H:Type}(enc:TypeId × Value→H):∃places,DataW.whole enc Tryz.prog ((World.doorLaid Tryz.prog 62 os).forCall (fun _ _=>0) ⟨#[],aTx,[]⟩).memory Tryz.f7.params.toList Rows.floatMirrorsSpec.vars false aTx.toList 8=some ([.nil,.agg [.lit (.string []),.lit (.string [])],.lit (.string [])],[],places):=
 ⟨[],by kernel_rfl⟩
set_option maxRecDepth 100000 in
theorem lifted (os:Os)(started:os.Started)(H:Type)(enc:TypeId × Value→H)(F:Stop.Interp):
  ReturnsInHanded {} Tryz.checked os 7 .any ((Rows.OpenSpec.upto Rows.floatMirrorsSpec).preRow enc Tryz.prog Tryz.f7 Rows.floatMirrorsUptoRow.domain false Rows.floatMirrorsUptoRow.laid) (((Rows.OpenSpec.upto Rows.floatMirrorsSpec).at F).post enc Tryz.prog Tryz.f7 false true false false):=by
 obtain⟨places,hx⟩:=reads os enc;refine returnsInHanded_of_row (C:=Tryz.checked) (s:=Rows.OpenSpec.upto Rows.floatMirrorsSpec) own started (by kernel_rfl) Tryz.func7
  (witness_row_atRef (enc:=enc) (C:=Tryz.checked) false (World.doorLaid Tryz.prog 62 os) aTx rfl (by kernel_rfl) (by kernel_rfl) (by kernel_rfl)
   (OpenSpec.preRow_of_cond 8 hx (by kernel_rfl) (fun k hk=>by cases hk;kernel_rfl) (by kernel_rfl) (aQt os _))) ?_
 intro W base args ds gs before aWj hW _ jS hz0 hL hsh _;have vJ:∀(j:Nat) t v,Tryz.f7.params[j]?=some t→args[j]?=some v→Value.okWide Tryz.prog W .any base t v:=aWj
 have hW':=hW
 obtain⟨p,q,hA0,hV,rfl,hfz,hnd⟩:=hW;have hA:DataW.TrodAll enc Tryz.prog W 0 (fun _=>true) true Tryz.f7.params.toList args.toList ds p:=hA0
 rw[Tryz.params7]at hA vJ;obtain⟨v0,v1,v2,d0,d1,d2,p0,p1,p2,rfl,rfl,rfl,h0,h1,h2⟩:=trodAll_three hA;obtain⟨rfl,rfl⟩:=trodVars_none hV;clear hA0 aWj hz0;have hB:Rows.uptoBulk d0+(Rows.uptoBulk d1+(Rows.uptoBulk d2+0))≤1048576:=of_decide_eq_true (jS _ rfl)
 obtain⟨L,N,hLN,hN,hsz,iW⟩:=aKe (vJ 0 23 v0 rfl rfl) h0;have w1:=vJ 1 26 v1 rfl rfl
 have w2:=vJ 2 24 v2 rfl rfl
 simp only[Value.okWide,Tryz.underlying26]at w1;obtain⟨c1,e1,_⟩:=w1;obtain⟨_,h1'⟩:=id h1;obtain⟨_,h2'⟩:=id h2;obtain⟨a,b,e3,ha,hb⟩:=aM8 h1';obtain⟨s,e4,hs⟩:=sR h2';have e5:=aQa e1 e3
 have e6:v2=.string s:=by
  cases v2 with
  | string t=>simp only[Value.cells,List.cons.injEq,and_true]at e4;exact e4
  | _=>simp[Value.okWide,Tryz.underlying24,Cell.okWide,Cell.ok]at w2
 clear e1 e3 e4 h1' h2' w2;have ha:a.size≤Rows.uptoBulk d1:=ha
 have hb:b.size≤Rows.uptoBulk d1:=hb
 subst e5;subst e6;refine Calls.mono (Ai.lMirrors hLN (fun a ha=>lTr (hsz a ha) (by omega)) (by omega) (by omega) (by omega) (fun _ h=>h) iW (aUu hL hsh)) ?_;rintro e W' ⟨v,X',rfl,hb,_,_,hr⟩;obtain rfl:v=.bool true:=hr;have hlt:=hW'.lt
 refine⟨_,rfl,_,_,_,[],_,[],hW',trodAll_mk1 (shut_bool Tryz.underlying4 _),⟨p0,_,Below.trod laidOut (by kernel_rfl) (of_decide_eq_true (by kernel_rfl)) h0 hb (fun x hx=>hlt x (by simp[hx])),⟨p1,_,Below.trod laidOut (by kernel_rfl) (of_decide_eq_true (by kernel_rfl)) h1 hb (fun x hx=>hlt x (by simp[hx])),⟨p2,[],Below.trod laidOut (by kernel_rfl) (of_decide_eq_true (by kernel_rfl)) h2 hb (fun x hx=>hlt x (by simp[hx])),rfl,rfl⟩,rfl⟩,rfl⟩,rfl,hb.frame _,fun h=>by cases h⟩
theorem vE:Rows.FloatMirrorsUptoSaid:=
 OpenClaim.holds_of_cond 7 Tryz.f7 rfl rfl rfl rfl rfl rfl rfl ⟨rfl,rfl,rfl,rfl,rfl⟩ rfl rfl rfl rfl rfl (by kernel_rfl) Tryz.func7 aQ3
  (of_decide_eq_true (by kernel_rfl)) (by unfold Func.isWrapper;first | (rw[if_pos (by decide+kernel)];kernel_rfl) | (rw[if_neg (by decide+kernel)];exact⟨rfl,rfl⟩))
  (fun os started H enc _ F=>by rw[OpenClaim.pre_eq_preRow];exact lifted os started H enc F)
theorem floatMirrors_upto_card:Rows.FloatMirrorsUptoCardSaid:=
 Claim7.holds_tied_plain_at .later [] [.data,.data,.data,.sentinel,.sentinel] true (true,"c950a4b405ece2c7bb5a9d3963c7cff2c826d70397d4f6407373dce119441a08") true
  vE (fun _ h=>by cases h) (by kernel_rfl) (fun _ h=>by cases h) floatMirrorsUpto_row_tie rfl ⟨rfl,rfl⟩ (by kernel_rfl) rfl
  (fun f fn hf hfn=>by
   obtain rfl:f=7:=Option.some.inj ((show Tryz.prog.funcNamed "garboard/garboardlaw17.FloatMirrors"=some 7 by kernel_rfl).symm.trans hf) |>.symm
   obtain rfl:fn=Tryz.f7:=(Option.some.inj (Tryz.func7.symm.trans hfn)).symm;exact⟨aUs,fun j t ht=>by
    rw[Tryz.params7]at ht;have hm:t∈[23,26,24]:=by simpa using Array.mem_of_getElem? ht
    have cG:([23,26,24].all fun u=> !Tryz.prog.wantsStandIn u)=true:=by kernel_rfl
    exact(show Tryz.prog.wantsStandIn t=false by simpa using List.all_eq_true.1 cG t hm)⟩)
  aX9
end Go.Proofs.YtmnancfboococaaGreatDoor
