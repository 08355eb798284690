/- Part 27 of the proof: garboardlaw17.FloatMirrors returns true, where what it reads is of bulk at most 1048576. -/
import Derived.Laws.IdiomStrings
import Derived.Test.YtmnancfboococaaGreatDoorTie
import Derived.Test.YtmnancfboococaaGreatDoorCards
import Derived.ProofKit
import Derived.LaidMore
import Derived.OpenShut
import Derived.Handed
import Derived.Deep.Strs
import Derived.Stop.Joined
import Derived.Shelf.Vars
import Derived.Lib.LaidTab
import Derived.Test.YtmnancfboococaaGreatDoorPm7
import Derived.Test.YtmnancfboococaaGreatDoorPm14
import Derived.Test.YtmnancfboococaaGreatDoorPm15
import Derived.Test.YtmnancfboococaaGreatDoorPm22
import Derived.Test.YtmnancfboococaaGreatDoorPm23
import Derived.Test.YtmnancfboococaaGreatDoorPm24
import Derived.Test.YtmnancfboococaaGreatDoorPm25
set_option linter.all false
namespace Go.Ai
open Go Go.RowKit
def zT (all:Array Oper)(m:Nat)(E:List Nat):Bool:=
 let B:=aF5 all.toList #[]
 (List.range all.size).all (fun j=>match all[j]? with
  | none=>false
  | some o=>o.after.toList.all (fun e=> !Region.binds .any e||decide (e.on<j))&&
   (if j<m then
    (dO all o).all (fun t=>(List.range m).all fun j'=>((all[j']?).bind (·.dst)) !=some t||(decide (j'<j)&&(B.getD j 0).testBit j')||(decide (j<j')&&(B.getD j' 0).testBit j))&&
    (match o.dst with | some d=>(List.range m).all (fun j'=>j'==j||((all[j']?).bind (·.dst)) !=some d) | none=>true)&&
    !bZ o
   else(List.range m).all fun i=>E.contains i||(B.getD j 0).testBit i))
structure DrawOkE (all:Array Oper)(m:Nat)(E:List Nat):Prop extends DrawOk0 all m where
 bar:∀j o i,all[j]?=some o→m≤j→i<m→E.contains i=false→Reach all j i
 nc:∀j,j<m→dM all j=false
theorem aE6 {all:Array Oper}{m:Nat}{E:List Nat}(h:zT all m E=true):DrawOkE all m E:=by
 unfold zT at h;simp only[List.all_eq_true,List.mem_range]at h;have key:∀j o,all[j]?=some o→_:=fun j o ho=>by
  have:=h j (Array.getElem?_eq_some_iff.1 ho).1
  simp only[ho,Bool.and_eq_true]at this;exact this
 have hnc:∀j o,all[j]?=some o→j<m→bZ o=false:=fun j o ho hj=>by
  have:=(key j o ho).2
  rw[if_pos hj]at this;simp only[Bool.and_eq_true]at this
  simpa using this.2
 refine⟨⟨?_,?_,?_,?_⟩,?_,?_⟩
 ·intro j o e ho he hb;have:=(key j o ho).1
  simp only[List.all_eq_true]at this;have:=this e (by simpa using he)
  simpa[hb]using this
 ·intro j o t j' ho hj ht hj' hd;have:=(key j o ho).2
  rw[if_pos hj]at this;simp only[Bool.and_eq_true,List.all_eq_true,List.mem_range]at this;have:=this.1.1 t ht j' hj'
  simp only[hd,Bool.or_eq_true,bne_self_eq_false,Bool.false_eq_true,false_or,Bool.and_eq_true,decide_eq_true_eq]at this;exact this.imp (fun h=>⟨h.1,cX h.2⟩) (fun h=>⟨h.1,cX h.2⟩)
 ·intro j o d j' ho hj hd hj' hd';have:=(key j o ho).2
  rw[if_pos hj]at this;simp only[Bool.and_eq_true]at this;have:=this.1.2
  simp only[hd,List.all_eq_true,List.mem_range]at this;have:=this j' hj'
  simpa[hd']using this
 ·intro j o j' o' ho hj hc hj' ho' hc';rw[hnc j o ho hj]at hc;cases hc
 ·intro j o i ho hj hi hE;have:=(key j o ho).2
  rw[if_neg (by omega)]at this;simp only[List.all_eq_true,List.mem_range,Bool.or_eq_true]at this
  rcases this i hi with h | h
  ·rw[hE]at h;cases h
  ·exact cX h
 ·intro j hj;unfold dM;split
  ·rename_i o ho;exact hnc j o ho hj
  ·rfl
inductive DPathE (c:Cx) (all:Array Oper) (n0:Nat) (K0:List KF) (E:List Nat) (Q:Nat→St→List KF→Prop):Nat→St→List KF→Prop
 | stop {i:Nat} {S:St} {K:List KF} (hi:i≤all.size) (h:Q i S K):DPathE c all n0 K0 E Q i S K
 | op {i:Nat} {S S':St} {K:List KF} {o:Oper} {av:AV} {nb:Option Blk} {ow:List OF} (ho:all[i]?=some o) (hg:guardOf all S.sl o=some true) (hdst:cF c.nt o.dst=true) (hic:bZ o=false) (hE:E.contains i=true→nb=none)
   (hc:Cert c K0 n0 (uV all o) (fl S o) o av nb [] ow) (hw:Wk (S.putO o.dst av nb S.ow) S') (h:DPathE c all n0 K0 E Q (i+1) S' K):DPathE c all n0 K0 E Q i S K
theorem DPathE.trace {c:Cx}{all:Array Oper}{n0:Nat}{K0:List KF}{E:List Nat}{Q:Nat→St→List KF→Prop}{i:Nat}{S:St}{K:List KF}(h:DPathE c all n0 K0 E Q i S K):
  ∃(m:Nat) (en:Nat→Ent) (st:Nat→St) (kk:Nat→List KF),i≤m∧Wk S (st i)∧kk i=K∧(∀j,i≤j→j<m→(∃o,EntOk c all n0 K0 (en j) j (st j) (st (j+1)) (kk j) (kk (j+1)) o)∧(E.contains j=true→(en j).nb=none))∧m≤all.size∧Q m (st m) (kk m):=by
 induction h with
 | @stop i S K hi h=>exact⟨i,fun _=>⟨.t [],none,[],[]⟩,fun _=>S,fun _=>K,lRf _,Wk.refl S,rfl,fun j h1 h2=>by omega,hi,h⟩
 | @op i S S' K o av nb ow ho hg hdst hic hE hc hw h ih=>
  obtain⟨m,en,st,kk,h1,h2,h3,h4,h5,h6⟩:=ih;refine⟨m,fun j=>if j=i then⟨av,nb,[],S.ow⟩else en j,fun j=>if j=i then S else st j,fun j=>if j=i then K else kk j,by omega,by simp only[if_true];exact Wk.refl S,by simp,?_,h5,?_⟩
  ·intro j hj hjm
   by_cases e:j=i
   ·subst e;refine⟨⟨o,?_⟩,by simpa using hE⟩;simp only[if_true,if_neg (show ¬j+1=j by omega),h3];exact⟨ho,hdst,hw.trans h2,rfl,fun _=>rfl,fun _=>rfl,.inr ⟨hg,ow,by rw[hic];exact hc,fun hf=>by rw[hic]at hf;cases hf⟩⟩
   ·obtain⟨⟨o',h⟩,h'⟩:=h4 j (by omega) hjm;refine⟨⟨o',?_⟩,by simpa[if_neg e]using h'⟩;simp only[if_neg e,if_neg (show ¬j+1=i by omega)];exact h
  ·simp only[if_neg (show ¬m=i by omega)];exact h6
def St.dropE (S:St)(all:Array Oper)(m:Nat)(L:Array Bool):St:={S with sl:=S.sl.filter fun x=>(List.range m).all fun j=>L.getD j false||nQ all j !=some x.1}
theorem nR {p:Nat→Bool}:∀{l:List (Nat × AV)} {t:Nat} {av:AV},look (l.filter fun x=>p x.1) t=some av→p t=true∧look l t=some av
 | [],t,av,h=>by cases h
 | (d,b)::l,t,av,h=>by
  rw[List.filter_cons]at h
  by_cases e:d=t
  ·subst e;split at h
   ·rename_i hp;rw[bF]at h ⊢;exact⟨hp,h⟩
   ·rename_i hp;exact absurd (nR h).1 hp
  ·rw[bA e];split at h
   ·rw[bA e]at h;exact nR h
   ·exact nR h
section
variable {c:Cx}{all:Array Oper}{n0:Nat}{K0:List KF}{m:Nat}{en:Nat→Ent}{st:Nat→St}{kk:Nat→List KF}{E:List Nat}
theorem PInv.simE (T:Tr c all n0 K0 m en st kk)(ok:DrawOkE all m E)(hnb:∀j,j<m→E.contains j=true→(en j).nb=none){L:Array Bool}{X:Nat→Prop}{μ:Mu}{a:Act}{w:World}(H:PInv c all n0 K0 m en st L X μ a w)(cG:∀j,j<m→E.contains j=false→ex L j):Sim c (kk m) ((st m).dropE all m L) X μ a w:=by
 have aYs:∀k,(st m).hp.length≤k→μ k=none:=by
  intro k hk;cases h:μ k with
  | none=>rfl
  | some b=>
   rcases H.newid k b h with e | ⟨j,h1,h2,h3,h4⟩
   ·have h5:=T.n0;have:=T.hpLen (i:=0) (j:=m) (by omega) (lRf _);omega
   ·have h5:=T.hpLen (i:=j+1) (j:=m) (by omega) (lRf _)
    rw[T.hpStep h1]at h5;cases hq:(en j).nb with
    | none=>rw[hq]at h3;cases h3
    | some x=>simp[hq]at h5;omega
 have hd:∀j,j<m→ex L j∨E.contains j=true:=fun j hj=>by
  cases h:E.contains j with
  | true=>exact .inr rfl
  | false=>exact .inl (cG j hj h)
 refine⟨⟨H.dfr,H.size,?_,H.heap,?_,H.inj,H.loc,H.xlt,H.xnew,H.xold,H.bel,?_,H.own m (lRf _) (fun j hj hcl=>by rw[ok.nc j hj]at hcl;cases hcl)⟩,aYs⟩
 ·intro t av _ hl;obtain⟨hp,hl⟩:=nR (p:=fun t=>(List.range m).all fun j=>L.getD j false||nQ all j !=some t) hl;simp only[List.all_eq_true,List.mem_range,Bool.or_eq_true]at hp
  rcases T.from (lRf m) hl with⟨j',h1,h2,h3⟩ | ⟨h1,av0,h2,h3⟩
  ·have hx:ex L j':=by
    rcases hp j' h1 with h | h
    ·exact h
    ·rw[h2]at h;simp at h
   obtain⟨v,e1,e2⟩:=H.done j' h1 hx t h2;exact⟨v,by rw[←h3 μ];exact e1,e2⟩
  ·obtain⟨v,e1,e2⟩:=H.base t av0 (fun j' hj' hd=>absurd hd (h1 j' hj')) h2;exact⟨v,by rw[←h3 μ];exact e1,e2⟩
 ·have key:∀i,i≤m→∀k,k<(st i).hp.length→∃b,μ k=some b:=by
   intro i
   induction i with
   | zero=>intro _ k hk;exact H.old k (by rw[T.n0];exact hk)
   | succ i ih=>
    intro hi k hk;rw[T.hpStep (by omega)]at hk
    rcases Nat.lt_or_ge k (st i).hp.length with h | h
    ·exact ih (by omega) k h
    ·cases hq:(en i).nb with
     | none=>simp[hq]at hk;omega
     | some x=>
      simp[hq]at hk;have:k=(st i).hp.length:=by omega
      subst this
      rcases hd i (by omega)with hx | hx
      ·exact H.alloc i (by omega) hx (by rw[hq];rfl)
      ·rw[hnb i (by omega) hx]at hq;cases hq
  exact key m (lRf _)
 ·intro f hf
  rcases T.kkMem (lRf m) f hf with h | ⟨j',h1,h2⟩
  ·exact H.kf0 f h
  ·obtain⟨o,E'⟩:=T.ent j' h1;rw[E'.kn (by have:=ok.nc j' h1;simpa[dM,E'.ho]using this)]at h2;cases h2
theorem aNw (T:Tr c all n0 K0 m en st kk)(ok:DrawOkE all m E)(hnb:∀j,j<m→E.contains j=true→(en j).nb=none){k:List KI}
  (hs:∀L:Array Bool,L.size=all.size→(∀j,ex L j→j<m)→(∀j,j<m→E.contains j=false→ex L j)→bD c (kk m) (.ord all L::k) ((st m).dropE all m L)):∀(fuel:Nat) (L:Array Bool) (X:Nat→Prop) (μ:Mu) (a:Act) (w:World),L.size=all.size→DC all L→(∀j,m≤j→¬ex L j)→
  L.toList.count false=fuel→PInv c all n0 K0 m en st L X μ a w→wpAnyIn c.F 0 c.P .any all (aR c.F c.P c.R k) fuel L a w:=by
 intro fuel;have fin:∀(fuel:Nat) (L:Array Bool) (X:Nat→Prop) (μ:Mu) (a:Act) (w:World),L.size=all.size→(∀j,m≤j→¬ex L j)→(∀j,j<m→E.contains j=false→ex L j)→L.toList.count false=fuel→PInv c all n0 K0 m en st L X μ a w→wpAnyIn c.F 0 c.P .any all (aR c.F c.P c.R k) fuel L a w:=by
  intro fuel L X μ a w hL hno cG hf H;have:=hs L hL (fun j hx=>Nat.lt_of_not_le fun h=>hno j h hx) cG X μ a w (H.simE T ok hnb cG)
  simp only[aR,hf]at this;exact this
 induction fuel with
 | zero=>
  intro L X μ a w hL hdc hno hf H;refine fin 0 L X μ a w hL hno (fun j hj _=>?_) hf H;apply Classical.byContradiction;intro hx;have:=count_set L j (by have:=T.hm;omega) hx
  omega
 | succ fuel ih=>
  intro L X μ a w hL hdc hno hf H
  by_cases cG:∀j,j<m→E.contains j=false→ex L j
  ·exact fin (fuel+1) L X μ a w hL hno cG hf H
  ·have hex:∃j,j<m∧E.contains j=false∧¬ex L j:=by
    apply Classical.byContradiction;intro h;exact cG fun j hj hE=>Classical.byContradiction fun hx=>h ⟨j,hj,hE,hx⟩
   obtain⟨jE,bB1,bEf,bB2⟩:=hex;have hex:∃j,j<m∧¬ex L j∧∀j',j'<j→ex L j':=by
    have:∃j,j<m∧¬ex L j:=⟨jE,bB1,bB2⟩
    obtain⟨j,h1,h2⟩:=this
    induction j using Nat.strongRecOn with
    | _ j ihj=>
     by_cases h:∀j',j'<j→ex L j'
     ·exact⟨j,h1,h2,h⟩
     ·have:∃j',j'<j∧¬ex L j':=Classical.byContradiction fun h'=>h fun j' hj'=>Classical.byContradiction fun hx=>h' ⟨j',hj',hx⟩
      obtain⟨j',h3,h4⟩:=this;exact ihj j' h3 (by omega) h4
   obtain⟨j0,h1,h2,h3⟩:=hex;obtain⟨o0,E0⟩:=T.ent j0 h1;have hm0:j0∈Region.ready .any all L:=mem_ready.2 ⟨(tQ (by have:=T.hm;omega)).2 h2,o0,E0.ho,fun e he hb=>h3 _ (T.ok.on j0 o0 e E0.ho he hb)⟩
   refine⟨(fun h0=>by rw[h0]at hm0;cases hm0),fun i hi=>?_⟩;obtain⟨h4,oi,hoi,_⟩:=mem_ready.1 hi;obtain⟨h5,h6⟩:=dN h4;have him:i<m:=by
    rcases Nat.lt_or_ge i m with h | h
    ·exact h
    ·exact absurd (eF hdc hi (ok.bar i oi jE hoi h bB1 bEf)) bB2
   obtain⟨o,E'⟩:=T.ent i him;rw[E'.ho]at hoi;injection hoi with hoi;subst hoi
   have aRc:=count_set L i h5 h6
   have iN:∀j,Reach all i j→ex L j:=fun j hx=>eF hdc hi hx
   have HP:=H.psim T him E' iN hdc h6 _ rfl
   have next:∀ow X' μ' v w',cK c (fl (st i) o) X μ w (en i).av (en i).nb ow X' μ' v w'→(bZ o=true→(en i).ow=ow)→(∀f,f∈(en i).kn→f.p X' μ' w')→wpAnyIn c.F 0 c.P .any all (aR c.F c.P c.R k) fuel (L.setIfInBounds i true) (a.put o.dst v) w':=by
    intro ow X' μ' v w' hp how hk;refine ih _ X' μ' _ w' (by simpa using hL) (hdc.set h5 hi) (fun q hq hx=>?_) (by omega) (H.step T him hL E' iN hdc h6 HP hp how hk (fun hs=>H.freshId T him h6 hs))
    rcases(eB h5).1 hx with e | e
    ·omega
    ·exact hno q hq e
   simp only[wpOpIn,E'.ho]
   rcases E'.how with⟨g1,g2,g3,g4,g5⟩ | ⟨g1,ow,g2,g3⟩
   ·rw[if_neg (by rw[cC HP (by rw[rD];exact g1) (fun t ht=>by simp[uV,dO,ht])];simp)];refine⟨fun _ _=>trivial,?_⟩;refine next (fl (st i) o).ow X μ undef w ?_ (fun hc=>?_) (by rw[g4];intro f hf;cases hf)
    ·rw[g2,g3];exact cK.same HP.own (by simp[aC])
    ·rw[g5];simp[fl,hc]
   ·rw[if_pos (cC HP (by rw[rD];exact g1) (fun t ht=>by simp[uV,dO,ht]))];exact g2 X μ a w _ _ HP (fun hs=>by rw[vD];exact H.freshId T him h6 hs) (fun X' μ' v w' hp hk=>next ow X' μ' v w' hp g3 hk)
end
def aT0 (c:Cx)(all:Array Oper)(k:List KI)(E:List Nat)(i:Nat)(S:St)(K:List KF):Prop:=
 zT all i E=true∧∀L:Array Bool,L.size=all.size→(∀j,ex L j→j<i)→(∀j,j<i→E.contains j=false→ex L j)→bD c K (.ord all L::k) (S.dropE all i L)
theorem aIm {c:Cx}(hm:c.P.follows .mixedOrders=true){K:List KF}{id:Nat}{all:Array Oper}{k:List KI}{S:St}{E:List Nat}(h:DPathE c all S.hp.length K E (aT0 c all k E) 0 S K):bD c K (.code (.region id all true)::k) S:=by
 intro X μ a w H;obtain⟨m,en,st,kk,h1,h2,h3,h4,h6,h7,h8⟩:=h.trace;have ok:=aE6 h7
 have T:Tr c all S.hp.length K m en st kk:=⟨fun j hj=>(h4 j (Nat.zero_le _) hj).1,ok.toDrawOk0,h6,by rw[h2.hp],h3⟩
 have hnb:∀j,j<m→E.contains j=true→(en j).nb=none:=fun j hj=>(h4 j (Nat.zero_le _) hj).2
 have no:∀j,¬ex (Array.replicate all.size false) j:=by
  intro j hx;unfold ex at hx;simp[Array.getElem?_replicate]at hx;split at hx<;>cases hx
 refine wpIn_region_any hm (aNw T ok hnb h8 all.size (Array.replicate all.size false) X μ a {w with drawn:=w.drawn+1} (by simp) ?_ ?_ ?_ ?_)
 ·intro j o hx;exact absurd hx (no j)
 ·intro j _ hx;exact absurd hx (no j)
 ·simp
 ·have P:=H.toP
  obtain⟨l,hl⟩:=T.hpPre (i:=0) (j:=m) (by omega) (lRf _);refine⟨P.dfr,P.size,(fun t av _ hlk=>by
   obtain⟨a',q1,q2⟩:=h2.sl t av hlk;obtain⟨v,q3,q4⟩:=P.slots t a' trivial q1;exact⟨v,by rw[←q2 μ];exact q3,q4⟩),fun j _ hx=>absurd hx (no j),?_,P.all,?_,fun j _ hx=>absurd hx (no j),P.inj,P.loc,P.xlt,P.xnew,P.xold,⟨P.bel.os,P.bel.tape,P.bel.output,P.bel.size,P.bel.block⟩,?_,fun j _ hx=>absurd hx (no j),?_,?_⟩
  ·intro k' blk b hk' hmu;have hlt:k'<S.hp.length:=by
    rcases Nat.lt_or_ge k' S.hp.length with h | h
    ·exact h
    ·rw[H.dom k' h]at hmu;cases hmu
   rw[hl,h2.hp,List.getElem?_append_left hlt]at hk';exact Blk.ok_keep (X:=X) (w:=w) (w':={w with drawn:=w.drawn+1}) (Mu.le_refl _) (fun _ h=>h) (fun _ _=>rfl) (fun _ _=>rfl) (P.heap k' blk b hk' hmu)
  ·intro k' b hmu;refine .inl ?_
   rcases Nat.lt_or_ge k' S.hp.length with h | h
   ·exact h
   ·rw[H.dom k' h]at hmu;cases hmu
  ·intro f hf;exact f.st X X μ μ w _ (fun _ h=>h) (Mu.vle_refl _) (fun _ _=>rfl) (P.kf f hf)
  ·intro q hq hqb;have e:(st q).ow=S.ow:=(T.owEq (i:=0) (Nat.zero_le _) hq (fun i _ hi=>ok.nc i (by omega))).trans h2.ow
   rw[e];exact P.own.keep (Mu.le_refl _) (lRf _) (fun _ _=>rfl) (fun b h=>.inl h) (fun k b h=>.inl h)
  ·exact⟨0,Nat.zero_le _,fun j _ _=>⟨fun hx=>absurd hx (no j),fun h=>absurd h (Nat.not_lt_zero _)⟩⟩
section
variable {c:Cx}{P:Program}{ty:Nat→Option TyI}{nt:Nat}{K:List KF}{S:St}
structure DGoal (c:Cx)(all:Array Oper)(n0:Nat)(K0:List KF)(E:List Nat)(k:List KI)(i:Nat)(S:St)(K:List KF):Prop where
 out:DPathE c all n0 K0 E (aT0 c all k E) i S K
theorem aVp (hc:Ctx c P ty nt)(E:List Nat){id:Nat}{all:Array Oper}{k:List KI}(h:DGoal c all S.hp.length K E k 0 S K):Goal c K ⟨.code (.region id all true)::k,S,[]⟩:=
 .mk0 (aIm (hc.hP▸hc.hm) h.out)
def aOv (ty:Nat→Option TyI)(nt:Nat)(all:Array Oper)(n0:Nat)(E:List Nat):Nat→Nat→St→List Obl→Option (Nat × St × List Obl)
 | 0,i,S,ob=>some (i,S,ob)
 | n+1,i,S,ob=>match all[i]? with
  | some o=>if cF nt o.dst&& !bZ o&& !aHn o.op then match guardOf all S.sl o with
   | some true=>match fop ty n0 (fl S o) o.op with
    | some r=>if !E.contains i||r.nb.isNone then aOv ty nt all n0 E n (i+1) (S.put o.dst r.av r.nb) (ob++r.ob)else none
    | none=>none
   | _=>none
   else none
  | none=>none
theorem aBv {all:Array Oper}{n0:Nat}{K0:List KF}{E:List Nat}{k:List KI}:∀(n i:Nat) (S:St) (ob:List Obl) (i':Nat) (S':St) (ob':List Obl),aOv c.ty c.nt all n0 E n i S ob=some (i',S',ob')→hJ ob'→DPathE c all n0 K0 E (aT0 c all k E) i' S' K→hJ ob∧DPathE c all n0 K0 E (aT0 c all k E) i S K
 | 0,i,S,ob,i',S',ob',h,hob,hp=>by
  simp only[aOv,Option.some.injEq,Prod.mk.injEq]at h;obtain⟨rfl,rfl,rfl⟩:=h;exact⟨hob,hp⟩
 | n+1,i,S,ob,i',S',ob',h,hob,hp=>by
  simp only[aOv]at h;split at h
  ·rename_i o ho;split at h
   ·rename_i hd;simp only[Bool.and_eq_true,Bool.not_eq_true']at hd;split at h
    ·rename_i hg;split at h
     ·rename_i r hr;split at h
      ·rename_i hE;obtain⟨h1,h2⟩:=aBv n (i+1) _ _ i' S' ob' h hob hp;obtain⟨h3,h4⟩:=pS.1 h1;refine⟨h3,DPathE.op (ow:=(fl S o).ow) ho hg hd.1.1 hd.1.2 (fun he=>?_) (jN hr h4 (fun t ht=>by simp only[uV,dO,List.mem_append];exact .inl (fA (by simpa using ht)))) (Wk.refl _) h2⟩;rw[he]at hE
       simpa using hE
      ·cases h
     ·cases h
    ·cases h
   ·cases h
  ·cases h
structure DRun (c:Cx)(all:Array Oper)(n0:Nat)(K0:List KF)(E:List Nat)(k:List KI)(K:List KF)(r:Option (Nat × St × List Obl)):Prop where
 out:∀i S ob,r=some (i,S,ob)→hJ ob∧DGoal c all n0 K0 E k i S K
 some:r.isSome=true
theorem bA3 (hc:Ctx c P ty nt)(n:Nat){all:Array Oper}{n0:Nat}{K0:List KF}{E:List Nat}{k:List KI}{i:Nat}(h:DRun c all n0 K0 E k K (aOv ty nt all n0 E n i S [])):DGoal c all n0 K0 E k i S K:=by
 obtain⟨_,h1,h2,_⟩:=hc;subst h1;subst h2;cases hr:aOv c.ty c.nt all n0 E n i S []with
 | none=>have:=h.some;rw[hr]at this;cases this
 | some x=>
  obtain⟨i',S',ob⟩:=x;obtain⟨a,b⟩:=h.out i' S' ob hr;exact⟨(aBv n i S [] i' S' ob hr a b.out).2⟩
theorem bDg {all:Array Oper}{n0:Nat}{K0:List KF}{E:List Nat}{k:List KI}{i:Nat}{ob:List Obl}(h1:hJ ob)(h2:DGoal c all n0 K0 E k i S K):DRun c all n0 K0 E k K (some (i,S,ob)):=
 ⟨fun i' S' ob' h=>by injection h with h;injection h with h3 h;injection h with h4 h5;subst h3;subst h4;subst h5;exact⟨h1,h2⟩,rfl⟩
theorem aX5 {all:Array Oper}{n0:Nat}{K0:List KF}{k:List KI}{i e1 e2:Nat}(hi:i≤all.size)(hd:zT all i [e1,e2]=true)
  (h:∀b1 b2:Bool,Goal c K ⟨.ord all (((firstM all.size i).setIfInBounds e1 b1).setIfInBounds e2 b2)::k,S.dropE all i (((firstM all.size i).setIfInBounds e1 b1).setIfInBounds e2 b2),[]⟩) (h12:e1<e2) (h2i:e2<i):DGoal c all n0 K0 [e1,e2] k i S K:=by
 refine⟨.stop hi ⟨hd,fun L hL h1 h2=>?_⟩⟩;have e:L=((firstM all.size i).setIfInBounds e1 (L.getD e1 false)).setIfInBounds e2 (L.getD e2 false):=by
  have hsz:(firstM all.size i).size=all.size:=by simp[firstM]
  refine aV3 (by simp[hL,hsz]) (fun j=>?_);unfold ex;have hg:∀(A:Array Bool) (p q:Nat) (b:Bool),p<A.size→(A.setIfInBounds p b).getD q false=if p=q then b else A.getD q false:=fun A p q b hp=>by
   simp only[Array.getD_eq_getD_getElem?,Array.getElem?_setIfInBounds]
   by_cases e:p=q
   ·subst e;rw[if_pos rfl,if_pos rfl,if_pos hp];rfl
   ·rw[if_neg e,if_neg e]
  rw[hg _ _ _ _ (by simp[hsz];omega),hg _ _ _ _ (by rw[hsz];omega)]
  by_cases q2:e2=j
  ·subst q2;rw[if_pos rfl]
  ·rw[if_neg q2]
   by_cases q1:e1=j
   ·subst q1;rw[if_pos rfl]
   ·rw[if_neg q1];have hf:=aDp (n:=all.size) (m:=i) (j:=j) hi
    unfold ex at hf;rw[hf];refine⟨fun hx=>h1 j hx,fun hx=>h2 j hx ?_⟩;simp only[List.contains_cons,List.contains_nil,Bool.or_false,Bool.or_eq_false_iff,beq_eq_false_iff_ne];exact⟨fun h=>q1 h.symm,fun h=>q2 h.symm⟩
 have:=(h (L.getD e1 false) (L.getD e2 false)).so
 rw[←e]at this;exact this
end
end Go.Ai
namespace Go.Ai
open Go Go.Proofs Go.Num Go.Lib
theorem aP0:aB PP 82:=zK
theorem aF8:(PP.info? 5).map (·.bytes)=some 1:=by kernel_rfl
theorem aKr {c:Cx}{P:Program}{ty:Nat→Option TyI}{nt:Nat}{K:List KF}{S:St}(hc:Ctx c P ty nt){all:Array Oper}{i:Nat}{k:List KI}(o:Oper)(ho:all[i]?=some o)(hg:guardOf all S.sl o=some true)(hd:cF nt o.dst=true){src dst e j N cap:Nat}{x:Operand}{l:List Int}{bs:List UInt8}
  (hop:o.op=.convert src dst x) (hx:fG S.sl x=some (.sl j 0 (.n N) cap)) (hj:S.hp[j]?=some (.w e .u8 l)) (hN:N=l.length) (h0:0<N) (hs:P.underlying src=some (.slice e)) (he:P.underlying e=some (.int .u8)) (hdd:P.underlying dst=some .string) (hb:l=bs.map fun c=>((c.toNat:Nat):Int)) {tx:ByteArray} (htx:tx=⟨bs.toArray⟩)
  (h:Goal c K ⟨.ops all (i+1)::k,S.put o.dst (.s (.v tx)) none,[]⟩):Goal c K ⟨.ops all i::k,S,[]⟩:=by
 subst htx;refine aSv hc o ho hg hd _ (fun X μ a w H=>⟨_,?_,rfl⟩) h;have P':=H.toP
 have e1:=aI P' hx (fun _ _=>trivial)
 obtain⟨b,o1,hb1,e2⟩:=mG e1 (by simp only[IE.den];omega);obtain⟨m,hm1,hm2⟩:=vS hb1;have hok:=P'.heap j _ m hj hm1
 match m,hm2,hok,hm1 with
 | .own b',hm2,⟨rest,hok⟩,hm1=>
  simp only[MV.at,Option.some.injEq,Prod.mk.injEq]at hm2;obtain⟨rfl,rfl⟩:=hm2;have hl:bs.length=N:=by rw[hN,hb];simp
  have key:=run_convert_bytes_back (P:=P) w src dst e ⟨b',0+0,none⟩ cap bs hs he hdd (fun q hq=>by
   have hq2:((l.map (Value.int .u8)++rest).toArray)[q]?=some (.int .u8 (bs[q].toNat:Int)):=by
    rw[List.getElem?_toArray,List.getElem?_append_left (by simp;omega),hb];simp[hq]
   simp[add_eq,World.cell?,hok,hq2])
  have e2:a.eval x=.slice (some ⟨b',0+0,none⟩) bs.length cap:=by rw[e2,hl];rfl
  simp only[execOp,hop,e2,Sem.run_bind,key,Result.andThen_ok,Sem.run_pure]
  rfl
structure ToX where
 a:Option Addr
 cap:Nat
 k:Nat
 out:List Int
set_option maxHeartbeats 8000000 in
theorem oTo {v : Value} {X : Nat → Prop} {w : World} {n : Nat} (hbn : (aF n).length ≤ 2 ^ 38) (hX : ∀ b, X b → b < w.heap.size) (hv : (aP n).p v X w) :
    Fn PP 82 [v] X w (dJ (.string (aK n))) := by
  obtain ⟨R, hRR⟩ : ∃ R, R = dJ (.string (aK n)) := ⟨_, rfl⟩;obtain ⟨K, hK⟩ : ∃ K, K = [KF.cst v (aP n)] := ⟨_, rfl⟩;rw [← hRR];refine bE mixed tok [.q v] (K := K) Tryz.func82 rfl rfl (lbl rfl) rfl hX (by subst hK; simp; exact hv) fun c hc hR => ?_
  refine dQ 0 .u32 (aF n) rfl rfl (fun X μ a w v' H hv' => cE H (by simp [hK]) hv') fun f N cap hN hf dI => ?_
  have kf : ∀ q, lC q K K := fun q => by subst hK; exact ⟨⟨.head _, KFr.cst _ _ _⟩, trivial⟩
  have dA : ∀ (kd : IntKind) (e : IE) (z : Int), e.den = z → lo kd ≤ z ∧ z ≤ hi kd → (Obl.inR kd e).ok := fun kd e z he hz => by show _ ∧ _; rw [he]; exact hz
  obtain ⟨G, hG⟩ : ∃ G : Option Addr → Nat → Nat → List Int → OF, ∀ a n cap l, G a n cap l = OF.row (.slice a n cap) c.B.heap.size 5 .u8 l := ⟨fun a n cap l => OF.row (.slice a n cap) c.B.heap.size 5 .u8 l, fun _ _ _ _ => rfl⟩
  refine zN hc ?_; cbv;refine aE hc rfl 100 (fun h => ?_) (fun h => ?_)
  · have h0 : N = 0 := by have := of_decide_eq_true (show decide ((N : Int) = 0) = true from h); omega
    have hn0 : n = 0 := sB (by omega)
    cbv;refine aS hc hR rfl (fun X μ a w v H hv => ?_)
    rw [hRR, hn0];have hv := dH hv
    rw [hv];show Value.string _ = Value.string (aK 0)
    unfold aK; rw [aJp]; rfl
  have hN0 : 0 < N := by have := of_decide_eq_false (show decide ((N : Int) = 0) = false from h); omega
  refine aBy hG rfl ?_;refine zN hc ?_; cbv
  let ι := { x : Nat × ToX // Tx n N x.1 x.2.out ∧ x.2.k = x.2.out.length ∧ x.1 ≤ N }
  let I : ι → St := fun x => ⟨[(0, .sl 0 0 (.n N) cap), (3, .xs x.1.2.a x.1.2.k x.1.2.cap), (4, .i .i64 (.n x.1.1))], [.xi .u32 N f], [G x.1.2.a x.1.2.k x.1.2.cap x.1.2.out]⟩
  let x0 : ι := ⟨(0, ⟨none, 0, 0, []⟩), .inl ⟨hN0, rfl⟩, rfl, Nat.zero_le _⟩
  have kof : ∀ a i cp out, aEj 1 [G a i cp out] := fun a i cp out => ⟨by rw [hG]; exact OFr.row _ _ _ _ _ _, trivial⟩
  refine eG 1 (S' := I x0) (K' := K) rfl rfl (lRf 1) rfl rfl ⟨⟨_, rfl, rfl, fun _ => rfl⟩, ⟨_, rfl, rfl, fun _ => rfl⟩, ⟨_, rfl, rfl, fun _ => rfl⟩, trivial⟩ (kf _) (kof _ _ _ _) ?_
  refine bP hc I (fun x => N - x.1.1) x0 100 ?_
  rintro p ⟨⟨i, a, cp, k0, out⟩, hT, hk0, hiN⟩ hy;simp only at hT hk0 hiN;cbv;refine aE hc rfl 100 (fun h => ?_) (fun h => ?_)
  · have bBz : i < N := BE.ltn_t h
    have hga := bB (bK n) i
    obtain ⟨ga, jY⟩ : ∃ ga, ga = (aF n).getD i 0 := ⟨_, rfl⟩;rw [← jY] at hga;have hix : aX 0 (IE.n i).den 1 0 = i := by simp only [aX, IE.den]; omega
    have g1 : (IE.fn f 0 (IE.n i) 1 0).den = ga := by show f (aX 0 (IE.n i).den 1 0) = ga; rw [hix, jY]; exact jR hf (by omega)
    have o1 : (Obl.ltE (IE.n i) (IE.n N)).ok := by show _ ∧ _; simp only [IE.den]; omega
    have o2 : (Obl.ix 0 (IE.n i) 1 0 1 N).ok := by show _ ≤ _; rw [hix]; omega
    let κ := { x : Nat × Int × ToX // Ty n N i x.1 x.2.1 x.2.2.out ∧ x.2.2.k = x.2.2.out.length }
    let J : κ → St := fun x => ⟨[(0, .sl 0 0 (.n N) cap), (3, .xs x.1.2.2.a x.1.2.2.k x.1.2.2.cap), (4, .i .i64 (.n i)), (5, .i .u32 (.v x.1.2.1)), (6, .i .i64 (.n x.1.1))], [.xi .u32 N f], [G x.1.2.2.a x.1.2.2.k x.1.2.2.cap x.1.2.2.out]⟩
    let y0 : κ := ⟨(0, ga, ⟨a, cp, k0, out⟩), Ty.init hT bBz jY, hk0⟩
    cbv;refine aQ hc ⟨o1, o2, trivial⟩ ?_;refine eG 1 (S' := J y0) (K' := K) rfl rfl (lRf 1) rfl rfl ⟨⟨_, rfl, rfl, fun _ => rfl⟩, ⟨_, rfl, rfl, fun _ => rfl⟩, ⟨_, rfl, rfl, fun _ => rfl⟩, ⟨_, rfl, rfl, fun μ => congrArg (fun z => some (Value.int .u32 z)) g1⟩, ⟨_, rfl, rfl, fun _ => rfl⟩, trivial⟩ (kf _) (kof _ _ _ _) ?_
    refine bP hc J (fun x => 9 - x.1.1) y0 100 ?_
    rintro p2 ⟨⟨k, wd, a, cp, k0, out⟩, hY, hk0⟩ hyk;simp only at hY hk0;have hk9 := hY.hk
    have hwb : 0 ≤ wd ∧ wd < 1000000000 := by
      have h1 := hY.w
      have hb : n / 1000000000 ^ i % 1000000000 / 10 ^ k < 1000000000 := Nat.lt_of_le_of_lt (Nat.div_le_self _ _) (Nat.mod_lt _ (by decide))
      generalize n / 1000000000 ^ i % 1000000000 / 10 ^ k = W at *;omega
    have hol : out.length ≤ 9 * N := by
      rw [hY.out, sF]; omega
    obtain ⟨i', hi'⟩ : ∃ i', i' = i + 1 := ⟨_, rfl⟩;have hi1 : ((IE.n i).add (IE.l 1)).den = (IE.n i').den := by simp only [IE.den, hi']; omega
    have oi : (Obl.inR .i64 ((IE.n i).add (IE.l 1))).ok := by show lo _ ≤ _ ∧ _ ≤ hi _; simp only [lo, hi, IE.den]; omega
    have hmi : N - i' < N - i := by omega
    have rE : k = 9 ∨ (i + 1 = N ∧ wd = 0) → Tx n N i' out := fun h => by rw [hi']; exact hY.done hN.symm h
    have aCj : i' ≤ N := by omega
    have hlb : (out.length + 1) * 1 ≤ 140737488355328 := by omega
    have aCk : out.length + 1 ≤ 9223372036854775807 := by omega
    obtain ⟨k', hk'⟩ : ∃ k', k' = k + 1 := ⟨_, rfl⟩;obtain ⟨w', hw'⟩ : ∃ w', w' = wd / 10 := ⟨_, rfl⟩;have hst : k < 9 → i + 1 < N ∨ 0 < wd → Ty n N i (k + 1) w' (out ++ [48 + wd % 10]) := fun h1 h2 => by rw [hw']; exact (hY.step hN.symm h1 h2).1
    have er : (IE.rem (.v wd) (.l 10)).den = wd % 10 := by show wd.tmod 10 = _; rw [Int.tmod_eq_emod_of_nonneg hwb.1]
    have e8 : (IE.add (.l 48) (.rem (.v wd) (.l 10))).den = 48 + wd % 10 := by show 48 + (IE.rem (.v wd) (.l 10)).den = _; rw [er]
    have ew : (IE.quo (.v wd) (.l 10)).den = (IE.v w').den := by show wd.tdiv 10 = w'; rw [Int.tdiv_eq_ediv_of_nonneg hwb.1, hw']
    have hk1 : ((IE.n k).add (IE.l 1)).den = (IE.n k').den := by simp only [IE.den, hk']; omega
    have p1 : (Obl.nz (IE.l 10)).ok := by show _ ≠ _; simp [IE.den]
    have p2 := dA .u32 _ _ e8 (by simp only [lo, hi]; omega)
    have p3 := dA .u8 _ _ e8 (by simp only [lo, hi]; omega)
    have p4 : (Obl.inR .i64 ((IE.n k).add (IE.l 1))).ok := by show lo _ ≤ _ ∧ _ ≤ hi _; simp only [lo, hi, IE.den]; omega
    have p5 := dA .u32 _ _ ew (by show lo _ ≤ w' ∧ w' ≤ hi _; simp only [lo, hi]; omega)
    have p6 := dA .u32 _ _ er (by simp only [lo, hi]; omega)
    have e1N : (BE.lt (.add (.n i) (.l 1)) (.n N)).den = decide (i + 1 < N) := by
      show decide (((i : Int) + 1) < (N : Int)) = _
      exact decide_eq_decide.2 (by omega)
    cbv;refine bT hc 24 rfl rfl 100 (fun h => ?_) (fun h => ?_)
    · have hk : k < 9 := by have := of_decide_eq_true (show decide ((k : Int) < 9) = true from h); omega
      have hst := hst hk
      have hmk : 9 - k' < 9 - k := by omega
      cbv;refine zO hc ?_
      refine bT hc 30 rfl rfl 100 (fun h => ?_) (fun h => ?_)
      · have hcc : i + 1 < N ∨ 0 < wd := .inl (of_decide_eq_true (e1N.symm.trans h))
        cbv;refine zO hc ?_
        refine mX hc _ rfl rfl rfl hG rfl rfl rfl rfl rfl rfl rfl rfl rfl aF8 hlb aCk (fun a' n' aZ l' hn' hl' => ?_)
        have hl' : l' = out ++ [48 + wd % 10] := by rw [hl', e8]
        have hst := hst hcc
        rw [← hl', ← hk'] at hst;have hn' : n' = l'.length := by rw [hn', hl', List.length_append]; rfl
        refine zN hc ?_; cbv;refine zO hc ?_
        exact eG 1 (S' := J ⟨(k', w', ⟨a', aZ, n', l'⟩), hst, hn'⟩) (K' := K) rfl rfl (lbl rfl) rfl rfl ⟨⟨_, rfl, rfl, fun _ => rfl⟩, ⟨_, rfl, rfl, fun _ => rfl⟩, ⟨_, rfl, rfl, fun _ => rfl⟩, ⟨_, rfl, rfl, fun μ => congrArg (fun z => some (Value.int .u32 z)) ew⟩, ⟨_, rfl, rfl, fun μ => congrArg (fun z => some (Value.int .i64 z)) hk1⟩, (by repeat (first | exact trivial | refine ⟨⟨_, rfl, rfl, fun _ => rfl⟩, ?_⟩))⟩ (kf _) (kof _ _ _ _) (hyk ⟨(k', w', ⟨a', aZ, n', l'⟩), hst, hn'⟩ hmk)
      · have h : ¬ i + 1 < N := of_decide_eq_false (e1N.symm.trans h)
        cbv;refine aE hc rfl 100 (fun h2 => ?_) (fun h2 => ?_)
        · have hcc : i + 1 < N ∨ 0 < wd := .inr (BE.lt_t h2)
          cbv;refine zO hc ?_
          refine mX hc _ rfl rfl rfl hG rfl rfl rfl rfl rfl rfl rfl rfl rfl aF8 hlb aCk (fun a' n' aZ l' hn' hl' => ?_)
          have hl' : l' = out ++ [48 + wd % 10] := by rw [hl', e8]
          have hst := hst hcc
          rw [← hl', ← hk'] at hst;have hn' : n' = l'.length := by rw [hn', hl', List.length_append]; rfl
          refine zN hc ?_; cbv;refine zO hc ?_
          exact eG 1 (S' := J ⟨(k', w', ⟨a', aZ, n', l'⟩), hst, hn'⟩) (K' := K) rfl rfl (lbl rfl) rfl rfl ⟨⟨_, rfl, rfl, fun _ => rfl⟩, ⟨_, rfl, rfl, fun _ => rfl⟩, ⟨_, rfl, rfl, fun _ => rfl⟩, ⟨_, rfl, rfl, fun μ => congrArg (fun z => some (Value.int .u32 z)) ew⟩, ⟨_, rfl, rfl, fun μ => congrArg (fun z => some (Value.int .i64 z)) hk1⟩, (by repeat (first | exact trivial | refine ⟨⟨_, rfl, rfl, fun _ => rfl⟩, ?_⟩))⟩ (kf _) (kof _ _ _ _) (hyk ⟨(k', w', ⟨a', aZ, n', l'⟩), hst, hn'⟩ hmk)
        · have h2 : ¬ 0 < wd := BE.lt_f h2
          have hd := rE (.inr ⟨by omega, by omega⟩)
          cbv;refine zO hc ?_
          exact eG 1 (S' := I ⟨(i', ⟨a, cp, k0, out⟩), hd, hk0, aCj⟩) (K' := K) rfl rfl (lbl rfl) rfl rfl ⟨⟨_, rfl, rfl, fun _ => rfl⟩, ⟨_, rfl, rfl, fun _ => rfl⟩, ⟨_, rfl, rfl, fun μ => congrArg (fun z => some (Value.int .i64 z)) hi1⟩, (by repeat (first | exact trivial | refine ⟨⟨_, rfl, rfl, fun _ => rfl⟩, ?_⟩))⟩ (kf _) (kof _ _ _ _) (hy ⟨(i', ⟨a, cp, k0, out⟩), hd, hk0, aCj⟩ hmi)
    · have hk : k = 9 := by have := of_decide_eq_false (show decide ((k : Int) < 9) = false from h); omega
      have hd := rE (.inl hk)
      cbv;refine zO hc ?_
      exact eG 1 (S' := I ⟨(i', ⟨a, cp, k0, out⟩), hd, hk0, aCj⟩) (K' := K) rfl rfl (lbl rfl) rfl rfl ⟨⟨_, rfl, rfl, fun _ => rfl⟩, ⟨_, rfl, rfl, fun _ => rfl⟩, ⟨_, rfl, rfl, fun μ => congrArg (fun z => some (Value.int .i64 z)) hi1⟩, (by repeat (first | exact trivial | refine ⟨⟨_, rfl, rfl, fun _ => rfl⟩, ?_⟩))⟩ (kf _) (kof _ _ _ _) (hy ⟨(i', ⟨a, cp, k0, out⟩), hd, hk0, aCj⟩ hmi)
  · have bBz : ¬ i < N := fun h' => by have := BE.lt_f h; exact this (Int.ofNat_lt.2 h')
    have hT : Tx n N N out := by have e : i = N := by omega
                                 rw [e] at hT; exact hT
    obtain ⟨d1, d2, d3, d4⟩ := hT.done;have hne : out ≠ [] := fun e => by rw [e] at d2; simp at d2
    obtain ⟨q0, hq0⟩ : ∃ q0, q0 + 1 = k0 := ⟨k0 - 1, by omega⟩
    have eq0 : ((IE.n k0).sub (IE.l 1)).den = (IE.n q0).den := by simp only [IE.den]; omega
    have o1 : (Obl.inR .i64 ((IE.n k0).sub (IE.l 1))).ok := by show lo _ ≤ _ ∧ _ ≤ hi _; simp only [lo, hi, IE.den]; omega
    have hql : q0 + 0 + 1 = out.length := by omega
    have bDp : out.length ≤ 2 ^ 42 := by omega
    cbv;refine zO hc ?_
    refine aKt 3 rfl rfl (hG _ _ _ _) rfl hne (fun Lo hLo bFx => ?_)
    rw [← hLo] at hql bDp;let κ2 := { x : Nat × Nat × List Int // Sw out x.2.2 x.1 ∧ x.2.1 + x.1 + 1 = Lo }
    let H : κ2 → St := fun x => ⟨[(3, .sl 1 0 (.n Lo) cp), (7, .i .i64 (.n x.1.1)), (8, .i .i64 (.n x.1.2.1))], [.xi .u32 N f, .w 5 .u8 x.1.2.2], []⟩
    let z0 : κ2 := ⟨(0, q0, out), Sw.init out, hql⟩
    refine eG 2 (S' := H z0) (K' := K) rfl rfl (lRf 2) rfl rfl ⟨⟨_, rfl, rfl, fun _ => rfl⟩, ⟨_, rfl, rfl, fun _ => rfl⟩, ⟨_, rfl, rfl, fun μ => congrArg (fun z => some (Value.int .i64 z)) eq0⟩, trivial⟩ (kf _) trivial ?_
    refine bP hc H (fun x => Lo - x.1.1) z0 100 ?_
    rintro p3 ⟨⟨i, q, l⟩, hS, hq⟩ hyz;simp only at hS hq;have hll : l.length = Lo := by rw [hS.len, hLo]
    cbv;refine aE hc rfl 3 (fun h => ?_) (fun h => ?_)
    · have hiq : i < q := BE.ltn_t h
      have ixi : aX 0 (IE.n i).den 1 0 = i := by simp only [aX, IE.den]; omega
      have ixq : aX 0 (IE.n q).den 1 0 = q := by simp only [aX, IE.den]; omega
      have z1 : (Obl.ltE (IE.n i) (IE.n Lo)).ok := by show _ ∧ _; simp only [IE.den]; omega
      have z2 : (Obl.ltE (IE.n q) (IE.n Lo)).ok := by show _ ∧ _; simp only [IE.den]; omega
      have z3 : (Obl.ixL 0 (IE.n i) 1 0 l).ok := by show _ < _; rw [ixi]; omega
      have z4 : (Obl.ixL 0 (IE.n q) 1 0 l).ok := by show _ < _; rw [ixq]; omega
      have aY0 : aX 0 (IE.n i).den 1 0 < l.length := by rw [ixi]; omega
      obtain ⟨l1, hl1⟩ : ∃ l1, l1 = l.set (aX 0 (IE.n i).den 1 0) (IE.nth l 0 (IE.n q) 1 0).den := ⟨_, rfl⟩;have aY1 : aX 0 (IE.n q).den 1 0 < l1.length := by rw [hl1, List.length_set, ixq]; omega
      obtain ⟨l2, hl2⟩ : ∃ l2, l2 = l1.set (aX 0 (IE.n q).den 1 0) (IE.nth l 0 (IE.n i) 1 0).den := ⟨_, rfl⟩;have hst : Sw out l2 (i + 1) := by
        have h := hS.step (k := q) (by omega) hiq
        have e1 : (IE.nth l 0 (IE.n q) 1 0).den = l.getD q 0 := by show l.getD (aX 0 (IE.n q).den 1 0) 0 = _; rw [ixq]
        have e2 : (IE.nth l 0 (IE.n i) 1 0).den = l.getD i 0 := by show l.getD (aX 0 (IE.n i).den 1 0) 0 = _; rw [ixi]
        rw [hl2, hl1, e1, e2, ixi, ixq];exact h
      obtain ⟨i', hi'⟩ : ∃ i', i' = i + 1 := ⟨_, rfl⟩;obtain ⟨q', hq'⟩ : ∃ q', q' + 1 = q := ⟨q - 1, by omega⟩
      rw [← hi'] at hst;have hq2 : q' + i' + 1 = Lo := by omega
      have hmz : Lo - i' < Lo - i := by omega
      have ei : ((IE.n i).add (IE.l 1)).den = (IE.n i').den := by simp only [IE.den, hi']; omega
      have eq : ((IE.n q).sub (IE.l 1)).den = (IE.n q').den := by simp only [IE.den]; omega
      have oi : (Obl.inR .i64 ((IE.n i).add (IE.l 1))).ok := by show lo _ ≤ _ ∧ _ ≤ hi _; simp only [lo, hi, IE.den]; omega
      have oq : (Obl.inR .i64 ((IE.n q).sub (IE.l 1))).ok := by show lo _ ≤ _ ∧ _ ≤ hi _; simp only [lo, hi, IE.den]; omega
      cbv;refine aVp hc [2, 3] ?_;refine bA3 hc 12 ?_; cbv
      refine bDg (by repeat (first | exact trivial | refine ⟨by assumption, ?_⟩)) ?_
      refine aX5 (by decide) (by kernel_rfl) (fun b1 b2 => ?_) (by decide) (by decide)
      cases b1 <;> cases b2 <;> cbv
      all_goals repeat' (first
        | refine aQ hc ⟨by assumption, trivial⟩ ?_
        | (refine gE hc _ rfl rfl (r := (1, 5, .u8, l, aX 0 (IE.n i).den 1 0, .nth l 0 (.n q) 1 0)) rfl aY0 (fun l' hl' => ?_); have e : l1 = l' := hl1.trans hl'.symm; subst e; refine jA hc 1 ?_; cbv)
        | (refine gE hc _ rfl rfl (r := (1, 5, .u8, l1, aX 0 (IE.n q).den 1 0, .nth l 0 (.n i) 1 0)) rfl aY1 (fun l' hl' => ?_); have e : l2 = l' := hl2.trans hl'.symm; subst e; refine jA hc 1 ?_; cbv)
        | (refine xU (by decide +kernel) rfl ?_
           refine zN hc ?_; cbv;refine zO hc ?_
           exact eG 2 (S' := H ⟨(i', q', l2), hst, hq2⟩) (K' := K) rfl rfl (lRf 2) rfl rfl ⟨⟨_, rfl, rfl, fun _ => rfl⟩, ⟨_, rfl, rfl, fun μ => congrArg (fun z => some (Value.int .i64 z)) ei⟩, ⟨_, rfl, rfl, fun μ => congrArg (fun z => some (Value.int .i64 z)) eq⟩, trivial⟩ (kf _) trivial (hyz ⟨(i', q', l2), hst, hq2⟩ hmz))
        | (refine bV [2, 3, 12] (by decide +kernel) rfl (fun i hi => ?_); simp only [List.mem_cons, List.not_mem_nil, or_false] at hi; rcases hi with rfl | rfl | rfl <;> (refine ⟨_, rfl, rfl, ?_⟩; refine jA hc 2 ?_; cbv))
        | (refine bV [2, 12] (by decide +kernel) rfl (fun i hi => ?_); simp only [List.mem_cons, List.not_mem_nil, or_false] at hi; rcases hi with rfl | rfl <;> (refine ⟨_, rfl, rfl, ?_⟩; refine jA hc 2 ?_; cbv))
        | (refine bV [3, 12] (by decide +kernel) rfl (fun i hi => ?_); simp only [List.mem_cons, List.not_mem_nil, or_false] at hi; rcases hi with rfl | rfl <;> (refine ⟨_, rfl, rfl, ?_⟩; refine jA hc 2 ?_; cbv))
        | (refine bV [12] (by decide +kernel) rfl (fun i hi => ?_); obtain rfl := List.mem_singleton.1 hi; refine ⟨_, rfl, rfl, ?_⟩; refine jA hc 2 ?_; cbv)
        | (refine bV [2, 3, 13] (by decide +kernel) rfl (fun i hi => ?_); simp only [List.mem_cons, List.not_mem_nil, or_false] at hi; rcases hi with rfl | rfl | rfl <;> (refine ⟨_, rfl, rfl, ?_⟩; refine jA hc 2 ?_; cbv))
        | (refine bV [2, 13] (by decide +kernel) rfl (fun i hi => ?_); simp only [List.mem_cons, List.not_mem_nil, or_false] at hi; rcases hi with rfl | rfl <;> (refine ⟨_, rfl, rfl, ?_⟩; refine jA hc 2 ?_; cbv))
        | (refine bV [3, 13] (by decide +kernel) rfl (fun i hi => ?_); simp only [List.mem_cons, List.not_mem_nil, or_false] at hi; rcases hi with rfl | rfl <;> (refine ⟨_, rfl, rfl, ?_⟩; refine jA hc 2 ?_; cbv))
        | (refine bV [13] (by decide +kernel) rfl (fun i hi => ?_); obtain rfl := List.mem_singleton.1 hi; refine ⟨_, rfl, rfl, ?_⟩; refine jA hc 2 ?_; cbv)
        | (refine bV [2, 3] (by decide +kernel) rfl (fun i hi => ?_); simp only [List.mem_cons, List.not_mem_nil, or_false] at hi; rcases hi with rfl | rfl <;> (refine ⟨_, rfl, rfl, ?_⟩; refine jA hc 2 ?_; cbv))
        | (refine bV [2] (by decide +kernel) rfl (fun i hi => ?_); obtain rfl := List.mem_singleton.1 hi; refine ⟨_, rfl, rfl, ?_⟩; refine jA hc 2 ?_; cbv)
        | (refine bV [3] (by decide +kernel) rfl (fun i hi => ?_); obtain rfl := List.mem_singleton.1 hi; refine ⟨_, rfl, rfl, ?_⟩; refine jA hc 2 ?_; cbv)
        | (refine bV [14] (by decide +kernel) rfl (fun i hi => ?_); obtain rfl := List.mem_singleton.1 hi; refine ⟨_, rfl, rfl, ?_⟩; refine jA hc 2 ?_; cbv)
        | (refine bV [15] (by decide +kernel) rfl (fun i hi => ?_); obtain rfl := List.mem_singleton.1 hi; refine ⟨_, rfl, rfl, ?_⟩; refine jA hc 2 ?_; cbv))
    · have hiq : q ≤ i := BE.ltn_f h
      have bEv : l = out.reverse := hS.done (by omega)
      have hLp : 0 < Lo := by omega
      have hbs : l = (decDigits n).map fun c => ((c.toNat : Nat) : Int) := by rw [bEv, d1]
      have hLl : Lo = l.length := hll.symm
      have hu1 : PP.underlying 189 = some (.slice 5) := by kernel_rfl
      have hu2 : PP.underlying 5 = some (.int .u8) := by kernel_rfl
      have hu3 : PP.underlying 9 = some .string := by kernel_rfl
      refine zN hc ?_; cbv;obtain ⟨tx, htx⟩ : ∃ tx : ByteArray, tx = ⟨(decDigits n).toArray⟩ := ⟨_, rfl⟩;refine aKr hc _ rfl rfl rfl rfl rfl rfl hLl hLp hu1 hu2 hu3 hbs htx ?_;refine zN hc ?_; cbv
      refine aS hc hR rfl (fun X μ a w v H hv => ?_)
      have hv := dH hv
      rw [hRR, hv];show Value.string tx = Value.string (aK n)
      rw [htx]; rfl
end Go.Ai
namespace Go.Ai
open Go Go.Proofs Go.Num
abbrev qI (q:Rat):RV1:=qR (decide (q.num<0)) q.num.natAbs q.den
theorem bAy:aB PP 81:=zK
theorem zTo {z:Int}(hb:(aF z.natAbs).length≤2^38)(hs:dl z.natAbs≤2^60):yY PP 81 [zIt z] (.sg (.one (.s (.v (aU z))))):=by
 obtain⟨n,hn⟩:=nm (z.natAbs);have hz:aU z=if decide (z<0)=true then⟨#[45]⟩++aK n else aK n:=by
  apply jH;rw[cQ,hn];unfold Lib.itoa;split
  ·rename_i h;rw[decide_eq_true h,if_pos rfl,fJ,cM];rfl
  ·rename_i h;rw[decide_eq_false h,if_neg (by simp),cM];congr 1;omega
 have hsz:(aK n).size≤2^60:=by rw[eR,hn];exact hs
 obtain⟨R1,hR1⟩:∃R,R=aP n:=⟨_,rfl⟩;have hto:∀{v:Value} {X:Nat→Prop} {w:World},(∀b,X b→b<w.heap.size)→R1.p v X w→Fn PP 82 [v] X w (dJ (.string (aK n))):=fun hX h=>by
  rw[hR1]at h;exact oTo (by rw[hn];exact hb) hX h
 unfold zIt;rw[←hn];generalize decide (z<0)=b at hz ⊢;generalize aU z=r at hz ⊢;generalize aK n=s at hz hsz hto;have o1:(Obl.cat (.v ⟨#[45]⟩) (.v s)).ok:=by show((1+s.size:Nat):Int)≤_;omega
 have hzr:zR b n=.agg [.b (.l b),.x R1]:=by rw[hR1];rfl
 obtain⟨F,hF⟩:=nm (wA (.sg (zR b n)));rw[hzr]at hF ⊢;refine oA mixed tok Tryz.func81 rfl (by rfl) rfl [F] ⟨hF,trivial⟩ fun c G hG hc hR=>?_
 obtain⟨K,hK⟩:=nm (xL 0 [F]);rw[←hK];have m1:KF.at 0 F∈K:=by rw[hK];exact .head _
 cases b with
 | true=>
  rw[if_pos rfl]at hz;refine zN hc ?_;cbv;refine bL hc (.s (.v s)) aP0 (fun n0 D X μ a w aL H aJ=>?_) rfl 100 ?_
  ·obtain⟨v,rfl,e1⟩:=aV aJ;exact hto H.xlt (((eH.ec (c:=.x R1) (F:=F) m1 hF rfl).ok H.kf e1).2)
  cbv;refine aQ hc ⟨o1,trivial⟩ ?_;exact iP hc hG hR rfl (.s (by rw[hz];rfl))
 | false=>
  rw[if_neg (by simp)]at hz;refine zN hc ?_;cbv;refine bL hc (.s (.v s)) aP0 (fun n0 D X μ a w aL H aJ=>?_) rfl 100 ?_
  ·obtain⟨v,rfl,e1⟩:=aV aJ;exact hto H.xlt (((eH.ec (c:=.x R1) (F:=F) m1 hF rfl).ok H.kf e1).2)
  cbv;exact iP hc hG hR rfl (.s (by rw[hz]))
theorem aLq:aB PP 36:=zK
theorem qTo {q:Rat}(hb:(aF q.num.natAbs).length≤2^38)(hd:(aF q.den).length≤2^38)(hs:sz q≤2^58):yY PP 36 [qI q] (.sg (.one (.s (.v (aA q))))):=by
 have hs1:dl q.num.natAbs≤2^58:=lTr (Nat.le_max_left _ _) hs
 have hs2:dl q.den≤2^58:=lTr (Nat.le_max_right _ _) hs
 have kz:=zTo (z:=q.num) hb (by omega)
 have hq:aA q=if q.den=1 then aU q.num else(aU q.num++⟨#[47]⟩)++aK q.den:=rfl
 have hz1:(aU q.num).size≤2^59:=lTr (kV q.num) (by omega)
 have hz2:(aK q.den).size≤2^59:=by rw[eR];omega
 have mJ:q.den=1↔aK q.den=⟨#[49]⟩:=by
  constructor
  ·intro h;rw[h];unfold aK;rw[aUm]
  ·intro h;exact aTi (h.trans (by unfold aK;rw[aUm]))
 obtain⟨n,hn⟩:=nm (q.num.natAbs);obtain⟨d,hd'⟩:=nm (q.den);obtain⟨R1,hR1⟩:∃R,R=aP n:=⟨_,rfl⟩;obtain⟨R2,hR2⟩:∃R,R=aP d:=⟨_,rfl⟩;have hto:∀{v:Value} {X:Nat→Prop} {w:World},(∀b,X b→b<w.heap.size)→R2.p v X w→Fn PP 82 [v] X w (dJ (.string (aK d))):=fun hX h=>by
  rw[hR2]at h;exact oTo (by rw[hd'];exact hd) hX h
 unfold qI;unfold zIt at kz;rw[←hn,←hd'];rw[←hn]at kz;rw[←hd']at hq hz2 mJ;generalize decide (q.num<0)=b at kz ⊢;generalize aA q=r at hq ⊢;generalize aU q.num=s at kz hq hz1;generalize aK d=t at hto hq hz2 mJ;have hzr:zR b n=.agg [.b (.l b),.x R1]:=by rw[hR1];rfl
 have hqr:qR b n d=.agg [.b (.l b),.x R1,.x R2]:=by rw[hR1,hR2];rfl
 obtain⟨F,hF⟩:=nm (wA (.sg (qR b n d)));rw[hqr]at hF ⊢;rw[hzr]at kz;refine oA mixed tok Tryz.func36 rfl (by rfl) rfl [F] ⟨hF,trivial⟩ fun c G hG hc hR=>?_
 obtain⟨K,hK⟩:=nm (xL 0 [F]);rw[←hK];have m1:KF.at 0 F∈K:=by rw[hK];exact .head _
 refine zN hc ?_;cbv;refine dZ hc bAy kz ⟨⟨.b rfl,.ec m1 hF rfl,trivial⟩,trivial⟩ (.s (.v s)) rfl 100 (fun FB hFB=>?_);cbv;refine bL hc (.s (.v t)) aP0 (fun n0 D X μ a w aL H aJ=>?_) rfl 100 ?_
 ·obtain⟨v,rfl,e1⟩:=aV aJ;exact hto H.xlt (((eH.ec (c:=.x R2) (F:=F) (.tail _ m1) hF rfl).ok H.kf e1).2)
 cbv;refine aE hc rfl 100 (fun h=>?_) (fun h=>?_)
 ·have h:t.data.toList≠(⟨#[49]⟩:ByteArray).data.toList:=BE.seq_f (a:=.v t) (b:=.v ⟨#[49]⟩) (by simpa[BE.den]using h)
  have hd1:¬d=1:=fun e=>h (by rw[mJ.1 e])
  rw[if_neg hd1]at hq;have e:s++((⟨#[47]⟩:ByteArray)++t)=r:=by
   rw[hq];apply jH;simp only[fJ,List.append_assoc]
  cbv;refine aQ hc ⟨?_,?_,trivial⟩ ?_
  ·show((1+t.size:Nat):Int)≤_;omega
  ·show((s.size+(⟨#[47]⟩++t:ByteArray).size:Nat):Int)≤_
   rw[ByteArray.size_append];show((s.size+(1+t.size):Nat):Int)≤_
   omega
  exact iP hc hG hR rfl (.s e)
 ·have h:t.data.toList=(⟨#[49]⟩:ByteArray).data.toList:=BE.seq_t (a:=.v t) (b:=.v ⟨#[49]⟩) (by simpa[BE.den]using h)
  have hd1:d=1:=mJ.2 (jH h)
  rw[if_pos hd1]at hq;cbv;exact iP hc hG hR rfl (.s hq.symm)
theorem aNp {n:Nat}:bS (n:Int) n=0:=by unfold bS;simp
end Go.Ai
namespace Go.Ai
open Go Go.Proofs Go.Num Go.Lib
theorem aO2 {q:Rat}(hs:(aA q).size≤2^60):Pure PP 70 [.string (aA q)] (.tuple #[.string (aU q.num),.string (aK q.den),.bool (decide (q.den≠1))]):=by
 have k:=aSd (aA q) hs
 have hl:=lZ q
 by_cases h:q.den=1
 ·rw[if_pos h]at hl;rw[hl,zL (sE q.num)]at k;have e1:(⟨(itoa q.num).toArray⟩:ByteArray)=aU q.num:=ba_eq (by rw[cQ])
  have e2:(⟨([49]:List UInt8).toArray⟩:ByteArray)=aK q.den:=by rw[h];unfold aK;rw[aUm]
  have e3:decide (q.den≠1)=false:=decide_eq_false (by simp[h])
  rw[e3,←e1,←e2];exact k
 ·rw[if_neg h]at hl;rw[hl,zJ (sE q.num)]at k;have e1:(⟨(itoa q.num).toArray⟩:ByteArray)=aU q.num:=ba_eq (by rw[cQ])
  have e2:(⟨(decDigits q.den).toArray⟩:ByteArray)=aK q.den:=rfl
  have e3:decide (q.den≠1)=true:=decide_eq_true h
  rw[e3,←e1,←e2];exact k
theorem pC:aB PP 29:=zK
theorem aWt {q:Rat}(hs:sz q≤2^34):yY PP 29 [.one (.s (.v (aA q)))] (.tp [qI q,.one (.b (.l true))]):=by
 have hs1:dl q.num.natAbs≤2^34:=lTr (Nat.le_max_left _ _) hs
 have hs2:dl q.den≤2^34:=lTr (Nat.le_max_right _ _) hs
 have hq1:(aA q).size≤2^60:=lTr (bH q) (by omega)
 have hz1:(aU q.num).size≤2^60:=lTr (kV q.num) (by omega)
 have hz2:(aK q.den).size≤2^60:=by rw[eR];omega
 have ksp:=aO2 hq1
 have kv1:=aTz (aU q.num) hz1
 rw[show(vX (aU q.num).data.toList).isSome=true by rw[cQ,oQ];rfl]at kv1;have kv2:=aFk (aK q.den) hz2
 rw[show isNat (aK q.den).data.toList=true by rw[cM];exact gD _]at kv2;have krd:=aXa (z:=q.num) (by omega)
 have hdn:=iF q.num.natAbs
 have hdd:=iF q.den
 have hd0:0<q.den:=q.den_pos
 have aY8:Nat.gcd q.num.natAbs q.den=1:=q.reduced
 obtain⟨sg,hsg⟩:∃sg:Int,sg=if decide (q.num<0)then -1 else if q.num.natAbs=0 then 0 else 1:=⟨_,rfl⟩
 have ksg:=aM6 (b:=decide (q.num<0)) (n:=q.num.natAbs) hsg
 have aRr:q.den≠1→sg≠0:=fun h=>by
  have hn0:q.num.natAbs≠0:=fun e=>by
   rw[e,Nat.gcd_zero_left]at aY8;exact h aY8
  rw[hsg,if_neg hn0];split<;>decide
 have kfr:∀{X:Nat→Prop} {w:World},(∀b,X b→b<w.heap.size)→Fn PP 74 [.string (aK q.den)] X w (aP q.den):=fun hX=>aR8 (by omega) hX
 have ksm:∀{X:Nat→Prop} {w:World},(∀b,X b→b<w.heap.size)→Fn PP 75 [.int .u32 1] X w (aP 1):=fun hX=>xP (x:=1) hX (by omega) (by omega)
 have hl1:(aF 1).length≤2^40:=lTr (bR (k:=1) (by decide)) (by decide)
 have kc1:q.den≠1→∀{v u:Value} {X:Nat→Prop} {w:World},(∀b,X b→b<w.heap.size)→(aP q.den).p v X w→(aP 1).p u X w→Fn PP 76 [v,u] X w (dJ (.int .i64 1)):=fun h X w v u hX h1 h2=>by
  have:=aR7 (n:=q.den) (m:=1) (by omega) hl1 hX h1 h2
  rw[show bS (q.den:Int) ((1:Nat):Int)=1 by unfold bS;rw[if_neg (by omega),if_pos (by omega)]]at this;exact this
 have kc2:∀{v u:Value} {X:Nat→Prop} {w:World},(∀b,X b→b<w.heap.size)→(aP 1).p v X w→(aP 1).p u X w→Fn PP 76 [v,u] X w (dJ (.int .i64 0)):=fun hX h1 h2=>by
  have:=aR7 (n:=1) (m:=1) hl1 hl1 hX h1 h2
  rw[aNp]at this;exact this
 have kcm:∀{v u:Value} {X:Nat→Prop} {w:World},(∀b,X b→b<w.heap.size)→(aP q.num.natAbs).p v X w→(aP q.den).p u X w→Fn PP 77 [v,u] X w (aP 1):=fun hX h1 h2=>by
  have:=aMo aWq (n:=q.num.natAbs) (m:=q.den) (by omega) (by omega) hX h1 h2
  rw[aY8]at this;exact this
 obtain⟨RR,hRR⟩:=nm (RV.tp [qI q,.one (.b (.l true))]);rw[←hRR];unfold qI qR at hRR;unfold zIt zR at krd;unfold zR at ksg;generalize decide (q.num<0)=b at *;generalize q.num.natAbs=n at *;generalize q.den=d at *;generalize aU q.num=s at *;generalize aK d=tx at *;generalize aA q=r at *;obtain⟨R1,hR1⟩:∃R,R=aP n:=⟨_,rfl⟩;obtain⟨R2,hR2⟩:∃R,R=aP d:=⟨_,rfl⟩;obtain⟨RO,hRO⟩:∃R,R=aP 1:=⟨_,rfl⟩;obtain⟨sl,hsl⟩:=nm (decide (d≠1));rw[←hsl]at ksp;rw[←hR1]at hRR krd ksg kcm;rw[←hR2]at hRR kfr kc1 kcm;rw[←hRO]at ksm kc1 kc2 kcm;obtain⟨F,hF⟩:=nm (wA (.sg (.one (.s (.v r)))));refine oA mixed tok Tryz.func29 rfl (by rfl) rfl [F] ⟨hF,trivial⟩ fun c G hG hc hR=>?_
 obtain⟨K,hK⟩:=nm (xL 0 [F]);rw[←hK];refine zN hc ?_;cbv;refine zC hc (.t [.s (.v s),.s (.v tx),.b (.l sl)]) ksp aGj ?_;cbv;refine zC hc (.b (.l true)) kv1 aAm ?_;cbv;refine zC hc (.b (.l true)) kv2 oH ?_;cbv;refine dZ hc aLw krd ⟨.s rfl,trivial⟩ (.g [.b (.l b),.ec 2 1]) rfl 100 (fun FB hFB=>?_);cbv;refine eE (R:=R2) hc zF (fun n0 D X μ a w aL H aJ=>?_) 100 ?_
 ·obtain⟨v,rfl,e1⟩:=aV aJ;rw[dH e1];exact kfr H.xlt
 cbv;refine dQ 28 .u32 (aF d) rfl rfl (fun X μ a w v' H hv'=>by have h:=H.toP.val (R:=R2) (.head _) hv';rw[hR2]at h;exact h) fun f N cap hN hf dI=>?_
 have m3:∀{K':List KF},KF.at 3 R2::KF.at 2 FB::K=K'→KF.at 2 FB∈K':=fun h=>by rw[←h];exact .tail _ (.head _)
 have lJ:∀{K':List KF} {S:St} {X:Nat→Prop} {μ:Mu} {a:Act} {w:World} {v:Value},Sim c K' S X μ a w→KF.at 2 FB∈K'→S.hp[4]?=some (.xi .u32 N f)→aC μ (.t [.g [.b (.l b),.ec 2 1,.sl 4 0 (.n N) cap],.b (.l true)])=some v→G.p v X w:=by
  intro K' S X μ a w v H hm hk hv;obtain⟨vs,q1,rfl⟩:=mH hv;obtain⟨u1,u2,rfl,e1,e2⟩:=bX q1;obtain⟨ws,q2,rfl⟩:=xF e1;obtain⟨v1,v2,v3,rfl,e3,e4,e5⟩:=eX q2;have h3:=H.toP.numRow hk e5 hN hf dI
  rw[hG,hRR];exact⟨_,rfl,⟨[v1,v2,v3],rfl,fU e3,(eH.ec (c:=.x R1) hm hFB rfl).ok H.toP.kf e4,⟨mP h3,by rw[hR2];exact h3⟩,trivial⟩,fU e2,trivial⟩
 cases sl with
 | false=>
  refine zN hc ?_;cbv;exact aS hc hR rfl (fun X μ a w v H hv=>lJ H (.tail _ (.head _)) rfl hv)
 | true=>
  have hd1:d≠1:=of_decide_eq_true hsl.symm
  have kc1:=fun {v u X w}=>kc1 hd1 (v:=v) (u:=u) (X:=X) (w:=w)
  have aRr:=aRr hd1
  refine zN hc ?_;cbv;refine eE (R:=RO) hc oG (fun n0 D X μ a w aL H aJ=>?_) 100 ?_
  ·obtain⟨v,rfl,e1⟩:=aV aJ;rw[bQ e1];exact ksm H.xlt
  cbv;refine bL hc (.i .i64 (.l 1)) tK (fun n0 D X μ a w aL H aJ=>?_) rfl 100 ?_
  ·obtain⟨v,u,rfl,e1,e2⟩:=bX aJ;exact kc1 H.xlt (by rw[hR2];exact H.numRow rfl e1 hN hf dI) (H.val (R:=RO) (.head _) e2)
  cbv;refine dZ hc xB ksg ⟨⟨.b rfl,.ec (by repeat (first | exact .head _ | apply List.Mem.tail)) hFB rfl,trivial⟩,trivial⟩ (.i .i64 (.v sg)) rfl 100 (fun FS hFS=>?_);cbv;have e0:(BE.not (.eq (.v sg) (.l 0))).den=true:=by show(!decide (sg=0))=true;simp[aRr]
  refine bT hc 45 rfl rfl 100 (fun _=>?_) (fun h=>absurd (e0.symm.trans h) (by decide));cbv;refine eE (R:=RO) hc aC7 (fun n0 D X μ a w aL H aJ=>?_) 100 ?_
  ·obtain⟨v,u,rfl,e1,e2⟩:=bX aJ;exact kcm H.xlt (((eH.ec (c:=.x R1) (F:=FB) (by repeat (first | exact .head _ | apply List.Mem.tail)) hFB rfl).ok H.kf e1).2) (by rw[hR2];exact H.numRow rfl e2 hN hf dI)
  cbv;refine bL hc (.i .i64 (.l 0)) tK (fun n0 D X μ a w aL H aJ=>?_) rfl 100 ?_
  ·obtain⟨v,u,rfl,e1,e2⟩:=bX aJ;exact kc2 H.xlt (H.val (R:=RO) (by repeat (first | exact .head _ | apply List.Mem.tail)) e1) (H.val (R:=RO) (by repeat (first | exact .head _ | apply List.Mem.tail)) e2)
  cbv;exact aS hc hR rfl (fun X μ a w v H hv=>lJ H (by repeat (first | exact .head _ | apply List.Mem.tail)) rfl hv)
end Go.Ai
namespace Go.Ai
open Go Go.Proofs Go.Num V3
structure Rets (r:Raw)(l:List Tri)(tv te:ByteArray)(e:Int):Prop where
 vol:∀{X:Nat→Prop} {w:World} {v:Value},(∀b,X b→b<w.heap.size)→(rowS r.N r.L).p v X w→Fn PP 19 [v,r.attV,.string r.d] X w (dJ (.tuple #[.string tv,.int .i64 e]))
 eme:∀{X:Nat→Prop} {w:World} {v:Value},(∀b,X b→b<w.heap.size)→(rowS r.N r.L).p v X w→Fn PP 39 [v,r.attV,.string r.d] X w (dJ (.tuple #[.string te,.int .i64 e]))
 res:(e≠0∧tv=⟨#[]⟩∧te=⟨#[]⟩)∨(e=0∧∃x y:Rat,tv=aA x∧te=aA y∧sz x≤2^34∧sz y≤2^34∧x+y=bFj l)
end Go.Ai
namespace Go.Proofs.YtmnancfboococaaGreatDoor
open Go Go.ChangeShapes Go.WideShapes Go.ChangeAt Go.WideElems Go.RowKit
section
variable {H:Type}{enc:TypeId × Value→H}
variable {W w:World}{base:Nat}{sp:Nat→Bool}{held:Bool}{n:Nat}{cs:List Value}{x:DataW H × List MemPlace}
theorem c24:Tryz.prog.cellsOf 24=1:=by kernel_rfl
theorem c36:Tryz.prog.cellsOf 36=3:=by kernel_rfl
theorem c38:Tryz.prog.cellsOf 38=9:=by kernel_rfl
theorem c26:Tryz.prog.cellsOf 26=2:=by kernel_rfl
theorem nth {cs:List Value}{a n k:Nat}{x:Value}(hk:k<n)(e:(((cs.drop a).take n).drop k).take 1=[x]):cs[a+k]?=some x:=by
 have:=congrArg (·[0]?) e
 simpa[List.getElem?_take,List.getElem?_drop,hk]using this
theorem aQa {v:Value}{c:Array Value}{l:List Value}(e:v=.agg c)(h:v.cells.toList=l):v=.agg l.toArray:=by
 subst e;rw[←h]
 rfl
end
end Go.Proofs.YtmnancfboococaaGreatDoor
