/- Part 20: lemmas for the particulars laws -/
import Derived.Laws.IdiomStrings
import Derived.Test.YtafimpgfbgigeaaGreatDoorPh18
set_option linter.all false
namespace Go.Ai
open Go Go.RowKit
def aBv (all:Array Oper)(m:Nat)(E:List Nat):Bool:=
 let B:=aIo all.toList #[]
 (List.range all.size).all (λj=>match all[j]? with
  | none=>false
  | some o=>o.after.toList.all (λe=> !Region.binds .any e||decide (e.on<j))&&
   (if j<m then
    (eG all o).all (λt=>(List.range m).all λj'=>((all[j']?).bind (·.dst)) !=some t||(decide (j'<j)&&(B.getD j 0).testBit j')||(decide (j<j')&&(B.getD j' 0).testBit j))&&
    (match o.dst with | some d=>(List.range m).all (λj'=>j'==j||((all[j']?).bind (·.dst)) !=some d) | none=>true)&&
    !cF o
   else(List.range m).all λi=>E.contains i||(B.getD j 0).testBit i))
structure DrawOkE (all:Array Oper)(m:Nat)(E:List Nat):Prop extends DrawOk0 all m where
 bar:∀j o i,all[j]?=some o->m<=j->i<m->E.contains i=false->Reach all j i
 nc:∀j,j<m->eC all j=false
theorem aHl {all:Array Oper}{m:Nat}{E:List Nat}(h:aBv all m E=true):DrawOkE all m E:=by
 unfold aBv at h;simp only[List.all_eq_true,List.mem_range]at h;have key:∀j o,all[j]?=some o->_:=λj o ho=>by
  have:=h j (Array.getElem?_eq_some_iff.1 ho).1
  simp only[ho,Bool.and_eq_true]at this;exact this
 have hnc:∀j o,all[j]?=some o->j<m->cF o=false:=λj o ho hj=>by
  have:=(key j o ho).2
  rw[if_pos hj]at this;simp only[Bool.and_eq_true]at this;simpa using this.2
 refine⟨⟨?_,?_,?_,?_⟩,?_,?_⟩
 ·intro j o e ho he hb;have:=(key j o ho).1;simp only[List.all_eq_true]at this;have:=this e (by simpa using he);simpa[hb]using this
 ·intro j o t j' ho hj ht hj' hd;have:=(key j o ho).2;rw[if_pos hj]at this;simp only[Bool.and_eq_true,List.all_eq_true,List.mem_range]at this;have:=this.1.1 t ht j' hj';simp only[hd,Bool.or_eq_true,bne_self_eq_false,Bool.false_eq_true,false_or,Bool.and_eq_true,decide_eq_true_eq]at this;exact this.imp (λh=>⟨h.1,dN h.2⟩) (λh=>⟨h.1,dN h.2⟩)
 ·intro j o d j' ho hj hd hj' hd';have:=(key j o ho).2;rw[if_pos hj]at this;simp only[Bool.and_eq_true]at this;have:=this.1.2;simp only[hd,List.all_eq_true,List.mem_range]at this;have:=this j' hj';simpa[hd']using this
 ·intro j o j' o' ho hj hc hj' ho' hc';rw[hnc j o ho hj]at hc;cases hc
 ·intro j o i ho hj hi hE;have:=(key j o ho).2;rw[if_neg zW]at this;simp only[List.all_eq_true,List.mem_range,Bool.or_eq_true]at this;rcases this i hi with h | h
  ·rw[hE]at h;cases h
  ·exact dN h
 ·intro j hj;unfold eC;split
  ·rename_i o ho;exact hnc j o ho hj
  ·rfl
inductive DPathE (c:Cx) (all:Array Oper) (n0:Nat) (K0:List KF) (E:List Nat) (Q:Nat->St->List KF->Prop):Nat->St->List KF->Prop
 | stop {i:Nat} {S:St} {K:List KF} (hi:i<=all.size) (h:Q i S K):DPathE c all n0 K0 E Q i S K
 | op {i:Nat} {S S':St} {K:List KF} {o:Oper} {av:AV} {nb:Option Blk} {ow:List OF} (ho:all[i]?=some o) (hg:guardOf all S.sl o=some true) (hdst:cM c.nt o.dst=true) (hic:cF o=false) (hE:E.contains i=true->nb=none)
   (hc:Cert c K0 n0 (xL all o) (fl S o) o av nb [] ow) (hw:Wk (S.putO o.dst av nb S.ow) S') (h:DPathE c all n0 K0 E Q (i+1) S' K):DPathE c all n0 K0 E Q i S K
theorem DPathE.trace {c:Cx}{all:Array Oper}{n0:Nat}{K0:List KF}{E:List Nat}{Q:Nat->St->List KF->Prop}{i:Nat}{S:St}{K:List KF}(h:DPathE c all n0 K0 E Q i S K):
  ∃(m:Nat) (en:Nat->Ent) (st:Nat->St) (kk:Nat->List KF),i<=m/\Wk S (st i)/\kk i=K/\(∀j,i<=j->j<m->(∃o,EntOk c all n0 K0 (en j) j (st j) (st (j+1)) (kk j) (kk (j+1)) o)/\(E.contains j=true->(en j).nb=none))/\m<=all.size/\Q m (st m) (kk m):=by
 induction h with
 | @stop i S K hi h=>exact⟨i,λ_=>⟨.t [],none,[],[]⟩,λ_=>S,λ_=>K,lRf _,Wk.refl S,rfl,λj h1 h2=>zW,hi,h⟩
 | @op i S S' K o av nb ow ho hg hdst hic hE hc hw h ih=>
  obtain⟨m,en,st,kk,h1,h2,h3,h4,h5,h6⟩:=ih;refine⟨m,λj=>if j=i then⟨av,nb,[],S.ow⟩else en j,λj=>if j=i then S else st j,λj=>if j=i then K else kk j,zW,by simp only[if_true];exact Wk.refl S,zA,?_,h5,?_⟩
  ·intro j hj hjm;by_cases e:j=i
   ·subst e;refine⟨⟨o,?_⟩,by simpa using hE⟩;simp only[if_true,if_neg (show ¬j+1=j by omega),h3];exact⟨ho,hdst,hw.trans h2,rfl,λ_=>rfl,λ_=>rfl,.inr ⟨hg,ow,by rw[hic];exact hc,λhf=>by rw[hic]at hf;cases hf⟩⟩
   ·obtain⟨⟨o',h⟩,h'⟩:=h4 j zW hjm;refine⟨⟨o',?_⟩,by simpa[if_neg e]using h'⟩;simp only[if_neg e,if_neg (show ¬j+1=i by omega)];exact h
  ·simp only[if_neg (show ¬m=i by omega)];exact h6
def St.dropE (S:St)(all:Array Oper)(m:Nat)(L:Array Bool):St:={S with sl:=S.sl.filter λx=>(List.range m).all λj=>L.getD j false||pJ all j !=some x.1}
theorem pK {p:Nat->Bool}:∀{l:List (Nat × AV)} {t:Nat} {av:AV},look (l.filter λx=>p x.1) t=some av->p t=true/\look l t=some av
 | [],t,av,h=>by cases h
 | (d,b)::l,t,av,h=>by
  rw[List.filter_cons]at h;by_cases e:d=t
  ·subst e;split at h
   ·rename_i hp;rw[bK]at h |-;exact⟨hp,h⟩
   ·rename_i hp;exact absurd (pK h).1 hp
  ·rw[bE e];split at h
   ·rw[bE e]at h;exact pK h
   ·exact pK h
section
variable {c:Cx}{all:Array Oper}{n0:Nat}{K0:List KF}{m:Nat}{en:Nat->Ent}{st:Nat->St}{kk:Nat->List KF}{E:List Nat}
theorem PInv.simE (T:Tr c all n0 K0 m en st kk)(ok:DrawOkE all m E)(hnb:∀j,j<m->E.contains j=true->(en j).nb=none){L:Array Bool}{X:Nat->Prop}{μ:Mu}{a:Act}{w:World}(H:PInv c all n0 K0 m en st L X μ a w)(cI:∀j,j<m->E.contains j=false->ex L j):Sim c (kk m) ((st m).dropE all m L) X μ a w:=by
 have bBg:∀k,(st m).hp.length<=k->μ k=none:=by
  intro k hk;cases h:μ k with
  | none=>rfl
  | some b=>
   rcases H.newid k b h with e | ⟨j,h1,h2,h3,h4⟩
   ·have h5:=T.n0;have:=T.hpLen (i:=0) (j:=m) zW (lRf _);omega
   ·have h5:=T.hpLen (i:=j+1) (j:=m) zW (lRf _)
    rw[T.hpStep h1]at h5;cases hq:(en j).nb with
    | none=>rw[hq]at h3;cases h3
    | some x=>simp[hq]at h5;omega
 have hd:∀j,j<m->ex L j\/E.contains j=true:=λj hj=>by
  cases h:E.contains j with
  | true=>exact .inr rfl
  | false=>exact .inl (cI j hj h)
 refine⟨⟨H.dfr,H.size,?_,H.heap,?_,H.inj,H.loc,H.xlt,H.xnew,H.xold,H.bel,?_,H.own m (lRf _) (λj hj hcl=>by rw[ok.nc j hj]at hcl;cases hcl)⟩,bBg⟩
 ·intro t av _ hl;obtain⟨hp,hl⟩:=pK (p:=λt=>(List.range m).all λj=>L.getD j false||pJ all j !=some t) hl;simp only[List.all_eq_true,List.mem_range,Bool.or_eq_true]at hp;rcases T.from (lRf m) hl with⟨j',h1,h2,h3⟩ | ⟨h1,av0,h2,h3⟩
  ·have hx:ex L j':=by
    rcases hp j' h1 with h | h
    ·exact h
    ·rw[h2]at h;simp at h
   obtain⟨v,e1,e2⟩:=H.done j' h1 hx t h2;exact⟨v,by rw[<-h3 μ];exact e1,e2⟩
  ·obtain⟨v,e1,e2⟩:=H.base t av0 (λj' hj' hd=>absurd hd (h1 j' hj')) h2;exact⟨v,by rw[<-h3 μ];exact e1,e2⟩
 ·have key:∀i,i<=m->∀k,k<(st i).hp.length->∃b,μ k=some b:=by
   intro i;induction i with
   | zero=>intro _ k hk;exact H.old k (by rw[T.n0];exact hk)
   | succ i ih=>
    intro hi k hk;rw[T.hpStep zW]at hk;rcases Nat.lt_or_ge k (st i).hp.length with h | h
    ·exact ih zW k h
    ·cases hq:(en i).nb with
     | none=>simp[hq]at hk;omega
     | some x=>
      simp[hq]at hk;have:k=(st i).hp.length:=zW;subst this;rcases hd i zW with hx | hx
      ·exact H.alloc i zW hx (by rw[hq];rfl)
      ·rw[hnb i zW hx]at hq;cases hq
  exact key m (lRf _)
 ·intro f hf;rcases T.kkMem (lRf m) f hf with h | ⟨j',h1,h2⟩
  ·exact H.kf0 f h
  ·obtain⟨o,E'⟩:=T.ent j' h1;rw[E'.kn (by have:=ok.nc j' h1;simpa[eC,E'.ho]using this)]at h2;cases h2
theorem aP8 (T:Tr c all n0 K0 m en st kk)(ok:DrawOkE all m E)(hnb:∀j,j<m->E.contains j=true->(en j).nb=none){k:List KI}
  (hs:∀L:Array Bool,L.size=all.size->(∀j,ex L j->j<m)->(∀j,j<m->E.contains j=false->ex L j)->bH c (kk m) (.ord all L::k) ((st m).dropE all m L)):∀(fuel:Nat) (L:Array Bool) (X:Nat->Prop) (μ:Mu) (a:Act) (w:World),L.size=all.size->DC all L->(∀j,m<=j->¬ex L j)->
  L.toList.count false=fuel->PInv c all n0 K0 m en st L X μ a w->wpAnyIn c.F 0 c.P .any all (aO c.F c.P c.R k) fuel L a w:=by
 intro fuel;have fin:∀(fuel:Nat) (L:Array Bool) (X:Nat->Prop) (μ:Mu) (a:Act) (w:World),L.size=all.size->(∀j,m<=j->¬ex L j)->(∀j,j<m->E.contains j=false->ex L j)->L.toList.count false=fuel->PInv c all n0 K0 m en st L X μ a w->wpAnyIn c.F 0 c.P .any all (aO c.F c.P c.R k) fuel L a w:=by
  intro fuel L X μ a w hL hno cI hf H;have:=hs L hL (λj hx=>Nat.lt_of_not_le λh=>hno j h hx) cI X μ a w (H.simE T ok hnb cI);simp only[aO,hf]at this;exact this
 induction fuel with
 | zero=>
  intro L X μ a w hL hdc hno hf H;refine fin 0 L X μ a w hL hno (λj hj _=>?_) hf H;apply Classical.byContradiction;intro hx;have:=count_set L j (by have:=T.hm;omega) hx;omega
 | succ fuel ih=>
  intro L X μ a w hL hdc hno hf H;by_cases cI:∀j,j<m->E.contains j=false->ex L j
  ·exact fin (fuel+1) L X μ a w hL hno cI hf H
  ·have hex:∃j,j<m/\E.contains j=false/\¬ex L j:=by
    apply Classical.byContradiction;intro h;exact cI λj hj hE=>Classical.byContradiction λhx=>h ⟨j,hj,hE,hx⟩
   obtain⟨jE,bEw,bHi,bEx⟩:=hex;have hex:∃j,j<m/\¬ex L j/\∀j',j'<j->ex L j':=by
    have:∃j,j<m/\¬ex L j:=⟨jE,bEw,bEx⟩
    obtain⟨j,h1,h2⟩:=this;induction j using Nat.strongRecOn with
    | _ j ihj=>
     by_cases h:∀j',j'<j->ex L j'
     ·exact⟨j,h1,h2,h⟩
     ·have:∃j',j'<j/\¬ex L j':=Classical.byContradiction λh'=>h λj' hj'=>Classical.byContradiction λhx=>h' ⟨j',hj',hx⟩
      obtain⟨j',h3,h4⟩:=this;exact ihj j' h3 zW h4
   obtain⟨j0,h1,h2,h3⟩:=hex;obtain⟨o0,E0⟩:=T.ent j0 h1;have hm0:j0∈Region.ready .any all L:=mem_ready.2 ⟨(wA (by have:=T.hm;omega)).2 h2,o0,E0.ho,λe he hb=>h3 _ (T.ok.on j0 o0 e E0.ho he hb)⟩;refine⟨(λh0=>by rw[h0]at hm0;cases hm0),λi hi=>?_⟩;obtain⟨h4,oi,hoi,_⟩:=mem_ready.1 hi;obtain⟨h5,h6⟩:=eF h4;have him:i<m:=by
    rcases Nat.lt_or_ge i m with h | h
    ·exact h
    ·exact absurd (fF hdc hi (ok.bar i oi jE hoi h bEw bHi)) bEx
   obtain⟨o,E'⟩:=T.ent i him;rw[E'.ho]at hoi;injection hoi with hoi;subst hoi
   have aTp:=count_set L i h5 h6
   have jM:∀j,Reach all i j->ex L j:=λj hx=>fF hdc hi hx
   have HP:=H.psim T him E' jM hdc h6 _ rfl
   have next:∀ow X' μ' v w',cV c (fl (st i) o) X μ w (en i).av (en i).nb ow X' μ' v w'->(cF o=true->(en i).ow=ow)->(∀f,f∈(en i).kn->f.p X' μ' w')->wpAnyIn c.F 0 c.P .any all (aO c.F c.P c.R k) fuel (L.setIfInBounds i true) (a.put o.dst v) w':=by
    intro ow X' μ' v w' hp how hk;refine ih _ X' μ' _ w' (by simpa using hL) (hdc.set h5 hi) (λq hq hx=>?_) zW (H.step T him hL E' jM hdc h6 HP hp how hk (λhs=>H.freshId T him h6 hs));rcases(fC h5).1 hx with e | e
    ·omega
    ·exact hno q hq e
   simp only[wpOpIn,E'.ho];rcases E'.how with⟨g1,g2,g3,g4,g5⟩ | ⟨g1,ow,g2,g3⟩
   ·rw[if_neg (by rw[cH HP (by rw[tH];exact g1) (λt ht=>by simp[xL,eG,ht])];simp)];refine⟨λ_ _=>trivial,?_⟩;refine next (fl (st i) o).ow X μ undef w ?_ (λhc=>?_) (by rw[g4];intro f hf;cases hf)
    ·rw[g2,g3];exact cV.same HP.own (by simp[aD])
    ·rw[g5];simp[fl,hc]
   ·rw[if_pos (cH HP (by rw[tH];exact g1) (λt ht=>by simp[xL,eG,ht]))];exact g2 X μ a w _ _ HP (λhs=>by rw[xS];exact H.freshId T him h6 hs) (λX' μ' v w' hp hk=>next ow X' μ' v w' hp g3 hk)
end
def aWc (c:Cx)(all:Array Oper)(k:List KI)(E:List Nat)(i:Nat)(S:St)(K:List KF):Prop:=
 aBv all i E=true/\∀L:Array Bool,L.size=all.size->(∀j,ex L j->j<i)->(∀j,j<i->E.contains j=false->ex L j)->bH c K (.ord all L::k) (S.dropE all i L)
theorem aK6 {c:Cx}(hm:c.P.follows .mixedOrders=true){K:List KF}{id:Nat}{all:Array Oper}{k:List KI}{S:St}{E:List Nat}(h:DPathE c all S.hp.length K E (aWc c all k E) 0 S K):bH c K (.code (.region id all true)::k) S:=by
 intro X μ a w H;obtain⟨m,en,st,kk,h1,h2,h3,h4,h6,h7,h8⟩:=h.trace;have ok:=aHl h7;have T:Tr c all S.hp.length K m en st kk:=⟨λj hj=>(h4 j (Nat.zero_le _) hj).1,ok.toDrawOk0,h6,by rw[h2.hp],h3⟩;have hnb:∀j,j<m->E.contains j=true->(en j).nb=none:=λj hj=>(h4 j (Nat.zero_le _) hj).2;have no:∀j,¬ex (Array.replicate all.size false) j:=by
  intro j hx;unfold ex at hx;simp[Array.getElem?_replicate]at hx;split at hx<;>cases hx
 refine wpIn_region_any hm (aP8 T ok hnb h8 all.size (Array.replicate all.size false) X μ a {w with drawn:=w.drawn+1} zA ?_ ?_ ?_ ?_)
 ·intro j o hx;exact absurd hx (no j)
 ·intro j _ hx;exact absurd hx (no j)
 ·simp
 ·have P:=H.toP
  obtain⟨l,hl⟩:=T.hpPre (i:=0) (j:=m) zW (lRf _);refine⟨P.dfr,P.size,(λt av _ hlk=>by
   obtain⟨a',q1,q2⟩:=h2.sl t av hlk;obtain⟨v,q3,q4⟩:=P.slots t a' trivial q1;exact⟨v,by rw[<-q2 μ];exact q3,q4⟩),λj _ hx=>absurd hx (no j),?_,P.all,?_,λj _ hx=>absurd hx (no j),P.inj,P.loc,P.xlt,P.xnew,P.xold,⟨P.bel.os,P.bel.tape,P.bel.output,P.bel.size,P.bel.block⟩,?_,λj _ hx=>absurd hx (no j),?_,?_⟩
  ·intro k' blk b hk' hmu;have hlt:k'<S.hp.length:=by
    rcases Nat.lt_or_ge k' S.hp.length with h | h
    ·exact h
    ·rw[H.dom k' h]at hmu;cases hmu
   rw[hl,h2.hp,List.getElem?_append_left hlt]at hk';exact Blk.ok_keep (X:=X) (w:=w) (w':={w with drawn:=w.drawn+1}) (Mu.le_refl _) (λ_ h=>h) (λ_ _=>rfl) (λ_ _=>rfl) (P.heap k' blk b hk' hmu)
  ·intro k' b hmu;refine .inl ?_;rcases Nat.lt_or_ge k' S.hp.length with h | h
   ·exact h
   ·rw[H.dom k' h]at hmu;cases hmu
  ·intro f hf;exact f.st X X μ μ w _ (λ_ h=>h) (Mu.vle_refl _) (λ_ _=>rfl) (P.kf f hf)
  ·intro q hq hqb;have e:(st q).ow=S.ow:=(T.owEq (i:=0) (Nat.zero_le _) hq (λi _ hi=>ok.nc i zW)).trans h2.ow;rw[e];exact P.own.keep (Mu.le_refl _) (lRf _) (λ_ _=>rfl) (λb h=>.inl h) (λk b h=>.inl h)
  ·exact⟨0,Nat.zero_le _,λj _ _=>⟨λhx=>absurd hx (no j),λh=>absurd h (Nat.not_lt_zero _)⟩⟩
section
variable {c:Cx}{P:Program}{ty:Nat->Option TyI}{nt:Nat}{K:List KF}{S:St}
structure DGoal (c:Cx)(all:Array Oper)(n0:Nat)(K0:List KF)(E:List Nat)(k:List KI)(i:Nat)(S:St)(K:List KF):Prop where
 out:DPathE c all n0 K0 E (aWc c all k E) i S K
theorem aYc (hc:Ctx c P ty nt)(E:List Nat){id:Nat}{all:Array Oper}{k:List KI}(h:DGoal c all S.hp.length K E k 0 S K):Goal c K ⟨.code (.region id all true)::k,S,[]⟩:=
 .mk0 (aK6 (hc.hP▸hc.hm) h.out)
def aQ3 (ty:Nat->Option TyI)(nt:Nat)(all:Array Oper)(n0:Nat)(E:List Nat):Nat->Nat->St->List Obl->Option (Nat × St × List Obl)
 | 0,i,S,ob=>some (i,S,ob)
 | n+1,i,S,ob=>match all[i]? with
  | some o=>if cM nt o.dst&& !cF o&& !aJ7 o.op then match guardOf all S.sl o with
   | some true=>match fop ty n0 (fl S o) o.op with
    | some r=>if !E.contains i||r.nb.isNone then aQ3 ty nt all n0 E n (i+1) (S.put o.dst r.av r.nb) (ob++r.ob)else none
    | none=>none
   | _=>none
   else none
  | none=>none
theorem aD3 {all:Array Oper}{n0:Nat}{K0:List KF}{E:List Nat}{k:List KI}:∀(n i:Nat) (S:St) (ob:List Obl) (i':Nat) (S':St) (ob':List Obl),aQ3 c.ty c.nt all n0 E n i S ob=some (i',S',ob')->iA ob'->DPathE c all n0 K0 E (aWc c all k E) i' S' K->iA ob/\DPathE c all n0 K0 E (aWc c all k E) i S K
 | 0,i,S,ob,i',S',ob',h,hob,hp=>by
  simp only[aQ3,Option.some.injEq,Prod.mk.injEq]at h;obtain⟨rfl,rfl,rfl⟩:=h;exact⟨hob,hp⟩
 | n+1,i,S,ob,i',S',ob',h,hob,hp=>by
  simp only[aQ3]at h;split at h
  ·rename_i o ho;split at h
   ·rename_i hd;simp only[Bool.and_eq_true,Bool.not_eq_true']at hd;split at h
    ·rename_i hg;split at h
     ·rename_i r hr;split at h
      ·rename_i hE;obtain⟨h1,h2⟩:=aD3 n (i+1) _ _ i' S' ob' h hob hp;obtain⟨h3,h4⟩:=rW.1 h1;refine⟨h3,DPathE.op (ow:=(fl S o).ow) ho hg hd.1.1 hd.1.2 (λhe=>?_) (lA hr h4 (λt ht=>by simp only[xL,eG,List.mem_append];exact .inl (fV (by simpa using ht)))) (Wk.refl _) h2⟩;rw[he]at hE;simpa using hE
      ·cases h
     ·cases h
    ·cases h
   ·cases h
  ·cases h
structure DRun (c:Cx)(all:Array Oper)(n0:Nat)(K0:List KF)(E:List Nat)(k:List KI)(K:List KF)(r:Option (Nat × St × List Obl)):Prop where
 out:∀i S ob,r=some (i,S,ob)->iA ob/\DGoal c all n0 K0 E k i S K
 some:r.isSome=true
theorem bDy (hc:Ctx c P ty nt)(n:Nat){all:Array Oper}{n0:Nat}{K0:List KF}{E:List Nat}{k:List KI}{i:Nat}(h:DRun c all n0 K0 E k K (aQ3 ty nt all n0 E n i S [])):DGoal c all n0 K0 E k i S K:=by
 obtain⟨_,h1,h2,_⟩:=hc;subst h1;subst h2;cases hr:aQ3 c.ty c.nt all n0 E n i S []with
 | none=>have:=h.some;rw[hr]at this;cases this
 | some x=>
  obtain⟨i',S',ob⟩:=x;obtain⟨a,b⟩:=h.out i' S' ob hr;exact⟨(aD3 n i S [] i' S' ob hr a b.out).2⟩
theorem bGj {all:Array Oper}{n0:Nat}{K0:List KF}{E:List Nat}{k:List KI}{i:Nat}{ob:List Obl}(h1:iA ob)(h2:DGoal c all n0 K0 E k i S K):DRun c all n0 K0 E k K (some (i,S,ob)):=
 ⟨λi' S' ob' h=>by injection h with h;injection h with h3 h;injection h with h4 h5;subst h3;subst h4;subst h5;exact⟨h1,h2⟩,rfl⟩
theorem bAv {all:Array Oper}{n0:Nat}{K0:List KF}{k:List KI}{i e1 e2:Nat}(hi:i<=all.size)(hd:aBv all i [e1,e2]=true)
  (h:∀b1 b2:Bool,Goal c K ⟨.ord all (((firstM all.size i).setIfInBounds e1 b1).setIfInBounds e2 b2)::k,S.dropE all i (((firstM all.size i).setIfInBounds e1 b1).setIfInBounds e2 b2),[]⟩) (h12:e1<e2) (h2i:e2<i):DGoal c all n0 K0 [e1,e2] k i S K:=by
 refine⟨.stop hi ⟨hd,λL hL h1 h2=>?_⟩⟩;have e:L=((firstM all.size i).setIfInBounds e1 (L.getD e1 false)).setIfInBounds e2 (L.getD e2 false):=by
  have hsz:(firstM all.size i).size=all.size:=by simp[firstM]
  refine aYp (by simp[hL,hsz]) (λj=>?_);unfold ex;have hg:∀(A:Array Bool) (p q:Nat) (b:Bool),p<A.size->(A.setIfInBounds p b).getD q false=if p=q then b else A.getD q false:=λA p q b hp=>by
   simp only[Array.getD_eq_getD_getElem?,Array.getElem?_setIfInBounds];by_cases e:p=q
   ·subst e;rw[if_pos rfl,if_pos rfl,if_pos hp];rfl
   ·rw[if_neg e,if_neg e]
  rw[hg _ _ _ _ (by simp[hsz];omega),hg _ _ _ _ (by rw[hsz];omega)];by_cases q2:e2=j
  ·subst q2;rw[if_pos rfl]
  ·rw[if_neg q2];by_cases q1:e1=j
   ·subst q1;rw[if_pos rfl]
   ·rw[if_neg q1];have hf:=aFy (n:=all.size) (m:=i) (j:=j) hi;unfold ex at hf;rw[hf];refine⟨λhx=>h1 j hx,λhx=>h2 j hx ?_⟩;simp only[List.contains_cons,List.contains_nil,Bool.or_false,Bool.or_eq_false_iff,beq_eq_false_iff_ne];exact⟨λh=>q1 h.symm,λh=>q2 h.symm⟩
 have:=(h (L.getD e1 false) (L.getD e2 false)).so
 rw[<-e]at this;exact this
end
end Go.Ai
namespace Go.Ai
open Go Go.Proofs Go.Num Go.Lib
theorem aSb:aB PP 109:=zK
theorem aIr:(PP.info? 5).map (·.bytes)=some 1:=zG
theorem aNf {c:Cx}{P:Program}{ty:Nat->Option TyI}{nt:Nat}{K:List KF}{S:St}(hc:Ctx c P ty nt){all:Array Oper}{i:Nat}{k:List KI}(o:Oper)(ho:all[i]?=some o)(hg:guardOf all S.sl o=some true)(hd:cM nt o.dst=true){src dst e j N cap:Nat}{x:Operand}{l:List Int}{bs:List UInt8}
  (hop:o.op=.convert src dst x) (hx:fW S.sl x=some (.sl j 0 (.n N) cap)) (hj:S.hp[j]?=some (.w e .u8 l)) (hN:N=l.length) (h0:0<N) (hs:P.underlying src=some (.slice e)) (he:P.underlying e=some (.int .u8)) (hdd:P.underlying dst=some .string) (hb:l=bs.map λc=>((c.toNat:Nat):Int)) {tx:ByteArray} (htx:tx=⟨bs.toArray⟩)
  (h:Goal c K ⟨.ops all (i+1)::k,S.put o.dst (.s (.v tx)) none,[]⟩):Goal c K ⟨.ops all i::k,S,[]⟩:=by
 subst htx;refine aVh hc o ho hg hd _ (λX μ a w H=>⟨_,?_,rfl⟩) h;have P':=H.toP;have e1:=aH P' hx (λ_ _=>trivial);obtain⟨b,o1,hb1,e2⟩:=oH e1 (by simp only[IE.den];omega);obtain⟨m,hm1,hm2⟩:=yD hb1;have hok:=P'.heap j _ m hj hm1;match m,hm2,hok,hm1 with
 | .own b',hm2,⟨rest,hok⟩,hm1=>
  simp only[MV.at,Option.some.injEq,Prod.mk.injEq]at hm2;obtain⟨rfl,rfl⟩:=hm2;have hl:bs.length=N:=by rw[hN,hb];simp
  have key:=run_convert_bytes_back (P:=P) w src dst e ⟨b',0+0,none⟩ cap bs hs he hdd (λq hq=>by
   have hq2:((l.map (Value.int .u8)++rest).toArray)[q]?=some (.int .u8 (bs[q].toNat:Int)):=by
    rw[List.getElem?_toArray,List.getElem?_append_left (by simp;omega),hb];simp[hq]
   simp[add_eq,World.cell?,hok,hq2])
  have e2:a.eval x=.slice (some ⟨b',0+0,none⟩) bs.length cap:=by rw[e2,hl];rfl
  simp only[execOp,hop,e2,Sem.run_bind,key,Result.andThen_ok,Sem.run_pure];rfl
structure ToX where
 a:Option Addr
 cap:Nat
 k:Nat
 out:List Int
set_option maxHeartbeats 8000000 in
theorem oTo {v:Value}{X:Nat->Prop}{w:World}{n:Nat}(hbn:(aC n).length<=2^38)(hX:∀b,X b->b<w.heap.size)(hv:(aI n).p v X w):
  Fn PP 109 [v] X w (eE (.string (aJ n))):=by
 obtain⟨R,hRR⟩:=nm (eE (.string (aJ n)));obtain⟨K,hK⟩:=nm ([KF.cst v (aI n)]);rw[<-hRR];refine bJ mixed tok [.q v] (K:=K) Tryz.func109 rfl rfl (lbl rfl) rfl hX (by subst hK;simp;exact hv) λc hc hR=>?_;refine dE 0 .u32 (aC n) rfl rfl (λX μ a w v' H hv'=>cD H (by simp[hK]) hv') λf N cap hN hf dJ=>?_;have kf:∀q,lT q K K:=λq=>by subst hK;exact⟨⟨.head _,KFr.cst _ _ _⟩,trivial⟩
 have cU:∀(kd:IntKind) (e:IE) (z:Int),e.den=z->lo kd<=z/\z<=hi kd->(Obl.inR kd e).ok:=λkd e z he hz=>by show _/\_;rw[he];exact hz
 obtain⟨G,hG⟩:∃G:Option Addr->Nat->Nat->List Int->OF,∀a n cap l,G a n cap l=OF.row (.slice a n cap) c.B.heap.size 5 .u8 l:=⟨λa n cap l=>OF.row (.slice a n cap) c.B.heap.size 5 .u8 l,λ_ _ _ _=>rfl⟩;apply zN hc;cbv;refine aE rfl 100 (λh=>?_) (λh=>?_)
 ·have h0:N=0:=by have:=of_decide_eq_true (show decide ((N:Int)=0)=true from h);omega
  have hn0:n=0:=uH zW
  cbv;refine bB hc hR rfl (λX μ a w v H hv=>?_);rw[hRR,hn0];have hv:=dW hv;rw[hv];show Value.string _=Value.string (aJ 0)
  unfold aJ;rw[aMb];rfl
 have hN0:0<N:=by have:=of_decide_eq_false (show decide ((N:Int)=0)=false from h);omega
 refine tT hG rfl ?_;apply zN hc;cbv;let ι:={x:Nat × ToX//Tx n N x.1 x.2.out/\x.2.k=x.2.out.length/\x.1<=N};let I:ι->St:=λx=>⟨[(0,.sl 0 0 (.n N) cap),(3,.xs x.1.2.a x.1.2.k x.1.2.cap),(4,.i .i64 (.n x.1.1))],[.xi .u32 N f],[G x.1.2.a x.1.2.k x.1.2.cap x.1.2.out]⟩
 let x0:ι:=⟨(0,⟨none,0,0,[]⟩),.inl ⟨hN0,rfl⟩,rfl,Nat.zero_le _⟩
 have kof:∀a i cp out,aCb 1 [G a i cp out]:=λa i cp out=>⟨by rw[hG];exact OFr.row _ _ _ _ _ _,trivial⟩
 refine zU 1 (S':=I x0) (K':=K) zL (kf _) (kof _ _ _ _) ?_;refine bW hc I (λx=>N - x.1.1) x0 100 ?_;rintro p ⟨⟨i,a,cp,k0,out⟩,hT,hk0,hiN⟩ hy;simp only at hT hk0 hiN;cbv;refine aE rfl 100 (λh=>?_) (λh=>?_)
 ·have bEu:i<N:=BE.ltn_t h
  have hga:=bA (bG n) i
  obtain⟨ga,iM⟩:=nm ((aC n).getD i 0);rw[<-iM]at hga;have hix:aY 0 (IE.n i).den 1 0=i:=by simp only[aY,IE.den];omega
  have g1:(IE.fn f 0 (IE.n i) 1 0).den=ga:=by show f (aY 0 (IE.n i).den 1 0)=ga;rw[hix,iM];exact lF hf
  have o1:(Obl.ltE (IE.n i) (IE.n N)).ok:=by show _/\_;simp only[IE.den];omega
  have o2:(Obl.ix 0 (IE.n i) 1 0 1 N).ok:=by show _<=_;rw[hix];omega
  let κ:={x:Nat × Int × ToX//Ty n N i x.1 x.2.1 x.2.2.out/\x.2.2.k=x.2.2.out.length}
  let J:κ->St:=λx=>⟨[(0,.sl 0 0 (.n N) cap),(3,.xs x.1.2.2.a x.1.2.2.k x.1.2.2.cap),(4,.i .i64 (.n i)),(5,.i .u32 (.v x.1.2.1)),(6,.i .i64 (.n x.1.1))],[.xi .u32 N f],[G x.1.2.2.a x.1.2.2.k x.1.2.2.cap x.1.2.2.out]⟩
  let y0:κ:=⟨(0,ga,⟨a,cp,k0,out⟩),Ty.init hT bEu iM,hk0⟩
  cbv;refine aP hc ⟨o1,o2,trivial⟩ ?_;refine zU 1 (S':=J y0) (K':=K) ⟨zS,zS,zS,zI rfl rfl g1,zL⟩ (kf _) (kof _ _ _ _) ?_;refine bW hc J (λx=>9 - x.1.1) y0 100 ?_;rintro p2 ⟨⟨k,wd,a,cp,k0,out⟩,hY,hk0⟩ hyk;simp only at hY hk0;have hk9:=hY.hk;have hwb:0<=wd/\wd<1000000000:=by
   have h1:=hY.w
   have hb:n/1000000000^i%1000000000/10^k<1000000000:=Nat.lt_of_le_of_lt (Nat.div_le_self _ _) (Nat.mod_lt _ zV)
   generalize n/1000000000^i%1000000000/10^k=W at *;omega
  have hol:out.length<=9*N:=by
   rw[hY.out,uL];omega
  obtain⟨i',hi'⟩:=nm (i+1);have hi1:((IE.n i).add (IE.l 1)).den=(IE.n i').den:=by simp only[IE.den,hi'];omega
  have oi:(Obl.inR .i64 ((IE.n i).add (IE.l 1))).ok:=by show lo _<=_/\_<=hi _;simp only[lo,hi,IE.den];omega
  have hmi:N - i'<N - i:=zW
  have tI:k=9\/(i+1=N/\wd=0)->Tx n N i' out:=λh=>by rw[hi'];exact hY.done hN.symm h
  have aEp:i'<=N:=zW
  have hlb:(out.length+1)*1<=140737488355328:=zW
  have qO:out.length+1<=9223372036854775807:=zW
  obtain⟨k',hk'⟩:=nm (k+1);obtain⟨w',hw'⟩:=nm (wd/10);have hst:k<9->i+1<N\/0<wd->Ty n N i (k+1) w' (out++[48+wd%10]):=λh1 h2=>by rw[hw'];exact(hY.step hN.symm h1 h2).1
  have er:(IE.rem (.v wd) (.l 10)).den=wd%10:=by show wd.tmod 10=_;rw[Int.tmod_eq_emod_of_nonneg hwb.1]
  have e8:(IE.add (.l 48) (.rem (.v wd) (.l 10))).den=48+wd%10:=by show 48+(IE.rem (.v wd) (.l 10)).den=_;rw[er]
  have ew:(IE.quo (.v wd) (.l 10)).den=(IE.v w').den:=by show wd.tdiv 10=w';rw[Int.tdiv_eq_ediv_of_nonneg hwb.1,hw']
  have hk1:((IE.n k).add (IE.l 1)).den=(IE.n k').den:=by simp only[IE.den,hk'];omega
  have p1:(Obl.nz (IE.l 10)).ok:=by show _≠_;simp[IE.den]
  have p2:=cU .u32 _ _ e8 zX
  have p3:=cU .u8 _ _ e8 zX
  have p4:(Obl.inR .i64 ((IE.n k).add (IE.l 1))).ok:=by show lo _<=_/\_<=hi _;simp only[lo,hi,IE.den];omega
  have p5:=cU .u32 _ _ ew (by show lo _<=w'/\w'<=hi _;simp only[lo,hi];omega)
  have p6:=cU .u32 _ _ er zX
  have e1N:(BE.lt (.add (.n i) (.l 1)) (.n N)).den=decide (i+1<N):=by
   show decide (((i:Int)+1)<(N:Int))=_
   exact decide_eq_decide.2 zW
  cbv;refine cG 24 rfl rfl 100 (λh=>?_) (λh=>?_)
  ·have hk:k<9:=by have:=of_decide_eq_true (show decide ((k:Int)<9)=true from h);omega
   have hst:=hst hk
   have hmk:9 - k'<9 - k:=zW
   cbv;refine zO ?_;refine cG 30 rfl rfl 100 (λh=>?_) (λh=>?_)
   ·have hcc:i+1<N\/0<wd:=.inl (of_decide_eq_true (e1N.symm.trans h))
    cbv;refine zO ?_;refine fK hc _ rfl rfl rfl hG rfl rfl rfl rfl rfl rfl rfl rfl rfl aIr hlb qO (λa' n' aU l' hn' hl'=>?_);have hl':l'=out++[48+wd%10]:=by rw[hl',e8]
    have hst:=hst hcc
    rw[<-hl',<-hk']at hst;have hn':n'=l'.length:=by rw[hn',hl',List.length_append];rfl
    apply zN hc;cbv;refine zO ?_;exact zU 1 (S':=J ⟨(k',w',⟨a',aU,n',l'⟩),hst,hn'⟩) (K':=K) ⟨zS,zS,zS,zI rfl rfl ew,zI rfl rfl hk1,zL⟩ (kf _) (kof _ _ _ _) (hyk ⟨(k',w',⟨a',aU,n',l'⟩),hst,hn'⟩ hmk)
   ·have h:¬i+1<N:=of_decide_eq_false (e1N.symm.trans h)
    cbv;refine aE rfl 100 (λh2=>?_) (λh2=>?_)
    ·have hcc:i+1<N\/0<wd:=.inr (BE.lt_t h2)
     cbv;refine zO ?_;refine fK hc _ rfl rfl rfl hG rfl rfl rfl rfl rfl rfl rfl rfl rfl aIr hlb qO (λa' n' aU l' hn' hl'=>?_);have hl':l'=out++[48+wd%10]:=by rw[hl',e8]
     have hst:=hst hcc
     rw[<-hl',<-hk']at hst;have hn':n'=l'.length:=by rw[hn',hl',List.length_append];rfl
     apply zN hc;cbv;refine zO ?_;exact zU 1 (S':=J ⟨(k',w',⟨a',aU,n',l'⟩),hst,hn'⟩) (K':=K) ⟨zS,zS,zS,zI rfl rfl ew,zI rfl rfl hk1,zL⟩ (kf _) (kof _ _ _ _) (hyk ⟨(k',w',⟨a',aU,n',l'⟩),hst,hn'⟩ hmk)
    ·have h2:¬0<wd:=BE.lt_f h2
     have hd:=tI (.inr ⟨zW,zW⟩)
     cbv;refine zO ?_;exact zU 1 (S':=I ⟨(i',⟨a,cp,k0,out⟩),hd,hk0,aEp⟩) (K':=K) ⟨zS,zS,zI rfl rfl hi1,zL⟩ (kf _) (kof _ _ _ _) (hy ⟨(i',⟨a,cp,k0,out⟩),hd,hk0,aEp⟩ hmi)
  ·have hk:k=9:=by have:=of_decide_eq_false (show decide ((k:Int)<9)=false from h);omega
   have hd:=tI (.inl hk)
   cbv;refine zO ?_;exact zU 1 (S':=I ⟨(i',⟨a,cp,k0,out⟩),hd,hk0,aEp⟩) (K':=K) ⟨zS,zS,zI rfl rfl hi1,zL⟩ (kf _) (kof _ _ _ _) (hy ⟨(i',⟨a,cp,k0,out⟩),hd,hk0,aEp⟩ hmi)
 ·have bEu:¬i<N:=λh'=>by have:=BE.lt_f h;exact this (Int.ofNat_lt.2 h')
  have hT:Tx n N N out:=by
   have e:i=N:=zW
   rw[e]at hT;exact hT
  obtain⟨d1,d2,d3,d4⟩:=hT.done;have hne:out≠[]:=λe=>by rw[e]at d2;simp at d2
  obtain⟨q0,hq0⟩:∃q0,q0+1=k0:=⟨k0 - 1,zW⟩;have eq0:((IE.n k0).sub (IE.l 1)).den=(IE.n q0).den:=by simp only[IE.den];omega
  have o1:(Obl.inR .i64 ((IE.n k0).sub (IE.l 1))).ok:=by show lo _<=_/\_<=hi _;simp only[lo,hi,IE.den];omega
  have hql:q0+0+1=out.length:=zW
  have bGt:out.length<=2^42:=zW
  cbv;refine zO ?_;refine aNh 3 rfl rfl (hG _ _ _ _) rfl hne (λLo hLo bI9=>?_);rw[<-hLo]at hql bGt;let κ2:={x:Nat × Nat × List Int//Sw out x.2.2 x.1/\x.2.1+x.1+1=Lo};let H:κ2->St:=λx=>⟨[(3,.sl 1 0 (.n Lo) cp),(7,.i .i64 (.n x.1.1)),(8,.i .i64 (.n x.1.2.1))],[.xi .u32 N f,.w 5 .u8 x.1.2.2],[]⟩
  let z0:κ2:=⟨(0,q0,out),Sw.init out,hql⟩
  refine zU 2 (S':=H z0) (K':=K) ⟨zS,zS,zI rfl rfl eq0,trivial⟩ (kf _) trivial ?_;refine bW hc H (λx=>Lo - x.1.1) z0 100 ?_;rintro p3 ⟨⟨i,q,l⟩,hS,hq⟩ hyz;simp only at hS hq;have hll:l.length=Lo:=by rw[hS.len,hLo]
  cbv;refine aE rfl 3 (λh=>?_) (λh=>?_)
  ·have hiq:i<q:=BE.ltn_t h
   have ixi:aY 0 (IE.n i).den 1 0=i:=by simp only[aY,IE.den];omega
   have ixq:aY 0 (IE.n q).den 1 0=q:=by simp only[aY,IE.den];omega
   have z1:(Obl.ltE (IE.n i) (IE.n Lo)).ok:=by show _/\_;simp only[IE.den];omega
   have z2:(Obl.ltE (IE.n q) (IE.n Lo)).ok:=by show _/\_;simp only[IE.den];omega
   have z3:(Obl.ixL 0 (IE.n i) 1 0 l).ok:=by show _<_;rw[ixi];omega
   have z4:(Obl.ixL 0 (IE.n q) 1 0 l).ok:=by show _<_;rw[ixq];omega
   have bBo:aY 0 (IE.n i).den 1 0<l.length:=by rw[ixi];omega
   obtain⟨l1,hl1⟩:=nm (l.set (aY 0 (IE.n i).den 1 0) (IE.nth l 0 (IE.n q) 1 0).den);have bBp:aY 0 (IE.n q).den 1 0<l1.length:=by rw[hl1,List.length_set,ixq];omega
   obtain⟨l2,hl2⟩:=nm (l1.set (aY 0 (IE.n q).den 1 0) (IE.nth l 0 (IE.n i) 1 0).den);have hst:Sw out l2 (i+1):=by
    have h:=hS.step (k:=q) zW hiq
    have e1:(IE.nth l 0 (IE.n q) 1 0).den=l.getD q 0:=by show l.getD (aY 0 (IE.n q).den 1 0) 0=_;rw[ixq]
    have e2:(IE.nth l 0 (IE.n i) 1 0).den=l.getD i 0:=by show l.getD (aY 0 (IE.n i).den 1 0) 0=_;rw[ixi]
    rw[hl2,hl1,e1,e2,ixi,ixq];exact h
   obtain⟨i',hi'⟩:=nm (i+1);obtain⟨q',hq'⟩:∃q',q'+1=q:=⟨q - 1,zW⟩;rw[<-hi']at hst;have hq2:q'+i'+1=Lo:=zW;have hmz:Lo - i'<Lo - i:=zW;have ei:((IE.n i).add (IE.l 1)).den=(IE.n i').den:=by simp only[IE.den,hi'];omega
   have eq:((IE.n q).sub (IE.l 1)).den=(IE.n q').den:=by simp only[IE.den];omega
   have oi:(Obl.inR .i64 ((IE.n i).add (IE.l 1))).ok:=by show lo _<=_/\_<=hi _;simp only[lo,hi,IE.den];omega
   have oq:(Obl.inR .i64 ((IE.n q).sub (IE.l 1))).ok:=by show lo _<=_/\_<=hi _;simp only[lo,hi,IE.den];omega
   cbv;refine aYc hc [2,3] ?_;refine bDy hc 12 ?_;cbv;refine bGj (by repeat (first | exact trivial | refine⟨by assumption,?_⟩)) ?_;refine bAv zV zG (λb1 b2=>?_) zV zV;cases b1<;>cases b2<;>cbv;all_goals repeat' (first
    | refine aP hc ⟨by assumption,trivial⟩ ?_
    | (refine iD hc _ (r:=(1,5,.u8,l,aY 0 (IE.n i).den 1 0,.nth l 0 (.n q) 1 0)) bBo (λl' hl'=>?_);have e:l1=l':=hl1.trans hl'.symm;subst e;refine iC hc 1 ?_;cbv)
    | (refine iD hc _ (r:=(1,5,.u8,l1,aY 0 (IE.n q).den 1 0,.nth l 0 (.n i) 1 0)) bBp (λl' hl'=>?_);have e:l2=l':=hl2.trans hl'.symm;subst e;refine iC hc 1 ?_;cbv)
    | (refine wK (by decide+kernel) rfl ?_;apply zN hc;cbv;refine zO ?_;exact zU 2 (S':=H ⟨(i',q',l2),hst,hq2⟩) (K':=K) ⟨zS,zI rfl rfl ei,zI rfl rfl eq,trivial⟩ (kf _) trivial (hyz ⟨(i',q',l2),hst,hq2⟩ hmz))
    | (refine bU [2,3,12] (by decide+kernel) rfl (λi hi=>?_);simp only[List.mem_cons,List.not_mem_nil,or_false]at hi;rcases hi with rfl | rfl | rfl<;>(refine⟨_,rfl,rfl,?_⟩;refine iC hc 2 ?_;cbv))
    | (refine bU [2,12] (by decide+kernel) rfl (λi hi=>?_);simp only[List.mem_cons,List.not_mem_nil,or_false]at hi;rcases hi with rfl | rfl<;>(refine⟨_,rfl,rfl,?_⟩;refine iC hc 2 ?_;cbv))
    | (refine bU [3,12] (by decide+kernel) rfl (λi hi=>?_);simp only[List.mem_cons,List.not_mem_nil,or_false]at hi;rcases hi with rfl | rfl<;>(refine⟨_,rfl,rfl,?_⟩;refine iC hc 2 ?_;cbv))
    | (refine bU [12] (by decide+kernel) rfl (λi hi=>?_);obtain rfl:=List.mem_singleton.1 hi;refine⟨_,rfl,rfl,?_⟩;refine iC hc 2 ?_;cbv)
    | (refine bU [2,3,13] (by decide+kernel) rfl (λi hi=>?_);simp only[List.mem_cons,List.not_mem_nil,or_false]at hi;rcases hi with rfl | rfl | rfl<;>(refine⟨_,rfl,rfl,?_⟩;refine iC hc 2 ?_;cbv))
    | (refine bU [2,13] (by decide+kernel) rfl (λi hi=>?_);simp only[List.mem_cons,List.not_mem_nil,or_false]at hi;rcases hi with rfl | rfl<;>(refine⟨_,rfl,rfl,?_⟩;refine iC hc 2 ?_;cbv))
    | (refine bU [3,13] (by decide+kernel) rfl (λi hi=>?_);simp only[List.mem_cons,List.not_mem_nil,or_false]at hi;rcases hi with rfl | rfl<;>(refine⟨_,rfl,rfl,?_⟩;refine iC hc 2 ?_;cbv))
    | (refine bU [13] (by decide+kernel) rfl (λi hi=>?_);obtain rfl:=List.mem_singleton.1 hi;refine⟨_,rfl,rfl,?_⟩;refine iC hc 2 ?_;cbv)
    | (refine bU [2,3] (by decide+kernel) rfl (λi hi=>?_);simp only[List.mem_cons,List.not_mem_nil,or_false]at hi;rcases hi with rfl | rfl<;>(refine⟨_,rfl,rfl,?_⟩;refine iC hc 2 ?_;cbv))
    | (refine bU [2] (by decide+kernel) rfl (λi hi=>?_);obtain rfl:=List.mem_singleton.1 hi;refine⟨_,rfl,rfl,?_⟩;refine iC hc 2 ?_;cbv)
    | (refine bU [3] (by decide+kernel) rfl (λi hi=>?_);obtain rfl:=List.mem_singleton.1 hi;refine⟨_,rfl,rfl,?_⟩;refine iC hc 2 ?_;cbv)
    | (refine bU [14] (by decide+kernel) rfl (λi hi=>?_);obtain rfl:=List.mem_singleton.1 hi;refine⟨_,rfl,rfl,?_⟩;refine iC hc 2 ?_;cbv)
    | (refine bU [15] (by decide+kernel) rfl (λi hi=>?_);obtain rfl:=List.mem_singleton.1 hi;refine⟨_,rfl,rfl,?_⟩;refine iC hc 2 ?_;cbv))
  ·have hiq:q<=i:=BE.ltn_f h
   have bH0:l=out.reverse:=hS.done zW
   have hLp:0<Lo:=zW
   have hbs:l=(decDigits n).map λc=>((c.toNat:Nat):Int):=by rw[bH0,d1]
   have hLl:Lo=l.length:=hll.symm
   have hu1:PP.underlying 210=some (.slice 5):=zG
   have hu2:PP.underlying 5=some (.int .u8):=zG
   have hu3:PP.underlying 9=some .string:=zG
   apply zN hc;cbv;obtain⟨tx,htx⟩:∃tx:ByteArray,tx=⟨(decDigits n).toArray⟩:=⟨_,rfl⟩;refine aNf hc _ rfl rfl rfl rfl rfl rfl hLl hLp hu1 hu2 hu3 hbs htx ?_;apply zN hc;cbv;refine bB hc hR rfl (λX μ a w v H hv=>?_);have hv:=dW hv;rw[hRR,hv];show Value.string tx=Value.string (aJ n)
   rw[htx];rfl
end Go.Ai
namespace Go.Ai
open Go Go.Proofs Go.Num
abbrev qI (q:Rat):RV1:=qR (decide (q.num<0)) q.num.natAbs q.den
theorem bDu:aB PP 108:=zK
theorem zTo {z:Int}(hb:(aC z.natAbs).length<=2^38)(hs:dl z.natAbs<=2^60):fD PP 108 [zIt z] (.sg (.one (.s (.v (aW z))))):=by
 obtain⟨n,hn⟩:=nm (z.natAbs);have hz:aW z=if decide (z<0)=true then⟨#[45]⟩++aJ n else aJ n:=by
  apply kQ;rw[dF,hn];unfold Lib.itoa;split
  ·rename_i h;rw[decide_eq_true h,if_pos rfl,gF,cZ];rfl
  ·rename_i h;rw[decide_eq_false h,if_neg zA,cZ];congr 1;omega
 have hsz:(aJ n).size<=2^60:=by rw[fS,hn];exact hs
 obtain⟨R1,hR1⟩:=nm (aI n);have hto:∀{v:Value} {X:Nat->Prop} {w:World},(∀b,X b->b<w.heap.size)->R1.p v X w->Fn PP 109 [v] X w (eE (.string (aJ n))):=λhX h=>by
  rw[hR1]at h;exact oTo (by rw[hn];exact hb) hX h
 unfold zIt;rw[<-hn];generalize decide (z<0)=b,aW z=r at hz |-;generalize aJ n=s at hz hsz hto;have o1:(Obl.cat (.v ⟨#[45]⟩) (.v s)).ok:=by show((1+s.size:Nat):Int)<=_;omega
 have hzr:zRt b n=.agg [.b (.l b),.x R1]:=by rw[hR1];rfl
 obtain⟨F,hF⟩:=nm (lR (.sg (zRt b n)));rw[hzr]at hF |-;refine fU mixed tok Tryz.func108 rfl (by rfl) rfl [F] ⟨hF,trivial⟩ λc G hG hc hR=>?_;obtain⟨K,hK⟩:=nm (nH 0 [F]);rw[<-hK];have m1:KF.at 0 F∈K:=by rw[hK];exact .head _
 cases b with
 | true=>
  rw[if_pos rfl]at hz;apply zN hc;cbv;refine cE hc (.s (.v s)) aSb (λn0 D X μ a w aK H aG=>?_) rfl 100 ?_
  ·obtain⟨v,rfl,e1⟩:=bN aG;exact hto H.xlt (((bM.ec (c:=.x R1) (F:=F) m1 hF rfl).ok H.kf e1).2)
  cbv;refine aP hc ⟨o1,trivial⟩ ?_;exact dL hc hG hR rfl (.s (by rw[hz];rfl))
 | false=>
  rw[if_neg zA]at hz;apply zN hc;cbv;refine cE hc (.s (.v s)) aSb (λn0 D X μ a w aK H aG=>?_) rfl 100 ?_
  ·obtain⟨v,rfl,e1⟩:=bN aG;exact hto H.xlt (((bM.ec (c:=.x R1) (F:=F) m1 hF rfl).ok H.kf e1).2)
  cbv;exact dL hc hG hR rfl (.s (by rw[hz]))
theorem kX:aB PP 55:=zK
theorem qTo {q:Rat}(hb:(aC q.num.natAbs).length<=2^38)(hd:(aC q.den).length<=2^38)(hs:sz q<=2^58):fD PP 55 [qI q] (.sg (.one (.s (.v (aA q))))):=by
 have hs1:dl q.num.natAbs<=2^58:=lTr (Nat.le_max_left _ _) hs
 have hs2:dl q.den<=2^58:=lTr (Nat.le_max_right _ _) hs
 have kz:=zTo (z:=q.num) hb zW
 have hq:aA q=if q.den=1 then aW q.num else(aW q.num++⟨#[47]⟩)++aJ q.den:=rfl
 have hz1:(aW q.num).size<=2^59:=lTr (mE q.num) zW
 have hz2:(aJ q.den).size<=2^59:=by rw[fS];omega
 have mA:q.den=1↔aJ q.den=⟨#[49]⟩:=by
  constructor
  ·intro h;rw[h];unfold aJ;rw[aW0]
  ·intro h;exact aVx (h.trans (by unfold aJ;rw[aW0]))
 obtain⟨n,hn⟩:=nm (q.num.natAbs);obtain⟨d,hd'⟩:=nm (q.den);obtain⟨R1,hR1⟩:=nm (aI n);obtain⟨R2,hR2⟩:=nm (aI d);have hto:∀{v:Value} {X:Nat->Prop} {w:World},(∀b,X b->b<w.heap.size)->R2.p v X w->Fn PP 109 [v] X w (eE (.string (aJ d))):=λhX h=>by
  rw[hR2]at h;exact oTo (by rw[hd'];exact hd) hX h
 unfold qI;unfold zIt at kz;rw[<-hn,<-hd'];rw[<-hn]at kz;rw[<-hd']at hq hz2 mA;generalize decide (q.num<0)=b at kz |-;generalize aA q=r at hq |-;generalize aW q.num=s at kz hq hz1;generalize aJ d=t at hto hq hz2 mA;have hzr:zRt b n=.agg [.b (.l b),.x R1]:=by rw[hR1];rfl
 have hqr:qR b n d=.agg [.b (.l b),.x R1,.x R2]:=by rw[hR1,hR2];rfl
 obtain⟨F,hF⟩:=nm (lR (.sg (qR b n d)));rw[hqr]at hF |-;rw[hzr]at kz;refine fU mixed tok Tryz.func55 rfl (by rfl) rfl [F] ⟨hF,trivial⟩ λc G hG hc hR=>?_;obtain⟨K,hK⟩:=nm (nH 0 [F]);rw[<-hK];have m1:KF.at 0 F∈K:=by rw[hK];exact .head _
 apply zN hc;cbv;refine gM hc bDu kz ⟨⟨.b rfl,.ec m1 hF rfl,trivial⟩,trivial⟩ (.s (.v s)) 100 (λFB hFB=>?_);cbv;refine cE hc (.s (.v t)) aSb (λn0 D X μ a w aK H aG=>?_) rfl 100 ?_
 ·obtain⟨v,rfl,e1⟩:=bN aG;exact hto H.xlt (((bM.ec (c:=.x R2) (F:=F) (.tail _ m1) hF rfl).ok H.kf e1).2)
 cbv;refine aE rfl 100 (λh=>?_) (λh=>?_)
 ·have h:t.data.toList≠(⟨#[49]⟩:ByteArray).data.toList:=BE.seq_f (a:=.v t) (b:=.v ⟨#[49]⟩) (by simpa[BE.den]using h)
  have hd1:¬d=1:=λe=>h (by rw[mA.1 e])
  rw[if_neg hd1]at hq;have e:s++((⟨#[47]⟩:ByteArray)++t)=r:=by
   rw[hq];apply kQ;simp only[gF,List.append_assoc]
  cbv;refine aP hc ⟨?_,?_,trivial⟩ ?_
  ·show((1+t.size:Nat):Int)<=_;omega
  ·show((s.size+(⟨#[47]⟩++t:ByteArray).size:Nat):Int)<=_
   rw[ByteArray.size_append];show((s.size+(1+t.size):Nat):Int)<=_
   omega
  exact dL hc hG hR rfl (.s e)
 ·have h:t.data.toList=(⟨#[49]⟩:ByteArray).data.toList:=BE.seq_t (a:=.v t) (b:=.v ⟨#[49]⟩) (by simpa[BE.den]using h)
  have hd1:d=1:=mA.2 (kQ h)
  rw[if_pos hd1]at hq;cbv;exact dL hc hG hR rfl (.s hq.symm)
theorem aH4 {z:Int}{d:Nat}(hd:0<d)(hbz:(aC z.natAbs).length<=2^38)(hbd:(aC d).length<=2^38):fD PP 110 [zIt z,.one (.x (aI d))] (.sg (qI (mkRat z d))):=by
 obtain⟨m1,m2⟩:=tO z hd;obtain⟨g,hg⟩:=nm (Nat.gcd z.natAbs d);rw[<-hg]at m1 m2;have hg0:0<g:=by rw[hg];exact Nat.gcd_pos_of_pos_right _ hd
 have hdz:(g:Int)∣z:=by rw[hg];exact Int.ofNat_dvd_left.2 (Nat.gcd_dvd_left _ _)
 obtain⟨y,hy⟩:=hdz;have hzg:z/(g:Int)=y:=by rw[hy];exact Int.mul_ediv_cancel_left _ zW
 have hn:z.natAbs/g=y.natAbs:=by rw[hy,Int.natAbs_mul,Int.natAbs_natCast];exact Nat.mul_div_cancel_left _ hg0
 have bH2:decide (y<0)=(decide (z<0)&&decide (z.natAbs/g≠0)):=by
  have h1:y<0↔z<0:=by
   rw[hy];constructor
   ·intro h;exact Int.mul_neg_of_pos_of_neg zW h
   ·intro h;apply Classical.byContradiction;intro h';have:=Int.mul_nonneg (show(0:Int)<=g by omega) (show 0<=y by omega);omega
  rw[hn,Bool.eq_iff_iff,Bool.and_eq_true,decide_eq_true_eq,decide_eq_true_eq,decide_eq_true_eq,h1];omega
 unfold qI;rw[m1,m2,hzg,bH2,<-hn];rcases Nat.eq_or_lt_of_le hg0 with h1 | h1
 ·have h1:g=1:=h1.symm
  have e:(decide (z<0)&&decide (z.natAbs/g≠0))=decide (z<0):=by
   rw[h1,Nat.div_one,Bool.eq_iff_iff,Bool.and_eq_true,decide_eq_true_eq,decide_eq_true_eq];omega
  rw[e,h1,Nat.div_one,Nat.div_one];exact aKn aO8 hbz hbd (by rw[<-hg,h1])
 ·have hgd:g<=d:=by rw[hg];exact Nat.gcd_le_right _ hd
  exact aH5 aO8 hbz hbd hg.symm h1 (lTr (bS hgd) hbd) rfl
theorem iV {n m j k:Nat}(hn:(aC n).length<=j)(hm:(aC m).length<=k):(aC (n*m)).length<=j+k:=by
 refine bP ?_;have h1:=aT hn;have h2:=aT hm;rw[Nat.pow_add];exact Nat.mul_lt_mul_of_lt_of_le h1 (Nat.le_of_lt h2) (Nat.pow_pos zV)
theorem aAy {x y:Int}{k:Nat}(hx:(aC x.natAbs).length<=k)(hy:(aC y.natAbs).length<=k):(aC (x+y).natAbs).length<=k+1:=by
 refine bP ?_;have h1:=aT hx;have h2:=aT hy;have h3:=Int.natAbs_add_le x y;rw[Nat.pow_succ];omega
theorem uX {z:Int}{d:Nat}(hd:0<d):fD PP 116 [.one (.b (.l (decide (z<0)))),.one (.x (aI (z.natAbs*d)))] (.sg (zIt (z*d))):=by
 have h1:(z*d).natAbs=z.natAbs*d:=by rw[Int.natAbs_mul,Int.natAbs_natCast]
 have h2:decide (z*(d:Int)<0)=(decide (z<0)&&decide (z.natAbs*d≠0)):=by
  rw[Bool.eq_iff_iff,Bool.and_eq_true,decide_eq_true_eq,decide_eq_true_eq,decide_eq_true_eq];constructor
  ·intro h;have hz:z<0:=by
    apply Classical.byContradiction;intro h';have:=Int.mul_nonneg (show 0<=z by omega) (show(0:Int)<=d by omega);omega
   exact⟨hz,Nat.ne_of_gt (Nat.mul_pos zW hd)⟩
  ·rintro ⟨h,_⟩;exact Int.mul_neg_of_neg_of_pos h zW
 unfold zIt;rw[h1];exact aBd h2
theorem aFi {n:Nat}:bD (n:Int) n=0:=by unfold bD;simp
theorem aWu {n m:Nat}(h:n≠m):bD (n:Int) m≠0:=by
 unfold bD;split
 ·decide
 ·split
  ·decide
  ·omega
theorem kW:aB PP 59:=zK
theorem aXx {a b:Rat}(he:a.den=b.den)(ha:(aC a.num.natAbs).length<=2^34)(hb:(aC b.num.natAbs).length<=2^34)(hd:(aC a.den).length<=2^34):fD PP 59 [qI a,qI b] (.sg (qI (a+b))):=by
 have hd0:0<a.den:=a.den_pos
 have hab:mkRat (a.num+b.num) a.den=a+b:=by
  have h1:=Rat.mkRat_mul_right (n:=a.num+b.num) (d:=a.den) (a:=a.den) zW
  rw[Rat.add_def',<-he,<-h1,Int.add_mul]
 have kp:=aV9 (x:=a.num) (y:=b.num) zW zW
 have hs:=aAy ha hb
 have kl:=aH4 (z:=a.num+b.num) hd0 zW zW
 rw[hab]at kl;have aJu:∀{v u:Value} {X:Nat->Prop} {w:World},(∀b,X b->b<w.heap.size)->(aI a.den).p v X w->(aI a.den).p u X w->Fn PP 97 [v,u] X w (eE (.int .i64 0)):=λhX h1 h2=>by
  have:=aKh (n:=a.den) (m:=a.den) zW zW hX h1 h2
  rw[aFi]at this;exact this
 unfold qI at *;unfold zIt at *;rw[<-he];generalize a.num+b.num=sm at *;generalize hqs:a+b=qs at *;obtain⟨R1,hR1⟩:=nm (aI a.num.natAbs);obtain⟨R2,hR2⟩:=nm (aI b.num.natAbs);obtain⟨RD,hRD⟩:=nm (aI a.den);obtain⟨RS,hRS⟩:=nm (aI sm.natAbs);obtain⟨RN,hRN⟩:=nm (aI qs.num.natAbs);obtain⟨RE,hRE⟩:=nm (aI qs.den);unfold qR zRt at *;rw[<-hR1,<-hRD,<-hR2,<-hRN,<-hRE];rw[<-hR1,<-hR2,<-hRS]at kp;rw[<-hRS,<-hRD,<-hRN,<-hRE]at kl;rw[<-hRD]at aJu;generalize decide (a.num<0)=b1,decide (b.num<0)=b2,decide (sm<0)=b3,decide (qs.num<0)=b4 at *;clear hR1 hR2 hRD hRS hRN hRE hqs hab hs;obtain⟨F1,hF1⟩:=nm (lR (.sg (.agg [.b (.l b1),.x R1,.x RD])));obtain⟨F2,hF2⟩:=nm (lR (.sg (.agg [.b (.l b2),.x R2,.x RD])));refine fU mixed tok Tryz.func59 rfl (by rfl) rfl [F1,F2] ⟨hF1,hF2,trivial⟩ λc G hG hc hR=>?_;obtain⟨K,hK⟩:=nm (nH 0 [F1,F2]);rw[<-hK];have m1:KF.at 0 F1∈K:=by rw[hK];exact .head _
 have m2:KF.at 1 F2∈K:=by rw[hK];exact .tail _ (.head _)
 apply zN hc;cbv;refine cE hc (.i .i64 (.l 0)) pR (λn0 D X μ a w aK H aG=>?_) rfl 100 ?_
 ·obtain⟨v,u,rfl,e1,e2⟩:=bI aG;exact aJu H.xlt (((bM.ec (c:=.x RD) (F:=F1) m1 hF1 rfl).ok H.kf e1).2) (((bM.ec (c:=.x RD) (F:=F2) m2 hF2 rfl).ok H.kf e2).2)
 cbv;refine jN hc aG7 kp ⟨⟨.b rfl,.ec m1 hF1 rfl,trivial⟩,⟨.b rfl,.ec m2 hF2 rfl,trivial⟩,trivial⟩ (.g [.b (.l b3),.ec 5 1]) 100 (λFB hFB=>?_);cbv;refine jN hc zY kl ⟨⟨.b rfl,.ec (.head _) hFB rfl,trivial⟩,.ec (.tail _ m1) hF1 rfl,trivial⟩ (.g [.b (.l b4),.ec 6 1,.ec 6 2]) 100 (λFC hFC=>?_);cbv;refine zE ?_;cbv;exact dL hc hG hR rfl ⟨.b rfl,.ec (.head _) hFC rfl,.ec (.head _) hFC rfl,trivial⟩
theorem aXy {a b:Rat}(he:a.den≠b.den)(ha:(aC a.num.natAbs).length<=2^34)(hb:(aC b.num.natAbs).length<=2^34)(hda:(aC a.den).length<=2^34)(hdb:(aC b.den).length<=2^34):fD PP 59 [qI a,qI b] (.sg (qI (a+b))):=by
 have ha0:0<a.den:=a.den_pos
 have hb0:0<b.den:=b.den_pos
 have hab:mkRat (a.num*b.den+b.num*a.den) (a.den*b.den)=a+b:=(Rat.add_def' a b).symm
 have n1:(aC (a.num*b.den).natAbs).length<=2^34+2^34:=by rw[Int.natAbs_mul,Int.natAbs_natCast];exact iV ha hdb
 have n2:(aC (b.num*a.den).natAbs).length<=2^34+2^34:=by rw[Int.natAbs_mul,Int.natAbs_natCast];exact iV hb hda
 have hs:=aAy n1 n2
 have hdd:=iV hda hdb
 have ka:=uX (z:=a.num) hb0
 have kb:=uX (z:=b.num) ha0
 have kp:=aV9 (x:=a.num*b.den) (y:=b.num*a.den) zW zW
 have kl:=aH4 (z:=a.num*b.den+b.num*a.den) (d:=a.den*b.den) (Nat.mul_pos ha0 hb0) zW zW
 rw[hab]at kl;obtain⟨cz,hcz⟩:=nm (bD a.den b.den);have bG8:cz≠0:=by rw[hcz];exact aWu he
 have aJu:∀{v u:Value} {X:Nat->Prop} {w:World},(∀b,X b->b<w.heap.size)->(aI a.den).p v X w->(aI b.den).p u X w->Fn PP 97 [v,u] X w (eE (.int .i64 cz)):=λhX h1 h2=>by
  rw[hcz];exact aKh zW zW hX h1 h2
 have t1:∀{v u:Value} {X:Nat->Prop} {w:World},(∀b,X b->b<w.heap.size)->(aI a.num.natAbs).p v X w->(aI b.den).p u X w->Fn PP 112 [v,u] X w (aI (a.num.natAbs*b.den)):=λhX h1 h2=>rV zW zW hX h1 h2
 have t2:∀{v u:Value} {X:Nat->Prop} {w:World},(∀b,X b->b<w.heap.size)->(aI b.num.natAbs).p v X w->(aI a.den).p u X w->Fn PP 112 [v,u] X w (aI (b.num.natAbs*a.den)):=λhX h1 h2=>rV zW zW hX h1 h2
 have t3:∀{v u:Value} {X:Nat->Prop} {w:World},(∀b,X b->b<w.heap.size)->(aI a.den).p v X w->(aI b.den).p u X w->Fn PP 112 [v,u] X w (aI (a.den*b.den)):=λhX h1 h2=>rV zW zW hX h1 h2
 have one:∀{n:Nat} {R:VF},R=aI n->∀{v:Value} {X:Nat->Prop} {w:World},R.p v X w->v.oneCell'=true:=λh _ _ _ h'=>by rw[h]at h';exact dZ h'
 unfold qI at *;unfold zIt at *;generalize hsm:a.num*b.den+b.num*a.den=sm at *;generalize hx1:a.num*(b.den:Int)=x1 at *;generalize hx2:b.num*(a.den:Int)=x2 at *;generalize hqs:a+b=qs at *;obtain⟨R1,hR1⟩:=nm (aI a.num.natAbs);obtain⟨R2,hR2⟩:=nm (aI b.num.natAbs);obtain⟨D1,hD1⟩:=nm (aI a.den);obtain⟨D2,hD2⟩:=nm (aI b.den);obtain⟨T1,hT1⟩:=nm (aI (a.num.natAbs*b.den));obtain⟨T2,hT2⟩:=nm (aI (b.num.natAbs*a.den));obtain⟨T3,hT3⟩:=nm (aI (a.den*b.den));obtain⟨X1,hX1⟩:=nm (aI x1.natAbs);obtain⟨X2,hX2⟩:=nm (aI x2.natAbs);obtain⟨RS,hRS⟩:=nm (aI sm.natAbs);obtain⟨RN,hRN⟩:=nm (aI qs.num.natAbs);obtain⟨RE,hRE⟩:=nm (aI qs.den);have o1:∀{v:Value} {X:Nat->Prop} {w:World},T1.p v X w->v.oneCell'=true:=λh=>one hT1 h;have o2:∀{v:Value} {X:Nat->Prop} {w:World},T2.p v X w->v.oneCell'=true:=λh=>one hT2 h;have o3:∀{v:Value} {X:Nat->Prop} {w:World},T3.p v X w->v.oneCell'=true:=λh=>one hT3 h;unfold qR zRt at *;rw[<-hT1,<-hX1]at ka;rw[<-hT2,<-hX2]at kb;rw[<-hX1,<-hX2,<-hRS]at kp;rw[<-hRS,<-hT3,<-hRN,<-hRE]at kl;rw[<-hD1,<-hD2]at aJu;rw[<-hR1,<-hD2,<-hT1]at t1;rw[<-hR2,<-hD1,<-hT2]at t2;rw[<-hD1,<-hD2,<-hT3]at t3;rw[<-hR1,<-hR2,<-hD1,<-hD2,<-hRN,<-hRE];generalize decide (a.num<0)=b1,decide (b.num<0)=b2,decide (x1<0)=b3,decide (x2<0)=b4,decide (sm<0)=b5,decide (qs.num<0)=b6 at *;clear hR1 hR2 hD1 hD2 hT1 hT2 hT3 hX1 hX2 hRS hRN hRE hqs hab hs hsm hx1 hx2 n1 n2 hdd ha hb hda hdb hcz one;obtain⟨F1,hF1⟩:=nm (lR (.sg (.agg [.b (.l b1),.x R1,.x D1])));obtain⟨F2,hF2⟩:=nm (lR (.sg (.agg [.b (.l b2),.x R2,.x D2])));refine fU mixed tok Tryz.func59 rfl (by rfl) rfl [F1,F2] ⟨hF1,hF2,trivial⟩ λc G hG hc hR=>?_;obtain⟨K,hK⟩:=nm (nH 0 [F1,F2]);rw[<-hK];have m1:KF.at 0 F1∈K:=by rw[hK];exact .head _
 have m2:KF.at 1 F2∈K:=by rw[hK];exact .tail _ (.head _)
 apply zN hc;cbv;refine cE hc (.i .i64 (.v cz)) pR (λn0 D X μ a w aK H aG=>?_) rfl 100 ?_
 ·obtain⟨v,u,rfl,e1,e2⟩:=bI aG;exact aJu H.xlt (((bM.ec (c:=.x D1) (F:=F1) m1 hF1 rfl).ok H.kf e1).2) (((bM.ec (c:=.x D2) (F:=F2) m2 hF2 rfl).ok H.kf e2).2)
 cbv;refine aE rfl 100 (λh=>absurd (of_decide_eq_true (show decide (cz=0)=true from h)) bG8) (λh=>?_);cbv;refine mP (R:=T1) hc kV (λD X μ a w aK H aG=>?_) 100 ?_
 ·obtain⟨v,u,rfl,e1,e2⟩:=bI aG;exact t1 H.xlt (((bM.ec (c:=.x R1) (F:=F1) m1 hF1 rfl).ok H.kf e1).2) (((bM.ec (c:=.x D2) (F:=F2) m2 hF2 rfl).ok H.kf e2).2)
 cbv;refine jN hc jB ka ⟨.b rfl,.e (.head _) o1,trivial⟩ (.g [.b (.l b3),.ec 6 1]) 100 (λFA hFA=>?_);cbv;refine zE ?_;cbv;refine mP (R:=T2) hc kV (λD X μ a w aK H aG=>?_) 100 ?_
 ·obtain⟨v,u,rfl,e1,e2⟩:=bI aG;exact t2 H.xlt (((bM.ec (c:=.x R2) (F:=F2) zM hF2 rfl).ok H.kf e1).2) (((bM.ec (c:=.x D1) (F:=F1) zM hF1 rfl).ok H.kf e2).2)
 cbv;refine jN hc jB kb ⟨.b rfl,.e (.head _) o2,trivial⟩ (.g [.b (.l b4),.ec 9 1]) 100 (λFB hFB=>?_);cbv;refine zE ?_;cbv;refine jN hc aG7 kp ⟨⟨.b rfl,.ec zM hFA rfl,trivial⟩,⟨.b rfl,.ec zM hFB rfl,trivial⟩,trivial⟩ (.g [.b (.l b5),.ec 11 1]) 100 (λFS hFS=>?_);cbv;refine mP (R:=T3) hc kV (λD X μ a w aK H aG=>?_) 100 ?_
 ·obtain⟨v,u,rfl,e1,e2⟩:=bI aG;exact t3 H.xlt (((bM.ec (c:=.x D1) (F:=F1) zM hF1 rfl).ok H.kf e1).2) (((bM.ec (c:=.x D2) (F:=F2) zM hF2 rfl).ok H.kf e2).2)
 cbv;refine jN hc zY kl ⟨⟨.b rfl,.ec zM hFS rfl,trivial⟩,.e zM o3,trivial⟩ (.g [.b (.l b6),.ec 13 1,.ec 13 2]) 100 (λFC hFC=>?_);cbv;refine zE ?_;cbv;exact dL hc hG hR rfl ⟨.b rfl,.ec (.head _) hFC rfl,.ec (.head _) hFC rfl,trivial⟩
theorem bFv {a b:Rat}(ha:(aC a.num.natAbs).length<=2^34)(hb:(aC b.num.natAbs).length<=2^34)(hda:(aC a.den).length<=2^34)(hdb:(aC b.den).length<=2^34):fD PP 59 [qI a,qI b] (.sg (qI (a+b))):=by
 by_cases he:a.den=b.den
 ·exact aXx he ha hb hda
 ·exact aXy he ha hb hda hdb
end Go.Ai
namespace Go.Ai
open Go Go.Proofs Go.Num Go.Lib
theorem aRb {q:Rat}(hs:(aA q).size<=2^60):Pure PP 91 [.string (aA q)] (.tuple #[.string (aW q.num),.string (aJ q.den),.bool (decide (q.den≠1))]):=by
 have k:=aUy (aA q) hs
 have hl:=oC q
 by_cases h:q.den=1
 ·rw[if_pos h]at hl;rw[hl,aBr (uK q.num)]at k;have e1:(⟨(itoa q.num).toArray⟩:ByteArray)=aW q.num:=ba_eq (by rw[dF]);have e2:(⟨([49]:List UInt8).toArray⟩:ByteArray)=aJ q.den:=by rw[h];unfold aJ;rw[aW0]
  have e3:decide (q.den≠1)=false:=decide_eq_false (by simp[h])
  rw[e3,<-e1,<-e2];exact k
 ·rw[if_neg h]at hl;rw[hl,aBq (uK q.num)]at k;have e1:(⟨(itoa q.num).toArray⟩:ByteArray)=aW q.num:=ba_eq (by rw[dF]);have e2:(⟨(decDigits q.den).toArray⟩:ByteArray)=aJ q.den:=rfl;have e3:decide (q.den≠1)=true:=decide_eq_true h;rw[e3,<-e1,<-e2];exact k
theorem fO:aB PP 35:=zK
theorem aUx {q:Rat}(hs:sz q<=2^34):fD PP 35 [.one (.s (.v (aA q)))] (.tp [qI q,.one (.b (.l true))]):=by
 have hs1:dl q.num.natAbs<=2^34:=lTr (Nat.le_max_left _ _) hs
 have hs2:dl q.den<=2^34:=lTr (Nat.le_max_right _ _) hs
 have hq1:(aA q).size<=2^60:=lTr (aZ q) zW
 have hz1:(aW q.num).size<=2^60:=lTr (mE q.num) zW
 have hz2:(aJ q.den).size<=2^60:=by rw[fS];omega
 have ksp:=aRb hq1
 have kv1:=aWb (aW q.num) hz1
 rw[show(yJ (aW q.num).data.toList).isSome=true by rw[dF,qU];rfl]at kv1;have kv2:=aH2 (aJ q.den) hz2;rw[show isNat (aJ q.den).data.toList=true by rw[cZ];exact gZ _]at kv2;have krd:=aZw (z:=q.num) zW;have hdn:=cX q.num.natAbs;have hdd:=cX q.den;have hd0:0<q.den:=q.den_pos;have bBv:Nat.gcd q.num.natAbs q.den=1:=q.reduced;obtain⟨sg,hsg⟩:∃sg:Int,sg=if decide (q.num<0)then -1 else if q.num.natAbs=0 then 0 else 1:=⟨_,rfl⟩
 have ksg:=aIk (b:=decide (q.num<0)) (n:=q.num.natAbs) hsg
 have aT8:q.den≠1->sg≠0:=λh=>by
  have hn0:q.num.natAbs≠0:=λe=>by
   rw[e,Nat.gcd_zero_left]at bBv;exact h bBv
  rw[hsg,if_neg hn0];split<;>decide
 have kfr:∀{X:Nat->Prop} {w:World},(∀b,X b->b<w.heap.size)->Fn PP 95 [.string (aJ q.den)] X w (aI q.den):=λhX=>aUp zW hX
 have ksm:∀{X:Nat->Prop} {w:World},(∀b,X b->b<w.heap.size)->Fn PP 96 [.int .u32 1] X w (aI 1):=λhX=>aAj (x:=1) hX zW zW
 have hl1:(aC 1).length<=2^40:=lTr (bP (k:=1) zV) zV
 have kc1:q.den≠1->∀{v u:Value} {X:Nat->Prop} {w:World},(∀b,X b->b<w.heap.size)->(aI q.den).p v X w->(aI 1).p u X w->Fn PP 97 [v,u] X w (eE (.int .i64 1)):=λh X w v u hX h1 h2=>by
  have:=aKh (n:=q.den) (m:=1) zW hl1 hX h1 h2
  rw[show bD (q.den:Int) ((1:Nat):Int)=1 by unfold bD;rw[if_neg zW,if_pos zW]]at this;exact this
 have kc2:∀{v u:Value} {X:Nat->Prop} {w:World},(∀b,X b->b<w.heap.size)->(aI 1).p v X w->(aI 1).p u X w->Fn PP 97 [v,u] X w (eE (.int .i64 0)):=λhX h1 h2=>by
  have:=aKh (n:=1) (m:=1) hl1 hl1 hX h1 h2
  rw[aFi]at this;exact this
 have kcm:∀{v u:Value} {X:Nat->Prop} {w:World},(∀b,X b->b<w.heap.size)->(aI q.num.natAbs).p v X w->(aI q.den).p u X w->Fn PP 99 [v,u] X w (aI 1):=λhX h1 h2=>by
  have:=aBz aO8 (n:=q.num.natAbs) (m:=q.den) zW zW hX h1 h2
  rw[bBv]at this;exact this
 obtain⟨RR,hRR⟩:=nm (RV.tp [qI q,.one (.b (.l true))]);rw[<-hRR];unfold qI qR at hRR;unfold zIt zRt at krd;unfold zRt at ksg;generalize decide (q.num<0)=b,q.num.natAbs=n,q.den=d,aW q.num=s at *;generalize aJ d=tx,aA q=r at *;obtain⟨R1,hR1⟩:=nm (aI n);obtain⟨R2,hR2⟩:=nm (aI d);obtain⟨RO,hRO⟩:=nm (aI 1);obtain⟨sl,hsl⟩:=nm (decide (d≠1));rw[<-hsl]at ksp;rw[<-hR1]at hRR krd ksg kcm;rw[<-hR2]at hRR kfr kc1 kcm;rw[<-hRO]at ksm kc1 kc2 kcm;obtain⟨F,hF⟩:=nm (lR (.sg (.one (.s (.v r)))));refine fU mixed tok Tryz.func35 rfl (by rfl) rfl [F] ⟨hF,trivial⟩ λc G hG hc hR=>?_;obtain⟨K,hK⟩:=nm (nH 0 [F]);rw[<-hK];apply zN hc;cbv;refine zC (.t [.s (.v s),.s (.v tx),.b (.l sl)]) ksp aI5 ?_;cbv;refine zC (.b (.l true)) kv1 aCr ?_;cbv;refine zC (.b (.l true)) kv2 qF ?_;cbv;refine gM hc aOh krd ⟨.s rfl,trivial⟩ (.g [.b (.l b),.ec 2 1]) 100 (λFB hFB=>?_);cbv;refine eB (R:=R2) hc aBn (λn0 D X μ a w aK H aG=>?_) 100 ?_
 ·obtain⟨v,rfl,e1⟩:=bN aG;rw[dW e1];exact kfr H.xlt
 cbv;refine dE 28 .u32 (aC d) rfl rfl (λX μ a w v' H hv'=>by have h:=H.toP.val (R:=R2) (.head _) hv';rw[hR2]at h;exact h) λf N cap hN hf dJ=>?_;have m3:∀{K':List KF},KF.at 3 R2::KF.at 2 FB::K=K'->KF.at 2 FB∈K':=λh=>by rw[<-h];exact .tail _ (.head _)
 have lO:∀{K':List KF} {S:St} {X:Nat->Prop} {μ:Mu} {a:Act} {w:World} {v:Value},Sim c K' S X μ a w->KF.at 2 FB∈K'->S.hp[4]?=some (.xi .u32 N f)->aD μ (.t [.g [.b (.l b),.ec 2 1,.sl 4 0 (.n N) cap],.b (.l true)])=some v->G.p v X w:=by
  intro K' S X μ a w v H hm hk hv;obtain⟨vs,q1,rfl⟩:=rJ hv;obtain⟨u1,u2,rfl,e1,e2⟩:=bI q1;obtain⟨ws,q2,rfl⟩:=tA e1;obtain⟨v1,v2,v3,rfl,e3,e4,e5⟩:=mS q2;have h3:=H.toP.numRow hk e5 hN hf dJ;rw[hG,hRR];exact⟨_,rfl,⟨[v1,v2,v3],rfl,iT e3,(bM.ec (c:=.x R1) hm hFB rfl).ok H.toP.kf e4,⟨dZ h3,by rw[hR2];exact h3⟩,trivial⟩,iT e2,trivial⟩
 cases sl with
 | false=>
  apply zN hc;cbv;exact bB hc hR rfl (λX μ a w v H hv=>lO H (.tail _ (.head _)) rfl hv)
 | true=>
  have hd1:d≠1:=of_decide_eq_true hsl.symm
  have kc1:=λ{v u X w}=>kc1 hd1 (v:=v) (u:=u) (X:=X) (w:=w)
  have aT8:=aT8 hd1
  apply zN hc;cbv;refine eB (R:=RO) hc qE (λn0 D X μ a w aK H aG=>?_) 100 ?_
  ·obtain⟨v,rfl,e1⟩:=bN aG;rw[bY e1];exact ksm H.xlt
  cbv;refine cE hc (.i .i64 (.l 1)) pR (λn0 D X μ a w aK H aG=>?_) rfl 100 ?_
  ·obtain⟨v,u,rfl,e1,e2⟩:=bI aG;exact kc1 H.xlt (by rw[hR2];exact H.numRow rfl e1 hN hf dJ) (H.val (R:=RO) (.head _) e2)
  cbv;refine gM hc qH ksg ⟨⟨.b rfl,.ec zM hFB rfl,trivial⟩,trivial⟩ (.i .i64 (.v sg)) 100 (λFS hFS=>?_);cbv;have e0:(BE.not (.eq (.v sg) (.l 0))).den=true:=by show(!decide (sg=0))=true;simp[aT8]
  refine cG 45 rfl rfl 100 (λ_=>?_) (λh=>absurd (e0.symm.trans h) zV);cbv;refine eB (R:=RO) hc tZ (λn0 D X μ a w aK H aG=>?_) 100 ?_
  ·obtain⟨v,u,rfl,e1,e2⟩:=bI aG;exact kcm H.xlt (((bM.ec (c:=.x R1) (F:=FB) zM hFB rfl).ok H.kf e1).2) (by rw[hR2];exact H.numRow rfl e2 hN hf dJ)
  cbv;refine cE hc (.i .i64 (.l 0)) pR (λn0 D X μ a w aK H aG=>?_) rfl 100 ?_
  ·obtain⟨v,u,rfl,e1,e2⟩:=bI aG;exact kc2 H.xlt (H.val (R:=RO) zM e1) (H.val (R:=RO) zM e2)
  cbv;exact bB hc hR rfl (λX μ a w v H hv=>lO H zM rfl hv)
theorem aOc:aB PP 51:=zK
theorem bFx {x y:Rat}(hx:sz x<=2^34)(hy:sz y<=2^34):fD PP 51 [.one (.s (.v (aA x))),.one (.s (.v (aA y)))] (.tp [qI x,qI y,.one (.i .i64 (.l 0))]):=by
 have kx:=aUx hx
 have ky:=aUx hy
 unfold qI qR at *;obtain⟨R1,hR1⟩:=nm (aI x.num.natAbs);obtain⟨R2,hR2⟩:=nm (aI x.den);obtain⟨R3,hR3⟩:=nm (aI y.num.natAbs);obtain⟨R4,hR4⟩:=nm (aI y.den);rw[<-hR1,<-hR2,<-hR3,<-hR4];rw[<-hR1,<-hR2]at kx;rw[<-hR3,<-hR4]at ky;generalize decide (x.num<0)=b1,decide (y.num<0)=b2,aA x=s,aA y=u at *;obtain⟨F1,hF1⟩:=nm (lR (.sg (.one (.s (.v s)))));obtain⟨F2,hF2⟩:=nm (lR (.sg (.one (.s (.v u)))));refine fU mixed tok Tryz.func51 rfl (by rfl) rfl [F1,F2] ⟨hF1,hF2,trivial⟩ λc G hG hc hR=>?_;obtain⟨K,hK⟩:=nm (nH 0 [F1,F2]);rw[<-hK];apply zN hc;cbv;refine gM hc fO kx ⟨.s rfl,trivial⟩ (.t [.g [.b (.l b1),.ec 4 1,.ec 4 2],.b (.l true)]) 100 (λFA hFA=>?_);cbv;refine gM hc fO ky ⟨.s rfl,trivial⟩ (.t [.g [.b (.l b2),.ec 6 1,.ec 6 2],.b (.l true)]) 3 (λFB hFB=>?_);cbv;refine aZg hc 0 100 ?_;cbv;refine aB5 hc zG zV ?_;cbv;repeat' (first
  | (refine bU [0,1] (by decide+kernel) rfl (λi hi=>?_);simp only[List.mem_cons,List.not_mem_nil,or_false]at hi;rcases hi with rfl | rfl<;>(refine⟨_,rfl,rfl,?_⟩;refine iC hc 2 ?_;cbv))
  | (refine bU [1,2] (by decide+kernel) rfl (λi hi=>?_);simp only[List.mem_cons,List.not_mem_nil,or_false]at hi;rcases hi with rfl | rfl<;>(refine⟨_,rfl,rfl,?_⟩;refine iC hc 2 ?_;cbv))
  | (refine bU [1] (by decide+kernel) rfl (λi hi=>?_);obtain rfl:=List.mem_singleton.1 hi;refine⟨_,rfl,rfl,?_⟩;refine iC hc 2 ?_;cbv)
  | (refine bU [0] (by decide+kernel) rfl (λi hi=>?_);obtain rfl:=List.mem_singleton.1 hi;refine⟨_,rfl,rfl,?_⟩;refine iC hc 2 ?_;cbv)
  | (refine bU [2] (by decide+kernel) rfl (λi hi=>?_);obtain rfl:=List.mem_singleton.1 hi;refine⟨_,rfl,rfl,?_⟩;refine iC hc 2 ?_;cbv)
  | (refine bU [3] (by decide+kernel) rfl (λi hi=>?_);obtain rfl:=List.mem_singleton.1 hi;refine⟨_,rfl,rfl,?_⟩;refine iC hc 2 ?_;cbv)
  | (refine bU [4] (by decide+kernel) rfl (λi hi=>?_);obtain rfl:=List.mem_singleton.1 hi;refine⟨_,rfl,rfl,?_⟩;refine iC hc 2 ?_;cbv)
  | (refine wK (by decide+kernel) rfl ?_;apply zN hc;cbv))
 all_goals exact dL hc hG hR rfl ⟨⟨.b rfl,.ec (.tail _ (.head _)) hFA rfl,.ec (.tail _ (.head _)) hFA rfl,trivial⟩,⟨.b rfl,.ec (.head _) hFB rfl,.ec (.head _) hFB rfl,trivial⟩,.i rfl,trivial⟩
end Go.Ai
