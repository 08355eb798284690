/- Part 4: lemmas for the particulars laws -/
import Derived.Test.YtafimpgfbgigeaaGreatDoorPh2
set_option linter.all false
namespace Go.Ai
open Go Go.RowKit
section
variable {c:Cx}{all:Array Oper}{n0:Nat}{K0:List KF}{m:Nat}{en:Nat->Ent}{st:Nat->St}{kk:Nat->List KF}
theorem wA {L:Array Bool}{j:Nat}(hj:j<L.size):L.getD j true=false↔¬ex L j:=by
 unfold ex;simp[hj]
theorem eF {L:Array Bool}{j:Nat}(h:L.getD j true=false):j<L.size/\¬ex L j:=by
 have hj:j<L.size:=by
  rcases Nat.lt_or_ge j L.size with h' | h'
  ·exact h'
  ·simp[Array.getElem?_eq_none h']at h
 exact⟨hj,(wA hj).1 h⟩
theorem DC.set {L:Array Bool}(h:DC all L){i:Nat}(hi:i<L.size)(hr:i∈Region.ready .any all L):DC all (L.setIfInBounds i true):=by
 intro j o hx ho e he hb;obtain⟨_,o',ho',cI⟩:=mem_ready.1 hr;rcases(fC hi).1 hx with e' | e'
 ·subst e';rw[ho]at ho';injection ho' with ho';subst ho'
  exact(fC hi).2 (.inr (cI e he hb))
 ·exact(fC hi).2 (.inr (h j o e' ho e he hb))
theorem fF {L:Array Bool}(h:DC all L){i:Nat}(hr:i∈Region.ready .any all L){j:Nat}(hx:Reach all i j):ex L j:=by
 obtain⟨_,o,ho,cI⟩:=mem_ready.1 hr;exact aKr h hx o ho cI
theorem count_set (L:Array Bool)(i:Nat)(hi:i<L.size)(hx:¬ex L i):(L.setIfInBounds i true).toList.count false+1=L.toList.count false:=by
 have hf:L.toList[i]'(by simpa using hi)=false:=by
  unfold ex at hx;simpa[hi]using hx
 have hp:0<L.toList.count false:=List.count_pos_iff.2 (hf▸List.getElem_mem _)
 have hc:=List.count_set (a:=true) (b:=false) (l:=L.toList) (i:=i) (by simpa using hi)
 rw[hf]at hc;rw[Array.toList_setIfInBounds,hc];generalize L.toList.count false=q at hp;simp only[beq_self_eq_true,if_true,show(true==false)=false from rfl,Bool.false_eq_true,if_false];omega
theorem aEf (hon:∀j o e,all[j]?=some o->e∈o.after->Region.binds .any e=true->e.on<j)(htl:∀j o i,all[j]?=some o->m<=j->i<j->Reach all j i){Q:Exit->Act->World->Prop}{F:Fence}{P:Program}:∀(fuel i:Nat) (L:Array Bool) (a:Act) (w:World),L.size=all.size->DC all L->(∀j,j<i->ex L j)->(∀j,i<=j->¬ex L j)->m<=i->i<=all.size->all.size - i<=fuel->
  wpOpsIn F 0 P all Q (List.range' i (all.size - i)) a w->wpAnyIn F 0 P .any all Q fuel L a w:=by
 intro fuel;induction fuel with
 | zero=>
  intro i L a w hL hdc h1 h2 hm hi hf h;have:i=all.size:=zW;subst this;refine⟨?_,by simpa[wpOpsIn]using h⟩;apply List.eq_nil_iff_forall_not_mem.2;intro j hj;obtain⟨h3,_⟩:=mem_ready.1 hj;obtain⟨h4,h5⟩:=eF h3;exact h5 (h1 j zW)
 | succ fuel ih=>
  intro i L a w hL hdc h1 h2 hm hi hf h;have only:∀j,j∈Region.ready .any all L->j=i:=by
   intro j hj;obtain⟨h3,o,ho,_⟩:=mem_ready.1 hj;obtain⟨h4,h5⟩:=eF h3;rcases Nat.lt_trichotomy j i with h6 | h6 | h6
   ·exact absurd (h1 j h6) h5
   ·exact h6
   ·exact absurd (fF hdc hj (htl j o i ho zW h6)) (h2 i (lRf _))
  rcases Nat.eq_or_lt_of_le hi with e | hlt
  ·subst e;refine⟨λ_=>by simpa[wpOpsIn]using h,λj hj=>?_⟩;have:=only j hj;subst this;obtain⟨h3,_⟩:=mem_ready.1 hj;have:=(eF h3).1;omega
  ·have pV:i∈Region.ready .any all L:=mem_ready.2 ⟨(wA zW).2 (h2 i (lRf _)),all[i],by simp[hlt],λe he hb=>h1 _ (hon i _ e (by simp[hlt]) he hb)⟩
   refine⟨(λh0=>by rw[h0]at pV;cases pV),λj hj=>?_⟩;have:=only j hj;subst this;rw[gP hlt,wpOpsIn_cons]at h;refine wpOpIn_mono (λa' w' h'=>?_) h;exact ih (j+1) _ a' w' (by simpa using hL) (hdc.set zW hj) (λq hq=>(fC zW).2 (by
    rcases Nat.lt_or_ge q j with h6 | h6
    ·exact .inr (h1 q h6)
    ·exact .inl zW)) (λq hq hx=>by
    rcases(fC zW).1 hx with e | e
    ·omega
    ·exact h2 q zW e) zW zW zW h'
theorem aTa (T:Tr c all n0 K0 m en st kk)(ok:DrawOk all m){k:List KI}(hs:bH c (kk m) (.ops all m::k) (st m)):∀(fuel:Nat) (L:Array Bool) (X:Nat->Prop) (μ:Mu) (a:Act) (w:World),L.size=all.size->DC all L->(∀j,m<=j->¬ex L j)->
  L.toList.count false<=fuel->PInv c all n0 K0 m en st L X μ a w->wpAnyIn c.F 0 c.P .any all (aO c.F c.P c.R k) fuel L a w:=by
 intro fuel;induction fuel with
 | zero=>
  intro L X μ a w hL hdc hno hf H;have cI:∀j,j<all.size->ex L j:=by
   intro j hj;apply Classical.byContradiction;intro hx;have:=count_set L j zW hx;omega
  refine aEf ok.on ok.tail 0 m L a w hL hdc (λj hj=>cI j (by have:=T.hm;omega)) hno (lRf _) T.hm ?_ ?_
  ·rcases Nat.lt_or_ge m all.size with h | h
   ·exact absurd (cI m h) (hno m (lRf _))
   ·omega
  ·have:=hs X μ a w (H.sim T (λj hj=>cI j (by have:=T.hm;omega)))
   simpa[aO]using this
 | succ fuel ih=>
  intro L X μ a w hL hdc hno hf H;by_cases cI:∀j,j<m->ex L j
  ·refine aEf ok.on ok.tail _ m L a w hL hdc cI hno (lRf _) T.hm ?_ ?_
   ·have h1:(L.toList.drop m).count false=all.size - m:=by
     rw[List.count_eq_length.2,List.length_drop]
     ·simp[hL]
     ·intro b hb;obtain⟨q,hq⟩:=List.getElem?_of_mem hb;rw[List.getElem?_drop]at hq;have:=hno (m+q) zW;unfold ex at this;simp at hq;simp[hq]at this;exact this.symm
    have h2:L.toList.count false=(L.toList.take m).count false+(L.toList.drop m).count false:=by
     rw[<-List.count_append,List.take_append_drop]
    omega
   ·have:=hs X μ a w (H.sim T cI)
    simpa[aO]using this
  ·
   have hex:∃j,j<m/\¬ex L j/\∀j',j'<j->ex L j':=by
    have:∃j,j<m/\¬ex L j:=by
     apply Classical.byContradiction;intro h;exact cI λj hj=>Classical.byContradiction λhx=>h ⟨j,hj,hx⟩
    obtain⟨j,h1,h2⟩:=this;induction j using Nat.strongRecOn with
    | _ j ihj=>
     by_cases h:∀j',j'<j->ex L j'
     ·exact⟨j,h1,h2,h⟩
     ·have:∃j',j'<j/\¬ex L j':=Classical.byContradiction λh'=>h λj' hj'=>Classical.byContradiction λhx=>h' ⟨j',hj',hx⟩
      obtain⟨j',h3,h4⟩:=this;exact ihj j' h3 zW h4
   obtain⟨j0,h1,h2,h3⟩:=hex;obtain⟨o0,E0⟩:=T.ent j0 h1;have hm0:j0∈Region.ready .any all L:=mem_ready.2 ⟨(wA (by have:=T.hm;omega)).2 h2,o0,E0.ho,λe he hb=>h3 _ (T.ok.on j0 o0 e E0.ho he hb)⟩;refine⟨(λh0=>by rw[h0]at hm0;cases hm0),λi hi=>?_⟩;obtain⟨h4,oi,hoi,_⟩:=mem_ready.1 hi;obtain⟨h5,h6⟩:=eF h4;have him:i<m:=by
    rcases Nat.lt_or_ge i m with h | h
    ·exact h
    ·exact absurd (fF hdc hi (ok.tail i oi j0 hoi h zW)) h2
   obtain⟨o,E⟩:=T.ent i him;rw[E.ho]at hoi;injection hoi with hoi;subst hoi
   have aTp:=count_set L i h5 h6
   have jM:∀j,Reach all i j->ex L j:=λj hx=>fF hdc hi hx
   have HP:=H.psim T him E jM hdc h6 _ rfl
   have next:∀ow X' μ' v w',cV c (fl (st i) o) X μ w (en i).av (en i).nb ow X' μ' v w'->(cF o=true->(en i).ow=ow)->(∀f,f∈(en i).kn->f.p X' μ' w')->wpAnyIn c.F 0 c.P .any all (aO c.F c.P c.R k) fuel (L.setIfInBounds i true) (a.put o.dst v) w':=by
    intro ow X' μ' v w' hp how hk;refine ih _ X' μ' _ w' (by simpa using hL) (hdc.set h5 hi) (λq hq hx=>?_) zW (H.step T him hL E jM hdc h6 HP hp how hk (λhs=>H.freshId T him h6 hs));rcases(fC h5).1 hx with e | e
    ·omega
    ·exact hno q hq e
   simp only[wpOpIn,E.ho];rcases E.how with⟨g1,g2,g3,g4,g5⟩ | ⟨g1,ow,g2,g3⟩
   ·rw[if_neg (by rw[cH HP (by rw[tH];exact g1) (λt ht=>by simp[xL,eG,ht])];simp)];refine⟨λ_ _=>trivial,?_⟩;refine next (fl (st i) o).ow X μ undef w ?_ (λhc=>?_) (by rw[g4];intro f hf;cases hf)
    ·rw[g2,g3];exact cV.same HP.own (by simp[aD])
    ·rw[g5];simp[fl,hc]
   ·rw[if_pos (cH HP (by rw[tH];exact g1) (λt ht=>by simp[xL,eG,ht]))];exact g2 X μ a w _ _ HP (λhs=>by rw[xS];exact H.freshId T him h6 hs) (λX' μ' v w' hp hk=>next ow X' μ' v w' hp g3 hk)
def PD (ps:List Ps)(L:Array Bool)(μ:Mu)(w:World):Prop:=
 ∀p,p∈ps->ex L p.j->∃b vs,μ p.k=some (.own b)/\aF μ p.l=some vs/\w.heap[b]?=some (.cells vs.toArray p.bt (0,0))
theorem PInv.store {L:Array Bool}{X:Nat->Prop}{μ:Mu}{a:Act}{w:World}(H:PInv c all n0 K0 m en st L X μ a w){k b bt n:Nat}(hb:μ k=some (.own b))(hk:(st m).hp[k]?=some (.d bt n)){vs:List Value}(hn:vs.length=n){w':World}
  (hs:w'.heap.size=w.heap.size) (hbl:Below c.B.heap.size c.B w') (ho:∀j,j≠b->w'.heap[j]?=w.heap[j]?) (aBg:w'.heap[b]?=some (.cells vs.toArray bt (0,0))) {i:Nat} (hi:m<=i) (hil:i<L.size):PInv c all n0 K0 m en st (L.setIfInBounds i true) X μ a w':=by
 have e:∀j,j<m->(ex (L.setIfInBounds i true) j↔ex L j):=λj hj=>by
  rw[fC hil];exact⟨λh=>h.resolve_left zW,.inr⟩
 have hxb:∀b',X b'->b'≠b:=λb' hx e=>(H.loc k b hb).2.1 (e▸hx)
 refine⟨H.dfr,H.size,λt av hn hl=>H.base t av (λj hj hd hx=>hn j hj hd ((e j hj).2 hx)) hl,λj hj hx=>H.done j hj ((e j hj).1 hx),?_,H.old,?_,λj hj hx=>H.alloc j hj ((e j hj).1 hx),H.inj,?_,?_,H.xnew,H.xold,hbl,?_,?_,?_,?_⟩
 ·intro j bj b' hj hm;by_cases hjk:j=k
  ·subst hjk;rw[hb]at hm;injection hm with hm;subst hm
   rw[hk]at hj;injection hj with hj;subst hj
   exact⟨vs,hn,aBg⟩
  ·exact Blk.ok_keep (Mu.le_refl _) (λ_ h=>h) (λb' hx=>ho b' (hxb b' hx)) (λb'' e=>ho b'' (λe'=>hjk (H.inj j k b (by rw[hm,e,e']) hb))) (H.heap j bj b' hj hm)
 ·intro k' b' hm;rcases H.newid k' b' hm with h | ⟨j,h1,h2,h3,h4⟩
  ·exact .inl h
  ·exact .inr ⟨j,h1,(e j h1).2 h2,h3,h4⟩
 ·intro j b' hm;obtain⟨h1,h2,h3⟩:=H.loc j b' hm;exact⟨h1,h2,zW⟩
 ·intro b' hx;have:=H.xlt b' hx;omega
 ·exact lH H.kf0 (λ_ h=>h) (Mu.vle_refl _) (λb' hx=>ho b' (hxb b' hx))
 ·intro j hj hx f hf;exact f.st X X μ μ w w' (λ_ h=>h) (Mu.vle_refl _) (λb' hx=>ho b' (hxb b' hx)) (H.kfc j hj ((e j hj).1 hx) f hf)
 ·intro q hq hqb;have O:=H.own q hq (λj hj hc=>by rw[<-e j hj];exact hqb j hj hc);refine⟨λf hf=>?_,O.apart⟩;obtain⟨h1,h2⟩:=O.at_ f hf;refine⟨(f.st μ μ w w' (Mu.vle_refl _) (λj hj=>ho j (λe=>(h2 j hj).2.2.2 k (by rw[e];exact hb))) h1).1,λj hj=>?_⟩;obtain⟨q1,q2,q3,q4⟩:=h2 j hj;exact⟨q1,zW,q3,q4⟩
 ·obtain⟨q,hq,hqb⟩:=H.thr;exact⟨q,hq,λj hj hc=>by rw[e j hj];exact hqb j hj hc⟩
theorem aJs (vs:List Value)(cs:Array Value)(h:cs.size=vs.length):(vs.zipIdx 0).foldl (λcs (x:Value × Nat)=>cs.setIfInBounds (0+x.2) x.1) cs=vs.toArray:=by
 rw[foldl_set vs 0 0 cs,h];apply Array.ext';simp
theorem aKl {K:List KF}{D:Nat->Prop}{S:St}{X:Nat->Prop}{μ:Mu}{a:Act}{w:World}(H:PSim c K n0 D S X μ a w){o:Oper}(hD:∀t,Operand.tmp t∈o.op.operands->D t){k bt:Nat}{l:List AV}(h:aXv c.ty S o.op=some (k,bt,l)):
  ∃b vs,μ k=some (.own b)/\S.hp[k]?=some (.d bt vs.length)/\aF μ l=some vs/\(execOp a.eval o).run c.P w=.ok .skip (w.setCells b 0 vs)/\(w.setCells b 0 vs).heap[b]?=some (.cells vs.toArray bt (0,0)):=by
 unfold aXv at h;split at h
 ·rename_i t x y hx;split at h
  ·rename_i i k' av hi hxa hya;split at h
   ·rename_i bt' n l' hk hl;split at h
    ·rename_i mM;injection h with h
     injection h with e1 h
     injection h with e2 e3
     subst e1;subst e2;subst e3;have e1:=aH H hxa (λt e=>hD t (by rw[hx];simp[Op.operands,e]));have e2:=aH H hya (λt e=>hD t (by rw[hx];simp[Op.operands,e]));obtain⟨b0,o0,hb0,hb2⟩:=pT e1;have hcl:=kZ hl e2;obtain⟨mm,hb1,hma⟩:=yD hb0;have hok:=H.heap k' _ mm hk hb1;cases mm with
     | ext=>exact hok.elim
     | val=>exact hok.elim
     | own b=>
     simp only[MV.at,Option.some.injEq,Prod.mk.injEq]at hma;obtain⟨rfl,rfl⟩:=hma;obtain⟨cs,hcs,ho⟩:=hok;obtain⟨ti,z,h1,h2,h3,h4,h5⟩:=(c.tok _ i hi).info;have hlen:=bC hcl;have mA:=uN mM.2.2 hcl;have hwr:(Instr.storeAt t (a.eval x) (a.eval y)).run c.P w=.ok () (w.setCells b 0 (a.eval y).cells.toList):=by
      rw[hb2];simp only[Instr.storeAt,Instr.sureAddr,Sem.run_bind,Sem.run_pure,Result.andThen_ok,storeVar,dD h1];rw[if_neg (by simp at hlen;omega)];have:=run_storeCells_cells (P:=c.P) b 0 (a.eval y).cells.toList 0 w
       (λj hj=>by simp[World.cell?,ho];simp at hlen hj;omega)
       (λj hj=>by simp[World.frozen?,ho]) mA
      simpa using this
     refine⟨b,(a.eval y).cells.toList,hb1,by rw[hk];congr 2;omega,hcl,by simp only[execOp,hx,Sem.run_bind,hwr,Result.andThen_ok,Sem.run_pure],?_⟩;rw[gJ b bt' _ 0 w cs.toArray ho (by simp at hlen |-;omega)];congr 2;exact aJs _ _ (by simp at hlen |-;omega)
    ·cases h
   ·cases h
  ·cases h
 ·cases h
theorem PInv.psim2 (T:Tr c all n0 K0 m en st kk){L:Array Bool}{X:Nat->Prop}{μ:Mu}{a:Act}{w:World}(H:PInv c all n0 K0 m en st L X μ a w){o:Oper}(hr:∀t j',xL all o t->j'<m->pJ all j'=some t->ex L j'):PSim c K0 n0 (xL all o) {st m with ow:=[]} X μ a w:=by
 refine⟨H.dfr,H.size,?_,H.heap,H.old,H.inj,H.loc,H.xlt,H.xnew,H.xold,H.bel,H.kf0,OwnOk.nil _ _ _ _⟩;intro t av ht hl;rcases T.from (lRf m) hl with⟨j',h1,h2,h3⟩ | ⟨h1,av0,h2,h3⟩
 ·obtain⟨v,e1,e2⟩:=H.done j' h1 (hr t j' ht h1 h2) t h2;exact⟨v,by rw[<-h3 μ];exact e1,e2⟩
 ·obtain⟨v,e1,e2⟩:=H.base t av0 (λj' hj' hd=>absurd hd (h1 j' hj')) h2;exact⟨v,by rw[<-h3 μ];exact e1,e2⟩
theorem aVm {K:List KF}{S:St}{X:Nat->Prop}{μ:Mu}{a:Act}{w:World}(H:Sim c K S X μ a w){ps:List Ps}{L:Array Bool}(hpd:PD ps L μ w)(cI:∀p,p∈ps->ex L p.j):Sim c K (S.setPs ps) X μ a w:=by
 have P:=H.toP
 have hlen:(S.setPs ps).hp.length=S.hp.length:=aGj ps S.hp
 refine⟨⟨P.dfr,P.size,P.slots,?_,by rw[hlen];exact P.all,P.inj,P.loc,P.xlt,P.xnew,P.xold,P.bel,P.kf,P.own⟩,by rw[hlen];exact H.dom⟩;intro k blk mm hk hm;rcases aGi ps S.hp k blk hk with⟨p,h1,h2,h3⟩ | ⟨h1,_⟩
 ·obtain⟨b,vs,e1,e2,e3⟩:=hpd p h1 (cI p h1);rw[h2,hm]at e1;injection e1 with e1
  subst e1;subst h3;exact⟨vs,e2,e3⟩
 ·exact P.heap k blk mm h1 hm
theorem aP5 (T:Tr c all n0 K0 m en st kk)(ok:DrawOk2 all m){ps:List Ps}(hps:lI c.ty (st m) all (List.range' m (all.size - m))=some ps){k:List KI}(hs:bH c (kk m) (.ops all all.size::k) ((st m).setPs ps)):∀(fuel:Nat) (L:Array Bool) (X:Nat->Prop) (μ:Mu) (a:Act) (w:World),L.size=all.size->DC all L->
  L.toList.count false<=fuel->PInv c all n0 K0 m en st L X μ a w->PD ps L μ w->wpAnyIn c.F 0 c.P .any all (aO c.F c.P c.R k) fuel L a w:=by
 obtain⟨ps1,ps2,ps3⟩:=pM hps;have fin:∀(L:Array Bool) (X:Nat->Prop) (μ:Mu) (a:Act) (w:World),(∀j,j<all.size->ex L j)->PInv c all n0 K0 m en st L X μ a w->PD ps L μ w->aO c.F c.P c.R k .normal a w:=by
  intro L X μ a w cI H hpd;have:=hs X μ a w (aVm (H.sim T (λj hj=>cI j (by have:=T.hm;omega))) hpd (λp hp=>cI p.j (by
   have:=ps2 p hp
   rw[List.mem_range'_1]at this;have:=T.hm;omega)))
  simpa[aO,wpOpsIn]using this
 intro fuel;induction fuel with
 | zero=>
  intro L X μ a w hL hdc hf H hpd;have cI:∀j,j<all.size->ex L j:=by
   intro j hj;apply Classical.byContradiction;intro hx;have:=count_set L j zW hx;omega
  refine⟨?_,fin L X μ a w cI H hpd⟩;apply List.eq_nil_iff_forall_not_mem.2;intro j hj;obtain⟨h3,_⟩:=mem_ready.1 hj;obtain⟨h4,h5⟩:=eF h3;exact h5 (cI j zW)
 | succ fuel ih=>
  intro L X μ a w hL hdc hf H hpd;by_cases cI:∀j,j<all.size->ex L j
  ·refine⟨λ_=>fin L X μ a w cI H hpd,λj hj=>?_⟩;obtain⟨h3,_⟩:=mem_ready.1 hj;obtain⟨h4,h5⟩:=eF h3;exact absurd (cI j zW) h5
  ·have hex:∃j,j<all.size/\¬ex L j/\∀j',j'<j->ex L j':=by
    have:∃j,j<all.size/\¬ex L j:=by
     apply Classical.byContradiction;intro h;exact cI λj hj=>Classical.byContradiction λhx=>h ⟨j,hj,hx⟩
    obtain⟨j,h1,h2⟩:=this;induction j using Nat.strongRecOn with
    | _ j ihj=>
     by_cases h:∀j',j'<j->ex L j'
     ·exact⟨j,h1,h2,h⟩
     ·have:∃j',j'<j/\¬ex L j':=Classical.byContradiction λh'=>h λj' hj'=>Classical.byContradiction λhx=>h' ⟨j',hj',hx⟩
      obtain⟨j',h3,h4⟩:=this;exact ihj j' h3 zW h4
   obtain⟨j0,h1,h2,h3⟩:=hex;have hm0:j0∈Region.ready .any all L:=mem_ready.2 ⟨(wA zW).2 h2,all[j0],by simp[h1],λe he hb=>h3 _ (T.ok.on j0 _ e (by simp[h1]) he hb)⟩;refine⟨(λh0=>by rw[h0]at hm0;cases hm0),λi hi=>?_⟩;obtain⟨h4,oi,hoi,_⟩:=mem_ready.1 hi;obtain⟨h5,h6⟩:=eF h4;have aTp:=count_set L i h5 h6;have jM:∀j,Reach all i j->ex L j:=λj hx=>fF hdc hi hx;rcases Nat.lt_or_ge i m with him | him
   ·obtain⟨o,E⟩:=T.ent i him;rw[E.ho]at hoi;injection hoi with hoi;subst hoi
    have HP:=H.psim T him E jM hdc h6 _ rfl
    have next:∀ow X' μ' v w',cV c (fl (st i) o) X μ w (en i).av (en i).nb ow X' μ' v w'->(cF o=true->(en i).ow=ow)->(∀f,f∈(en i).kn->f.p X' μ' w')->wpAnyIn c.F 0 c.P .any all (aO c.F c.P c.R k) fuel (L.setIfInBounds i true) (a.put o.dst v) w':=by
     intro ow X' μ' v w' hp how hk;refine ih _ X' μ' _ w' (by simpa using hL) (hdc.set h5 hi) zW (H.step T him hL E jM hdc h6 HP hp how hk (λhs=>H.freshId T him h6 hs)) ?_;intro p hpp hx;have hle:Mu.le μ μ':=rT hp (by rw[xS];exact λhs=>H.freshId T him h6 hs);have hpj:m<=p.j:=by have:=ps2 p hpp;rw[List.mem_range'_1]at this;omega
     obtain⟨b,vs,e1,e2,e3⟩:=hpd p hpp (((fC h5).1 hx).resolve_left zW);refine⟨b,vs,hle _ _ e1,gV hle _ _ e2,?_⟩;rw[hp.keep b (H.loc _ _ e1).2.2 (λf hf hb=>((HP.own.at_ f hf).2 b hb).2.2.2 _ e1)];exact e3
    simp only[wpOpIn,E.ho];rcases E.how with⟨g1,g2,g3,g4,g5⟩ | ⟨g1,ow,g2,g3⟩
    ·rw[if_neg (by rw[cH HP (by rw[tH];exact g1) (λt ht=>by simp[xL,eG,ht])];simp)];refine⟨λ_ _=>trivial,?_⟩;refine next (fl (st i) o).ow X μ undef w ?_ (λhc=>?_) (by rw[g4];intro f hf;cases hf)
     ·rw[g2,g3];exact cV.same HP.own (by simp[aD])
     ·rw[g5];simp[fl,hc]
    ·rw[if_pos (cH HP (by rw[tH];exact g1) (λt ht=>by simp[xL,eG,ht]))];exact g2 X μ a w _ _ HP (λhs=>by rw[xS];exact H.freshId T him h6 hs) (λX' μ' v w' hp hk=>next ow X' μ' v w' hp g3 hk)
   ·obtain⟨p,o,hp1,hp2,hp3,hp4⟩:=ps1 i (by rw[List.mem_range'_1];omega);rw[hoi]at hp3;injection hp3 with hp3;subst hp3
    obtain⟨t1,t2,t3⟩:=ok.tl i oi hoi him;have HP:=H.psim2 T (o:=oi) (λt j' ht hj' hd=>jM _ (t3 t j' ht hj' hd));obtain⟨b,vs,q1,q2,q3,q4,q5⟩:=aKl HP (λt ht=>by simp only[xL,eG,List.mem_append];exact .inl (fV (by simpa using ht))) (o:=oi) (k:=p.k) (bt:=p.bt) (l:=p.l) hp4;have aJ2:∀j,j≠b->(w.setCells b 0 vs).heap[j]?=w.heap[j]?:=λj hj=>fN b _ _ _ j hj;simp only[wpOpIn,hoi];rw[if_pos (iZ t2 _)];refine tW q4 ?_;rw[t1];refine ih _ X μ a _ (by simpa using hL) (hdc.set h5 hi) zW (H.store q1 q2 rfl (setCells_size _ _ _ _) (fM b (H.loc _ b q1).1 _ _ _ H.bel) aJ2 q5 him h5) ?_;intro p' hp' hx;rcases(fC h5).1 hx with e | e
    ·obtain⟨p'',o'',r1,r2,r3,r4⟩:=ps1 p'.j (ps2 p' hp');have hpk:p'=p:=by
      apply Classical.byContradiction;intro hne;exact hne (aRi hps hp' hp1 (by rw[e,hp2]))
     subst hpk;exact⟨b,vs,q1,q3,q5⟩
    ·obtain⟨b',vs',e1,e2,e3⟩:=hpd p' hp' e;refine⟨b',vs',e1,e2,?_⟩;rw[aJ2 b' (λeb=>?_)]
     ·exact e3
     ·subst eb;have:p'=p:=aZb ps3 p' p hp' hp1 (H.inj _ _ b' e1 q1);subst this;rw[hp2]at e;exact h6 e
theorem aP7 {m2:Nat}(T:Tr c all n0 K0 m en st kk)(ok:DrawOk4 all m m2)(hm2:m2<=all.size){ps:List Ps}(hps:lI c.ty (st m) all (List.range' m (m2 - m))=some ps){k:List KI}(hs:bH c (kk m) (.ops all m2::k) ((st m).setPs ps)):∀(fuel:Nat) (L:Array Bool) (X:Nat->Prop) (μ:Mu) (a:Act) (w:World),L.size=all.size->DC all L->(∀j,m2<=j->¬ex L j)->
  L.toList.count false<=fuel->PInv c all n0 K0 m en st L X μ a w->PD ps L μ w->wpAnyIn c.F 0 c.P .any all (aO c.F c.P c.R k) fuel L a w:=by
 obtain⟨ps1,ps2,ps3⟩:=pM hps;have hle:=ok.le;have fin:∀(L:Array Bool) (X:Nat->Prop) (μ:Mu) (a:Act) (w:World),(∀j,j<m2->ex L j)->PInv c all n0 K0 m en st L X μ a w->PD ps L μ w->wpOpsIn c.F 0 c.P all (aO c.F c.P c.R k) (List.range' m2 (all.size - m2)) a w:=by
  intro L X μ a w cI H hpd;have:=hs X μ a w (aVm (H.sim T (λj hj=>cI j zW)) hpd (λp hp=>cI p.j (by
   have:=ps2 p hp
   rw[List.mem_range'_1]at this;omega)))
  simpa[aO]using this
 intro fuel;induction fuel with
 | zero=>
  intro L X μ a w hL hdc hno hf H hpd;have cI:∀j,j<all.size->ex L j:=by
   intro j hj;apply Classical.byContradiction;intro hx;have:=count_set L j zW hx;omega
  have e2:m2=all.size:=by
   rcases Nat.eq_or_lt_of_le hm2 with e | e
   ·exact e
   ·exact absurd (cI m2 e) (hno m2 (lRf _))
  refine⟨?_,?_⟩
  ·apply List.eq_nil_iff_forall_not_mem.2;intro j hj;obtain⟨h3,_⟩:=mem_ready.1 hj;obtain⟨h4,h5⟩:=eF h3;exact h5 (cI j zW)
  ·have:=fin L X μ a w (λj hj=>cI j zW) H hpd
   rw[e2]at this;simpa[wpOpsIn]using this
 | succ fuel ih=>
  intro L X μ a w hL hdc hno hf H hpd;by_cases cI:∀j,j<m2->ex L j
  ·refine aEf ok.on ok.tail _ m2 L a w hL hdc cI hno (lRf _) hm2 ?_ (fin L X μ a w cI H hpd);have h1:(L.toList.drop m2).count false=all.size - m2:=by
    rw[List.count_eq_length.2,List.length_drop]
    ·simp[hL]
    ·intro b hb;obtain⟨q,hq⟩:=List.getElem?_of_mem hb;rw[List.getElem?_drop]at hq;have:=hno (m2+q) zW;unfold ex at this;simp at hq;simp[hq]at this;exact this.symm
   have h2:L.toList.count false=(L.toList.take m2).count false+(L.toList.drop m2).count false:=by
    rw[<-List.count_append,List.take_append_drop]
   omega
  ·have hex:∃j,j<m2/\¬ex L j/\∀j',j'<j->ex L j':=by
    have:∃j,j<m2/\¬ex L j:=by
     apply Classical.byContradiction;intro h;exact cI λj hj=>Classical.byContradiction λhx=>h ⟨j,hj,hx⟩
    obtain⟨j,h1,h2⟩:=this;induction j using Nat.strongRecOn with
    | _ j ihj=>
     by_cases h:∀j',j'<j->ex L j'
     ·exact⟨j,h1,h2,h⟩
     ·have:∃j',j'<j/\¬ex L j':=Classical.byContradiction λh'=>h λj' hj'=>Classical.byContradiction λhx=>h' ⟨j',hj',hx⟩
      obtain⟨j',h3,h4⟩:=this;exact ihj j' h3 zW h4
   obtain⟨j0,h1,h2,h3⟩:=hex;have h1':j0<all.size:=zW;have hm0:j0∈Region.ready .any all L:=mem_ready.2 ⟨(wA zW).2 h2,all[j0],by simp[h1'],λe he hb=>h3 _ (T.ok.on j0 _ e (by simp[h1']) he hb)⟩;refine⟨(λh0=>by rw[h0]at hm0;cases hm0),λi hi=>?_⟩;obtain⟨h4,oi,hoi,_⟩:=mem_ready.1 hi;obtain⟨h5,h6⟩:=eF h4;have bHh:i<m2:=by
    rcases Nat.lt_or_ge i m2 with h | h
    ·exact h
    ·exact absurd (fF hdc hi (ok.tail i oi j0 hoi h zW)) h2
   have bE4:∀j,m2<=j->¬ex (L.setIfInBounds i true) j:=λj hj hx=>by
    rcases(fC h5).1 hx with e | e
    ·omega
    ·exact hno j hj e
   have aTp:=count_set L i h5 h6
   have jM:∀j,Reach all i j->ex L j:=λj hx=>fF hdc hi hx
   rcases Nat.lt_or_ge i m with him | him
   ·obtain⟨o,E⟩:=T.ent i him;rw[E.ho]at hoi;injection hoi with hoi;subst hoi
    have HP:=H.psim T him E jM hdc h6 _ rfl
    have next:∀ow X' μ' v w',cV c (fl (st i) o) X μ w (en i).av (en i).nb ow X' μ' v w'->(cF o=true->(en i).ow=ow)->(∀f,f∈(en i).kn->f.p X' μ' w')->wpAnyIn c.F 0 c.P .any all (aO c.F c.P c.R k) fuel (L.setIfInBounds i true) (a.put o.dst v) w':=by
     intro ow X' μ' v w' hp how hk;refine ih _ X' μ' _ w' (by simpa using hL) (hdc.set h5 hi) bE4 zW (H.step T him hL E jM hdc h6 HP hp how hk (λhs=>H.freshId T him h6 hs)) ?_;intro p hpp hx;have hle:Mu.le μ μ':=rT hp (by rw[xS];exact λhs=>H.freshId T him h6 hs);have hpj:m<=p.j:=by have:=ps2 p hpp;rw[List.mem_range'_1]at this;omega
     obtain⟨b,vs,e1,e2,e3⟩:=hpd p hpp (((fC h5).1 hx).resolve_left zW);refine⟨b,vs,hle _ _ e1,gV hle _ _ e2,?_⟩;rw[hp.keep b (H.loc _ _ e1).2.2 (λf hf hb=>((HP.own.at_ f hf).2 b hb).2.2.2 _ e1)];exact e3
    simp only[wpOpIn,E.ho];rcases E.how with⟨g1,g2,g3,g4,g5⟩ | ⟨g1,ow,g2,g3⟩
    ·rw[if_neg (by rw[cH HP (by rw[tH];exact g1) (λt ht=>by simp[xL,eG,ht])];simp)];refine⟨λ_ _=>trivial,?_⟩;refine next (fl (st i) o).ow X μ undef w ?_ (λhc=>?_) (by rw[g4];intro f hf;cases hf)
     ·rw[g2,g3];exact cV.same HP.own (by simp[aD])
     ·rw[g5];simp[fl,hc]
    ·rw[if_pos (cH HP (by rw[tH];exact g1) (λt ht=>by simp[xL,eG,ht]))];exact g2 X μ a w _ _ HP (λhs=>by rw[xS];exact H.freshId T him h6 hs) (λX' μ' v w' hp hk=>next ow X' μ' v w' hp g3 hk)
   ·obtain⟨p,o,hp1,hp2,hp3,hp4⟩:=ps1 i (by rw[List.mem_range'_1];omega);rw[hoi]at hp3;injection hp3 with hp3;subst hp3
    obtain⟨t1,t2,t3⟩:=ok.tl i oi hoi him bHh;have HP:=H.psim2 T (o:=oi) (λt j' ht hj' hd=>jM _ (t3 t j' ht hj' hd));obtain⟨b,vs,q1,q2,q3,q4,q5⟩:=aKl HP (λt ht=>by simp only[xL,eG,List.mem_append];exact .inl (fV (by simpa using ht))) (o:=oi) (k:=p.k) (bt:=p.bt) (l:=p.l) hp4;have aJ2:∀j,j≠b->(w.setCells b 0 vs).heap[j]?=w.heap[j]?:=λj hj=>fN b _ _ _ j hj;simp only[wpOpIn,hoi];rw[if_pos (iZ t2 _)];refine tW q4 ?_;rw[t1];refine ih _ X μ a _ (by simpa using hL) (hdc.set h5 hi) bE4 zW (H.store q1 q2 rfl (setCells_size _ _ _ _) (fM b (H.loc _ b q1).1 _ _ _ H.bel) aJ2 q5 him h5) ?_;intro p' hp' hx;rcases(fC h5).1 hx with e | e
    ·obtain⟨p'',o'',r1,r2,r3,r4⟩:=ps1 p'.j (ps2 p' hp');have hpk:p'=p:=by
      apply Classical.byContradiction;intro hne;exact hne (aRi hps hp' hp1 (by rw[e,hp2]))
     subst hpk;exact⟨b,vs,q1,q3,q5⟩
    ·obtain⟨b',vs',e1,e2,e3⟩:=hpd p' hp' e;refine⟨b',vs',e1,e2,?_⟩;rw[aJ2 b' (λeb=>?_)]
     ·exact e3
     ·subst eb;have:p'=p:=aZb ps3 p' p hp' hp1 (H.inj _ _ b' e1 q1);subst this;rw[hp2]at e;exact h6 e
theorem aFy {n m j:Nat}(hm:m<=n):ex (firstM n m) j↔j<m:=by
 unfold ex firstM;simp only[Array.getD_eq_getD_getElem?,List.getElem?_toArray,List.getElem?_map];rcases Nat.lt_or_ge j n with h | h
 ·rw[List.getElem?_range h];simp
 ·rw[List.getElem?_eq_none (by simpa using h)];simp;omega
theorem aYp {L M:Array Bool}(hs:L.size=M.size)(h:∀j,ex L j↔ex M j):L=M:=by
 apply Array.ext hs;intro i h1 h2;have:=h i;unfold ex at this;simp only[Array.getD_eq_getD_getElem?,Array.getElem?_eq_getElem h1,Array.getElem?_eq_getElem h2,Option.getD_some]at this;exact Bool.eq_iff_iff.2 this
theorem aP6 (T:Tr c all n0 K0 m en st kk)(ok:DrawOk3 all m){k:List KI}(hs:bH c (kk m) (.ord all (firstM all.size m)::k) (st m)):∀(fuel:Nat) (L:Array Bool) (X:Nat->Prop) (μ:Mu) (a:Act) (w:World),L.size=all.size->DC all L->(∀j,m<=j->¬ex L j)->
  L.toList.count false=fuel->PInv c all n0 K0 m en st L X μ a w->wpAnyIn c.F 0 c.P .any all (aO c.F c.P c.R k) fuel L a w:=by
 intro fuel;have fin:∀(fuel:Nat) (L:Array Bool) (X:Nat->Prop) (μ:Mu) (a:Act) (w:World),L.size=all.size->(∀j,m<=j->¬ex L j)->(∀j,j<m->ex L j)->L.toList.count false=fuel->PInv c all n0 K0 m en st L X μ a w->wpAnyIn c.F 0 c.P .any all (aO c.F c.P c.R k) fuel L a w:=by
  intro fuel L X μ a w hL hno cI hf H;have e:L=firstM all.size m:=aYp (by rw[hL];simp[firstM]) (λj=>by
   rw[aFy T.hm];exact⟨λhx=>Nat.lt_of_not_le λh=>hno j h hx,cI j⟩)
  have:=hs X μ a w (H.sim T cI)
  simp only[aO,<-e,hf]at this;exact this
 induction fuel with
 | zero=>
  intro L X μ a w hL hdc hno hf H;refine fin 0 L X μ a w hL hno (λj hj=>?_) hf H;apply Classical.byContradiction;intro hx;have:=count_set L j (by have:=T.hm;omega) hx;omega
 | succ fuel ih=>
  intro L X μ a w hL hdc hno hf H;by_cases cI:∀j,j<m->ex L j
  ·exact fin (fuel+1) L X μ a w hL hno cI hf H
  ·have hex:∃j,j<m/\¬ex L j/\∀j',j'<j->ex L j':=by
    have:∃j,j<m/\¬ex L j:=by
     apply Classical.byContradiction;intro h;exact cI λj hj=>Classical.byContradiction λhx=>h ⟨j,hj,hx⟩
    obtain⟨j,h1,h2⟩:=this;induction j using Nat.strongRecOn with
    | _ j ihj=>
     by_cases h:∀j',j'<j->ex L j'
     ·exact⟨j,h1,h2,h⟩
     ·have:∃j',j'<j/\¬ex L j':=Classical.byContradiction λh'=>h λj' hj'=>Classical.byContradiction λhx=>h' ⟨j',hj',hx⟩
      obtain⟨j',h3,h4⟩:=this;exact ihj j' h3 zW h4
   obtain⟨j0,h1,h2,h3⟩:=hex;obtain⟨o0,E0⟩:=T.ent j0 h1;have hm0:j0∈Region.ready .any all L:=mem_ready.2 ⟨(wA (by have:=T.hm;omega)).2 h2,o0,E0.ho,λe he hb=>h3 _ (T.ok.on j0 o0 e E0.ho he hb)⟩;refine⟨(λh0=>by rw[h0]at hm0;cases hm0),λi hi=>?_⟩;obtain⟨h4,oi,hoi,_⟩:=mem_ready.1 hi;obtain⟨h5,h6⟩:=eF h4;have him:i<m:=by
    rcases Nat.lt_or_ge i m with h | h
    ·exact h
    ·exact absurd (fF hdc hi (ok.bar i oi j0 hoi h h1)) h2
   obtain⟨o,E⟩:=T.ent i him;rw[E.ho]at hoi;injection hoi with hoi;subst hoi
   have aTp:=count_set L i h5 h6
   have jM:∀j,Reach all i j->ex L j:=λj hx=>fF hdc hi hx
   have HP:=H.psim T him E jM hdc h6 _ rfl
   have next:∀ow X' μ' v w',cV c (fl (st i) o) X μ w (en i).av (en i).nb ow X' μ' v w'->(cF o=true->(en i).ow=ow)->(∀f,f∈(en i).kn->f.p X' μ' w')->wpAnyIn c.F 0 c.P .any all (aO c.F c.P c.R k) fuel (L.setIfInBounds i true) (a.put o.dst v) w':=by
    intro ow X' μ' v w' hp how hk;refine ih _ X' μ' _ w' (by simpa using hL) (hdc.set h5 hi) (λq hq hx=>?_) zW (H.step T him hL E jM hdc h6 HP hp how hk (λhs=>H.freshId T him h6 hs));rcases(fC h5).1 hx with e | e
    ·omega
    ·exact hno q hq e
   simp only[wpOpIn,E.ho];rcases E.how with⟨g1,g2,g3,g4,g5⟩ | ⟨g1,ow,g2,g3⟩
   ·rw[if_neg (by rw[cH HP (by rw[tH];exact g1) (λt ht=>by simp[xL,eG,ht])];simp)];refine⟨λ_ _=>trivial,?_⟩;refine next (fl (st i) o).ow X μ undef w ?_ (λhc=>?_) (by rw[g4];intro f hf;cases hf)
    ·rw[g2,g3];exact cV.same HP.own (by simp[aD])
    ·rw[g5];simp[fl,hc]
   ·rw[if_pos (cH HP (by rw[tH];exact g1) (λt ht=>by simp[xL,eG,ht]))];exact g2 X μ a w _ _ HP (λhs=>by rw[xS];exact H.freshId T him h6 hs) (λX' μ' v w' hp hk=>next ow X' μ' v w' hp g3 hk)
end
theorem aNk {c:Cx}(hm:c.P.follows .mixedOrders=true){K:List KF}{id:Nat}{all:Array Oper}{k:List KI}{S:St}(h:DPath c all S.hp.length K k 0 S K):bH c K (.code (.region id all true)::k) S:=by
 intro X μ a w H;obtain⟨m,en,st,kk,h1,h2,h3,h4,h6,h7⟩:=h.trace;have ok0:DrawOk0 all m:=h7.elim (λh=>(aA0 h.1).toDrawOk0) (λh=>h.elim (λh=>(xM h.1).toDrawOk0) (λh=>h.elim (λh=>(xN h.1).toDrawOk0) (λ⟨m2,h,_⟩=>(xO h).toDrawOk0)));have T:Tr c all S.hp.length K m en st kk:=⟨λj hj=>h4 j (Nat.zero_le _) hj,ok0,h6,by rw[h2.hp],h3⟩;have main:∀(fuel:Nat) (L:Array Bool) (X:Nat->Prop) (μ:Mu) (a:Act) (w:World),L.size=all.size->DC all L->(∀j,¬ex L j)->L.toList.count false=fuel->PInv c all S.hp.length K m en st L X μ a w->wpAnyIn c.F 0 c.P .any all (aO c.F c.P c.R k) fuel L a w:=by
  intro fuel L X μ a w q1 q2 q3 q4 q5;rcases h7 with⟨d1,d2⟩ | ⟨d1,ps,d2,d3⟩ | ⟨d1,d2⟩ | ⟨m2,d1,d0,ps,d2,d3⟩
  ·exact aTa T (aA0 d1) d2 fuel L X μ a w q1 q2 (λj _=>q3 j) (Nat.le_of_eq q4) q5
  ·exact aP5 T (xM d1) d2 d3 fuel L X μ a w q1 q2 (Nat.le_of_eq q4) q5 (λp _ hx=>absurd hx (q3 p.j))
  ·exact aP6 T (xN d1) d2 fuel L X μ a w q1 q2 (λj _=>q3 j) q4 q5
  ·exact aP7 T (xO d1) d0 d2 d3 fuel L X μ a w q1 q2 (λj _=>q3 j) (Nat.le_of_eq q4) q5 (λp _ hx=>absurd hx (q3 p.j))
 refine wpIn_region_any hm (main all.size (Array.replicate all.size false) X μ a {w with drawn:=w.drawn+1} zA ?_ ?_ ?_ ?_)
 ·intro j o hx;unfold ex at hx;simp[Array.getElem?_replicate]at hx;split at hx<;>cases hx
 ·intro j hx;unfold ex at hx;simp[Array.getElem?_replicate]at hx;split at hx<;>cases hx
 ·simp
 ·have P:=H.toP
  have no:∀j,¬ex (Array.replicate all.size false) j:=by
   intro j hx;unfold ex at hx;simp[Array.getElem?_replicate]at hx;split at hx<;>cases hx
  obtain⟨l,hl⟩:=T.hpPre (i:=0) (j:=m) zW (lRf _);refine⟨P.dfr,P.size,(λt av _ hlk=>by
   obtain⟨a',q1,q2⟩:=h2.sl t av hlk;obtain⟨v,q3,q4⟩:=P.slots t a' trivial q1;exact⟨v,by rw[<-q2 μ];exact q3,q4⟩),λj _ hx=>absurd hx (no j),?_,P.all,?_,λj _ hx=>absurd hx (no j),P.inj,P.loc,P.xlt,P.xnew,P.xold,⟨P.bel.os,P.bel.tape,P.bel.output,P.bel.size,P.bel.block⟩,?_,λj _ hx=>absurd hx (no j),?_,?_⟩
  ·intro k' blk b hk' hmu;have hlt:k'<S.hp.length:=by
    rcases Nat.lt_or_ge k' S.hp.length with h | h
    ·exact h
    ·rw[H.dom k' h]at hmu;cases hmu
   rw[hl,h2.hp,List.getElem?_append_left hlt]at hk';exact Blk.ok_keep (X:=X) (w:=w) (w':={w with drawn:=w.drawn+1}) (Mu.le_refl _) (λ_ h=>h) (λ_ _=>rfl) (λ_ _=>rfl) (P.heap k' blk b hk' hmu)
  ·intro k' b hmu;refine .inl ?_;rcases Nat.lt_or_ge k' S.hp.length with h | h
   ·exact h
   ·rw[H.dom k' h]at hmu;cases hmu
  ·intro f hf;exact f.st X X μ μ w _ (λ_ h=>h) (Mu.vle_refl _) (λ_ _=>rfl) (P.kf f hf)
  ·intro q hq hqb;have e:(st q).ow=S.ow:=(T.owEq (i:=0) (Nat.zero_le _) hq (λi _ hi=>by
    cases hc:eC all i with
    | false=>rfl
    | true=>exact absurd ((hqb i zW hc).2 hi) (no i))).trans h2.ow
   rw[e];exact P.own.keep (Mu.le_refl _) (lRf _) (λ_ _=>rfl) (λb h=>.inl h) (λk b h=>.inl h)
  ·exact⟨0,Nat.zero_le _,λj _ _=>⟨λhx=>absurd hx (no j),λh=>absurd h (Nat.not_lt_zero _)⟩⟩
theorem aQn {F:Fence}{P:Program}{o:Oper}{a:Act}{w:World}{next:Act->World->Prop}{Q Q':Exit->Act->World->Prop}(h1:∀c a w,Q (.panic c) a w->Q' (.panic c) a w)(h2:LetsOut Q->LetsOut Q')(h:o.wpIn F 0 P a w next Q):o.wpIn F 0 P a w next Q':=by
 refine⟨h.1,?_⟩;have h:=h.2;cases hr:(o.semAt F.round a.eval).run P w with
 | ok v w'=>
  rw[hr]at h;cases v with
  | value v=>exact h
  | skip=>exact h
  | defer d=>exact h
  | enter f args=>
   refine⟨h.1,CallsIn.mono h.2 (λe w'' he=>?_)⟩;cases e with
   | returned v=>exact he
   | panicked c=>exact h1 _ _ _ he
   | outgrown=>exact h2 he
  | round l f tmps zas body=>
   refine⟨h.1,RoundIn.mono h.2 (λe w'' he=>?_)⟩;cases e with
   | returned v=>exact he
   | panicked c=>exact h1 _ _ _ he
   | outgrown=>exact h2 he
  | row r args=>exact h
  | _=>exact h
 | halt hh w'=>
  rw[hr]at h;cases hh with
  | panic v=>exact h1 _ _ _ h
  | _=>exact h
theorem aGl {c:Cx}{K:List KF}{all:Array Oper}{L:Array Bool}{k:List KI}{S:St}(h0:Region.ready .any all L=[]->bH c K k S)
  (h1:∀i,i∈Region.ready .any all L->∃o,all[i]?=some o/\o.guard=none/\bH c K (.ops #[o] 0::.ord all (L.setIfInBounds i true)::k) S):bH c K (.ord all L::k) S:=by
 intro X μ a w H;simp only[aO];cases hf:L.toList.count false with
 | zero=>
  have hr:Region.ready .any all L=[]:=by
   apply List.eq_nil_iff_forall_not_mem.2;intro j hj;obtain⟨h3,_⟩:=mem_ready.1 hj;obtain⟨h4,h5⟩:=eF h3;have:=count_set L j h4 h5;omega
  exact⟨hr,h0 hr X μ a w H⟩
 | succ n=>
  refine⟨λhr=>h0 hr X μ a w H,λi hi=>?_⟩;obtain⟨o,ho,hg,hs⟩:=h1 i hi;obtain⟨h3,_⟩:=mem_ready.1 hi;obtain⟨h4,h5⟩:=eF h3;have aTp:=count_set L i h4 h5;have he:(L.setIfInBounds i true).toList.count false=n:=zW;have:=hs X μ a w H;simp only[aO,Nat.sub_zero,List.size_toArray,List.length_cons,List.length_nil,Nat.zero_add,List.range'_one]at this;rw[wpOpsIn_cons]at this;simp only[wpOpIn,ho];simp only[wpOpIn,List.getElem?_toArray,List.getElem?_cons_zero]at this;rw[if_pos (iZ hg _)]at this |-;have conv:∀c' a w,aO c.F c.P c.R (.ord all (L.setIfInBounds i true)::k) (.panic c') a w->aO c.F c.P c.R k (.panic c') a w:=λc' a w h=>by simpa[aO]using h
  have outc:LetsOut (aO c.F c.P c.R (.ord all (L.setIfInBounds i true)::k))->LetsOut (aO c.F c.P c.R k):=λ⟨a,w,h⟩=>⟨a,w,by simpa[aO]using h⟩
  refine aQn conv outc (Oper.wpIn_mono (λa' w' hq=>?_) this);simp only[wpOpsIn,aO,he]at hq;exact hq
end Go.Ai
namespace Go.Ai
open Go Go.RowKit
def plain:List KI->Bool
 | .cal ..::_=>false
 | .dops ..::_=>false
 | .dcal ..::_=>false
 | _=>true
structure CalOk (c:Cx)(K:List KF)(S:St)(all:Array Oper)(i g:Nat)(avs:List AV):Prop where
 out:∃o,all[i]?=some o/\iS S.sl o.op=some (g,avs)/\cM c.nt o.dst=true/\guardOf all S.sl o=some true
def dS (c:Cx)(K:List KF):List KI->St->Prop
 | .cal g avs all i::k,S=>CalOk c K S all i g avs->bH c K (.ops all i::k) S
 | .dops all i n0 K0::k,S=>DPath c all n0 K0 k i S K
 | .dcal g avs all i n0 K0::k,S=>CalOk c K S all i g avs->DPath c all n0 K0 k i S K
 | ks,S=>bH c K ks S
theorem nM {c:Cx}{K:List KF}{ks:List KI}{S:St}(h:plain ks=true):dS c K ks S=bH c K ks S:=by
 match ks,h with
 | [],_=>rfl
 | .code _::_,_=>rfl
 | .ops _ _::_,_=>rfl
 | .blk _::_,_=>rfl
 | .hole _::_,_=>rfl
 | .ord _ _::_,_=>rfl
structure Cfg where
 ks:List KI
 S:St
 ob:List Obl
def aJ7:Op->Bool
 | .assign _=>true
 | _=>false
def go (ks:List KI)(S:St)(ob:List Obl):Option Cfg:=if plain ks then some ⟨ks,S,ob⟩else none
def aK9 (ty:Nat->Option TyI)(nt:Nat)(K:List KF)(ks:List KI)(S:St):Option Cfg:=
 match ks with
 | .code (.seq x y)::k=>some ⟨.code x::.code y::k,S,[]⟩
 | .code .skip::k=>go k S []
 | .code (.region _ ops false)::k=>some ⟨.ops ops 0::k,S,[]⟩
 | .code (.region _ ops true)::k=>some ⟨.dops ops 0 S.hp.length K::k,S,[]⟩
 | .code (.block id b)::k=>some ⟨.code b::.blk id::k,S,[]⟩
 | .code (.cond x p q)::k=>match fW S.sl x with
  | some (.b (.l t))=>some ⟨.code (if t then p else q)::k,S,[]⟩
  | _=>none
 | .code (.exit id)::k=>match gK id k with
  | some k'=>go k' S []
  | none=>none
 | .code .ret::k=>if noD k then some ⟨[],S,[]⟩else none
 | .blk _::k=>go k S []
 | .ops all i::k=>match all[i]? with
  | none=>go k S []
  | some o=>if cM nt o.dst then match guardOf all S.sl o with
   | some true=>match iS S.sl o.op with
    | some (g,avs)=>some ⟨.cal g avs all i::k,S,[]⟩
    | none=>match fop ty S.hp.length S o.op with
     | some r=>some ⟨.ops all (i+1)::k,S.put o.dst r.av r.nb,r.ob⟩
     | none=>match o.dst with
      | none=>match fst ty S o.op with
       | some S'=>some ⟨.ops all (i+1)::k,S',[]⟩
       | none=>none
      | some _=>none
   | some false=>some ⟨.ops all (i+1)::k,S.put o.dst (.q undef) none,[]⟩
   | none=>none
   else none
 | .dops all i n0 K0::k=>match all[i]? with
  | none=>none
  | some o=>if cM nt o.dst then match guardOf all S.sl o with
   | some true=>match iS S.sl o.op with
    | some (g,avs)=>some ⟨.dcal g avs all i n0 K0::k,S,[]⟩
    | none=>if aJ7 o.op then none else match fop ty n0 (fl S o) o.op with
     | some r=>some ⟨.dops all (i+1) n0 K0::k,S.put o.dst r.av r.nb,r.ob⟩
     | none=>none
   | some false=>some ⟨.dops all (i+1) n0 K0::k,S.put o.dst (.q undef) none,[]⟩
   | none=>none
   else none
 | _=>none
theorem aBw {ks:List KI}{S:St}{ob:List Obl}{r:Cfg}(h:go ks S ob=some r):r=⟨ks,S,ob⟩/\plain ks=true:=by
 unfold go at h;split at h
 ·rename_i e;injection h with h;exact⟨h.symm,e⟩
 ·cases h
theorem aEn {sl:List (Nat × AV)}{o:Oper}{x:Nat × List AV}(h:iS sl o.op=some x):cF o=true:=by
 unfold iS at h;split at h
 ·rename_i f args tys hx;simp[cF,hx]
 ·cases h
theorem aLa {c:Cx}{K:List KF}(hm:c.P.follows .mixedOrders=true){ks:List KI}{S:St}{r:Cfg}(h:aK9 c.ty c.nt K ks S=some r)(hob:iA r.ob)(hs:dS c K r.ks r.S):dS c K ks S:=by
 unfold aK9 at h;split at h
 ·injection h with h;subst h;exact aRa hs
 ·rename_i k;obtain⟨rfl,hp⟩:=aBw h;rw[nM hp]at hs;exact aK7 hs
 ·injection h with h;subst h;exact aId hs
 ·injection h with h;subst h;exact aNk hm hs
 ·injection h with h;subst h;exact aK5 hs
 ·rename_i x p q k;split at h
  ·rename_i t hx;injection h with h;subst h
   refine wN hx (λe=>?_) (λe=>?_)
   ·simp only[BE.den]at e;subst e;exact hs
   ·simp only[BE.den]at e;subst e;exact hs
  ·cases h
 ·split at h
  ·rename_i k' hu;obtain⟨rfl,hp⟩:=aBw h;rw[nM hp]at hs;exact aNl hu hs
  ·cases h
 ·split at h
  ·rename_i hk;injection h with h;subst h
   exact aNm hk hs
  ·cases h
 ·obtain⟨rfl,hp⟩:=aBw h;rw[nM hp]at hs;exact aQ7 hs
 ·rename_i all i k;show bH c K (.ops all i::k) S
  split at h
  ·rename_i ho;obtain⟨rfl,hp⟩:=aBw h;rw[nM hp]at hs;exact yT (by simpa using ho) hs
  ·rename_i o ho;split at h
   ·rename_i hd;split at h
    ·rename_i hg;have hw:∀X μ a w,Sim c K S X μ a w->Region.wanted o (yielded all a.tmps)=true:=λX μ a w H=>cH H.toP hg (λ_ _=>trivial);split at h
     ·rename_i g avs hc;injection h with h;subst h
      exact hs ⟨o,ho,hc,hd,hg⟩
     ·split at h
      ·rename_i r' hr;injection h with h;subst h
       exact mC (Kn:=[]) ho hw hd (lA hr hob (λ_ _=>trivial)) hs
      ·split at h
       ·rename_i hdn;split at h
        ·rename_i S' hf;injection h with h;subst h
         exact aK8 ho hw hdn hf hs
        ·cases h
       ·cases h
    ·rename_i hg;injection h with h;subst h
     exact aNn ho (λX μ a w H=>cH H.toP hg (λ_ _=>trivial)) hd hs
    ·cases h
   ·cases h
 ·rename_i all i n0 K0 k;show DPath c all n0 K0 k i S K
  split at h
  ·cases h
  ·rename_i o ho;split at h
   ·rename_i hd;split at h
    ·rename_i hg;split at h
     ·rename_i g avs hc;injection h with h;subst h
      exact hs ⟨o,ho,hc,hd,hg⟩
     ·split at h
      ·cases h
      ·split at h
       ·rename_i r' hr;injection h with h;subst h
        refine DPath.op (Kn:=[]) (ow:=(fl S o).ow) ho hg hd (lA hr hob (λt ht=>by simp only[xL,eG,List.mem_append];exact .inl (fV (by simpa using ht)))) (λ_=>rfl) ?_ hs;rw[show(if cF o then(fl S o).ow else S.ow)=S.ow by unfold fl;split<;>rfl];exact Wk.refl _
       ·cases h
    ·rename_i hg;injection h with h;subst h
     exact DPath.skip ho hg hd (Wk.refl _) hs
    ·cases h
   ·cases h
 ·cases h
def run (ty:Nat->Option TyI)(nt:Nat)(K:List KF):Nat->List KI->St->List Obl->Cfg
 | 0,ks,S,ob=>⟨ks,S,ob⟩
 | n+1,ks,S,ob=>match aK9 ty nt K ks S with
  | some r=>run ty nt K n r.ks r.S (match r.ob with | []=>ob | o=>ob++o)
  | none=>⟨ks,S,ob⟩
structure Goal (c:Cx)(K:List KF)(r:Cfg):Prop where
 ob:iA r.ob
 so:dS c K r.ks r.S
theorem aKx {c:Cx}{K:List KF}(hm:c.P.follows .mixedOrders=true):∀(n:Nat) (ks:List KI) (S:St) (ob:List Obl),Goal c K (run c.ty c.nt K n ks S ob)->iA ob/\dS c K ks S
 | 0,ks,S,ob,h=>⟨h.ob,h.so⟩
 | n+1,ks,S,ob,h=>by
  simp only[run]at h;split at h
  ·rename_i r hr;obtain⟨h1,h2⟩:=aKx hm n _ _ _ h;have h3:iA ob/\iA r.ob:=by
    split at h1
    ·rename_i e;rw[e];exact⟨h1,trivial⟩
    ·exact rW.1 h1
   exact⟨h3.1,aLa hm hr h3.2 h2⟩
  ·exact⟨h.ob,h.so⟩
theorem walk {c:Cx}{K:List KF}{ty:Nat->Option TyI}{nt:Nat}(h1:c.ty=ty)(h2:c.nt=nt)(hm:c.P.follows .mixedOrders=true)(n:Nat){ks:List KI}{S:St}(h:Goal c K (run ty nt K n ks S [])):dS c K ks S:=by
 subst h1;subst h2;exact(aKx hm n ks S [] h).2
theorem Goal.mk' {c:Cx}{K:List KF}{ks:List KI}{S:St}{ob:List Obl}(h1:iA ob)(h2:dS c K ks S):Goal c K ⟨ks,S,ob⟩:=⟨h1,h2⟩
theorem Goal.mk0 {c:Cx}{K:List KF}{ks:List KI}{S:St}(h2:dS c K ks S):Goal c K ⟨ks,S,[]⟩:=⟨trivial,h2⟩
def eX (all:Array Oper)(i:Nat):Option Nat:=match all[i]? with | some o=>o.dst | none=>none
theorem aAk {c:Cx}{K Kn:List KF}{g:Nat}{avs:List AV}{all:Array Oper}{i:Nat}{k:List KI}{S:St}{av:AV}{nb:Option Blk}{ow:List OF}
  (hc:∀o n0 D,iS S.sl o.op=some (g,avs)->(∀t,Operand.tmp t∈o.op.operands->D t)->n0=S.hp.length->Cert c K n0 D S o av nb Kn ow) (h:dS c (Kn++K) (.ops all (i+1)::k) (S.putO (eX all i) av nb ow)):dS c K (.cal g avs all i::k) S:=by
 rintro ⟨o,ho,aA3,hd,hg⟩;have e:eX all i=o.dst:=by simp[eX,ho]
 rw[e]at h;exact mC ho (λX μ a w H=>cH H.toP hg (λ_ _=>trivial)) hd (hc o _ _ aA3 (λ_ _=>trivial) rfl) h
theorem uO {c:Cx}{K Kn:List KF}{g:Nat}{avs:List AV}{all:Array Oper}{i n0:Nat}{K0:List KF}{k:List KI}{S:St}{av:AV}{nb:Option Blk}{ow:List OF}
  (hc:∀o D,iS S.sl o.op=some (g,avs)->(∀t,Operand.tmp t∈o.op.operands->D t)->Cert c K n0 D S o av nb Kn ow) (h:dS c (Kn++K) (.dops all (i+1) n0 K0::k) (S.putO (eX all i) av nb ow)):dS c K (.dcal g avs all i n0 K0::k) S:=by
 rintro ⟨o,ho,aA3,hd,hg⟩;have e:eX all i=o.dst:=by simp[eX,ho]
 rw[e]at h;have hic:=aEn aA3;refine DPath.op ho hg hd (by rw[hic];simp only[if_true,fl,hic];exact hc o _ aA3 (λt ht=>by simp only[xL,eG,List.mem_append];exact .inl (fV (by simpa using ht)))) (λhf=>by rw[hic]at hf;cases hf) ?_ h;rw[hic];exact Wk.refl _
theorem aU0 {c:Cx}{K:List KF}{g:Nat}{avs:List AV}{all:Array Oper}{i:Nat}{k:List KI}{S:St}{aK:List Value}{r:Value}(hp:Pure c.P g aK r)(hg:aB c.P g)(av:AV)(ha:aF hJ avs=some aK)(hr:aD hJ av=some r)
  (h:dS c K (.ops all (i+1)::k) (S.put (eX all i) av none)):dS c K (.cal g avs all i::k) S:=
 aAk (Kn:=[]) (λo n0 D ho hD _=>aFh ho hD hg hp ha hr) h
theorem aPe {c:Cx}{K:List KF}{g:Nat}{avs:List AV}{all:Array Oper}{i n0:Nat}{K0:List KF}{k:List KI}{S:St}{aK:List Value}{r:Value}(hp:Pure c.P g aK r)(hg:aB c.P g)(av:AV)(ha:aF hJ avs=some aK)(hr:aD hJ av=some r)
  (h:dS c K (.dops all (i+1) n0 K0::k) (S.put (eX all i) av none)):dS c K (.dcal g avs all i n0 K0::k) S:=
 uO (Kn:=[]) (λo D ho hD=>aFh ho hD hg hp ha hr) h
theorem bCk {c:Cx}{K:List KF}{all:Array Oper}{i n0:Nat}{K0:List KF}{k:List KI}{S:St}(hd:aAe all i=true)(hi:i<=all.size)(h:dS c K (.ops all i::k) S):dS c K (.dops all i n0 K0::k) S:=
 DPath.stop hi (.inl ⟨hd,h⟩)
theorem bCj {c:Cx}{K:List KF}{x:Operand}{p q:Code}{k:List KI}{S:St}(e:BE)(hx:fW S.sl x=some (.b e))(ht:e.den=true->dS c K (.code p::k) S)(hf:e.den=false->dS c K (.code q::k) S):
  dS c K (.code (.cond x p q)::k) S:=wN hx ht hf
theorem aAo {c:Cx}{K:List KF}{S S':St}{X:Nat->Prop}{μ:Mu}{a:Act}{w:World}(H:Sim c K S X μ a w)(hw:Wk S S'):Sim c K S' X μ a w:=by
 have P:=H.toP
 refine⟨⟨P.dfr,P.size,?_,?_,by rw[hw.hp];exact P.all,P.inj,P.loc,P.xlt,P.xnew,P.xold,P.bel,P.kf,by rw[hw.ow];exact P.own⟩,by rw[hw.hp];exact H.dom⟩
 ·intro t b _ hb;obtain⟨x,h1,h2⟩:=hw.sl t b hb;obtain⟨v,h3,h4⟩:=P.slots t x trivial h1;exact⟨v,by rw[<-h2 μ];exact h3,h4⟩
 ·intro k blk b hk hm;rw[hw.hp]at hk;exact P.heap k blk b hk hm
theorem yU {c:Cx}{K:List KF}{ks:List KI}{S S':St}(hp:match ks with | .cal ..::_=>false | .dcal ..::_=>false | _=>true)(hw:Wk S S')(h:dS c K ks S'):dS c K ks S:=by
 match ks,hp with
 | [],_=>exact λX μ a w H=>h X μ a w (aAo H hw)
 | .code _::_,_=>exact λX μ a w H=>h X μ a w (aAo H hw)
 | .ops _ _::_,_=>exact λX μ a w H=>h X μ a w (aAo H hw)
 | .blk _::_,_=>exact λX μ a w H=>h X μ a w (aAo H hw)
 | .hole _::_,_=>exact λX μ a w H=>h X μ a w (aAo H hw)
 | .ord _ _::_,_=>exact λX μ a w H=>h X μ a w (aAo H hw)
 | .dops ..::_,_=>exact DPath.wk hw h
theorem aPq {S:St}{d:Nat}{e:BE}{t:Bool}(hl:look S.sl d=some (.b e))(ht:e.den=t):Wk S {S with sl:=(d,.b (.l t))::S.sl}:=
 ⟨rfl,rfl,λu b hb=>by
  by_cases h:d=u
  ·subst h;rw[bK]at hb;injection hb with hb;subst hb
   exact⟨_,hl,λμ=>by simp[aD,BE.den,ht]⟩
  ·rw[bE h]at hb;exact⟨b,hb,λ_=>rfl⟩⟩
theorem bCi {c:Cx}{K:List KF}{ks:List KI}{S:St}(d:Nat)(e:BE)(hp:match ks with | .cal ..::_=>false | .dcal ..::_=>false | _=>true)(hl:look S.sl d=some (.b e))
  (ht:e.den=true->dS c K ks {S with sl:=(d,.b (.l true))::S.sl}) (hf:e.den=false->dS c K ks {S with sl:=(d,.b (.l false))::S.sl}):dS c K ks S:=by
 cases h:e.den with
 | true=>exact yU hp (aPq hl h) (ht h)
 | false=>exact yU hp (aPq hl h) (hf h)
theorem aU1 {c:Cx}{K:List KF}{S:St}{fn:Func}{R:Value->World->Prop}(av:AV)(hR:aB9 c fn R)(h:nC c.ty S fn.results.toList=some av)
  (hp:∀X μ a w v,Sim c K S X μ a w->aD μ av=some v->R v w):dS c K [] S:=aQ8 hR h hp
theorem bCl {c:Cx}{K:List KF}{S:St}{fn:Func}{r:Value}{ty:Nat->Option TyI}(h1:c.ty=ty)(hR:aB9 c fn λv w'=>v=r/\Below c.B.heap.size c.B w')(av:AV)(h:nC ty S fn.results.toList=some av)
  (hr:aD hJ av=some r):dS c K [] S:=by
 subst h1;refine aU1 av hR h λX μ a w v H hv=>⟨?_,H.toP.bel⟩
 rw[fE hr]at hv;injection hv with hv;exact hv.symm
def aCc:Value->AV
 | .int k n=>.i k (.l n)
 | .bool b=>.b (.l b)
 | .string s=>.s (.v s)
 | .slice a len cap=>.xs a len cap
 | .agg ⟨cs⟩=>.g (absL cs)
 | .tuple ⟨cs⟩=>.t (absL cs)
 | .pointer a=>.o (.pointer a)
 | .map r=>.o (.map r)
 | .func fn first cap=>.o (.func fn first cap)
 | .nilFunc=>.o .nilFunc
 | v=>.q v
where absL:List Value->List AV
 | []=>[]
 | v::l=>aCc v::absL l
mutual
theorem yY:∀(v:Value),aD hJ (aCc v)=some v
 | .int k n=>rfl
 | .bool b=>rfl
 | .string s=>rfl
 | .slice a len cap=>rfl
 | .agg ⟨cs⟩=>by simp only[aCc,aD,tX cs]
 | .tuple ⟨cs⟩=>by simp only[aCc,aD,tX cs]
 | .pointer a=>rfl
 | .map r=>rfl
 | .func fn first cap=>rfl
 | .nilFunc=>rfl
 | .float ..=>rfl
 | .complex ..=>rfl
 | .chan _=>rfl
 | .iface ..=>rfl
 | .nilIface=>rfl
theorem tX:∀(l:List Value),aF hJ (aCc.absL l)=some l
 | []=>rfl
 | v::l=>by simp only[aCc.absL,aF,yY v,tX l]
end
structure Ctx (c:Cx)(P:Program)(ty:Nat->Option TyI)(nt:Nat):Prop where
 hP:c.P=P
 hty:c.ty=ty
 hnt:c.nt=nt
 hm:P.follows .mixedOrders=true
section
variable {c:Cx}{P:Program}{ty:Nat->Option TyI}{nt:Nat}{K:List KF}
theorem dX (hc:Ctx c P ty nt)(n:Nat){ks:List KI}{S:St}(h:Goal c K (run ty nt K n ks S [])):dS c K ks S:=
 walk hc.hty hc.hnt (hc.hP▸hc.hm) n h
theorem iC (hc:Ctx c P ty nt)(n:Nat){ks:List KI}{S:St}(h:Goal c K (run ty nt K n ks S [])):Goal c K ⟨ks,S,[]⟩:=
 .mk0 (dX hc n h)
theorem zN(hc:Ctx c P ty nt){ks:List KI}{S:St}(h:Goal c K (run ty nt K 100 ks S [])):Goal c K ⟨ks,S,[]⟩:=iC hc 100 h
theorem aP (hc:Ctx c P ty nt){ks:List KI}{S:St}{ob:List Obl}(h:iA ob)(h2:Goal c K ⟨ks,S,[]⟩):Goal c K ⟨ks,S,ob⟩:=⟨h,h2.so⟩
theorem zO{ks:List KI}{S:St}{ob:List Obl}(h2:Goal c K ⟨ks,S,[]⟩)(hc:Ctx c P ty nt:=by assumption)(h:iA ob:=by repeat(first | exact trivial | refine⟨by assumption,?_⟩)):Goal c K ⟨ks,S,ob⟩:=⟨h,h2.so⟩
theorem aR (hc:Ctx c P ty nt){g:Nat}{avs:List AV}{all:Array Oper}{i:Nat}{k:List KI}{S:St}{aK:List Value}{r:Value}(hp:Pure P g aK r)(hg:aB P g)(ha:aF hJ avs=some aK)(n:Nat)
  (h:Goal c K (run ty nt K n (.ops all (i+1)::k) (S.put (eX all i) (aCc r) none) [])):Goal c K ⟨.cal g avs all i::k,S,[]⟩:=
 .mk0 (aU0 (hc.hP▸hp) (hc.hP▸hg) (aCc r) ha (yY r) (dX hc n h))
theorem uQ (hc:Ctx c P ty nt){g:Nat}{avs:List AV}{all:Array Oper}{i n0:Nat}{K0:List KF}{k:List KI}{S:St}{aK:List Value}{r:Value}(hp:Pure P g aK r)(hg:aB P g)(n:Nat)
  (h:Goal c K (run ty nt K n (.dops all (i+1) n0 K0::k) (S.put (eX all i) (aCc r) none) []))(ha:aF hJ avs=some aK:=by exact rfl):Goal c K ⟨.dcal g avs all i n0 K0::k,S,[]⟩:=
 .mk0 (aPe (hc.hP▸hp) (hc.hP▸hg) (aCc r) ha (yY r) (dX hc n h))
theorem iY (hc:Ctx c P ty nt){all:Array Oper}{i n0:Nat}{K0:List KF}{k:List KI}{S:St}(hd:aAe all i=true)(hi:i<=all.size)(n:Nat)
  (h:Goal c K (run ty nt K n (.ops all i::k) S [])):Goal c K ⟨.dops all i n0 K0::k,S,[]⟩:=
 .mk0 (bCk hd hi (dX hc n h))
theorem zE{all:Array Oper}{i n0:Nat}{K0:List KF}{k:List KI}{S:St}(h:Goal c K (run ty nt K 100 (.ops all i::k) S []))(hc:Ctx c P ty nt:=by assumption)(hd:aAe all i=true:=by kernel_rfl)(hi:i<=all.size:=by decide):Goal c K ⟨.dops all i n0 K0::k,S,[]⟩:=iY hc hd hi 100 h
theorem aE {x:Operand}{p q:Code}{k:List KI}{S:St}{e:BE}(hx:fW S.sl x=some (.b e))(n:Nat)(ht:e.den=true->Goal c K (run ty nt K n (.code p::k) S []))(hf:e.den=false->Goal c K (run ty nt K n (.code q::k) S []))(hc:Ctx c P ty nt:=by assumption):
  Goal c K ⟨.code (.cond x p q)::k,S,[]⟩:=
 .mk0 (bCj e hx (λh=>dX hc n (ht h)) (λh=>dX hc n (hf h)))
theorem cG {ks:List KI}{S:St}(d:Nat){e:BE}(hp:match ks with | .cal ..::_=>false | .dcal ..::_=>false | _=>true)(hl:look S.sl d=some (.b e))(n:Nat)
  (ht:e.den=true->Goal c K (run ty nt K n ks {S with sl:=(d,.b (.l true))::S.sl} [])) (hf:e.den=false->Goal c K (run ty nt K n ks {S with sl:=(d,.b (.l false))::S.sl} []))(hc:Ctx c P ty nt:=by assumption):Goal c K ⟨ks,S,[]⟩:=
 .mk0 (bCi d e hp hl (λh=>dX hc n (ht h)) (λh=>dX hc n (hf h)))
theorem bR (hc:Ctx c P ty nt){S:St}{fn:Func}{r:Value}(hR:aB9 c fn λv w'=>v=r/\Below c.B.heap.size c.B w'){av:AV}(h:nC ty S fn.results.toList=some av)
  (hr:aD hJ av=some r):Goal c K ⟨[],S,[]⟩:=
 .mk0 (bCl hc.hty hR av h hr)
theorem zR{S:St}{fn:Func}{r:Value}{av:AV}(hc:Ctx c P ty nt:=by assumption)(hR:aB9 c fn λv w'=>v=r/\Below c.B.heap.size c.B w':=by assumption)(h:nC ty S fn.results.toList=some av:=by exact rfl)(hr:aD hJ av=some r:=by exact rfl):Goal c K ⟨[],S,[]⟩:=bR hc hR h hr
theorem aTg (hm:P.follows .mixedOrders=true)(tok:∀t i,ty t=some i->TyOk P t i){g:Nat}{fn:Func}{code:Code}{args:List Value}{r:Value}
  (hf:P.funcs[g]?=some fn) (hb:fn.body=some code) (hn:args.length<=fn.ntmps) (hnt:fn.ntmps=nt)
  (h:∀(c:Cx),Ctx c P ty nt->(aB9 c fn λv w'=>v=r/\Below c.B.heap.size c.B w')->Goal c [] ⟨[.code code],⟨oY 0 (aCc.absL args),[],[]⟩,[]⟩):
  Pure P g args r:=by
 intro B hgl;refine(enter tok hf hb hn (tX args) hgl (K:=[]) (R:=λv w'=>v=r/\Below B.heap.size B w') (X0:=λb=>b<B.heap.size) (λb h=>h) (λf hf=>by cases hf) λc h1 h2 h3 h4 _ h5=>?_).mono ?_
 ·subst h4;exact(h c ⟨h1,h2,h3.trans hnt,hm⟩ h5).so
 ·rintro e w' ⟨v,rfl,rfl,hb⟩;exact⟨rfl,hb⟩
end
end Go.Ai
namespace Go.Ai
open Go Go.RowKit
def bAs:AV->Value->Bool
 | .i k (.l n),.int k' n'=>decide (k=k')&&decide (n=n')
 | .b (.l a),.bool b=>a==b
 | .s (.v s),.string t=>s.size==0&&t.size==0
 | .xs none 0 0,.slice none 0 0=>true
 | .o (.pointer none),.pointer none=>true
 | .o .nilFunc,.nilFunc=>true
 | .o (.map none),.map none=>true
 | .o .nilIface,.nilIface=>true
 | _,_=>false
theorem aQ6 {s t:ByteArray}(h:s.size=0)(h':t.size=0):s=t:=by
 rcases s with⟨⟨x⟩⟩
 rcases t with⟨⟨y⟩⟩
 simp only[ByteArray.size,Array.size]at h h';rw[List.eq_nil_of_length_eq_zero h,List.eq_nil_of_length_eq_zero h']
theorem aL5 {a:AV}{v:Value}(h:bAs a v=true):aD hJ a=some v:=by
 unfold bAs at h;split at h
 ·simp only[Bool.and_eq_true,decide_eq_true_eq]at h;obtain⟨rfl,rfl⟩:=h;rfl
 ·simp only[beq_iff_eq]at h;subst h;rfl
 ·simp only[Bool.and_eq_true,beq_iff_eq]at h;rw[aQ6 h.1 h.2];rfl
 ·rfl
 ·rfl
 ·rfl
 ·rfl
 ·rfl
 ·cases h
def aOl:List AV->List Value->Bool
 | [],[]=>true
 | a::l,v::m=>bAs a v&&aOl l m
 | _,_=>false
theorem aAv:∀{l:List AV} {m:List Value},aOl l m=true->aF hJ l=some m
 | [],[],_=>rfl
 | a::l,v::m,h=>by
  simp only[aOl,Bool.and_eq_true]at h;simp only[aF,aL5 h.1,aAv h.2]
def bB4:Value->Bool
 | .agg _=>true
 | _=>false
def aD8 (P:Program)(e gW:Nat):Bool:=match P.info? e with | some ti=>ti.size==gW | none=>false
def aOk (P:Program):List Field->List (Nat × Nat)->Bool
 | [],[]=>true
 | f::fs,(o,s)::l=>f.offset==o&&aD8 P f.type s&&aOk P fs l
 | _,_=>false
def bDv (P:Program)(t:Nat)(k:TK):Bool:=
 match k,P.underlying t with
 | .struct fl,some (.struct fs)=>aOk P fs.toList fl
 | .array len e gW,some (.array n e')=>n==len&&e==e'&&aD8 P e gW
 | .slice e gW,some (.slice e')=>e==e'&&aD8 P e gW
 | .int k,some (.int k')=>decide (k=k')
 | .str,some .string=>true
 | .bool,some .bool=>true
 | .other,some (.struct _)=>false
 | .other,some (.array ..)=>false
 | .other,some _=>true
 | _,_=>false
def aSx (P:Program)(t:Nat)(i:TyI):Bool:=match i.key with
 | some ls=>decide (leaves P 12 t=some ls)&& !P.eqGuardType P.depth t&&(match P.underlying t with | some (.struct _)=>true | _=>false)
 | none=>true
def aSy (P:Program)(t:Nat)(i:TyI):Bool:=
 aSx P t i&&bDv P t i.kind&&match P.info? t with
  | some ti=>ti.size==i.size&&match ti.zero with
   | some z=>aOl i.zero z.cells.toList&&(if i.kind.agg then bB4 z else z.oneCell')
   | none=>false
  | none=>false
theorem tV {P:Program}{e gW:Nat}(h:aD8 P e gW=true):∃ti,P.info? e=some ti/\ti.size=gW:=by
 unfold aD8 at h;split at h
 ·rename_i ti hi;exact⟨ti,hi,by simpa using h⟩
 ·cases h
theorem aCt {P:Program}:∀{fs:List Field} {fl:List (Nat × Nat)},aOk P fs fl=true->fs.mapM (λf=>(P.info? f.type).map λi=>(f.offset,i.size))=some fl
 | [],[],_=>rfl
 | f::fs,(o,s)::l,h=>by
  simp only[aOk,Bool.and_eq_true,beq_iff_eq]at h;obtain⟨ti,h1,h2⟩:=tV h.1.2;rw[List.mapM_cons,aCt h.2,h1];simp[h.1.1,h2]
theorem aJf {P:Program}{t:Nat}{i:TyI}(h:aSy P t i=true):TyOk P t i:=by
 unfold aSy at h;simp only[Bool.and_eq_true]at h;obtain⟨⟨aJ0,hk⟩,h⟩:=h;have aJ0:∀ls,i.key=some ls->leaves P 12 t=some ls/\P.eqGuardType P.depth t=false/\∃fs,P.underlying t=some (.struct fs):=by
  intro ls hls;unfold aSx at aJ0;rw[hls]at aJ0;simp only[Bool.and_eq_true,decide_eq_true_eq,Bool.not_eq_true']at aJ0;refine⟨aJ0.1.1,aJ0.1.2,?_⟩;have:=aJ0.2;split at this
  ·exact⟨_,by assumption⟩
  ·cases this
 split at h
 ·rename_i ti hi;simp only[Bool.and_eq_true,beq_iff_eq]at h;obtain⟨hs,h⟩:=h;split at h
  ·rename_i z hz;simp only[Bool.and_eq_true]at h;refine⟨⟨ti,z,hi,hs,hz,aAv h.1,λha=>?_,λha=>?_⟩,?_,aJ0⟩
   ·have:=h.2
    rw[if_pos ha]at this;cases z<;>first | rfl | cases this
   ·have:=h.2
    rw[if_neg (by rw[ha];simp)]at this;exact this
   ·unfold bDv at hk;split at hk
    ·rename_i fl fs e1 e2;rw[e1];exact⟨fs,e2,aCt hk⟩
    ·rename_i len e gW n e' e1 e2;simp only[Bool.and_eq_true,beq_iff_eq]at hk;obtain⟨⟨rfl,rfl⟩,h3⟩:=hk;rw[e1];exact⟨e2,tV h3⟩
    ·rename_i e gW e' e1 e2;simp only[Bool.and_eq_true,beq_iff_eq]at hk;obtain⟨rfl,h3⟩:=hk;rw[e1];exact⟨e2,tV h3⟩
    ·rename_i k k' e1 e2;simp only[decide_eq_true_eq]at hk;subst hk;rw[e1];exact e2
    ·rename_i e1 e2;rw[e1];exact e2
    ·rename_i e1 e2;rw[e1];exact e2
    ·cases hk
    ·cases hk
    ·rename_i d h1 h2 e1 e2;rw[e1];exact⟨d,e2,λfs h=>h1 fs h,λn e h=>h2 n e h⟩
    ·cases hk
  ·cases h
 ·cases h
def tyF (T:TT)(t:Nat):Option TyI:=if t<512 then T.get 10 t else none
def bDw (P:Program)(T:TT):Bool:=(List.range 512).all λt=>match T.get 10 t with | some i=>aSy P t i | none=>true
theorem aL4 {P:Program}{T:TT}(h:bDw P T=true):∀t i,tyF T t=some i->TyOk P t i:=by
 intro t i ht;unfold tyF at ht;split at ht
 ·rename_i hlt;unfold bDw at h;rw[List.all_eq_true]at h;have:=h t (List.mem_range.2 hlt);rw[ht]at this;exact aJf this
 ·cases ht
def aWs (P:Program)(g:Nat):Bool:=match P.funcs[g]? with
 | some fn=> !(fn.name== "runtime.NumGoroutine")&& !fn.body.isNone
 | none=>false
theorem aI9 {P:Program}{g:Nat}(h:aWs P g=true):aB P g:=by
 unfold aWs at h;split at h
 ·rename_i fn hf;simp only[Bool.and_eq_true,Bool.not_eq_true']at h;exact⟨fn,hf,h.1,h.2⟩
 ·cases h
end Go.Ai
