/- Part 7: lemmas for garboardlaw17.FloatDivides -/
import Derived.Test.YtmnancfboococaaGreatDoorPd5
set_option linter.all false
namespace Go.Ai
open Go Go.RowKit
theorem BE.ltn_t {i n:Nat}(h:(BE.lt (.n i) (.n n)).den=true):i<n:=Int.ofNat_lt.1 (BE.lt_t h)
theorem BE.ltn_f {i n:Nat}(h:(BE.lt (.n i) (.n n)).den=false):n<=i:=Nat.le_of_not_lt λe=>BE.lt_f h (Int.ofNat_lt.2 e)
theorem BE.eqn_t {i n:Nat}(h:(BE.eq (.n i) (.n n)).den=true):i=n:=Int.ofNat.inj (BE.eq_t h)
theorem BE.eqnl_t {i k:Nat}(h:(BE.eq (.n i) (.l k)).den=true):i=k:=Int.ofNat.inj (BE.eq_t h)
theorem BE.eqnl_f {i k:Nat}(h:(BE.eq (.n i) (.l k)).den=false):i≠k:=λe=>BE.eq_f h (by rw[e];rfl)
theorem BE.pre_t {k:Nat}(h:(BE.le (.l 0) (.sub (.n k) (.l 1))).den=true):0<k:=by have h:=BE.le_t h;simp only[IE.den]at h;omega
theorem BE.pre_f {k:Nat}(h:(BE.le (.l 0) (.sub (.n k) (.l 1))).den=false):k=0:=by have h:=BE.le_f h;simp only[IE.den]at h;omega
theorem aRj {c:Cx}{K:List KF}{ks:List KI}{S':St}{G:Prop}(f:Goal c K ⟨ks,S',[]⟩->G)(g:Goal c K ⟨ks,S',[]⟩):G:=f g
theorem Goal.k {c:Cx}{K K':List KF}{r:Cfg}(h:K'=K)(g:Goal c K' r):Goal c K r:=h▸g
theorem nP {c:Cx}{K:List KF}{k:List KI}{S:St}(hk:iJ k=true)(h:Goal c K ⟨k,S,[]⟩):bG c K k S:=by
 have:=h.so
 match k,hk,this with
 | [],_,h=>exact h
 | .code _::_,_,h=>exact h
 | .ops _ _::_,_,h=>exact h
 | .blk _::_,_,h=>exact h
 | .hole _::_,_,h=>exact h
 | .ord _ _::_,_,h=>exact h
theorem aCr {c:Cx}{K:List KF}{κ:Type}(E:κ->Prop)(J:κ->St){x:Code}{id:Nat}{k:List KI}{S:St}(hk:iJ k=true)
  (h2:∀r,(∀z,E z->Goal c K ⟨.hole r::k,J z,[]⟩)->Goal c K ⟨.code x::.blk id::.hole r::k,S,[]⟩)
  (h1:∀z,E z->Goal c K ⟨k,J z,[]⟩):Goal c K ⟨.code x::.blk id::k,S,[]⟩:=by
 let r:Act->World->Prop:=λa w=>aQ c.F c.P c.R k .normal a w
 have hr:∀z,E z->Goal c K ⟨.hole r::k,J z,[]⟩:=λz hz=>.mk0 (λX μ a w H=>by simpa[aQ,r]using nP hk (h1 z hz) X μ a w H)
 have h3:=(h2 r hr).so
 refine .mk0 (λX μ a w H=>?_);have h3:=h3 X μ a w H;simp only[aQ]at h3 |-;refine wpIn_mono h3 λe a w hq=>?_;cases e
 case exit j=>
  simp only[aQ]at hq |-;split<;>rename_i hj
  ·rw[if_pos hj]at hq;simpa[r]using hq
  ·rw[if_neg hj]at hq;simpa using hq
 all_goals simpa[aQ,r]using hq
theorem aW1 {c:Cx}{K:List KF}{κ:Type}(E:κ->Prop)(J:κ->St){x:Code}{k:List KI}{S:St}(hk:iJ k=true)
  (h2:∀r,(∀z,E z->Goal c K ⟨.hole r::k,J z,[]⟩)->Goal c K ⟨.code x::.hole r::k,S,[]⟩)
  (h1:∀z,E z->Goal c K ⟨k,J z,[]⟩):Goal c K ⟨.code x::k,S,[]⟩:=by
 let r:Act->World->Prop:=λa w=>aQ c.F c.P c.R k .normal a w
 have hr:∀z,E z->Goal c K ⟨.hole r::k,J z,[]⟩:=λz hz=>.mk0 (λX μ a w H=>by simpa[aQ,r]using nP hk (h1 z hz) X μ a w H)
 have h3:=(h2 r hr).so
 refine .mk0 (λX μ a w H=>?_);have h3:=h3 X μ a w H;simp only[aQ]at h3 |-;refine wpIn_mono h3 λe a w hq=>?_;cases e<;>simpa[aQ,r]using hq
theorem cM {c:Cx}{P:Program}{ty:Nat->Option TyI}{nt:Nat}{K:List KF}(hc:Ctx c P ty nt){all:Array Oper}{i n0:Nat}{K0:List KF}{k:List KI}{S:St}(o:Oper){r:Rs}(n:Nat)
  (h:Goal c K (run ty nt K n (.dops all (i+1) n0 K0::k) (S.put o.dst r.av r.nb) []))(ho:all[i]?=some o:=by exact rfl)(hg:guardOf all S.sl o=some true:=by exact rfl)(hd:cA nt o.dst=true:=by exact rfl)(hr:fop ty n0 (fl S o) o.op=some r:=by exact rfl)(hob:r.ob=[]:=by exact rfl):Goal c K ⟨.dops all i n0 K0::k,S,[]⟩:=by
 have hs:=dX hc n h
 refine .mk0 (show DPath c all n0 K0 k i S K from ?_);refine DPath.op (Kn:=[]) (ow:=(fl S o).ow) ho hg (by rw[hc.hnt];exact hd) (jW (r:=r) (by rw[hc.hty];exact hr) (by rw[hob];trivial) (λt ht=>by simp only[vN,dQ,List.mem_append];exact .inl (eV (by simpa using ht)))) (λ_=>rfl) ?_ hs;rw[show(if bU o then(fl S o).ow else S.ow)=S.ow by unfold fl;split<;>rfl];exact Wk.refl _
inductive RV1 | one (c:CF) | agg (cs:List CF)
inductive RV | sg (r:RV1) | tp (l:List RV1)
def fO:List CF->List Value->(Nat->Prop)->World->Prop
 | [],[],_,_=>True
 | c::cs,v::vs,X,w=>c.ok v X w/\fO cs vs X w
 | _,_,_,_=>False
def RV1.p:RV1->Value->(Nat->Prop)->World->Prop
 | .one c,v,X,w=>c.ok v X w
 | .agg cs,v,X,w=>∃vs,v=.agg vs.toArray/\fO cs vs X w
def lB:List RV1->List Value->(Nat->Prop)->World->Prop
 | [],[],_,_=>True
 | r::rs,v::vs,X,w=>r.p v X w/\lB rs vs X w
 | _,_,_,_=>False
def RV.p:RV->Value->(Nat->Prop)->World->Prop
 | .sg r,v,X,w=>r.p v X w
 | .tp l,v,X,w=>∃vs,v=.tuple vs.toArray/\lB l vs X w
def RV1.cells:RV1->List CF
 | .one c=>[c]
 | .agg cs=>cs
def RV.cells:RV->List CF
 | .sg r=>r.cells
 | .tp l=>l.flatMap RV1.cells
section
variable {X X':Nat->Prop}{w w':World}
theorem tC (hs:∀k,X k->X' k)(hw:∀k,X k->w'.heap[k]?=w.heap[k]?):∀{cs:List CF} {vs:List Value},fO cs vs X w->fO cs vs X' w'
 | [],[],_=>trivial
 | c::cs,v::vs,h=>⟨CF.ok_st hs hw h.1,tC hs hw h.2⟩
 | [],_::_,h=>h.elim
 | _::_,[],h=>h.elim
theorem RV1.p_st (hs:∀k,X k->X' k)(hw:∀k,X k->w'.heap[k]?=w.heap[k]?){r:RV1}{v:Value}(h:r.p v X w):r.p v X' w':=by
 cases r with
 | one c=>exact CF.ok_st hs hw h
 | agg cs=>obtain⟨vs,h1,h2⟩:=h;exact⟨vs,h1,tC hs hw h2⟩
theorem aEu (hs:∀k,X k->X' k)(hw:∀k,X k->w'.heap[k]?=w.heap[k]?):∀{rs:List RV1} {vs:List Value},lB rs vs X w->lB rs vs X' w'
 | [],[],_=>trivial
 | c::cs,v::vs,h=>⟨RV1.p_st hs hw h.1,aEu hs hw h.2⟩
 | [],_::_,h=>h.elim
 | _::_,[],h=>h.elim
theorem RV.p_st (hs:∀k,X k->X' k)(hw:∀k,X k->w'.heap[k]?=w.heap[k]?){r:RV}{v:Value}(h:r.p v X w):r.p v X' w':=by
 cases r with
 | sg r=>exact RV1.p_st hs hw h
 | tp l=>obtain⟨vs,h1,h2⟩:=h;exact⟨vs,h1,aEu hs hw h2⟩
theorem uO:∀{cs:List CF} {vs:List Value},fO cs vs X w->∀(j:Nat) (c:CF),cs[j]?=some c->∃v,vs[j]?=some v/\c.ok v X w
 | [],[],_,j,c,hj=>by simp at hj
 | d::cs,v::vs,h,0,c,hj=>by simp at hj;subst hj;exact⟨v,rfl,h.1⟩
 | d::cs,v::vs,h,j+1,c,hj=>by simp at hj |-;exact uO h.2 j c hj
 | [],_::_,h,_,_,_=>h.elim
 | _::_,[],h,_,_,_=>h.elim
theorem oS:∀{cs:List CF} {vs:List Value},fO cs vs X w->vs.length=cs.length
 | [],[],_=>rfl
 | d::cs,v::vs,h=>by simp[oS h.2]
 | [],_::_,h=>h.elim
 | _::_,[],h=>h.elim
theorem oR:∀{cs ds:List CF} {vs us:List Value},fO cs vs X w->fO ds us X w->fO (cs++ds) (vs++us) X w
 | [],ds,[],us,_,h=>h
 | c::cs,ds,v::vs,us,h,h'=>⟨h.1,oR h.2 h'⟩
 | [],_,_::_,_,h,_=>h.elim
 | _::_,_,[],_,h,_=>h.elim
theorem RV1.cells_p {r:RV1}{v:Value}(h:r.p v X w):fO r.cells v.cells.toList X w:=by
 cases r with
 | one c=>
  have h:c.ok v X w:=h
  rw[cells_one (CF.ok_one h)];exact⟨h,trivial⟩
 | agg cs=>obtain⟨vs,rfl,h2⟩:=h;simpa[RV1.cells,Value.cells]using h2
theorem aNn:∀{rs:List RV1} {vs:List Value},lB rs vs X w->fO (rs.flatMap RV1.cells) (vs.flatMap λv=>v.cells.toList) X w
 | [],[],_=>trivial
 | r::rs,v::vs,h=>by simp only[List.flatMap_cons];exact oR (RV1.cells_p h.1) (aNn h.2)
 | [],_::_,h=>h.elim
 | _::_,[],h=>h.elim
theorem aEm {v:Value}(h:∀vs,v≠.tuple vs):pG v=v.cells.toList:=by
 cases v<;>first | rfl | exact absurd rfl (h _)
theorem RV1.not_tuple {r:RV1}{v:Value}(h:r.p v X w)(vs:Array Value):v≠.tuple vs:=by
 intro e;subst e;cases r with
 | one c=>have h1:=CF.ok_one (show c.ok _ X w from h);cases h1
 | agg cs=>obtain⟨us,h1,_⟩:=h;cases h1
theorem RV.cells_p {R:RV}{v:Value}(h:R.p v X w):fO R.cells (pG v) X w:=by
 cases R with
 | sg r=>rw[aEm (RV1.not_tuple h)];exact RV1.cells_p h
 | tp l=>obtain⟨vs,rfl,h2⟩:=h;simpa[RV.cells,pG]using aNn h2
end
def lU (R:RV):VF:=⟨R.p,λ_ _ _ _ _ hs hw h=>RV.p_st hs hw h⟩
def CF.av (k j:Nat):CF->AV
 | .s e=>.s e
 | .b e=>.b e
 | .i kd e=>.i kd e
 | .x _=>.ec k j
def aVg (k:Nat):Nat->List CF->List AV
 | _,[]=>[]
 | j,c::cs=>c.av k j::aVg k (j+1) cs
def RV1.av (k j:Nat):RV1->AV
 | .one c=>c.av k j
 | .agg cs=>.g (aVg k j cs)
def tAV (k:Nat):Nat->List RV1->List AV
 | _,[]=>[]
 | j,r::rs=>r.av k j::tAV k (j+r.cells.length) rs
def RV.av (k:Nat):RV->AV
 | .sg r=>r.av k 0
 | .tp l=>.t (tAV k 0 l)
section
variable {X:Nat->Prop}{w:World}{μ:Mu}
theorem aMs {k j:Nat}{c:CF}{v u:Value}(hm:μ k=some (.val v))(hj:(pG v)[j]?=some u)(h:c.ok u X w):aD μ (c.av k j)=some u:=by
 cases c with
 | s e=>have h:u=_:=h;subst h;rfl
 | b e=>have h:u=_:=h;subst h;rfl
 | i kd e=>have h:u=_:=h;subst h;rfl
 | x R=>
  simp only[CF.av,aD,hm,cellV,hj];rw[if_pos h.1]
theorem aHq {k:Nat}{v:Value}(hm:μ k=some (.val v)):∀{cs:List CF} {us:List Value} {j:Nat} {rest:List Value},(pG v).drop j=us++rest->fO cs us X w->aF μ (aVg k j cs)=some us
 | [],[],j,rest,_,_=>rfl
 | c::cs,u::us,j,rest,hd,h=>by
  have h1:(pG v)[j]?=some u:=by
   have:=congrArg (·[0]?) hd
   simpa[List.getElem?_drop]using this
  have h2:(pG v).drop (j+1)=us++rest:=by
   have:=congrArg (List.drop 1) hd
   simpa[List.drop_drop]using this
  simp only[aVg,aF,aMs hm h1 h.1,aHq hm h2 h.2]
 | [],_::_,_,_,_,h=>h.elim
 | _::_,[],_,_,_,h=>h.elim
theorem aJb {k:Nat}{v:Value}(hm:μ k=some (.val v)){r:RV1}{u:Value}{j:Nat}{rest:List Value}(hd:(pG v).drop j=u.cells.toList++rest)(h:r.p u X w):aD μ (r.av k j)=some u:=by
 cases r with
 | one c=>
  have h:c.ok u X w:=h
  rw[cells_one (CF.ok_one h)]at hd;have h1:(pG v)[j]?=some u:=by
   have:=congrArg (·[0]?) hd
   simpa[List.getElem?_drop]using this
  exact aMs hm h1 h
 | agg cs=>
  obtain⟨vs,rfl,h2⟩:=h;have:=aHq hm (by simpa[Value.cells]using hd) h2;simp only[RV1.av,aD,this]
theorem aUb {k:Nat}{v:Value}(hm:μ k=some (.val v)):∀{rs:List RV1} {us:List Value} {j:Nat},(pG v).drop j=us.flatMap (λv=>v.cells.toList)->lB rs us X w->aF μ (tAV k j rs)=some us
 | [],[],j,_,_=>rfl
 | r::rs,u::us,j,hd,h=>by
  rw[List.flatMap_cons]at hd;have h2:(pG v).drop (j+r.cells.length)=us.flatMap (λv=>v.cells.toList):=by
   have:=congrArg (List.drop u.cells.toList.length) hd
   rw[List.drop_drop,List.drop_left]at this;rw[<-this,<-oS (RV1.cells_p h.1)]
  simp only[tAV,aF,aJb hm hd h.1,aUb hm h2 h.2]
 | [],_::_,_,_,h=>h.elim
 | _::_,[],_,_,h=>h.elim
theorem aNt {k:Nat}{v:Value}(hm:μ k=some (.val v)){R:RV}(h:R.p v X w):aD μ (R.av k)=some v:=by
 cases R with
 | sg r=>exact aJb hm (rest:=[]) (by rw[aEm (RV1.not_tuple h)];simp) h
 | tp l=>
  obtain⟨vs,rfl,h2⟩:=h;have:=aUb hm (j:=0) (by simp[pG]) h2;simp only[RV.av,aD,this]
end
section
variable {c:Cx}{P:Program}{ty:Nat->Option TyI}{nt:Nat}{K:List KF}{S:St}{X:Nat->Prop}{μ:Mu}{a:Act}{w:World}{n0:Nat}{D:Nat->Prop}
inductive bJ (K:List KF):AV->CF->Prop
 | s {e e':SE} (h:e.den=e'.den):bJ K (.s e) (.s e')
 | b {e e':BE} (h:e.den=e'.den):bJ K (.b e) (.b e')
 | i {k:IntKind} {e e':IE} (h:e.den=e'.den):bJ K (.i k e) (.i k e')
 | ec {k j:Nat} {F:VF} {R:RV} {c:CF} (m:KF.at k F∈K) (hF:F=lU R) (h:R.cells[j]?=some c):bJ K (.ec k j) c
 | sx {e:SE} {R:VF} (h:∀X w,R.p (.string e.den) X w):bJ K (.s e) (.x R)
 | any {av:AV} {c:CF} (h:∀X μ w v,(∀f,f∈K->f.p X μ w)->aD μ av=some v->c.ok v X w):bJ K av c
theorem bJ.ok {av:AV}{cf:CF}{v:Value}(h:bJ K av cf)(hK:∀f,f∈K->f.p X μ w)(hv:aD μ av=some v):cf.ok v X w:=by
 cases h with
 | s h=>rw[dP hv,h];rfl
 | b h=>rw[fW hv,h];rfl
 | i h=>rw[bX hv,h];rfl
 | sx h=>rw[dP hv];exact⟨rfl,h X w⟩
 | any h=>exact h X μ w v hK hv
 | ec m hF h=>
  obtain⟨u,h1,h2⟩:=hK _ m;rw[hF]at h2;have h2:RV.p _ u X w:=h2;obtain⟨x,q1,q2⟩:=uO (RV.cells_p h2) _ _ h;simp only[aD,h1,cellV,q1]at hv;rw[if_pos (CF.ok_one q2)]at hv;injection hv with hv;subst hv;exact q2
def oB (K:List KF):List AV->List CF->Prop
 | [],[]=>True
 | a::zas,c::cs=>bJ K a c/\oB K zas cs
 | _,_=>False
def yT (K:List KF):AV->RV1->Prop
 | a,.one c=>bJ K a c
 | .g l,.agg cs=>oB K l cs
 | _,_=>False
def pT (K:List KF):List AV->List RV1->Prop
 | [],[]=>True
 | a::zas,r::rs=>yT K a r/\pT K zas rs
 | _,_=>False
theorem oB.ok (hK:∀f,f∈K->f.p X μ w):∀{zas:List AV} {cs:List CF} {vs:List Value},oB K zas cs->aF μ zas=some vs->fO cs vs X w
 | [],[],vs,_,hv=>by simp[aF]at hv;subst hv;trivial
 | a::zas,c::cs,vs,h,hv=>by
  simp only[aF]at hv;split at hv
  ·rename_i v us h1 h2;injection hv with hv;subst hv
   exact⟨h.1.ok hK h1,oB.ok hK h.2 h2⟩
  ·cases hv
 | [],_::_,_,h,_=>h.elim
 | _::_,[],_,h,_=>h.elim
theorem yT.ok (hK:∀f,f∈K->f.p X μ w){av:AV}{r:RV1}{v:Value}(h:yT K av r)(hv:aD μ av=some v):r.p v X w:=by
 cases r with
 | one c=>unfold yT at h;exact bJ.ok h hK hv
 | agg cs=>
  cases av with
  | g l=>
   obtain⟨vs,h1,rfl⟩:=sA hv;exact⟨vs,rfl,oB.ok hK h h1⟩
  | _=>exact h.elim
theorem pT.ok (hK:∀f,f∈K->f.p X μ w):∀{zas:List AV} {rs:List RV1} {vs:List Value},pT K zas rs->aF μ zas=some vs->lB rs vs X w
 | [],[],vs,_,hv=>by simp[aF]at hv;subst hv;trivial
 | a::zas,r::rs,vs,h,hv=>by
  simp only[aF]at hv;split at hv
  ·rename_i v us h1 h2;injection hv with hv;subst hv
   exact⟨yT.ok hK h.1 h1,pT.ok hK h.2 h2⟩
  ·cases hv
 | [],_::_,_,h,_=>h.elim
 | _::_,[],_,h,_=>h.elim
def oC (P:Program)(g:Nat)(rs:List RV1)(R:RV):Prop:=
 ∀args X w,(∀b,X b->b<w.heap.size)->lB rs args X w->Fn P g args X w (lU R)
theorem aHo {o:Oper}{g:Nat}{avs:List AV}{rs:List RV1}{R:RV}{F:VF}(hF:F=lU R)(h:iD S.sl o.op=some (g,avs))(hD:∀t,Operand.tmp t∈o.op.operands->D t)(hg:aB c.P g)
  (hs:oC c.P g rs R) (ha:pT K avs rs):Cert c K n0 D S o (R.av S.hp.length) (some .e) [KF.at S.hp.length F] S.ow:=by
 intro X μ a w next Q H hfr hn
 obtain⟨aK,h1,h2⟩:=rX H h hD hg;refine pR h2 (Calls.mono (hs aK X w H.xlt (ha.ok H.kf h1) H.glob) ?_);rintro e w' ⟨v,X',rfl,hb,hs,hx,hr⟩;refine⟨v,rfl,?_⟩;refine hn X' (μ.upd S.hp.length (.val v)) v w' ⟨hb.mono H.bel.size,λb hb' _=>hb.block b hb',aNt (X:=X') (w:=w') (Mu.upd_same _ _ _) hr,⟨.val v,rfl,trivial,λb e=>by cases e⟩,hs,λb hb'=>(hx b hb').imp id .inl,
  H.own.keep (Mu.le_upd (hfr rfl)) hb.size hb.block (λb hb'=>(hx b hb').imp id (·.1)) (λk b hk=>?_)⟩ (λf hf'=>?_)
 ·unfold Mu.upd at hk;split at hk
  ·injection hk with hk;cases hk
  ·exact .inl hk
 ·simp only[List.mem_singleton]at hf';subst hf';exact⟨v,Mu.upd_same _ _ _,by rw[hF];exact hr⟩
theorem fG (hc:Ctx c P ty nt){g:Nat}{avs:List AV}{all:Array Oper}{i:Nat}{k:List KI}{rs:List RV1}{R:RV}(hg:aB P g)(hs:oC P g rs R)(ha:pT K avs rs)(av:AV)(n:Nat)
  (h:∀F,F=lU R->Goal c (KF.at S.hp.length F::K) (run ty nt (KF.at S.hp.length F::K) n (.ops all (i+1)::k) (S.putO (fL all i) av (some .e) S.ow) []))(hav:R.av S.hp.length=av:=by exact rfl):Goal c K ⟨.cal g avs all i::k,S,[]⟩:=by
 subst hav;exact .mk0 (yI (Kn:=[KF.at S.hp.length (lU R)]) (λo n0 D ho hD _=>aHo rfl ho hD (hc.hP▸hg) (hc.hP▸hs) ha) (dX hc n (h _ rfl)))
theorem cY (hc:Ctx c P ty nt){g:Nat}{avs:List AV}{all:Array Oper}{i n0:Nat}{K0:List KF}{k:List KI}{rs:List RV1}{R:RV}(hg:aB P g)(hs:oC P g rs R)(ha:pT K avs rs)(av:AV)(n:Nat)
  (h:∀F,F=lU R->Goal c (KF.at S.hp.length F::K) (run ty nt (KF.at S.hp.length F::K) n (.dops all (i+1) n0 K0::k) (S.putO (fL all i) av (some .e) S.ow) []))(hav:R.av S.hp.length=av:=by exact rfl):Goal c K ⟨.dcal g avs all i n0 K0::k,S,[]⟩:=by
 subst hav;exact .mk0 (tP (Kn:=[KF.at S.hp.length (lU R)]) (λo D ho hD=>aHo rfl ho hD (hc.hP▸hg) (hc.hP▸hs) ha) (dX hc n (h _ rfl)))
def aK1:Nat->List RV1->List AV
 | _,[]=>[]
 | k,r::rs=>r.av k 0::aK1 (k+1) rs
def lT:Nat->List VF->List KF
 | _,[]=>[]
 | k,F::Fs=>KF.at k F::lT (k+1) Fs
def aF5:List VF->List RV1->Prop
 | [],[]=>True
 | F::Fs,r::rs=>F=lU (.sg r)/\aF5 Fs rs
 | _,_=>False
theorem aIj:∀(rs:List RV1) (k j:Nat),(aK1 k rs)[j]?=(rs[j]?).map λr=>r.av (k+j) 0
 | [],k,j=>by simp[aK1]
 | r::rs,k,0=>by simp[aK1]
 | r::rs,k,j+1=>by simp only[aK1,List.getElem?_cons_succ,aIj rs (k+1) j];congr 2;funext r;congr 1;omega
theorem aIk:∀(Fs:List VF) (rs:List RV1) (k:Nat),aF5 Fs rs->∀f,f∈lT k Fs->∃j r,rs[j]?=some r/\f=KF.at (k+j) (lU (.sg r))
 | [],_,k,_,f,hf=>by cases hf
 | F::Fs,r::rs,k,h,f,hf=>by
  rcases List.mem_cons.1 hf with e | e
  ·exact⟨0,r,rfl,by rw[e,h.1];rfl⟩
  ·obtain⟨j,r',h1,h2⟩:=aIk Fs rs (k+1) h.2 f e;exact⟨j+1,r',by simpa using h1,by rw[h2,show k+1+j=k+(j+1) by omega]⟩
 | _::_,[],_,h,_,_=>h.elim
theorem vF:∀{rs:List RV1} {vs:List Value},lB rs vs X w->∀(j:Nat) (r:RV1),rs[j]?=some r->∃v,vs[j]?=some v/\r.p v X w
 | [],[],_,j,r,hj=>by simp at hj
 | d::rs,v::vs,h,0,r,hj=>by simp at hj;subst hj;exact⟨v,rfl,h.1⟩
 | d::rs,v::vs,h,j+1,r,hj=>by simp at hj |-;exact vF h.2 j r hj
 | [],_::_,h,_,_,_=>h.elim
 | _::_,[],h,_,_,_=>h.elim
theorem oY:∀{rs:List RV1} {vs:List Value},lB rs vs X w->vs.length=rs.length
 | [],[],_=>rfl
 | d::rs,v::vs,h=>by simp[oY h.2]
 | [],_::_,h=>h.elim
 | _::_,[],h=>h.elim
theorem aAc:∀(l:List Value) (i t:Nat) (v:Value),l[t]?=some v->look (pS i (l.map AV.q)) (i+t)=some (.q v)
 | [],i,t,v,h=>by simp at h
 | u::l,i,0,v,h=>by simp at h;subst h;simp[pS,look]
 | u::l,i,t+1,v,h=>by
  simp at h;have:=aAc l (i+1) t v h;rw[show i+1+t=i+(t+1) by omega]at this;simp only[List.map_cons,pS];rw[bB zW];exact this
theorem aMx:∀(l:List Value),aF iN (l.map AV.q)=some l
 | []=>rfl
 | v::l=>by simp only[List.map_cons,aF,aD,aMx l]
def aVq:List Value->List RV1->List KF
 | v::vs,r::rs=>KF.cst v (lU (.sg r))::aVq vs rs
 | _,_=>[]
theorem aRf:∀{args:List Value} {rs:List RV1},lB rs args X w->∀f,f∈aVq args rs->f.p X μ w
 | [],[],_,f,hf=>by cases hf
 | v::vs,r::rs,h,f,hf=>by
  rcases List.mem_cons.1 hf with e | e
  ·subst e;exact h.1
  ·exact aRf h.2 f e
 | [],_::_,h,_,_=>h.elim
 | _::_,[],h,_,_=>h.elim
theorem aD9:∀{args:List Value} {rs:List RV1},args.length=rs.length->(∀f,f∈aVq args rs->f.p X μ w)->lB rs args X w
 | [],[],_,_=>trivial
 | v::vs,r::rs,hl,h=>⟨h _ (.head _),aD9 (by simpa using hl) (λf hf=>h f (.tail _ hf))⟩
theorem bBn {args:List Value}{rs:List RV1}{K0:List KF}(H:Sim c K0 ⟨pS 0 (args.map AV.q),[],[]⟩ X μ a w)(hp:lB rs args X w)(Fs:List VF)(hF:aF5 Fs rs):
  Sim c (lT 0 Fs) ⟨pS 0 (aK1 0 rs),List.replicate rs.length .e,[]⟩ X (λk=>(args[k]?).map MV.val) a w:=by
 have P:=H.toP
 have hlen:=oY hp
 refine⟨⟨P.dfr,P.size,?_,?_,?_,?_,?_,P.xlt,P.xnew,P.xold,P.bel,?_,OwnOk.nil _ _ _ _⟩,?_⟩
 ·intro t av _ ht;obtain⟨_,h2⟩:=mY _ _ _ _ ht;rw[Nat.sub_zero,aIj]at h2;cases hr:rs[t]? with
  | none=>rw[hr]at h2;cases h2
  | some r=>
   rw[hr]at h2;simp only[Option.map_some,Option.some.injEq,Nat.zero_add]at h2;subst h2;obtain⟨v,q1,q2⟩:=vF hp t r hr;have hl:=aAc args 0 t v q1;rw[Nat.zero_add]at hl;obtain⟨u,e1,e2⟩:=P.slots t _ trivial hl;simp only[aD,Option.some.injEq]at e1;subst e1;exact⟨v,aNt (R:=.sg r) (by simp[q1]) q2,e2⟩
 ·intro k blk m hk hm;simp only[Option.map_eq_some_iff]at hm;obtain⟨v,_,rfl⟩:=hm;rw[List.getElem?_replicate]at hk;split at hk
  ·injection hk with hk;subst hk;exact trivial
  ·cases hk
 ·intro k hk;simp only[List.length_replicate]at hk;exact⟨.val args[k],by simp[List.getElem?_eq_getElem (show k<args.length by omega)]⟩
 ·intro k k' b h1 h2;simp only[Option.map_eq_some_iff]at h1;obtain⟨v,_,h⟩:=h1;cases h
 ·intro k b h1;simp only[Option.map_eq_some_iff]at h1;obtain⟨v,_,h⟩:=h1;cases h
 ·intro f hf;obtain⟨j,r,h1,rfl⟩:=aIk Fs rs 0 hF f hf;obtain⟨v,q1,q2⟩:=vF hp j r h1;exact⟨v,by simp[q1],q2⟩
 ·intro k hk;simp only[List.length_replicate]at hk;simp[List.getElem?_eq_none (show args.length<=k by omega)]
theorem eU (hm:P.follows .mixedOrders=true)(tok:∀t i,ty t=some i->TyOk P t i){g:Nat}{fn:Func}{code:Code}{rs:List RV1}{R:RV}
  (hf:P.funcs[g]?=some fn) (hb:fn.body=some code) (hn:Nat.ble rs.length fn.ntmps=true) (hnt:fn.ntmps=nt) (Fs:List VF) (hF:aF5 Fs rs)
  (h:∀(c:Cx) (G:VF),G=lU R->Ctx c P ty nt->aU2 c fn G->Goal c (lT 0 Fs) ⟨[.code code],⟨pS 0 (aK1 0 rs),List.replicate rs.length .e,[]⟩,[]⟩):oC P g rs R:=by
 intro args X w hx hp;have hlen:=oY hp;refine bE (K:=aVq args rs) hm tok (args.map AV.q) hf hb (aMx args) (by rw[hlen];exact lbl hn) hnt hx (aRf hp) λc hc hR=>?_;have h':=(h c _ rfl hc hR).so;refine .mk0 (λX' μ a w' H=>?_);exact h' X' _ a w' (bBn H (aD9 hlen H.toP.kf) Fs hF)
def aP5 (K:List KF):AV->RV->Prop
 | .t l,.tp rs=>pT K l rs
 | a,.sg r=>yT K a r
 | _,_=>False
theorem aP5.ok (hK:∀f,f∈K->f.p X μ w){av:AV}{R:RV}{v:Value}(h:aP5 K av R)(hv:aD μ av=some v):R.p v X w:=by
 cases R with
 | sg r=>
  have h:yT K av r:=by cases av<;>exact h
  exact yT.ok hK h hv
 | tp rs=>
  cases av with
  | t l=>
   obtain⟨vs,h1,rfl⟩:=nJ hv;exact⟨vs,rfl,pT.ok hK h h1⟩
  | _=>exact h.elim
theorem dD (hc:Ctx c P ty nt){fn:Func}{G:VF}{R:RV}(hG:G=lU R)(hR:aU2 c fn G){av:AV}(h:oM ty S fn.results.toList=some av)(hr:aP5 K av R):Goal c K ⟨[],S,[]⟩:=by
 subst hG;exact aR hc hR h λX μ a w v H hv=>hr.ok H.toP.kf hv
end
end Go.Ai
namespace Go.Ai
open Go
section
variable {c:Cx}{P:Program}{ty:Nat->Option TyI}{nt:Nat}{K:List KF}{S:St}
theorem sU {ks:List KI}{e:Nat}{kd:IntKind}{G:Option Addr->Nat->Nat->List Int->OF}(hG:∀a n cap l,G a n cap l=OF.row (.slice a n cap) c.B.heap.size e kd l)(hp:okc ks=true)
  (h:Goal c K ⟨ks,{S with ow:=G none 0 0 []::S.ow},[]⟩):Goal c K ⟨ks,S,[]⟩:=by
 rw[hG]at h;refine oN hp (λX μ a w H=>?_) h rfl;have P:=H.toP;refine⟨X,μ,⟨P.dfr,P.size,P.slots,P.heap,P.all,P.inj,P.loc,P.xlt,P.xnew,P.xold,P.bel,P.kf,?_⟩,H.dom⟩;refine⟨λf hf=>?_,List.Pairwise.cons (λg hg b hb=>?_) P.own.apart⟩
 ·rcases List.mem_cons.1 hf with e | e
  ·subst e;exact⟨World.ownsRow_nil _ _ _ _,λb hb=>by cases hb⟩
  ·exact P.own.at_ f e
 ·cases hb
theorem yK {ks:List KI}(d:Nat){av:AV}(R:VF)(hp:iJ ks=true)(hl:look S.sl d=some av)(hr:∀X μ a w v,Sim c K S X μ a w->aD μ av=some v->R.p v X w)
  (h:∀v,Goal c (KF.cst v R::K) ⟨ks,{S with sl:=(d,.q v)::S.sl},[]⟩):Goal c K ⟨ks,S,[]⟩:=by
 refine fT (ι:=Value) (K':=λv=>KF.cst v R::K) (S':=λv=>{S with sl:=(d,.q v)::S.sl}) (p:=λ_=>True) hp (λX μ a w H=>?_) (λv _=>h v);obtain⟨v,h1,h2⟩:=H.toP.slots d av trivial hl;exact⟨v,X,μ,trivial,lC (S:={S with sl:=(d,.q v)::S.sl}) (f:=KF.cst v R) (iL H hl (by rw[h1];rfl)) (hr X μ a w v H h1)⟩
theorem aL8 {X:Nat->Prop}{μ:Mu}{a:Act}{w:World}{F:VF}{R:RV}{k j:Nat}{N:VF}{v:Value}(H:Sim c K S X μ a w)(m:KF.at k F∈K)(hF:F=lU R)(h:R.cells[j]?=some (.x N))(hv:aD μ (.ec k j)=some v):N.p v X w:=
 ((bJ.ec m hF h).ok H.toP.kf hv).2
theorem aGr (hc:Ctx c P ty nt){ι:Type}(I:ι->St)(KK:ι->List KF)(m:ι->Nat)(x0:ι){b:Code}{k:List KI}
  (h:∀(p:Act->World->Prop) x,(∀y,m y<m x->Goal c (KK y) ⟨.hole p::k,I y,[]⟩)->Goal c (KK x) ⟨.code b::.hole p::k,I x,[]⟩):Goal c (KK x0) ⟨.code (.loop b)::k,I x0,[]⟩:=
 .mk0 (aCy I KK m (λp x hy=>(h p x (λy hlt=>.mk0 (hy y hlt))).so) x0)
theorem aZ (n:Nat){b:Code}{k:List KI}
  (h:∀p:Nat->Act->World->Prop,(∀m K' S',Goal c K' ⟨.code b::.hole (p m)::k,S',[]⟩->Goal c K' ⟨.hole (p (m+1))::k,S',[]⟩)->Goal c K ⟨.hole (p n)::k,S,[]⟩):Goal c K ⟨.code (.loop b)::k,S,[]⟩:=by
 have h1:=h (λm=>Code.roundsIn c.F 0 c.P b (aQ c.F c.P c.R k) m) (λm K' S' g=>.mk0 (λX μ a w H=>by
  have:=g.so X μ a w H
  simp only[aQ]at this |-;rw[roundsIn_succ];exact wpIn_mono this λe a w hq=>by cases e<;>simpa[aQ,Exit.then]using hq))
 refine .mk0 (λX μ a w H=>?_);have:=h1.so X μ a w H;simp only[aQ]at this |-;exact wpIn_loop_rounds n this
def KF.fr (l:List (Nat × AV))(tm:Array Value):KF:=
 ⟨λ_ μ _=>∀t av,look l t=some av->∃v,aD μ av=some v/\tm[t]?=some v,λ_ _ _ _ _ _ _ hv _ h t av hl=>by
  obtain⟨v,h1,h2⟩:=h t av hl;exact⟨v,aHw hv _ _ h1,h2⟩⟩
theorem aCf:∀{l:List (Nat × AV)} {t:Nat} {av:AV},look l t=some av->∃x∈l,x.2=av
 | (j,a)::l,t,av,h=>by
  simp only[look]at h;split at h
  ·injection h with h;exact⟨_,.head _,h⟩
  ·obtain⟨x,h1,h2⟩:=aCf h;exact⟨x,.tail _ h1,h2⟩
theorem KFr.fr {n:Nat}{l:List (Nat × AV)}(h:l.all (λx=>x.2.lt n)=true)(tm:Array Value):KFr n (KF.fr l tm):=⟨λX μ w hp t av hl=>by
 obtain⟨v,h1,h2⟩:=hp t av hl;obtain⟨x,hx,rfl⟩:=aCf hl;exact⟨v,by rw[aBp _ (List.all_eq_true.1 h x hx)];exact h1,h2⟩⟩
structure Link (c c':Cx)(fn:Func)(all:Array Oper)(i:Nat)(k:List KI)(tm:Array Value):Prop where
 out:∃(o:Oper) (a:Act),all[i]?=some o/\a.tmps=tm/\a.defers=c.df/\tm.size=c.nt/\cA c.nt o.dst=true/\c'.df=[]/\c'.R=aEe c.P fn (λv w'=>aQ c.F c.P c.R (.ops all (i+1)::k) .normal (a.put o.dst v) w')
 B:c'.B=c.B
 X0:c'.X0=c.X0
 P:c'.P=c.P
 ty:c'.ty=c.ty
theorem cP (hc:Ctx c P ty nt){g:Nat}{fn:Func}{code:Code}{avs:List AV}{all:Array Oper}{i:Nat}{k:List KI}(hf:P.funcs[g]?=some fn)(hg:aB P g){nt':Nat}
  (h:∀c' tm FR,FR=KF.fr S.sl tm->Ctx c' P ty nt'->Link c c' fn all i k tm->Goal c' (FR::K) ⟨[.code code],⟨pS 0 avs,S.hp,S.ow⟩,[]⟩)(hb:fn.body=some code:=by exact rfl)(hn:Nat.ble avs.length fn.ntmps=true:=by exact rfl)(hnt:fn.ntmps=nt':=by exact rfl):Goal c K ⟨.cal g avs all i::k,S,[]⟩:=by
 subst hnt;refine .mk0 ?_;rintro ⟨o,ho,zQ,hd,hgd⟩ X μ a w H;have P':=H.toP;have hlt:i<all.size:=(Array.getElem?_eq_some_iff.1 ho).1;simp only[aQ];rw[gH hlt];simp only[wpOpsIn,ho];rw[if_pos (cE P' hgd (λ_ _=>trivial))];obtain⟨aK,h1,h2⟩:=rX P' zQ (λ_ _=>trivial) (hc.hP▸hg);have hlen:=aW h1;have hn:=lbl hn;let RR:Value->World->Prop:=λv w'=>aQ c.F c.P c.R (.ops all (i+1)::k) .normal (a.put o.dst v) w';let c':Cx:=⟨c.P,c.ty,c.tok,fn.ntmps,c.B,c.X0,c.gB,aEe c.P fn RR,none,[]⟩;have hL:Link c c' fn all i k a.tmps:=⟨⟨o,a,ho,rfl,P'.dfr,P'.size,hd,rfl,rfl⟩,rfl,rfl,rfl,rfl⟩;have G:=(h c' a.tmps _ rfl ⟨hc.hP,hc.hty,rfl,hc.hm⟩ hL).so X μ {tmps:=aK.toArray++Array.replicate (fn.ntmps - aK.length) undef,defers:=[]} w
  ⟨⟨rfl,by show(aK.toArray++Array.replicate (fn.ntmps - aK.length) undef).size=fn.ntmps;simp;omega,?_,P'.heap,P'.all,P'.inj,P'.loc,P'.xlt,P'.xnew,P'.xold,P'.bel,λf hf=>?_,P'.own⟩,H.dom⟩
 ·refine pR h2 (Calls.mono (calls_of_wp (hc.hP▸hf) hb (R:=λe w''=>∃v,e=.returned v/\RR v w'') ((wpIn_wide (n:=0)).1 ?_)) (λe w'' he=>he));have hsz:aK.toArray.size=aK.length:=zA;rw[hsz];refine wpIn_mono G λe a' w' hq=>?_;cases e<;>simp only[aQ]at hq
  ·obtain⟨q1,v,q2,q3⟩:=hq;exact⟨q1,v,q2,by simpa[aQ,RR]using q3⟩
  ·obtain⟨q1,v,q2,q3⟩:=hq;exact⟨q1,v,q2,by simpa[aQ,RR]using q3⟩
 ·intro t av _ hl;obtain⟨_,e1⟩:=mY _ _ _ _ hl;obtain⟨v,e2,e3⟩:=gS h1 t av (by simpa using e1);refine⟨v,e3,?_⟩;have hlt:=(List.getElem?_eq_some_iff.1 e2).1;simp only[Array.getElem?_append,List.size_toArray];rw[if_pos hlt];simpa using e2
 ·rcases List.mem_cons.1 hf with e | e
  ·subst e;exact λt av hl=>P'.slots t av trivial hl
  ·exact P'.kf f e
theorem cK {c':Cx}{K':List KF}{nt':Nat}(hc':Ctx c' P ty nt'){fn:Func}{all:Array Oper}{i:Nat}{k:List KI}{tm:Array Value}(L:Link c c' fn all i k tm){l:List (Nat × AV)}{FR:KF}(hFR:FR=KF.fr l tm)(hm:FR∈K'){S:St}{av:AV}
   (aM6:Goal c K' ⟨.ops all (i+1)::k,⟨match fL all i with | some d=>(d,av)::l | none=>l,S.hp,S.ow⟩,[]⟩)(h:oM ty S fn.results.toList=some av:=by exact rfl):Goal c' K' ⟨[],S,[]⟩:=by
 obtain⟨o,a,ho,ha,hdf,hsz,hd,bFl,hR⟩:=L.out;refine .mk0 (λX μ a' w H=>?_);have P':=H.toP;simp only[aQ];rw[hR];obtain⟨v,e1,e2⟩:=aA3 H (av:=av) (by rw[hc'.hty];exact h);rw[L.P]at e2;refine⟨P'.dfr.trans bFl,v,e2,?_⟩;have hdo:fL all i=o.dst:=by simp[fL,ho]
 rw[hdo]at aM6;have hfr:∀t av,look l t=some av->∃v,aD μ av=some v/\tm[t]?=some v:=by have:=P'.kf FR hm;rw[hFR]at this;exact this
 refine aM6.so X μ (a.put o.dst v) w ⟨⟨by rw[put_defers];exact hdf,by rw[wS,ha];exact hsz,?_,P'.heap,P'.all,P'.inj,?_,P'.xlt,?_,?_,?_,P'.kf,?_⟩,H.dom⟩
 ·intro t b _ hl;cases hdd:o.dst with
  | none=>
   rw[hdd]at hl;obtain⟨u,h1,h2⟩:=hfr t b hl;exact⟨u,h1,by rw[<-ha]at h2;exact h2⟩
  | some d=>
   rw[hdd]at hl hd;simp only at hl;have hdn:d<a.tmps.size:=by simp only[cA,decide_eq_true_eq]at hd;rw[ha,hsz];exact hd
   by_cases ht:d=t
   ·subst ht;rw[bH]at hl;injection hl with hl;subst hl
    exact⟨v,e1,mK hdn⟩
   ·rw[bB ht]at hl;obtain⟨u,h1,h2⟩:=hfr t b hl;exact⟨u,h1,by rw[nR (by simpa using ht),ha];exact h2⟩
 ·intro k' b hk;have:=P'.loc k' b hk;rw[L.B]at this;exact this
 ·intro b hb;have:=P'.xnew b hb;rw[L.B,L.X0]at this;exact this
 ·intro b hb;exact P'.xold b (by rw[L.X0];exact hb)
 ·have:=P'.bel;rw[L.B]at this;exact this
 ·have:=P'.own;rw[L.B]at this;exact this
end
end Go.Ai
namespace Go.Ai
open Go Go.RowKit
mutual
def AV.fr (k:Nat):AV->Bool
 | .p j _ | .pe j _ _ _ _ | .sl j _ _ _ | .e j | .ec j _=>decide (j≠k)
 | .g l | .t l=>AV.frL k l
 | .f _ fs l=>AV.frL k fs&&AV.frL k l
 | _=>true
def AV.frL (k:Nat):List AV->Bool
 | []=>true
 | a::l=>AV.fr k a&&AV.frL k l
end
theorem fH {μ:Mu}{k j:Nat}{m:MV}(h:j≠k):pU (μ.upd k m) j=pU μ j/\atS (μ.upd k m) j=atS μ j/\(μ.upd k m) j=μ j:=by
 have:(μ.upd k m) j=μ j:=by simp[Mu.upd,h]
 exact⟨by simp[pU,this],by simp[atS,this],this⟩
mutual
theorem wA {μ:Mu}{k:Nat}{m:MV}:∀(av:AV),av.fr k=true->aD (μ.upd k m) av=aD μ av
 | .p j off,h=>by simp only[AV.fr,decide_eq_true_eq]at h;simp only[aD,(fH h).1]
 | .pe j off i sz inner,h=>by simp only[AV.fr,decide_eq_true_eq]at h;simp only[aD,(fH h).1]
 | .sl j off len cap,h=>by simp only[AV.fr,decide_eq_true_eq]at h;simp only[aD,(fH h).2.1]
 | .e j,h=>by simp only[AV.fr,decide_eq_true_eq]at h;simp only[aD,(fH h).2.2]
 | .ec j i,h=>by simp only[AV.fr,decide_eq_true_eq]at h;simp only[aD,(fH h).2.2]
 | .g l,h=>by simp only[AV.fr]at h;simp only[aD,lL l h]
 | .t l,h=>by simp only[AV.fr]at h;simp only[aD,lL l h]
 | .f _ fs l,h=>by simp only[AV.fr,Bool.and_eq_true]at h;simp only[aD,lL fs h.1,lL l h.2]
 | .i ..,_=>rfl
 | .b ..,_=>rfl
 | .s ..,_=>rfl
 | .xs ..,_=>rfl
 | .o ..,_=>rfl
 | .q ..,_=>rfl
theorem lL {μ:Mu}{k:Nat}{m:MV}:∀(l:List AV),AV.frL k l=true->aF (μ.upd k m) l=aF μ l
 | [],_=>rfl
 | x::l,h=>by
  simp only[AV.frL,Bool.and_eq_true]at h;simp only[aF,wA x h.1,lL l h.2]
end
def Blk.fr (k:Nat):Blk->Bool
 | .c _ l=>AV.frL k l
 | _=>true
theorem Blk.ok_fr {X:Nat->Prop}{μ:Mu}{w:World}{k:Nat}{mk:MV}{blk:Blk}{m:MV}(hf:blk.fr k=true)(hb:blk.ok X μ w m):blk.ok X (μ.upd k mk) w m:=by
 match blk,m,hb with
 | .c ..,.own b,hb=>obtain⟨vs,h1,h2⟩:=hb;exact⟨vs,by rw[lL _ hf];exact h1,h2⟩
 | .r ..,.own b,hb=>exact hb
 | .w ..,.own b,hb=>exact hb
 | .d ..,.own b,hb=>exact hb
 | .xi ..,.ext none,hb=>exact hb
 | .xs ..,.ext none,hb=>exact hb
 | .xi ..,.ext (some (b,o)),hb=>exact hb
 | .xs ..,.ext (some (b,o)),hb=>exact hb
 | .e,.val _,_=>trivial
 | .xr ..,.ext none,hb=>exact hb
 | .xr ..,.ext (some (b,o)),hb=>exact hb
def OF.cells (b bt:Nat)(cells:List AV):OF where
 F _ j:=j=b
 p μ w:=∃vs,aF μ cells=some vs/\w.heap[b]?=some (.cells vs.toArray bt (0,0))
 st μ μ' w w' hv hk h:=by
  obtain⟨vs,h1,h2⟩:=h;exact⟨⟨vs,mR hv _ _ h1,by rw[hk b rfl];exact h2⟩,λ_=>Iff.rfl⟩
structure KFk (k:Nat)(f:KF):Prop where
 out:∀X μ w v,f.p X μ w->f.p X (μ.upd k (.val v)) w
structure OFk (k:Nat)(f:OF):Prop where
 out:∀μ w v,f.p μ w->f.p (μ.upd k (.val v)) w/\∀b,f.F (μ.upd k (.val v)) b↔f.F μ b
theorem KFk.cst (k:Nat)(v:Value)(R:VF):KFk k (KF.cst v R):=⟨λ_ _ _ _ h=>h⟩
theorem KFk.at {k j:Nat}(h:j≠k)(R:VF):KFk k (KF.at j R):=⟨λX μ w v hp=>by
 obtain⟨u,h1,h2⟩:=hp;exact⟨u,by rw[(fH h).2.2];exact h1,h2⟩⟩
theorem KFk.ext {k j:Nat}(h:j≠k)(a:Option (Nat × Nat)):KFk k (KF.ext j a):=⟨λX μ w v hp=>by
 show(μ.upd k (.val v)) j=_
 rw[(fH h).2.2];exact hp⟩
theorem KFk.fr {k:Nat}{l:List (Nat × AV)}(h:l.all (λx=>x.2.fr k)=true)(tm:Array Value):KFk k (KF.fr l tm):=⟨λX μ w u hp t av hl=>by
 obtain⟨v,h1,h2⟩:=hp t av hl;obtain⟨x,hx,rfl⟩:=aCf hl;exact⟨v,by rw[wA _ (List.all_eq_true.1 h x hx)];exact h1,h2⟩⟩
theorem OFk.row (k:Nat)(v:Value)(base e:Nat)(kd:IntKind)(l:List Int):OFk k (OF.row v base e kd l):=⟨λ_ _ _ h=>⟨h,λ_=>Iff.rfl⟩⟩
theorem OFk.cells {k b bt:Nat}{cells:List AV}(h:AV.frL k cells=true):OFk k (OF.cells b bt cells):=⟨λμ w v hp=>by
 obtain⟨vs,h1,h2⟩:=hp;exact⟨⟨vs,by rw[lL _ h];exact h1,h2⟩,λ_=>Iff.rfl⟩⟩
def aA8 (k:Nat)(K:List KF):List KF->Prop
 | []=>True
 | f::l=>(f∈K/\KFk k f)/\aA8 k K l
theorem aA8.mem {k:Nat}{K:List KF}:∀{l:List KF},aA8 k K l->∀f,f∈l->f∈K/\KFk k f
 | g::l,h,f,hf=>by
  rcases List.mem_cons.1 hf with e | e
  ·subst e;exact h.1
  ·exact h.2.mem f e
def aDp (k:Nat):List OF->Prop
 | []=>True
 | f::l=>OFk k f/\aDp k l
theorem aDp.mem {k:Nat}:∀{l:List OF},aDp k l->∀f,f∈l->OFk k f
 | g::l,h,f,hf=>by
  rcases List.mem_cons.1 hf with e | e
  ·subst e;exact h.1
  ·exact h.2.mem f e
def aDq (S:St)(k:Nat):List (Nat × AV)->Prop
 | []=>True
 | (t,b)::l=>(∃a,look S.sl t=some a/\b.fr k=true/\∀μ,aD μ a=aD μ b)/\aDq S k l
theorem aDq.look {S:St}{k:Nat}:∀{l:List (Nat × AV)},aDq S k l->∀t b,Go.Ai.look l t=some b->∃a,Go.Ai.look S.sl t=some a/\b.fr k=true/\∀μ,aD μ a=aD μ b
 | (d,x)::l,h,t,b,hb=>by
  by_cases e:d=t
  ·subst e;rw[bH]at hb;injection hb with hb;subst hb;exact h.1
  ·rw[bB e]at hb;exact h.2.look t b hb
section
variable {c:Cx}{P:Program}{ty:Nat->Option TyI}{nt:Nat}{K:List KF}{S:St}
theorem aTo {ks:List KI}(d k:Nat){bt:Nat}{G:Nat->List AV->OF}(hG:∀b l,G b l=OF.cells b bt l){cells:List AV}{l:List (Nat × AV)}{K':List KF}(hp:iJ ks=true)(hk:S.hp[k]?=some (.c bt cells))(hd:look S.sl d=some (.p k 0))(hl:aDq S k l)(hb:(S.hp.set k .e).all (Blk.fr k)=true)(hc:AV.frL k cells=true)(hK:aA8 k K K')(hO:aDp k S.ow)
  (h:∀b,Goal c K' ⟨ks,⟨(d,.o (.pointer (some ⟨b,0,none⟩)))::l,S.hp.set k .e,G b cells::S.ow⟩,[]⟩):Goal c K ⟨ks,S,[]⟩:=by
 simp only[hG]at h;refine fT (ι:=Nat) (K':=λ_=>K') (S':=λb=>⟨(d,.o (.pointer (some ⟨b,0,none⟩)))::l,S.hp.set k .e,OF.cells b bt cells::S.ow⟩) (p:=λ_=>True) hp (λX μ a w H=>?_) (λb _=>h b);have P:=H.toP;have hkl:k<S.hp.length:=(List.getElem?_eq_some_iff.1 hk).1;obtain⟨m,hm⟩:=P.all k hkl;have hok:=P.heap k _ m hk hm;match m,hok,hm with
 | .own b,hok,hm=>
 obtain⟨vs,hvs,hbk⟩:=hok;have hlen:(S.hp.set k .e).length=S.hp.length:=zA;have eE:∀j b',(μ.upd k (.val undef)) j=some (.own b')->j≠k/\μ j=some (.own b'):=λj b' hj=>by
  by_cases e:j=k
  ·subst e;rw[Mu.upd_same]at hj;injection hj with hj;cases hj
  ·rw[(fH e).2.2]at hj;exact⟨e,hj⟩
 refine⟨b,X,μ.upd k (.val undef),trivial,⟨⟨P.dfr,P.size,?_,?_,?_,?_,?_,P.xlt,P.xnew,P.xold,P.bel,?_,?_⟩,?_⟩⟩
 ·intro t av _ ht;by_cases e:d=t
  ·subst e;rw[bH]at ht;injection ht with ht;subst ht
   obtain⟨v,e1,e2⟩:=P.slots d _ trivial hd;have hv:v=.pointer (some ⟨b,0,none⟩):=by
    simp only[aD,pV hm]at e1;injection e1 with e1;exact e1.symm
   exact⟨v,by rw[hv];simp[aD,Value.oneCell'],e2⟩
  ·rw[bB e]at ht;obtain⟨a',e1,e2,e3⟩:=hl.look t av ht;obtain⟨v,e4,e5⟩:=P.slots t a' trivial e1;exact⟨v,by rw[wA _ e2,<-e3 μ];exact e4,e5⟩
 ·intro j bj m hj hmj;by_cases e:j=k
  ·subst e;rw[Mu.upd_same]at hmj;injection hmj with hmj;subst hmj
   have hse:(S.hp.set j .e)[j]?=some .e:=by simp[hkl]
   have hj:some Blk.e=some bj:=hse.symm.trans hj
   injection hj with hj;subst hj;trivial
  ·rw[(fH e).2.2]at hmj;have hfr:bj.fr k=true:=List.all_eq_true.1 hb _ (List.mem_of_getElem? hj);rw[List.getElem?_set_ne (λe'=>e e'.symm)]at hj;exact Blk.ok_fr hfr (P.heap j bj m hj hmj)
 ·intro j hj;rw[hlen]at hj;by_cases e:j=k
  ·subst e;exact⟨_,Mu.upd_same _ _ _⟩
  ·obtain⟨m,hm⟩:=P.all j hj;exact⟨m,by rw[(fH e).2.2];exact hm⟩
 ·intro j j' b' h1 h2;exact P.inj j j' b' (eE _ _ h1).2 (eE _ _ h2).2
 ·intro j b' h1;exact P.loc j b' (eE _ _ h1).2
 ·intro f hf;obtain⟨h1,h2⟩:=hK.mem f hf;exact h2.out _ _ _ _ (P.kf f h1)
 ·obtain⟨l1,l2,l3⟩:=P.loc k b hm;refine⟨λf hf=>?_,List.Pairwise.cons (λg hg j hj=>?_) ?_⟩
  ·rcases List.mem_cons.1 hf with e | e
   ·subst e;refine⟨⟨vs,by rw[lL _ hc];exact hvs,hbk⟩,λj hj=>?_⟩;have hj:j=b:=hj;subst hj;exact⟨l1,l3,l2,λk' hk'=>(eE _ _ hk').1 (P.inj _ _ _ (eE _ _ hk').2 hm)⟩
   ·obtain⟨h1,h2⟩:=P.own.at_ f e;obtain⟨h3,h4⟩:=(hO.mem f e).out μ w undef h1;refine⟨h3,λj hj=>?_⟩;obtain⟨q1,q2,q3,q4⟩:=h2 j ((h4 j).1 hj);exact⟨q1,q2,q3,λk' hk'=>q4 k' (eE _ _ hk').2⟩
  ·have hj:j=b:=hj
   subst hj;intro hg';obtain⟨h1,h2⟩:=P.own.at_ g hg;exact(h2 j ((((hO.mem g hg).out μ w undef h1).2 j).1 hg')).2.2.2 k hm
  ·refine P.own.apart.imp_of_mem λ{f g} hf hg hq j hj hj'=>?_;exact hq j ((((hO.mem f hf).out μ w undef (P.own.at_ f hf).1).2 j).1 hj) ((((hO.mem g hg).out μ w undef (P.own.at_ g hg).1).2 j).1 hj')
 ·intro j hj;rw[hlen]at hj;have e:j≠k:=zW;rw[(fH e).2.2];exact H.dom j hj
theorem aA7 {ks:List KI}(d:Nat){b bt:Nat}{G:Nat->List AV->OF}(hG:∀b l,G b l=OF.cells b bt l){cells:List AV}{ow':List OF}(hp:iJ ks=true)(hd:look S.sl d=some (.o (.pointer (some ⟨b,0,none⟩))))(how:S.ow=G b cells::ow')
  (h:Goal c K ⟨ks,⟨(d,.p S.hp.length 0)::S.sl,S.hp++[.c bt cells],ow'⟩,[]⟩):Goal c K ⟨ks,S,[]⟩:=by
 rw[hG]at how;refine nS hp (λX μ a w H=>?_) h;have P:=H.toP;have hf0:OF.cells b bt cells∈S.ow:=by rw[how];exact .head _
 obtain⟨⟨vs,hvs,hbk⟩,hat⟩:=P.own.at_ _ hf0;obtain⟨q1,q2,q3,q4⟩:=hat b rfl;have hap:=P.own.apart;rw[how]at hap;have hn:=H.dom _ (lRf _);have hle:Mu.le μ (μ.upd S.hp.length (.own b)):=Mu.le_upd hn;have rI:∀j m,(μ.upd S.hp.length (.own b)) j=some m->(j=S.hp.length/\m=.own b)\/(j≠S.hp.length/\μ j=some m):=λj m hj=>by
  by_cases e:j=S.hp.length
  ·subst e;rw[Mu.upd_same]at hj;injection hj with hj;exact .inl ⟨rfl,hj.symm⟩
  ·rw[(fH e).2.2]at hj;exact .inr ⟨e,hj⟩
 refine⟨X,μ.upd S.hp.length (.own b),⟨⟨P.dfr,P.size,?_,?_,?_,?_,?_,P.xlt,P.xnew,P.xold,P.bel,kC P.kf (λ_ h=>h) hle.v (λ_ _=>rfl),?_⟩,?_⟩⟩
 ·intro t av _ ht;by_cases e:d=t
  ·subst e;rw[bH]at ht;injection ht with ht;subst ht
   obtain⟨v,e1,e2⟩:=P.slots d _ trivial hd;have hv:v=.pointer (some ⟨b,0,none⟩):=by
    simp only[aD,Value.oneCell',if_true]at e1;injection e1 with e1;exact e1.symm
   exact⟨v,by rw[hv];simp only[aD,pV (Mu.upd_same _ _ _)],e2⟩
  ·rw[bB e]at ht;obtain⟨v,e4,e5⟩:=P.slots t av trivial ht;exact⟨v,gZ hle _ _ e4,e5⟩
 ·intro j bj m hj hmj;rcases rI j m hmj with⟨rfl,rfl⟩ | ⟨e,hmj⟩
  ·simp only[List.getElem?_append_right (lRf _)]at hj;simp at hj;subst hj;exact⟨vs,gM hle _ _ hvs,hbk⟩
  ·have hlt:j<S.hp.length:=by
    rcases Nat.lt_or_ge j S.hp.length with h | h
    ·exact h
    ·rw[H.dom j h]at hmj;cases hmj
   simp only[List.getElem?_append_left hlt]at hj;exact Blk.ok_keep hle (λ_ h=>h) (λ_ _=>rfl) (λ_ _=>rfl) (P.heap j bj m hj hmj)
 ·intro j hj;simp at hj;by_cases e:j=S.hp.length
  ·subst e;exact⟨_,Mu.upd_same _ _ _⟩
  ·obtain⟨m,hm⟩:=P.all j zW;exact⟨m,by rw[(fH e).2.2];exact hm⟩
 ·intro j j' b' h1 h2;rcases rI j _ h1 with⟨r1,e1⟩ | ⟨e1,g1⟩<;>rcases rI j' _ h2 with⟨r2,e2⟩ | ⟨e2,g2⟩
  ·rw[r1,r2]
  ·injection e1 with e1;rw[e1]at g2;exact absurd g2 (q4 j')
  ·injection e2 with e2;rw[e2]at g1;exact absurd g1 (q4 j)
  ·exact P.inj j j' b' g1 g2
 ·intro j b' h1;rcases rI j _ h1 with⟨rfl,e1⟩ | ⟨e,h1⟩
  ·injection e1 with e1;subst e1;exact⟨q1,q3,q2⟩
  ·exact P.loc j b' h1
 ·refine⟨λf hf=>?_,(List.Pairwise.of_cons hap).imp_of_mem λ{f g} hf hg hq j hj hj'=>?_⟩
  rotate_left
  ·have k1:=(f.st μ (μ.upd S.hp.length (.own b)) w w hle.v (λ_ _=>rfl) (P.own.at_ f (by rw[how];exact .tail _ hf)).1).2
   have k2:=(g.st μ (μ.upd S.hp.length (.own b)) w w hle.v (λ_ _=>rfl) (P.own.at_ g (by rw[how];exact .tail _ hg)).1).2
   exact hq j ((k1 j).1 hj) ((k2 j).1 hj')
  obtain⟨h1,h2⟩:=P.own.at_ f (by rw[how];exact .tail _ hf);obtain⟨h3,h4⟩:=f.st μ (μ.upd S.hp.length (.own b)) w w hle.v (λ_ _=>rfl) h1;refine⟨h3,λj hj=>?_⟩;obtain⟨r1,r2,r3,r4⟩:=h2 j ((h4 j).1 hj);refine⟨r1,r2,r3,λk' hk'=>?_⟩;rcases rI k' _ hk' with⟨rfl,e1⟩ | ⟨e,h5⟩
  ·injection e1 with e1;subst e1
   exact List.rel_of_pairwise_cons hap hf j rfl ((h4 j).1 hj)
  ·exact r4 k' h5
 ·intro j hj;simp at hj;rw[(fH zW).2.2];exact H.dom j zW
theorem bAz {R:OF->OF->Prop}{pre post:List OF}{g g':OF}(h1:∀f,R f g->R f g')(h2:∀f,R g f->R g' f)(h:(pre++g::post).Pairwise R):(pre++g'::post).Pairwise R:=by
 rw[List.pairwise_append,List.pairwise_cons]at h |-;obtain⟨a1,⟨a2,a3⟩,a4⟩:=h;refine⟨a1,⟨λf hf=>h2 f (a2 f hf),a3⟩,λx hx y hy=>?_⟩;rcases List.mem_cons.1 hy with e | e
 ·subst e;exact h1 x (a4 x hx g (.head _))
 ·exact a4 x hx y (.tail _ e)
theorem bD7 {R:OF->OF->Prop}{pre post:List OF}{g:OF}(h:(pre++g::post).Pairwise R):∀f,f∈pre++post->R f g\/R g f:=by
 rw[List.pairwise_append,List.pairwise_cons]at h;obtain⟨a1,⟨a2,a3⟩,a4⟩:=h;intro f hf;rcases List.mem_append.1 hf with e | e
 ·exact .inl (a4 f e g (.head _))
 ·exact .inr (a2 f e)
theorem aHp {n0:Nat}{D:Nat->Prop}{o:Oper}{t:TypeId}{x y:Operand}{i:TyI}{b off bt:Nat}{av:AV}{l cells:List AV}{pre post:List OF}(hop:o.op=.store t x y)(hd:o.dst=none)(hi:c.ty t=some i)(hx:fE S.sl x=some (.o (.pointer (some ⟨b,off,none⟩))))(hy:fE S.sl y=some av)(hl:cellsOf av=some l)
  (how:S.ow=pre++OF.cells b bt cells::post) (hsz:l.length=i.size) (hle:off+l.length<=cells.length) (kB:l.all AV.one=true) (hD:∀t,Operand.tmp t∈o.op.operands->D t):
  Cert c K n0 D S o (.q undef) none [] (pre++OF.cells b bt (oK cells off l)::post):=by
 intro X μ a w next Q H _ hn
 have hf0:OF.cells b bt cells∈S.ow:=by rw[how];simp
 obtain⟨⟨cs,hcs,ho⟩,hat⟩:=H.own.at_ _ hf0;obtain⟨q1,q2,q3,q4⟩:=hat b rfl;have e1:=aG H hx (λt e=>hD t (by rw[hop];simp[Op.operands,e]));have e2:=aG H hy (λt e=>hD t (by rw[hop];simp[Op.operands,e]));have hb2:a.eval x=.pointer (some ⟨b,off,none⟩):=by
  simp only[aD,Value.oneCell',if_true]at e1;injection e1 with e1;exact e1.symm
 have hcl:=jV hl e2
 obtain⟨ti,z,h1,h2,h3,h4,h5⟩:=(c.tok _ i hi).info;have hlen:=aW hcl;have aSk:=aW hcs;have kB:=qN kB hcl;have hwr:(Instr.storeAt t (a.eval x) (a.eval y)).run c.P w=.ok () (w.setCells b off (a.eval y).cells.toList):=by
  rw[hb2];simp only[Instr.storeAt,Instr.sureAddr,Sem.run_bind,Sem.run_pure,Result.andThen_ok,storeVar,cU h1];rw[if_neg (by simp at hlen;omega)];have:=run_storeCells_cells (P:=c.P) b off (a.eval y).cells.toList 0 w
   (λj hj=>by simp[World.cell?,ho];simp at hlen hj;omega)
   (λj hj=>by simp[World.frozen?,ho]) kB
  simpa using this
 have aIg:∀j,j≠b->(w.setCells b off (a.eval y).cells.toList).heap[j]?=w.heap[j]?:=λj hj=>fC b _ _ _ j hj
 have aAg:∃vs,aF μ (oK cells off l)=some vs/\(w.setCells b off (a.eval y).cells.toList).heap[b]?=some (.cells vs.toArray bt (0,0)):=by
  refine⟨_,qO hcs hcl hle,(gA b bt _ off w cs.toArray ho (by simp at hlen |-;omega)).trans ?_⟩;congr 2;rw[<-Array.foldl_toList];simp
 have nL:=setCells_size b (a.eval y).cells.toList off w
 have hap:=H.own.apart
 rw[how]at hap;have hnb:∀f,f∈pre++post->¬f.F μ b:=λf hf hfb=>by
  rcases bD7 hap f hf with h | h
  ·exact h b hfb rfl
  ·exact h b rfl hfb
 have hr:(execOp a.eval o).run c.P w=.ok .skip (w.setCells b off (a.eval y).cells.toList):=by simp only[execOp,hop,Sem.run_bind,hwr,Result.andThen_ok,Sem.run_pure]
 refine sX hr ?_;have:=hn X μ undef (w.setCells b off (a.eval y).cells.toList) ⟨fA b q1 _ _ _ (RowKit.Below.refl _ _),λj hj hjf=>aIg j (λe=>hjf _ hf0 (show j=b from e)),by simp[aD],rfl,λ_ h=>h,λ_ h=>.inl h,?_⟩ (λf hf=>by cases hf)
 ·simpa[Act.put,hd]using this
 ·refine⟨λf hf=>?_,bAz (g:=OF.cells b bt cells) (λf h=>h) (λf h=>h) hap⟩;rw[nL];by_cases hfn:f=OF.cells b bt (oK cells off l)
  ·subst hfn;refine⟨aAg,λj hj=>?_⟩;have hj:j=b:=hj;subst hj;exact⟨q1,q2,q3,q4⟩
  ·have hf':f∈pre++post:=by
    rcases List.mem_append.1 hf with h | h
    ·exact List.mem_append.2 (.inl h)
    ·rcases List.mem_cons.1 h with h | h
     ·exact absurd h hfn
     ·exact List.mem_append.2 (.inr h)
   obtain⟨h1,h2⟩:=H.own.at_ f (by rw[how];rcases List.mem_append.1 hf' with h | h<;>simp[h]);obtain⟨h3,h4⟩:=f.st μ μ w _ (Mu.vle_refl _) (λj hj=>aIg j (λe=>hnb f hf' (e▸hj))) h1;exact⟨h3,h2⟩
theorem tQ (hc:Ctx c P ty nt){all:Array Oper}{i0 n0:Nat}{K0:List KF}{k:List KI}(o:Oper){t:TypeId}{x y:Operand}{i:TyI}{b off bt:Nat}{G:Nat->List AV->OF}(hG:∀b l,G b l=OF.cells b bt l){av:AV}{l cells:List AV}(pre:List OF){post:List OF}(ho:all[i0]?=some o)(hg:guardOf all S.sl o=some true)(hop:o.op=.store t x y)(hd:o.dst=none)(hi:ty t=some i)(hx:fE S.sl x=some (.o (.pointer (some ⟨b,off,none⟩))))(hy:fE S.sl y=some av)(hl:cellsOf av=some l)
  (how:S.ow=pre++G b cells::post) (hsz:l.length=i.size) (hle:Nat.ble (off+l.length) cells.length=true) (kB:l.all AV.one=true) (n:Nat)
  (h:Goal c K (run ty nt K n (.dops all (i0+1) n0 K0::k) ⟨S.sl,S.hp,pre++G b (oK cells off l)::post⟩ [])):Goal c K ⟨.dops all i0 n0 K0::k,S,[]⟩:=by
 rw[hG]at how h;have hs:=dX hc n h;have hic:bU o=true:=by unfold bU;rw[hop]
 refine .mk0 (show DPath c all n0 K0 k i0 S K from ?_);refine DPath.op (Kn:=[]) ho hg (by rw[hd];rfl) (by
  rw[hic];simp only[if_true,fl,hic];exact aHp hop hd (by rw[hc.hty];exact hi) hx hy hl how hsz (lbl hle) kB (λt ht=>by simp only[vN,dQ,List.mem_append];exact .inl (eV (by simpa using ht)))) (λ_=>rfl) ?_ hs
 rw[hic,hd];exact Wk.refl _
def aWb (o:Oper):Bool:=match o.op with | .store ..=>true | _=>false
def bCt:List KI->Bool
 | .code (.region _ ops true)::_=>ops.toList.any aWb
 | _=>false
def aWx (ty:Nat->Option TyI)(nt:Nat)(K:List KF):Nat->List KI->St->List Obl->Cfg
 | 0,ks,S,ob=>⟨ks,S,ob⟩
 | n+1,ks,S,ob=>if bCt ks then⟨ks,S,ob⟩else match aJl ty nt K ks S with
  | some r=>aWx ty nt K n r.ks r.S (match r.ob with | []=>ob | o=>ob++o)
  | none=>⟨ks,S,ob⟩
theorem aI9 (ty:Nat->Option TyI)(nt:Nat)(K:List KF):∀(n:Nat) (ks:List KI) (S:St) (ob:List Obl),∃m,aWx ty nt K n ks S ob=run ty nt K m ks S ob
 | 0,ks,S,ob=>⟨0,rfl⟩
 | n+1,ks,S,ob=>by
  simp only[aWx];split
  ·exact⟨0,rfl⟩
  ·split
   ·rename_i r hr;obtain⟨m,hm⟩:=aI9 ty nt K n r.ks r.S (match r.ob with | []=>ob | o=>ob++o);exact⟨m+1,by simp only[run,hr];exact hm⟩
   ·exact⟨0,rfl⟩
theorem aX7 (hc:Ctx c P ty nt)(n:Nat){ks:List KI}(h:Goal c K (aWx ty nt K n ks S [])):Goal c K ⟨ks,S,[]⟩:=by
 obtain⟨m,hm⟩:=aI9 ty nt K n ks S [];rw[hm]at h;exact jC hc m h
end
end Go.Ai
namespace Go.Ai
open Go Go.RowKit
def lK (P:Program)(g:Nat)(ls:List ByteArray)(r:Value):Prop:=
 ∀w b ty,Glob P w->w.heap[b]?=some (.cells (ls.map Value.string).toArray ty (0,0))->Calls P g #[.slice (some ⟨b,0,none⟩) ls.length ls.length] w λe w'=>e=.returned r/\Below w.heap.size w w'
theorem aQ5 {c:Cx}{K:List KF}{n0:Nat}{D:Nat->Prop}{S:St}{o:Oper}{g k n m T:Nat}{cells:List AV}{ls:List ByteArray}{av:AV}{r:Value}(h:iD S.sl o.op=some (g,[.sl k 0 (.l (n:Int)) m]))(hD:∀t,Operand.tmp t∈o.op.operands->D t)(hg:aB c.P g)
  (hp:lK c.P g ls r) (hb:S.hp[k]?=some (.c T cells)) (ha:aF iN cells=some (ls.map Value.string)) (hn:n=ls.length) (hm:m=ls.length) (hr:aD iN av=some r):Cert c K n0 D S o av none [] S.ow:=by
 refine pD h hD hg λX μ a w aK H hv=>?_;obtain⟨v1,rfl,e1⟩:=aX hv;cases hk:μ k with
 | none=>simp[aD,atS,hk]at e1
 | some mv=>
  have hok:=H.heap k _ mv hb hk
  cases mv with
  | ext a=>exact hok.elim
  | val v=>exact hok.elim
  | own b=>
   obtain⟨vs,q1,q2⟩:=hok;rw[cZ ha]at q1;injection q1 with q1;subst q1
   have hv1:v1=.slice (some ⟨b,0,none⟩) ls.length ls.length:=by
    simp[aD,atS,hk,MV.atS,IE.den,hn,hm]at e1;exact e1.symm
   subst hv1;refine(hp w b T H.glob q2).mono ?_;rintro e w' ⟨rfl,hbl⟩;exact⟨X,r,rfl,lJ H hbl (eK hr),λf hf=>by cases hf⟩
section
variable {c:Cx}{P:Program}{ty:Nat->Option TyI}{nt:Nat}{K:List KF}
theorem qP (hc:Ctx c P ty nt)(av:AV){g k n m T:Nat}{cells:List AV}{ls:List ByteArray}{all:Array Oper}{i:Nat}{ks:List KI}{S:St}{r:Value}(hp:lK P g ls r)(hg:aB P g)(N:Nat)
  (h:Goal c K (run ty nt K N (.ops all (i+1)::ks) (S.put (fL all i) av none) []))(hb:S.hp[k]?=some (.c T cells):=by exact rfl)(ha:aF iN cells=some (ls.map Value.string):=by exact rfl)(hn:n=ls.length:=by exact rfl)(hm:m=ls.length:=by exact rfl)(hr:aD iN av=some r:=by exact rfl):Goal c K ⟨.cal g [.sl k 0 (.l (n:Int)) m] all i::ks,S,[]⟩:=
 .mk0 (yI (Kn:=[]) (ow:=S.ow) (λo n0 D ho hD _=>aQ5 ho hD (hc.hP▸hg) (hc.hP▸hp) hb ha hn hm hr) (dX hc N h))
theorem bI (hc:Ctx c P ty nt)(av:AV){g k n m T:Nat}{cells:List AV}{ls:List ByteArray}{all:Array Oper}{i n0:Nat}{K0:List KF}{ks:List KI}{S:St}{r:Value}(hp:lK P g ls r)(hg:aB P g)(N:Nat)
  (h:Goal c K (run ty nt K N (.dops all (i+1) n0 K0::ks) (S.put (fL all i) av none) []))(hb:S.hp[k]?=some (.c T cells):=by exact rfl)(ha:aF iN cells=some (ls.map Value.string):=by exact rfl)(hn:n=ls.length:=by exact rfl)(hm:m=ls.length:=by exact rfl)(hr:aD iN av=some r:=by exact rfl):Goal c K ⟨.dcal g [.sl k 0 (.l (n:Int)) m] all i n0 K0::ks,S,[]⟩:=
 .mk0 (tP (Kn:=[]) (ow:=S.ow) (λo D ho hD=>aQ5 ho hD (hc.hP▸hg) (hc.hP▸hp) hb ha hn hm hr) (dX hc N h))
def rowT (l:List ByteArray):VF where
 p v X w:=∃b ty,v=.slice (some ⟨b,0,none⟩) l.length l.length/\X b/\w.heap[b]?=some (.cells (l.map Value.string).toArray ty (0,0))
 st v X X' w w' hs hw h:=by
  obtain⟨b,ty,h1,h2,h3⟩:=h;exact⟨b,ty,h1,hs _ h2,by rw[hw _ h2];exact h3⟩
theorem lK.of_fn {P:Program}{g:Nat}{ls:List ByteArray}{r:Value}(h:∀X w v,(∀b,X b->b<w.heap.size)->(rowT ls).p v X w->Fn P g [v] X w (dN r)):lK P g ls r:=by
 intro w b ty hg hb;have hlt:b<w.heap.size:=by
  rcases Nat.lt_or_ge b w.heap.size with h | h
  ·exact h
  ·rw[Array.getElem?_eq_none h]at hb;cases hb
 refine(h (λc=>c<w.heap.size) w _ (λ_ h=>h) ⟨b,ty,rfl,hlt,hb⟩ hg).mono ?_;rintro e w' ⟨v,X',rfl,h1,_,_,h2⟩;have h2:v=r:=h2;exact⟨by rw[h2],h1⟩
structure RowTX where
 f:Nat->ByteArray
theorem yM {ks:List KI}{S:St}(d:Nat){av:AV}(l:List ByteArray)(N:Nat)(hN:N=l.length)(hp:iJ ks=true)(hl:look S.sl d=some av)(hr:∀X μ a w v,Sim c K S X μ a w->aD μ av=some v->(rowT l).p v X w)
  (h:∀f,(∀i x,l[i]?=some x->f i=x)->Goal c K ⟨ks,{S with sl:=(d,.sl S.hp.length 0 (.l (N:Int)) N)::S.sl,hp:=S.hp++[.xs N f]},[]⟩):Goal c K ⟨ks,S,[]⟩:=by
 refine fT (ι:=RowTX) (K':=λ_=>K) (S':=λx=>{S with sl:=(d,.sl S.hp.length 0 (.l (N:Int)) N)::S.sl,hp:=S.hp++[.xs N x.f]}) (p:=λx=>∀i y,l[i]?=some y->x.f i=y) hp ?_ (λx hx=>h x.f hx);intro X μ a w H;obtain⟨v,hv,hs⟩:=H.toP.slots d av trivial hl;obtain⟨b,ty,e1,e2,e3⟩:=hr X μ a w v H hv;subst hN;have hok:(Blk.xs l.length (λi=>l.getD i default)).ok X (μ.upd S.hp.length (.ext (some (b,0)))) w (.ext (some (b,0))):=
  ⟨e2,_,(ty,(0,0)),e3,λi hi=>by simp[hi]⟩
 refine⟨⟨λi=>l.getD i default⟩,X,μ.upd S.hp.length (.ext (some (b,0))),λi y hy=>by simp[List.getD_eq_getElem?_getD,hy],?_⟩;have H1:=qT H (blk:=.xs l.length (λi=>l.getD i default)) (m:=.ext (some (b,0))) (λb e=>by cases e) hok;refine iL (av:=av) H1 hl ?_;rw[gZ (Mu.le_upd (H.dom _ (lRf _))) av v hv];have hz:(0:Int)<=(IE.l (l.length:Int)).den:=by simp[IE.den]
 refine(iE (len:=.l (l.length:Int)) (a:=some (b,0)) (by simp[atS,Mu.upd_same,MV.atS]) hz (λe=>by cases e)).trans ?_;rw[e1];simp[IE.den]
def yU (P:Program)(g:Nat)(pre:List Value)(s:ByteArray)(r:Value):Prop:=
 ∀(w:World) (b ty:Nat),Glob P w->w.heap[b]?=some (Obj.cells #[Value.string s] ty (0,0))->Calls P g (pre++[Value.pointer (some ⟨b,0,none⟩)]).toArray w λe w'=>e=.returned r/\Below w.heap.size w w'
theorem aD8 {μ:Mu}:∀{l:List AV} {x:AV} {vs:List Value},aF μ (l++[x])=some vs->∃us v,aF μ l=some us/\aD μ x=some v/\vs=us++[v]
 | [],x,vs,h=>by
  obtain⟨v,rfl,h1⟩:=aX h;exact⟨[],v,rfl,h1,rfl⟩
 | y::l,x,vs,h=>by
  simp only[List.cons_append,aF]at h;cases h1:aD μ y with
  | none=>rw[h1]at h;cases h
  | some u=>
   cases h2:aF μ (l++[x])with
   | none=>rw[h1,h2]at h;cases h
   | some us=>
    rw[h1,h2]at h;injection h with h;subst h
    obtain⟨us',v,e1,e2,rfl⟩:=aD8 h2;exact⟨u::us',v,by simp[aF,h1,e1],e2,rfl⟩
theorem aZa {n0:Nat}{D:Nat->Prop}{S:St}{o:Oper}{g k T:Nat}{pre:List AV}{prev:List Value}{cell:AV}{s:ByteArray}{av:AV}{r:Value}(h:iD S.sl o.op=some (g,pre++[.p k 0]))(hD:∀t,Operand.tmp t∈o.op.operands->D t)(hg:aB c.P g)
  (hp:yU c.P g prev s r) (aSp:aF iN pre=some prev) (hb:S.hp[k]?=some (.c T [cell])) (ha:aD iN cell=some (.string s)) (hr:aD iN av=some r):Cert c K n0 D S o av none [] S.ow:=by
 refine pD h hD hg λX μ a w aK H hv=>?_;obtain⟨us,v1,e0,e1,rfl⟩:=aD8 hv;rw[cZ aSp]at e0;injection e0 with e0;subst e0
 cases hk:μ k with
 | none=>simp[aD,pU,atS,hk]at e1
 | some mv=>
  have hok:=H.heap k _ mv hb hk
  cases mv with
  | ext a=>exact hok.elim
  | val v=>exact hok.elim
  | own b=>
   obtain⟨vs,q1,q2⟩:=hok;rw[cZ (show aF iN [cell]=some [.string s] by simp[aF,ha])]at q1;injection q1 with q1;subst q1
   have hv1:v1=.pointer (some ⟨b,0,none⟩):=by
    simp[aD,pU,hk,MV.at]at e1;exact e1.symm
   subst hv1;refine(hp w b T H.glob q2).mono ?_;rintro e w' ⟨rfl,hbl⟩;exact⟨X,r,rfl,lJ H hbl (eK hr),λf hf=>by cases hf⟩
theorem kF (hc:Ctx c P ty nt)(av:AV){g k T:Nat}{pre avs:List AV}{prev:List Value}{cell:AV}{s:ByteArray}{all:Array Oper}{i n0:Nat}{K0:List KF}{ks:List KI}{S:St}{r:Value}(hp:yU P g prev s r)(hg:aB P g)(N:Nat)
  (h:Goal c K (run ty nt K N (.dops all (i+1) n0 K0::ks) (S.put (fL all i) av none) []))(hav:avs=pre++[.p k 0]:=by exact rfl)(aSp:aF iN pre=some prev:=by exact rfl)(hb:S.hp[k]?=some (.c T [cell]):=by exact rfl)(ha:aD iN cell=some (.string s):=by exact rfl)(hr:aD iN av=some r:=by exact rfl):Goal c K ⟨.dcal g avs all i n0 K0::ks,S,[]⟩:=by
 subst hav;exact .mk0 (tP (Kn:=[]) (ow:=S.ow) (λo D ho hD=>aZa ho hD (hc.hP▸hg) (hc.hP▸hp) aSp hb ha hr) (dX hc N h))
def aWm (s:ByteArray):VF where
 p v X w:=∃b ty,v=.pointer (some ⟨b,0,none⟩)/\X b/\w.heap[b]?=some (.cells #[.string s] ty (0,0))
 st v X X' w w' hs hw h:=by
  obtain⟨b,ty,h1,h2,h3⟩:=h;exact⟨b,ty,h1,hs _ h2,by rw[hw _ h2];exact h3⟩
theorem yU.of_fn {P:Program}{g:Nat}{pre:List Value}{s:ByteArray}{r:Value}(h:∀X w v,(∀b,X b->b<w.heap.size)->(aWm s).p v X w->Fn P g (pre++[v]) X w (dN r)):yU P g pre s r:=by
 intro w b ty hg hb;have hlt:b<w.heap.size:=by
  rcases Nat.lt_or_ge b w.heap.size with h | h
  ·exact h
  ·rw[Array.getElem?_eq_none h]at hb;cases hb
 refine(h (λc=>c<w.heap.size) w _ (λ_ h=>h) ⟨b,ty,rfl,hlt,hb⟩ hg).mono ?_;rintro e w' ⟨v,X',rfl,h1,_,_,h2⟩;have h2:v=r:=h2;exact⟨by rw[h2],h1⟩
theorem aTt {ks:List KI}{S:St}(d:Nat){av:AV}(s:ByteArray)(hp:iJ ks=true)(hl:look S.sl d=some av)(hr:∀X μ a w v,Sim c K S X μ a w->aD μ av=some v->(aWm s).p v X w)
  (h:∀f:Nat->ByteArray,f 0=s->Goal c K ⟨ks,{S with sl:=(d,.p S.hp.length 0)::S.sl,hp:=S.hp++[.xs 1 f]},[]⟩):Goal c K ⟨ks,S,[]⟩:=by
 refine fT (ι:=RowTX) (K':=λ_=>K) (S':=λx=>{S with sl:=(d,.p S.hp.length 0)::S.sl,hp:=S.hp++[.xs 1 x.f]}) (p:=λx=>x.f 0=s) hp ?_ (λx hx=>h x.f hx);intro X μ a w H;obtain⟨v,hv,hs⟩:=H.toP.slots d av trivial hl;obtain⟨b,ty,e1,e2,e3⟩:=hr X μ a w v H hv;have hok:(Blk.xs 1 (λ_=>s)).ok X (μ.upd S.hp.length (.ext (some (b,0)))) w (.ext (some (b,0))):=
  ⟨e2,_,(ty,(0,0)),e3,λi hi=>by
   have h0:i=0:=zW
   subst h0;rfl⟩
 refine⟨⟨λ_=>s⟩,X,μ.upd S.hp.length (.ext (some (b,0))),rfl,?_⟩;have H1:=qT H (blk:=.xs 1 (λ_=>s)) (m:=.ext (some (b,0))) (λb e=>by cases e) hok;refine iL (av:=av) H1 hl ?_;rw[gZ (Mu.le_upd (H.dom _ (lRf _))) av v hv,e1];simp[aD,pU,Mu.upd_same,MV.at]
end
end Go.Ai
