/- Part 7 of the proof: garboardlaw17.FloatMirrors returns true, where what it reads is of bulk at most 1048576. -/
import Derived.Test.YtmnancfboococaaGreatDoorPm5
set_option linter.all false
namespace Go.Ai
open Go Go.RowKit
theorem BE.ltn_t {i n:Nat}(h:(BE.lt (.n i) (.n n)).den=true):i<n:=Int.ofNat_lt.1 (BE.lt_t h)
theorem BE.ltn_f {i n:Nat}(h:(BE.lt (.n i) (.n n)).den=false):n≤i:=Nat.le_of_not_lt fun e=>BE.lt_f h (Int.ofNat_lt.2 e)
theorem BE.eqn_t {i n:Nat}(h:(BE.eq (.n i) (.n n)).den=true):i=n:=Int.ofNat.inj (BE.eq_t h)
theorem BE.eqnl_t {i k:Nat}(h:(BE.eq (.n i) (.l k)).den=true):i=k:=Int.ofNat.inj (BE.eq_t h)
theorem BE.eqnl_f {i k:Nat}(h:(BE.eq (.n i) (.l k)).den=false):i≠k:=fun e=>BE.eq_f h (by rw[e];rfl)
theorem BE.pre_t {k:Nat}(h:(BE.le (.l 0) (.sub (.n k) (.l 1))).den=true):0<k:=by have h:=BE.le_t h;simp only[IE.den]at h;omega
theorem BE.pre_f {k:Nat}(h:(BE.le (.l 0) (.sub (.n k) (.l 1))).den=false):k=0:=by have h:=BE.le_f h;simp only[IE.den]at h;omega
theorem aQp {c:Cx}{K:List KF}{ks:List KI}{S':St}{G:Prop}(f:Goal c K ⟨ks,S',[]⟩→G)(g:Goal c K ⟨ks,S',[]⟩):G:=f g
theorem Goal.k {c:Cx}{K K':List KF}{r:Cfg}(h:K'=K)(g:Goal c K' r):Goal c K r:=h▸g
theorem mQ {c:Cx}{K:List KF}{k:List KI}{S:St}(hk:iO k=true)(h:Goal c K ⟨k,S,[]⟩):bD c K k S:=by
 have:=h.so
 match k,hk,this with
 | [],_,h=>exact h
 | .code _::_,_,h=>exact h
 | .ops _ _::_,_,h=>exact h
 | .blk _::_,_,h=>exact h
 | .hole _::_,_,h=>exact h
 | .ord _ _::_,_,h=>exact h
theorem aBw {c:Cx}{K:List KF}{κ:Type}(E:κ→Prop)(J:κ→St){x:Code}{id:Nat}{k:List KI}{S:St}(hk:iO k=true)
  (h2:∀r,(∀z,E z→Goal c K ⟨.hole r::k,J z,[]⟩)→Goal c K ⟨.code x::.blk id::.hole r::k,S,[]⟩)
  (h1:∀z,E z→Goal c K ⟨k,J z,[]⟩):Goal c K ⟨.code x::.blk id::k,S,[]⟩:=by
 let r:Act→World→Prop:=fun a w=>aR c.F c.P c.R k .normal a w
 have hr:∀z,E z→Goal c K ⟨.hole r::k,J z,[]⟩:=fun z hz=>.mk0 (fun X μ a w H=>by simpa[aR,r]using mQ hk (h1 z hz) X μ a w H)
 have h3:=(h2 r hr).so
 refine .mk0 (fun X μ a w H=>?_);have h3:=h3 X μ a w H
 simp only[aR]at h3 ⊢;refine wpIn_mono h3 fun e a w hq=>?_
 cases e
 case exit j=>
  simp only[aR]at hq ⊢;split<;>rename_i hj
  ·rw[if_pos hj]at hq;simpa[r]using hq
  ·rw[if_neg hj]at hq;simpa using hq
 all_goals simpa[aR,r]using hq
theorem aVr {c:Cx}{K:List KF}{κ:Type}(E:κ→Prop)(J:κ→St){x:Code}{k:List KI}{S:St}(hk:iO k=true)
  (h2:∀r,(∀z,E z→Goal c K ⟨.hole r::k,J z,[]⟩)→Goal c K ⟨.code x::.hole r::k,S,[]⟩)
  (h1:∀z,E z→Goal c K ⟨k,J z,[]⟩):Goal c K ⟨.code x::k,S,[]⟩:=by
 let r:Act→World→Prop:=fun a w=>aR c.F c.P c.R k .normal a w
 have hr:∀z,E z→Goal c K ⟨.hole r::k,J z,[]⟩:=fun z hz=>.mk0 (fun X μ a w H=>by simpa[aR,r]using mQ hk (h1 z hz) X μ a w H)
 have h3:=(h2 r hr).so
 refine .mk0 (fun X μ a w H=>?_);have h3:=h3 X μ a w H
 simp only[aR]at h3 ⊢;refine wpIn_mono h3 fun e a w hq=>?_
 cases e<;>simpa[aR,r]using hq
theorem cP {c:Cx}{P:Program}{ty:Nat→Option TyI}{nt:Nat}{K:List KF}(hc:Ctx c P ty nt){all:Array Oper}{i n0:Nat}{K0:List KF}{k:List KI}{S:St}(o:Oper)(ho:all[i]?=some o)(hg:guardOf all S.sl o=some true)(hd:cF nt o.dst=true){r:Rs}(hr:fop ty n0 (fl S o) o.op=some r)(hob:r.ob=[])(n:Nat)
  (h:Goal c K (run ty nt K n (.dops all (i+1) n0 K0::k) (S.put o.dst r.av r.nb) [])):Goal c K ⟨.dops all i n0 K0::k,S,[]⟩:=by
 have hs:=dP hc n h
 refine .mk0 (show DPath c all n0 K0 k i S K from ?_);refine DPath.op (Kn:=[]) (ow:=(fl S o).ow) ho hg (by rw[hc.hnt];exact hd) (jN (r:=r) (by rw[hc.hty];exact hr) (by rw[hob];trivial) (fun t ht=>by simp only[uV,dO,List.mem_append];exact .inl (fA (by simpa using ht)))) (fun _=>rfl) ?_ hs;rw[show(if bZ o then(fl S o).ow else S.ow)=S.ow by unfold fl;split<;>rfl];exact Wk.refl _
inductive RV1 | one (c:CF) | agg (cs:List CF)
inductive RV | sg (r:RV1) | tp (l:List RV1)
def jM:List CF→List Value→(Nat→Prop)→World→Prop
 | [],[],_,_=>True
 | c::cs,v::vs,X,w=>c.ok v X w∧jM cs vs X w
 | _,_,_,_=>False
def RV1.p:RV1→Value→(Nat→Prop)→World→Prop
 | .one c,v,X,w=>c.ok v X w
 | .agg cs,v,X,w=>∃vs,v=.agg vs.toArray∧jM cs vs X w
def kO:List RV1→List Value→(Nat→Prop)→World→Prop
 | [],[],_,_=>True
 | r::rs,v::vs,X,w=>r.p v X w∧kO rs vs X w
 | _,_,_,_=>False
def RV.p:RV→Value→(Nat→Prop)→World→Prop
 | .sg r,v,X,w=>r.p v X w
 | .tp l,v,X,w=>∃vs,v=.tuple vs.toArray∧kO l vs X w
def RV1.cells:RV1→List CF
 | .one c=>[c]
 | .agg cs=>cs
def RV.cells:RV→List CF
 | .sg r=>r.cells
 | .tp l=>l.flatMap RV1.cells
section
variable {X X':Nat→Prop}{w w':World}
theorem aC8 (hs:∀k,X k→X' k)(hw:∀k,X k→w'.heap[k]?=w.heap[k]?):∀{cs:List CF} {vs:List Value},jM cs vs X w→jM cs vs X' w'
 | [],[],_=>trivial
 | c::cs,v::vs,h=>⟨CF.ok_st hs hw h.1,aC8 hs hw h.2⟩
 | [],_::_,h=>h.elim
 | _::_,[],h=>h.elim
theorem RV1.p_st (hs:∀k,X k→X' k)(hw:∀k,X k→w'.heap[k]?=w.heap[k]?){r:RV1}{v:Value}(h:r.p v X w):r.p v X' w':=by
 cases r with
 | one c=>exact CF.ok_st hs hw h
 | agg cs=>obtain⟨vs,h1,h2⟩:=h;exact⟨vs,h1,aC8 hs hw h2⟩
theorem aDy (hs:∀k,X k→X' k)(hw:∀k,X k→w'.heap[k]?=w.heap[k]?):∀{rs:List RV1} {vs:List Value},kO rs vs X w→kO rs vs X' w'
 | [],[],_=>trivial
 | c::cs,v::vs,h=>⟨RV1.p_st hs hw h.1,aDy hs hw h.2⟩
 | [],_::_,h=>h.elim
 | _::_,[],h=>h.elim
theorem RV.p_st (hs:∀k,X k→X' k)(hw:∀k,X k→w'.heap[k]?=w.heap[k]?){r:RV}{v:Value}(h:r.p v X w):r.p v X' w':=by
 cases r with
 | sg r=>exact RV1.p_st hs hw h
 | tp l=>obtain⟨vs,h1,h2⟩:=h;exact⟨vs,h1,aDy hs hw h2⟩
theorem aAn:∀{cs:List CF} {vs:List Value},jM cs vs X w→∀(j:Nat) (c:CF),cs[j]?=some c→∃v,vs[j]?=some v∧c.ok v X w
 | [],[],_,j,c,hj=>by simp at hj
 | d::cs,v::vs,h,0,c,hj=>by simp at hj;subst hj;exact⟨v,rfl,h.1⟩
 | d::cs,v::vs,h,j+1,c,hj=>by simp at hj ⊢;exact aAn h.2 j c hj
 | [],_::_,h,_,_,_=>h.elim
 | _::_,[],h,_,_,_=>h.elim
theorem sX:∀{cs:List CF} {vs:List Value},jM cs vs X w→vs.length=cs.length
 | [],[],_=>rfl
 | d::cs,v::vs,h=>by simp[sX h.2]
 | [],_::_,h=>h.elim
 | _::_,[],h=>h.elim
theorem sW:∀{cs ds:List CF} {vs us:List Value},jM cs vs X w→jM ds us X w→jM (cs++ds) (vs++us) X w
 | [],ds,[],us,_,h=>h
 | c::cs,ds,v::vs,us,h,h'=>⟨h.1,sW h.2 h'⟩
 | [],_,_::_,_,h,_=>h.elim
 | _::_,_,[],_,h,_=>h.elim
theorem RV1.cells_p {r:RV1}{v:Value}(h:r.p v X w):jM r.cells v.cells.toList X w:=by
 cases r with
 | one c=>
  have h:c.ok v X w:=h
  rw[cells_one (CF.ok_one h)];exact⟨h,trivial⟩
 | agg cs=>obtain⟨vs,rfl,h2⟩:=h;simpa[RV1.cells,Value.cells]using h2
theorem aMr:∀{rs:List RV1} {vs:List Value},kO rs vs X w→jM (rs.flatMap RV1.cells) (vs.flatMap fun v=>v.cells.toList) X w
 | [],[],_=>trivial
 | r::rs,v::vs,h=>by simp only[List.flatMap_cons];exact sW (RV1.cells_p h.1) (aMr h.2)
 | [],_::_,h=>h.elim
 | _::_,[],h=>h.elim
theorem aDq {v:Value}(h:∀vs,v≠.tuple vs):oL v=v.cells.toList:=by
 cases v<;>first | rfl | exact absurd rfl (h _)
theorem RV1.not_tuple {r:RV1}{v:Value}(h:r.p v X w)(vs:Array Value):v≠.tuple vs:=by
 intro e;subst e;cases r with
 | one c=>have h1:=CF.ok_one (show c.ok _ X w from h);cases h1
 | agg cs=>obtain⟨us,h1,_⟩:=h;cases h1
theorem RV.cells_p {R:RV}{v:Value}(h:R.p v X w):jM R.cells (oL v) X w:=by
 cases R with
 | sg r=>rw[aDq (RV1.not_tuple h)];exact RV1.cells_p h
 | tp l=>obtain⟨vs,rfl,h2⟩:=h;simpa[RV.cells,oL]using aMr h2
end
def wA (R:RV):VF:=⟨R.p,fun _ _ _ _ _ hs hw h=>RV.p_st hs hw h⟩
def CF.av (k j:Nat):CF→AV
 | .s e=>.s e
 | .b e=>.b e
 | .i kd e=>.i kd e
 | .x _=>.ec k j
def aUc (k:Nat):Nat→List CF→List AV
 | _,[]=>[]
 | j,c::cs=>c.av k j::aUc k (j+1) cs
def RV1.av (k j:Nat):RV1→AV
 | .one c=>c.av k j
 | .agg cs=>.g (aUc k j cs)
def tAV (k:Nat):Nat→List RV1→List AV
 | _,[]=>[]
 | j,r::rs=>r.av k j::tAV k (j+r.cells.length) rs
def RV.av (k:Nat):RV→AV
 | .sg r=>r.av k 0
 | .tp l=>.t (tAV k 0 l)
section
variable {X:Nat→Prop}{w:World}{μ:Mu}
theorem aLy {k j:Nat}{c:CF}{v u:Value}(hm:μ k=some (.val v))(hj:(oL v)[j]?=some u)(h:c.ok u X w):aC μ (c.av k j)=some u:=by
 cases c with
 | s e=>have h:u=_:=h;subst h;rfl
 | b e=>have h:u=_:=h;subst h;rfl
 | i kd e=>have h:u=_:=h;subst h;rfl
 | x R=>
  simp only[CF.av,aC,hm,cellV,hj];rw[if_pos h.1]
theorem aGq {k:Nat}{v:Value}(hm:μ k=some (.val v)):∀{cs:List CF} {us:List Value} {j:Nat} {rest:List Value},(oL v).drop j=us++rest→jM cs us X w→aH μ (aUc k j cs)=some us
 | [],[],j,rest,_,_=>rfl
 | c::cs,u::us,j,rest,hd,h=>by
  have h1:(oL v)[j]?=some u:=by
   have:=congrArg (·[0]?) hd
   simpa[List.getElem?_drop]using this
  have h2:(oL v).drop (j+1)=us++rest:=by
   have:=congrArg (List.drop 1) hd
   simpa[List.drop_drop]using this
  simp only[aUc,aH,aLy hm h1 h.1,aGq hm h2 h.2]
 | [],_::_,_,_,_,h=>h.elim
 | _::_,[],_,_,_,h=>h.elim
theorem aIg {k:Nat}{v:Value}(hm:μ k=some (.val v)){r:RV1}{u:Value}{j:Nat}{rest:List Value}(hd:(oL v).drop j=u.cells.toList++rest)(h:r.p u X w):aC μ (r.av k j)=some u:=by
 cases r with
 | one c=>
  have h:c.ok u X w:=h
  rw[cells_one (CF.ok_one h)]at hd;have h1:(oL v)[j]?=some u:=by
   have:=congrArg (·[0]?) hd
   simpa[List.getElem?_drop]using this
  exact aLy hm h1 h
 | agg cs=>
  obtain⟨vs,rfl,h2⟩:=h;have:=aGq hm (by simpa[Value.cells]using hd) h2
  simp only[RV1.av,aC,this]
theorem aTa {k:Nat}{v:Value}(hm:μ k=some (.val v)):∀{rs:List RV1} {us:List Value} {j:Nat},(oL v).drop j=us.flatMap (fun v=>v.cells.toList)→kO rs us X w→aH μ (tAV k j rs)=some us
 | [],[],j,_,_=>rfl
 | r::rs,u::us,j,hd,h=>by
  rw[List.flatMap_cons]at hd;have h2:(oL v).drop (j+r.cells.length)=us.flatMap (fun v=>v.cells.toList):=by
   have:=congrArg (List.drop u.cells.toList.length) hd
   rw[List.drop_drop,List.drop_left]at this;rw[←this,←sX (RV1.cells_p h.1)]
  simp only[tAV,aH,aIg hm hd h.1,aTa hm h2 h.2]
 | [],_::_,_,_,h=>h.elim
 | _::_,[],_,_,h=>h.elim
theorem aMw {k:Nat}{v:Value}(hm:μ k=some (.val v)){R:RV}(h:R.p v X w):aC μ (R.av k)=some v:=by
 cases R with
 | sg r=>exact aIg hm (rest:=[]) (by rw[aDq (RV1.not_tuple h)];simp) h
 | tp l=>
  obtain⟨vs,rfl,h2⟩:=h;have:=aTa hm (j:=0) (by simp[oL]) h2
  simp only[RV.av,aC,this]
end
section
variable {c:Cx}{P:Program}{ty:Nat→Option TyI}{nt:Nat}{K:List KF}{S:St}{X:Nat→Prop}{μ:Mu}{a:Act}{w:World}{n0:Nat}{D:Nat→Prop}
inductive eH (K:List KF):AV→CF→Prop
 | s {e e':SE} (h:e.den=e'.den):eH K (.s e) (.s e')
 | b {e e':BE} (h:e.den=e'.den):eH K (.b e) (.b e')
 | i {k:IntKind} {e e':IE} (h:e.den=e'.den):eH K (.i k e) (.i k e')
 | ec {k j:Nat} {F:VF} {R:RV} {c:CF} (m:KF.at k F∈K) (hF:F=wA R) (h:R.cells[j]?=some c):eH K (.ec k j) c
 | sx {e:SE} {R:VF} (h:∀X w,R.p (.string e.den) X w):eH K (.s e) (.x R)
 | any {av:AV} {c:CF} (h:∀X μ w v,(∀f,f∈K→f.p X μ w)→aC μ av=some v→c.ok v X w):eH K av c
theorem eH.ok {av:AV}{cf:CF}{v:Value}(h:eH K av cf)(hK:∀f,f∈K→f.p X μ w)(hv:aC μ av=some v):cf.ok v X w:=by
 cases h with
 | s h=>rw[dH hv,h];rfl
 | b h=>rw[fU hv,h];rfl
 | i h=>rw[bQ hv,h];rfl
 | sx h=>rw[dH hv];exact⟨rfl,h X w⟩
 | any h=>exact h X μ w v hK hv
 | ec m hF h=>
  obtain⟨u,h1,h2⟩:=hK _ m;rw[hF]at h2;have h2:RV.p _ u X w:=h2
  obtain⟨x,q1,q2⟩:=aAn (RV.cells_p h2) _ _ h;simp only[aC,h1,cellV,q1]at hv;rw[if_pos (CF.ok_one q2)]at hv;injection hv with hv;subst hv;exact q2
def rT (K:List KF):List AV→List CF→Prop
 | [],[]=>True
 | a::zas,c::cs=>eH K a c∧rT K zas cs
 | _,_=>False
def yC (K:List KF):AV→RV1→Prop
 | a,.one c=>eH K a c
 | .g l,.agg cs=>rT K l cs
 | _,_=>False
def oX (K:List KF):List AV→List RV1→Prop
 | [],[]=>True
 | a::zas,r::rs=>yC K a r∧oX K zas rs
 | _,_=>False
theorem rT.ok (hK:∀f,f∈K→f.p X μ w):∀{zas:List AV} {cs:List CF} {vs:List Value},rT K zas cs→aH μ zas=some vs→jM cs vs X w
 | [],[],vs,_,hv=>by simp[aH]at hv;subst hv;trivial
 | a::zas,c::cs,vs,h,hv=>by
  simp only[aH]at hv;split at hv
  ·rename_i v us h1 h2;injection hv with hv;subst hv
   exact⟨h.1.ok hK h1,rT.ok hK h.2 h2⟩
  ·cases hv
 | [],_::_,_,h,_=>h.elim
 | _::_,[],_,h,_=>h.elim
theorem yC.ok (hK:∀f,f∈K→f.p X μ w){av:AV}{r:RV1}{v:Value}(h:yC K av r)(hv:aC μ av=some v):r.p v X w:=by
 cases r with
 | one c=>unfold yC at h;exact eH.ok h hK hv
 | agg cs=>
  cases av with
  | g l=>
   obtain⟨vs,h1,rfl⟩:=xF hv;exact⟨vs,rfl,rT.ok hK h h1⟩
  | _=>exact h.elim
theorem oX.ok (hK:∀f,f∈K→f.p X μ w):∀{zas:List AV} {rs:List RV1} {vs:List Value},oX K zas rs→aH μ zas=some vs→kO rs vs X w
 | [],[],vs,_,hv=>by simp[aH]at hv;subst hv;trivial
 | a::zas,r::rs,vs,h,hv=>by
  simp only[aH]at hv;split at hv
  ·rename_i v us h1 h2;injection hv with hv;subst hv
   exact⟨yC.ok hK h.1 h1,oX.ok hK h.2 h2⟩
  ·cases hv
 | [],_::_,_,h,_=>h.elim
 | _::_,[],_,h,_=>h.elim
def yY (P:Program)(g:Nat)(rs:List RV1)(R:RV):Prop:=
 ∀args X w,(∀b,X b→b<w.heap.size)→kO rs args X w→Fn P g args X w (wA R)
theorem aGo {o:Oper}{g:Nat}{avs:List AV}{rs:List RV1}{R:RV}{F:VF}(hF:F=wA R)(h:gT S.sl o.op=some (g,avs))(hD:∀t,Operand.tmp t∈o.op.operands→D t)(hg:aB c.P g)
  (hs:yY c.P g rs R) (ha:oX K avs rs):Cert c K n0 D S o (R.av S.hp.length) (some .e) [KF.at S.hp.length F] S.ow:=by
 intro X μ a w next Q H hfr hn
 obtain⟨aL,h1,h2⟩:=qZ H h hD hg;refine oV h2 (Calls.mono (hs aL X w H.xlt (ha.ok H.kf h1) H.glob) ?_);rintro e w' ⟨v,X',rfl,hb,hs,hx,hr⟩;refine⟨v,rfl,?_⟩;refine hn X' (μ.upd S.hp.length (.val v)) v w' ⟨hb.mono H.bel.size,fun b hb' _=>hb.block b hb',aMw (X:=X') (w:=w') (Mu.upd_same _ _ _) hr,⟨.val v,rfl,trivial,fun b e=>by cases e⟩,hs,fun b hb'=>(hx b hb').imp id .inl,
  H.own.keep (Mu.le_upd (hfr rfl)) hb.size hb.block (fun b hb'=>(hx b hb').imp id (·.1)) (fun k b hk=>?_)⟩ (fun f hf'=>?_)
 ·unfold Mu.upd at hk;split at hk
  ·injection hk with hk;cases hk
  ·exact .inl hk
 ·simp only[List.mem_singleton]at hf';subst hf';exact⟨v,Mu.upd_same _ _ _,by rw[hF];exact hr⟩
theorem dZ (hc:Ctx c P ty nt){g:Nat}{avs:List AV}{all:Array Oper}{i:Nat}{k:List KI}{rs:List RV1}{R:RV}(hg:aB P g)(hs:yY P g rs R)(ha:oX K avs rs)(av:AV)(hav:R.av S.hp.length=av)(n:Nat)
  (h:∀F,F=wA R→Goal c (KF.at S.hp.length F::K) (run ty nt (KF.at S.hp.length F::K) n (.ops all (i+1)::k) (S.putO (eU all i) av (some .e) S.ow) [])):Goal c K ⟨.cal g avs all i::k,S,[]⟩:=by
 subst hav;exact .mk0 (xR (Kn:=[KF.at S.hp.length (wA R)]) (fun o n0 D ho hD _=>aGo rfl ho hD (hc.hP▸hg) (hc.hP▸hs) ha) (dP hc n (h _ rfl)))
theorem aKs (hc:Ctx c P ty nt){g:Nat}{avs:List AV}{all:Array Oper}{i n0:Nat}{K0:List KF}{k:List KI}{rs:List RV1}{R:RV}(hg:aB P g)(hs:yY P g rs R)(ha:oX K avs rs)(av:AV)(hav:R.av S.hp.length=av)(n:Nat)
  (h:∀F,F=wA R→Goal c (KF.at S.hp.length F::K) (run ty nt (KF.at S.hp.length F::K) n (.dops all (i+1) n0 K0::k) (S.putO (eU all i) av (some .e) S.ow) [])):Goal c K ⟨.dcal g avs all i n0 K0::k,S,[]⟩:=by
 subst hav;exact .mk0 (sK (Kn:=[KF.at S.hp.length (wA R)]) (fun o D ho hD=>aGo rfl ho hD (hc.hP▸hg) (hc.hP▸hs) ha) (dP hc n (h _ rfl)))
def aJ4:Nat→List RV1→List AV
 | _,[]=>[]
 | k,r::rs=>r.av k 0::aJ4 (k+1) rs
def xL:Nat→List VF→List KF
 | _,[]=>[]
 | k,F::Fs=>KF.at k F::xL (k+1) Fs
def aE8:List VF→List RV1→Prop
 | [],[]=>True
 | F::Fs,r::rs=>F=wA (.sg r)∧aE8 Fs rs
 | _,_=>False
theorem aHl:∀(rs:List RV1) (k j:Nat),(aJ4 k rs)[j]?=(rs[j]?).map fun r=>r.av (k+j) 0
 | [],k,j=>by simp[aJ4]
 | r::rs,k,0=>by simp[aJ4]
 | r::rs,k,j+1=>by simp only[aJ4,List.getElem?_cons_succ,aHl rs (k+1) j];congr 2;funext r;congr 1;omega
theorem aHm:∀(Fs:List VF) (rs:List RV1) (k:Nat),aE8 Fs rs→∀f,f∈xL k Fs→∃j r,rs[j]?=some r∧f=KF.at (k+j) (wA (.sg r))
 | [],_,k,_,f,hf=>by cases hf
 | F::Fs,r::rs,k,h,f,hf=>by
  rcases List.mem_cons.1 hf with e | e
  ·exact⟨0,r,rfl,by rw[e,h.1];rfl⟩
  ·obtain⟨j,r',h1,h2⟩:=aHm Fs rs (k+1) h.2 f e;exact⟨j+1,r',by simpa using h1,by rw[h2,show k+1+j=k+(j+1) by omega]⟩
 | _::_,[],_,h,_,_=>h.elim
theorem uA:∀{rs:List RV1} {vs:List Value},kO rs vs X w→∀(j:Nat) (r:RV1),rs[j]?=some r→∃v,vs[j]?=some v∧r.p v X w
 | [],[],_,j,r,hj=>by simp at hj
 | d::rs,v::vs,h,0,r,hj=>by simp at hj;subst hj;exact⟨v,rfl,h.1⟩
 | d::rs,v::vs,h,j+1,r,hj=>by simp at hj ⊢;exact uA h.2 j r hj
 | [],_::_,h,_,_,_=>h.elim
 | _::_,[],h,_,_,_=>h.elim
theorem oE:∀{rs:List RV1} {vs:List Value},kO rs vs X w→vs.length=rs.length
 | [],[],_=>rfl
 | d::rs,v::vs,h=>by simp[oE h.2]
 | [],_::_,h=>h.elim
 | _::_,[],h=>h.elim
theorem yR:∀(l:List Value) (i t:Nat) (v:Value),l[t]?=some v→look (oW i (l.map AV.q)) (i+t)=some (.q v)
 | [],i,t,v,h=>by simp at h
 | u::l,i,0,v,h=>by simp at h;subst h;simp[oW,look]
 | u::l,i,t+1,v,h=>by
  simp at h;have:=yR l (i+1) t v h
  rw[show i+1+t=i+(t+1) by omega]at this;simp only[List.map_cons,oW];rw[bA (by omega)];exact this
theorem aL3:∀(l:List Value),aH iJ (l.map AV.q)=some l
 | []=>rfl
 | v::l=>by simp only[List.map_cons,aH,aC,aL3 l]
def aUl:List Value→List RV1→List KF
 | v::vs,r::rs=>KF.cst v (wA (.sg r))::aUl vs rs
 | _,_=>[]
theorem aQl:∀{args:List Value} {rs:List RV1},kO rs args X w→∀f,f∈aUl args rs→f.p X μ w
 | [],[],_,f,hf=>by cases hf
 | v::vs,r::rs,h,f,hf=>by
  rcases List.mem_cons.1 hf with e | e
  ·subst e;exact h.1
  ·exact aQl h.2 f e
 | [],_::_,h,_,_=>h.elim
 | _::_,[],h,_,_=>h.elim
theorem aDd:∀{args:List Value} {rs:List RV1},args.length=rs.length→(∀f,f∈aUl args rs→f.p X μ w)→kO rs args X w
 | [],[],_,_=>trivial
 | v::vs,r::rs,hl,h=>⟨h _ (.head _),aDd (by simpa using hl) (fun f hf=>h f (.tail _ hf))⟩
theorem bAb {args:List Value}{rs:List RV1}{K0:List KF}(H:Sim c K0 ⟨oW 0 (args.map AV.q),[],[]⟩ X μ a w)(hp:kO rs args X w)(Fs:List VF)(hF:aE8 Fs rs):
  Sim c (xL 0 Fs) ⟨oW 0 (aJ4 0 rs),List.replicate rs.length .e,[]⟩ X (fun k=>(args[k]?).map MV.val) a w:=by
 have P:=H.toP
 have hlen:=oE hp
 refine⟨⟨P.dfr,P.size,?_,?_,?_,?_,?_,P.xlt,P.xnew,P.xold,P.bel,?_,OwnOk.nil _ _ _ _⟩,?_⟩
 ·intro t av _ ht;obtain⟨_,h2⟩:=lX _ _ _ _ ht;rw[Nat.sub_zero,aHl]at h2;cases hr:rs[t]? with
  | none=>rw[hr]at h2;cases h2
  | some r=>
   rw[hr]at h2;simp only[Option.map_some,Option.some.injEq,Nat.zero_add]at h2;subst h2;obtain⟨v,q1,q2⟩:=uA hp t r hr;have hl:=yR args 0 t v q1
   rw[Nat.zero_add]at hl;obtain⟨u,e1,e2⟩:=P.slots t _ trivial hl;simp only[aC,Option.some.injEq]at e1;subst e1;exact⟨v,aMw (R:=.sg r) (by simp[q1]) q2,e2⟩
 ·intro k blk m hk hm;simp only[Option.map_eq_some_iff]at hm;obtain⟨v,_,rfl⟩:=hm;rw[List.getElem?_replicate]at hk;split at hk
  ·injection hk with hk;subst hk;exact trivial
  ·cases hk
 ·intro k hk;simp only[List.length_replicate]at hk;exact⟨.val args[k],by simp[List.getElem?_eq_getElem (show k<args.length by omega)]⟩
 ·intro k k' b h1 h2;simp only[Option.map_eq_some_iff]at h1;obtain⟨v,_,h⟩:=h1;cases h
 ·intro k b h1;simp only[Option.map_eq_some_iff]at h1;obtain⟨v,_,h⟩:=h1;cases h
 ·intro f hf;obtain⟨j,r,h1,rfl⟩:=aHm Fs rs 0 hF f hf;obtain⟨v,q1,q2⟩:=uA hp j r h1;exact⟨v,by simp[q1],q2⟩
 ·intro k hk;simp only[List.length_replicate]at hk;simp[List.getElem?_eq_none (show args.length≤k by omega)]
theorem oA (hm:P.follows .mixedOrders=true)(tok:∀t i,ty t=some i→TyOk P t i){g:Nat}{fn:Func}{code:Code}{rs:List RV1}{R:RV}
  (hf:P.funcs[g]?=some fn) (hb:fn.body=some code) (hn:Nat.ble rs.length fn.ntmps=true) (hnt:fn.ntmps=nt) (Fs:List VF) (hF:aE8 Fs rs)
  (h:∀(c:Cx) (G:VF),G=wA R→Ctx c P ty nt→aT1 c fn G→Goal c (xL 0 Fs) ⟨[.code code],⟨oW 0 (aJ4 0 rs),List.replicate rs.length .e,[]⟩,[]⟩):yY P g rs R:=by
 intro args X w hx hp;have hlen:=oE hp
 refine bE (K:=aUl args rs) hm tok (args.map AV.q) hf hb (aL3 args) (by rw[hlen];exact lbl hn) hnt hx (aQl hp) fun c hc hR=>?_
 have h':=(h c _ rfl hc hR).so
 refine .mk0 (fun X' μ a w' H=>?_);exact h' X' _ a w' (bAb H (aDd hlen H.toP.kf) Fs hF)
def aPc (K:List KF):AV→RV→Prop
 | .t l,.tp rs=>oX K l rs
 | a,.sg r=>yC K a r
 | _,_=>False
theorem aPc.ok (hK:∀f,f∈K→f.p X μ w){av:AV}{R:RV}{v:Value}(h:aPc K av R)(hv:aC μ av=some v):R.p v X w:=by
 cases R with
 | sg r=>
  have h:yC K av r:=by cases av<;>exact h
  exact yC.ok hK h hv
 | tp rs=>
  cases av with
  | t l=>
   obtain⟨vs,h1,rfl⟩:=mH hv;exact⟨vs,rfl,oX.ok hK h h1⟩
  | _=>exact h.elim
theorem iP (hc:Ctx c P ty nt){fn:Func}{G:VF}{R:RV}(hG:G=wA R)(hR:aT1 c fn G){av:AV}(h:oR ty S fn.results.toList=some av)(hr:aPc K av R):Goal c K ⟨[],S,[]⟩:=by
 subst hG;exact aS hc hR h fun X μ a w v H hv=>hr.ok H.toP.kf hv
end
end Go.Ai
namespace Go.Ai
open Go
section
variable {c:Cx}{P:Program}{ty:Nat→Option TyI}{nt:Nat}{K:List KF}{S:St}
theorem aBy {ks:List KI}{e:Nat}{kd:IntKind}{G:Option Addr→Nat→Nat→List Int→OF}(hG:∀a n cap l,G a n cap l=OF.row (.slice a n cap) c.B.heap.size e kd l)(hp:okc ks=true)
  (h:Goal c K ⟨ks,{S with ow:=G none 0 0 []::S.ow},[]⟩):Goal c K ⟨ks,S,[]⟩:=by
 rw[hG]at h;refine nV hp (fun X μ a w H=>?_) h rfl;have P:=H.toP
 refine⟨X,μ,⟨P.dfr,P.size,P.slots,P.heap,P.all,P.inj,P.loc,P.xlt,P.xnew,P.xold,P.bel,P.kf,?_⟩,H.dom⟩;refine⟨fun f hf=>?_,List.Pairwise.cons (fun g hg b hb=>?_) P.own.apart⟩
 ·rcases List.mem_cons.1 hf with e | e
  ·subst e;exact⟨World.ownsRow_nil _ _ _ _,fun b hb=>by cases hb⟩
  ·exact P.own.at_ f e
 ·cases hb
theorem xT {ks:List KI}(d:Nat){av:AV}(R:VF)(hp:iO ks=true)(hl:look S.sl d=some av)(hr:∀X μ a w v,Sim c K S X μ a w→aC μ av=some v→R.p v X w)
  (h:∀v,Goal c (KF.cst v R::K) ⟨ks,{S with sl:=(d,.q v)::S.sl},[]⟩):Goal c K ⟨ks,S,[]⟩:=by
 refine gO (ι:=Value) (K':=fun v=>KF.cst v R::K) (S':=fun v=>{S with sl:=(d,.q v)::S.sl}) (p:=fun _=>True) hp (fun X μ a w H=>?_) (fun v _=>h v);obtain⟨v,h1,h2⟩:=H.toP.slots d av trivial hl;exact⟨v,X,μ,trivial,pZ (S:={S with sl:=(d,.q v)::S.sl}) (f:=KF.cst v R) (iC H hl (by rw[h1];rfl)) (hr X μ a w v H h1)⟩
theorem aLc {X:Nat→Prop}{μ:Mu}{a:Act}{w:World}{F:VF}{R:RV}{k j:Nat}{N:VF}{v:Value}(H:Sim c K S X μ a w)(m:KF.at k F∈K)(hF:F=wA R)(h:R.cells[j]?=some (.x N))(hv:aC μ (.ec k j)=some v):N.p v X w:=
 ((eH.ec m hF h).ok H.toP.kf hv).2
theorem aMz (hc:Ctx c P ty nt){ι:Type}(I:ι→St)(KK:ι→List KF)(m:ι→Nat)(x0:ι){b:Code}{k:List KI}
  (h:∀(p:Act→World→Prop) x,(∀y,m y<m x→Goal c (KK y) ⟨.hole p::k,I y,[]⟩)→Goal c (KK x) ⟨.code b::.hole p::k,I x,[]⟩):Goal c (KK x0) ⟨.code (.loop b)::k,I x0,[]⟩:=
 .mk0 (aB3 I KK m (fun p x hy=>(h p x (fun y hlt=>.mk0 (hy y hlt))).so) x0)
theorem aW (n:Nat){b:Code}{k:List KI}
  (h:∀p:Nat→Act→World→Prop,(∀m K' S',Goal c K' ⟨.code b::.hole (p m)::k,S',[]⟩→Goal c K' ⟨.hole (p (m+1))::k,S',[]⟩)→Goal c K ⟨.hole (p n)::k,S,[]⟩):Goal c K ⟨.code (.loop b)::k,S,[]⟩:=by
 have h1:=h (fun m=>Code.roundsIn c.F 0 c.P b (aR c.F c.P c.R k) m) (fun m K' S' g=>.mk0 (fun X μ a w H=>by
  have:=g.so X μ a w H
  simp only[aR]at this ⊢;rw[roundsIn_succ];exact wpIn_mono this fun e a w hq=>by cases e<;>simpa[aR,Exit.then]using hq))
 refine .mk0 (fun X μ a w H=>?_);have:=h1.so X μ a w H
 simp only[aR]at this ⊢;exact wpIn_loop_rounds n this
def KF.fr (l:List (Nat × AV))(tm:Array Value):KF:=
 ⟨fun _ μ _=>∀t av,look l t=some av→∃v,aC μ av=some v∧tm[t]?=some v,fun _ _ _ _ _ _ _ hv _ h t av hl=>by
  obtain⟨v,h1,h2⟩:=h t av hl;exact⟨v,aGw hv _ _ h1,h2⟩⟩
theorem aBi:∀{l:List (Nat × AV)} {t:Nat} {av:AV},look l t=some av→∃x∈l,x.2=av
 | (j,a)::l,t,av,h=>by
  simp only[look]at h;split at h
  ·injection h with h;exact⟨_,.head _,h⟩
  ·obtain⟨x,h1,h2⟩:=aBi h;exact⟨x,.tail _ h1,h2⟩
theorem KFr.fr {n:Nat}{l:List (Nat × AV)}(h:l.all (fun x=>x.2.lt n)=true)(tm:Array Value):KFr n (KF.fr l tm):=⟨fun X μ w hp t av hl=>by
 obtain⟨v,h1,h2⟩:=hp t av hl;obtain⟨x,hx,rfl⟩:=aBi hl;exact⟨v,by rw[aAt _ (List.all_eq_true.1 h x hx)];exact h1,h2⟩⟩
structure Link (c c':Cx)(fn:Func)(all:Array Oper)(i:Nat)(k:List KI)(tm:Array Value):Prop where
 out:∃(o:Oper) (a:Act),all[i]?=some o∧a.tmps=tm∧a.defers=c.df∧tm.size=c.nt∧cF c.nt o.dst=true∧c'.df=[]∧c'.R=aDh c.P fn (fun v w'=>aR c.F c.P c.R (.ops all (i+1)::k) .normal (a.put o.dst v) w')
 B:c'.B=c.B
 X0:c'.X0=c.X0
 P:c'.P=c.P
 ty:c'.ty=c.ty
theorem cJ (hc:Ctx c P ty nt){g:Nat}{fn:Func}{code:Code}{avs:List AV}{all:Array Oper}{i:Nat}{k:List KI}(hf:P.funcs[g]?=some fn)(hb:fn.body=some code)(hn:Nat.ble avs.length fn.ntmps=true)(hg:aB P g){nt':Nat}(hnt:fn.ntmps=nt')
  (h:∀c' tm FR,FR=KF.fr S.sl tm→Ctx c' P ty nt'→Link c c' fn all i k tm→Goal c' (FR::K) ⟨[.code code],⟨oW 0 avs,S.hp,S.ow⟩,[]⟩):Goal c K ⟨.cal g avs all i::k,S,[]⟩:=by
 subst hnt;refine .mk0 ?_;rintro ⟨o,ho,yM,hd,hgd⟩ X μ a w H;have P':=H.toP
 have hlt:i<all.size:=(Array.getElem?_eq_some_iff.1 ho).1
 simp only[aR];rw[fW hlt];simp only[wpOpsIn,ho];rw[if_pos (cC P' hgd (fun _ _=>trivial))];obtain⟨aL,h1,h2⟩:=qZ P' yM (fun _ _=>trivial) (hc.hP▸hg);have hlen:=aY h1
 have hn:=lbl hn
 let RR:Value→World→Prop:=fun v w'=>aR c.F c.P c.R (.ops all (i+1)::k) .normal (a.put o.dst v) w'
 let c':Cx:=⟨c.P,c.ty,c.tok,fn.ntmps,c.B,c.X0,c.gB,aDh c.P fn RR,none,[]⟩
 have hL:Link c c' fn all i k a.tmps:=⟨⟨o,a,ho,rfl,P'.dfr,P'.size,hd,rfl,rfl⟩,rfl,rfl,rfl,rfl⟩
 have G:=(h c' a.tmps _ rfl ⟨hc.hP,hc.hty,rfl,hc.hm⟩ hL).so X μ {tmps:=aL.toArray++Array.replicate (fn.ntmps - aL.length) undef,defers:=[]} w
  ⟨⟨rfl,by show(aL.toArray++Array.replicate (fn.ntmps - aL.length) undef).size=fn.ntmps;simp;omega,?_,P'.heap,P'.all,P'.inj,P'.loc,P'.xlt,P'.xnew,P'.xold,P'.bel,fun f hf=>?_,P'.own⟩,H.dom⟩
 ·refine oV h2 (Calls.mono (calls_of_wp (hc.hP▸hf) hb (R:=fun e w''=>∃v,e=.returned v∧RR v w'') ((wpIn_wide (n:=0)).1 ?_)) (fun e w'' he=>he));have hsz:aL.toArray.size=aL.length:=by simp
  rw[hsz];refine wpIn_mono G fun e a' w' hq=>?_
  cases e<;>simp only[aR]at hq
  ·obtain⟨q1,v,q2,q3⟩:=hq;exact⟨q1,v,q2,by simpa[aR,RR]using q3⟩
  ·obtain⟨q1,v,q2,q3⟩:=hq;exact⟨q1,v,q2,by simpa[aR,RR]using q3⟩
 ·intro t av _ hl;obtain⟨_,e1⟩:=lX _ _ _ _ hl;obtain⟨v,e2,e3⟩:=gF h1 t av (by simpa using e1);refine⟨v,e3,?_⟩;have hlt:=(List.getElem?_eq_some_iff.1 e2).1
  simp only[Array.getElem?_append,List.size_toArray];rw[if_pos hlt]
  simpa using e2
 ·rcases List.mem_cons.1 hf with e | e
  ·subst e;exact fun t av hl=>P'.slots t av trivial hl
  ·exact P'.kf f e
theorem cL {c':Cx}{K':List KF}{nt':Nat}(hc':Ctx c' P ty nt'){fn:Func}{all:Array Oper}{i:Nat}{k:List KI}{tm:Array Value}(L:Link c c' fn all i k tm){l:List (Nat × AV)}{FR:KF}(hFR:FR=KF.fr l tm)(hm:FR∈K'){S:St}{av:AV}
  (h:oR ty S fn.results.toList=some av) (aMb:Goal c K' ⟨.ops all (i+1)::k,⟨match eU all i with | some d=>(d,av)::l | none=>l,S.hp,S.ow⟩,[]⟩):Goal c' K' ⟨[],S,[]⟩:=by
 obtain⟨o,a,ho,ha,hdf,hsz,hd,bD5,hR⟩:=L.out;refine .mk0 (fun X μ a' w H=>?_);have P':=H.toP
 simp only[aR];rw[hR];obtain⟨v,e1,e2⟩:=zZ H (av:=av) (by rw[hc'.hty];exact h);rw[L.P]at e2;refine⟨P'.dfr.trans bD5,v,e2,?_⟩;have hdo:eU all i=o.dst:=by simp[eU,ho]
 rw[hdo]at aMb;have hfr:∀t av,look l t=some av→∃v,aC μ av=some v∧tm[t]?=some v:=by have:=P'.kf FR hm;rw[hFR]at this;exact this
 refine aMb.so X μ (a.put o.dst v) w ⟨⟨by rw[put_defers];exact hdf,by rw[vW,ha];exact hsz,?_,P'.heap,P'.all,P'.inj,?_,P'.xlt,?_,?_,?_,P'.kf,?_⟩,H.dom⟩
 ·intro t b _ hl;cases hdd:o.dst with
  | none=>
   rw[hdd]at hl;obtain⟨u,h1,h2⟩:=hfr t b hl;exact⟨u,h1,by rw[←ha]at h2;exact h2⟩
  | some d=>
   rw[hdd]at hl hd;simp only at hl;have hdn:d<a.tmps.size:=by simp only[cF,decide_eq_true_eq]at hd;rw[ha,hsz];exact hd
   by_cases ht:d=t
   ·subst ht;rw[bF]at hl;injection hl with hl;subst hl
    exact⟨v,e1,lM hdn⟩
   ·rw[bA ht]at hl;obtain⟨u,h1,h2⟩:=hfr t b hl;exact⟨u,h1,by rw[mS (by simpa using ht),ha];exact h2⟩
 ·intro k' b hk;have:=P'.loc k' b hk;rw[L.B]at this;exact this
 ·intro b hb;have:=P'.xnew b hb;rw[L.B,L.X0]at this;exact this
 ·intro b hb;exact P'.xold b (by rw[L.X0];exact hb)
 ·have:=P'.bel;rw[L.B]at this;exact this
 ·have:=P'.own;rw[L.B]at this;exact this
end
end Go.Ai
namespace Go.Ai
open Go Go.RowKit
mutual
def AV.fr (k:Nat):AV→Bool
 | .p j _ | .pe j _ _ _ _ | .sl j _ _ _ | .e j | .ec j _=>decide (j≠k)
 | .g l | .t l=>AV.frL k l
 | .f _ fs l=>AV.frL k fs&&AV.frL k l
 | _=>true
def AV.frL (k:Nat):List AV→Bool
 | []=>true
 | a::l=>AV.fr k a&&AV.frL k l
end
theorem eO {μ:Mu}{k j:Nat}{m:MV}(h:j≠k):oY (μ.upd k m) j=oY μ j∧atS (μ.upd k m) j=atS μ j∧(μ.upd k m) j=μ j:=by
 have:(μ.upd k m) j=μ j:=by simp[Mu.upd,h]
 exact⟨by simp[oY,this],by simp[atS,this],this⟩
mutual
theorem uT {μ:Mu}{k:Nat}{m:MV}:∀(av:AV),av.fr k=true→aC (μ.upd k m) av=aC μ av
 | .p j off,h=>by simp only[AV.fr,decide_eq_true_eq]at h;simp only[aC,(eO h).1]
 | .pe j off i sz inner,h=>by simp only[AV.fr,decide_eq_true_eq]at h;simp only[aC,(eO h).1]
 | .sl j off len cap,h=>by simp only[AV.fr,decide_eq_true_eq]at h;simp only[aC,(eO h).2.1]
 | .e j,h=>by simp only[AV.fr,decide_eq_true_eq]at h;simp only[aC,(eO h).2.2]
 | .ec j i,h=>by simp only[AV.fr,decide_eq_true_eq]at h;simp only[aC,(eO h).2.2]
 | .g l,h=>by simp only[AV.fr]at h;simp only[aC,kZ l h]
 | .t l,h=>by simp only[AV.fr]at h;simp only[aC,kZ l h]
 | .f _ fs l,h=>by simp only[AV.fr,Bool.and_eq_true]at h;simp only[aC,kZ fs h.1,kZ l h.2]
 | .i ..,_=>rfl
 | .b ..,_=>rfl
 | .s ..,_=>rfl
 | .xs ..,_=>rfl
 | .o ..,_=>rfl
 | .q ..,_=>rfl
theorem kZ {μ:Mu}{k:Nat}{m:MV}:∀(l:List AV),AV.frL k l=true→aH (μ.upd k m) l=aH μ l
 | [],_=>rfl
 | x::l,h=>by
  simp only[AV.frL,Bool.and_eq_true]at h;simp only[aH,uT x h.1,kZ l h.2]
end
def Blk.fr (k:Nat):Blk→Bool
 | .c _ l=>AV.frL k l
 | _=>true
theorem Blk.ok_fr {X:Nat→Prop}{μ:Mu}{w:World}{k:Nat}{mk:MV}{blk:Blk}{m:MV}(hf:blk.fr k=true)(hb:blk.ok X μ w m):blk.ok X (μ.upd k mk) w m:=by
 match blk,m,hb with
 | .c ..,.own b,hb=>obtain⟨vs,h1,h2⟩:=hb;exact⟨vs,by rw[kZ _ hf];exact h1,h2⟩
 | .r ..,.own b,hb=>exact hb
 | .w ..,.own b,hb=>exact hb
 | .d ..,.own b,hb=>exact hb
 | .xi ..,.ext none,hb=>exact hb
 | .xs ..,.ext none,hb=>exact hb
 | .xi ..,.ext (some (b,o)),hb=>exact hb
 | .xs ..,.ext (some (b,o)),hb=>exact hb
 | .e,.val _,_=>trivial
 | .xr ..,.ext none,hb=>exact hb
 | .xr ..,.ext (some (b,o)),hb=>exact hb
def OF.cells (b bt:Nat)(cells:List AV):OF where
 F _ j:=j=b
 p μ w:=∃vs,aH μ cells=some vs∧w.heap[b]?=some (.cells vs.toArray bt (0,0))
 st μ μ' w w' hv hk h:=by
  obtain⟨vs,h1,h2⟩:=h;exact⟨⟨vs,lT hv _ _ h1,by rw[hk b rfl];exact h2⟩,fun _=>Iff.rfl⟩
structure KFk (k:Nat)(f:KF):Prop where
 out:∀X μ w v,f.p X μ w→f.p X (μ.upd k (.val v)) w
structure OFk (k:Nat)(f:OF):Prop where
 out:∀μ w v,f.p μ w→f.p (μ.upd k (.val v)) w∧∀b,f.F (μ.upd k (.val v)) b↔f.F μ b
theorem KFk.cst (k:Nat)(v:Value)(R:VF):KFk k (KF.cst v R):=⟨fun _ _ _ _ h=>h⟩
theorem KFk.at {k j:Nat}(h:j≠k)(R:VF):KFk k (KF.at j R):=⟨fun X μ w v hp=>by
 obtain⟨u,h1,h2⟩:=hp;exact⟨u,by rw[(eO h).2.2];exact h1,h2⟩⟩
theorem KFk.ext {k j:Nat}(h:j≠k)(a:Option (Nat × Nat)):KFk k (KF.ext j a):=⟨fun X μ w v hp=>by
 show(μ.upd k (.val v)) j=_
 rw[(eO h).2.2];exact hp⟩
theorem KFk.fr {k:Nat}{l:List (Nat × AV)}(h:l.all (fun x=>x.2.fr k)=true)(tm:Array Value):KFk k (KF.fr l tm):=⟨fun X μ w u hp t av hl=>by
 obtain⟨v,h1,h2⟩:=hp t av hl;obtain⟨x,hx,rfl⟩:=aBi hl;exact⟨v,by rw[uT _ (List.all_eq_true.1 h x hx)];exact h1,h2⟩⟩
theorem OFk.row (k:Nat)(v:Value)(base e:Nat)(kd:IntKind)(l:List Int):OFk k (OF.row v base e kd l):=⟨fun _ _ _ h=>⟨h,fun _=>Iff.rfl⟩⟩
theorem OFk.cells {k b bt:Nat}{cells:List AV}(h:AV.frL k cells=true):OFk k (OF.cells b bt cells):=⟨fun μ w v hp=>by
 obtain⟨vs,h1,h2⟩:=hp;exact⟨⟨vs,by rw[kZ _ h];exact h1,h2⟩,fun _=>Iff.rfl⟩⟩
def aAe (k:Nat)(K:List KF):List KF→Prop
 | []=>True
 | f::l=>(f∈K∧KFk k f)∧aAe k K l
theorem aAe.mem {k:Nat}{K:List KF}:∀{l:List KF},aAe k K l→∀f,f∈l→f∈K∧KFk k f
 | g::l,h,f,hf=>by
  rcases List.mem_cons.1 hf with e | e
  ·subst e;exact h.1
  ·exact h.2.mem f e
def aCs (k:Nat):List OF→Prop
 | []=>True
 | f::l=>OFk k f∧aCs k l
theorem aCs.mem {k:Nat}:∀{l:List OF},aCs k l→∀f,f∈l→OFk k f
 | g::l,h,f,hf=>by
  rcases List.mem_cons.1 hf with e | e
  ·subst e;exact h.1
  ·exact h.2.mem f e
def aCt (S:St)(k:Nat):List (Nat × AV)→Prop
 | []=>True
 | (t,b)::l=>(∃a,look S.sl t=some a∧b.fr k=true∧∀μ,aC μ a=aC μ b)∧aCt S k l
theorem aCt.look {S:St}{k:Nat}:∀{l:List (Nat × AV)},aCt S k l→∀t b,Go.Ai.look l t=some b→∃a,Go.Ai.look S.sl t=some a∧b.fr k=true∧∀μ,aC μ a=aC μ b
 | (d,x)::l,h,t,b,hb=>by
  by_cases e:d=t
  ·subst e;rw[bF]at hb;injection hb with hb;subst hb;exact h.1
  ·rw[bA e]at hb;exact h.2.look t b hb
section
variable {c:Cx}{P:Program}{ty:Nat→Option TyI}{nt:Nat}{K:List KF}{S:St}
theorem aSn {ks:List KI}(d k:Nat){bt:Nat}{G:Nat→List AV→OF}(hG:∀b l,G b l=OF.cells b bt l){cells:List AV}{l:List (Nat × AV)}{K':List KF}(hp:iO ks=true)(hk:S.hp[k]?=some (.c bt cells))(hd:look S.sl d=some (.p k 0))(hl:aCt S k l)(hb:(S.hp.set k .e).all (Blk.fr k)=true)(hc:AV.frL k cells=true)(hK:aAe k K K')(hO:aCs k S.ow)
  (h:∀b,Goal c K' ⟨ks,⟨(d,.o (.pointer (some ⟨b,0,none⟩)))::l,S.hp.set k .e,G b cells::S.ow⟩,[]⟩):Goal c K ⟨ks,S,[]⟩:=by
 simp only[hG]at h;refine gO (ι:=Nat) (K':=fun _=>K') (S':=fun b=>⟨(d,.o (.pointer (some ⟨b,0,none⟩)))::l,S.hp.set k .e,OF.cells b bt cells::S.ow⟩) (p:=fun _=>True) hp (fun X μ a w H=>?_) (fun b _=>h b);have P:=H.toP
 have hkl:k<S.hp.length:=(List.getElem?_eq_some_iff.1 hk).1
 obtain⟨m,hm⟩:=P.all k hkl;have hok:=P.heap k _ m hk hm
 match m,hok,hm with
 | .own b,hok,hm=>
 obtain⟨vs,hvs,hbk⟩:=hok;have hlen:(S.hp.set k .e).length=S.hp.length:=by simp
 have dW:∀j b',(μ.upd k (.val undef)) j=some (.own b')→j≠k∧μ j=some (.own b'):=fun j b' hj=>by
  by_cases e:j=k
  ·subst e;rw[Mu.upd_same]at hj;injection hj with hj;cases hj
  ·rw[(eO e).2.2]at hj;exact⟨e,hj⟩
 refine⟨b,X,μ.upd k (.val undef),trivial,⟨⟨P.dfr,P.size,?_,?_,?_,?_,?_,P.xlt,P.xnew,P.xold,P.bel,?_,?_⟩,?_⟩⟩
 ·intro t av _ ht
  by_cases e:d=t
  ·subst e;rw[bF]at ht;injection ht with ht;subst ht
   obtain⟨v,e1,e2⟩:=P.slots d _ trivial hd;have hv:v=.pointer (some ⟨b,0,none⟩):=by
    simp only[aC,oZ hm]at e1;injection e1 with e1;exact e1.symm
   exact⟨v,by rw[hv];simp[aC,Value.oneCell'],e2⟩
  ·rw[bA e]at ht;obtain⟨a',e1,e2,e3⟩:=hl.look t av ht;obtain⟨v,e4,e5⟩:=P.slots t a' trivial e1;exact⟨v,by rw[uT _ e2,←e3 μ];exact e4,e5⟩
 ·intro j bj m hj hmj
  by_cases e:j=k
  ·subst e;rw[Mu.upd_same]at hmj;injection hmj with hmj;subst hmj
   have hse:(S.hp.set j .e)[j]?=some .e:=by simp[hkl]
   have hj:some Blk.e=some bj:=hse.symm.trans hj
   injection hj with hj;subst hj;trivial
  ·rw[(eO e).2.2]at hmj;have hfr:bj.fr k=true:=List.all_eq_true.1 hb _ (List.mem_of_getElem? hj)
   rw[List.getElem?_set_ne (fun e'=>e e'.symm)]at hj;exact Blk.ok_fr hfr (P.heap j bj m hj hmj)
 ·intro j hj;rw[hlen]at hj
  by_cases e:j=k
  ·subst e;exact⟨_,Mu.upd_same _ _ _⟩
  ·obtain⟨m,hm⟩:=P.all j hj;exact⟨m,by rw[(eO e).2.2];exact hm⟩
 ·intro j j' b' h1 h2;exact P.inj j j' b' (dW _ _ h1).2 (dW _ _ h2).2
 ·intro j b' h1;exact P.loc j b' (dW _ _ h1).2
 ·intro f hf;obtain⟨h1,h2⟩:=hK.mem f hf;exact h2.out _ _ _ _ (P.kf f h1)
 ·obtain⟨l1,l2,l3⟩:=P.loc k b hm;refine⟨fun f hf=>?_,List.Pairwise.cons (fun g hg j hj=>?_) ?_⟩
  ·rcases List.mem_cons.1 hf with e | e
   ·subst e;refine⟨⟨vs,by rw[kZ _ hc];exact hvs,hbk⟩,fun j hj=>?_⟩;have hj:j=b:=hj
    subst hj;exact⟨l1,l3,l2,fun k' hk'=>(dW _ _ hk').1 (P.inj _ _ _ (dW _ _ hk').2 hm)⟩
   ·obtain⟨h1,h2⟩:=P.own.at_ f e;obtain⟨h3,h4⟩:=(hO.mem f e).out μ w undef h1;refine⟨h3,fun j hj=>?_⟩;obtain⟨q1,q2,q3,q4⟩:=h2 j ((h4 j).1 hj);exact⟨q1,q2,q3,fun k' hk'=>q4 k' (dW _ _ hk').2⟩
  ·have hj:j=b:=hj
   subst hj;intro hg';obtain⟨h1,h2⟩:=P.own.at_ g hg;exact(h2 j ((((hO.mem g hg).out μ w undef h1).2 j).1 hg')).2.2.2 k hm
  ·refine P.own.apart.imp_of_mem fun {f g} hf hg hq j hj hj'=>?_
   exact hq j ((((hO.mem f hf).out μ w undef (P.own.at_ f hf).1).2 j).1 hj) ((((hO.mem g hg).out μ w undef (P.own.at_ g hg).1).2 j).1 hj')
 ·intro j hj;rw[hlen]at hj;have e:j≠k:=by omega
  rw[(eO e).2.2];exact H.dom j hj
theorem aAc {ks:List KI}(d:Nat){b bt:Nat}{G:Nat→List AV→OF}(hG:∀b l,G b l=OF.cells b bt l){cells:List AV}{ow':List OF}(hp:iO ks=true)(hd:look S.sl d=some (.o (.pointer (some ⟨b,0,none⟩))))(how:S.ow=G b cells::ow')
  (h:Goal c K ⟨ks,⟨(d,.p S.hp.length 0)::S.sl,S.hp++[.c bt cells],ow'⟩,[]⟩):Goal c K ⟨ks,S,[]⟩:=by
 rw[hG]at how;refine mZ hp (fun X μ a w H=>?_) h;have P:=H.toP
 have hf0:OF.cells b bt cells∈S.ow:=by rw[how];exact .head _
 obtain⟨⟨vs,hvs,hbk⟩,hat⟩:=P.own.at_ _ hf0;obtain⟨q1,q2,q3,q4⟩:=hat b rfl;have hap:=P.own.apart
 rw[how]at hap;have hn:=H.dom _ (lRf _)
 have hle:Mu.le μ (μ.upd S.hp.length (.own b)):=Mu.le_upd hn
 have qM:∀j m,(μ.upd S.hp.length (.own b)) j=some m→(j=S.hp.length∧m=.own b)∨(j≠S.hp.length∧μ j=some m):=fun j m hj=>by
  by_cases e:j=S.hp.length
  ·subst e;rw[Mu.upd_same]at hj;injection hj with hj;exact .inl ⟨rfl,hj.symm⟩
  ·rw[(eO e).2.2]at hj;exact .inr ⟨e,hj⟩
 refine⟨X,μ.upd S.hp.length (.own b),⟨⟨P.dfr,P.size,?_,?_,?_,?_,?_,P.xlt,P.xnew,P.xold,P.bel,jT P.kf (fun _ h=>h) hle.v (fun _ _=>rfl),?_⟩,?_⟩⟩
 ·intro t av _ ht
  by_cases e:d=t
  ·subst e;rw[bF]at ht;injection ht with ht;subst ht
   obtain⟨v,e1,e2⟩:=P.slots d _ trivial hd;have hv:v=.pointer (some ⟨b,0,none⟩):=by
    simp only[aC,Value.oneCell',if_true]at e1;injection e1 with e1;exact e1.symm
   exact⟨v,by rw[hv];simp only[aC,oZ (Mu.upd_same _ _ _)],e2⟩
  ·rw[bA e]at ht;obtain⟨v,e4,e5⟩:=P.slots t av trivial ht;exact⟨v,gK hle _ _ e4,e5⟩
 ·intro j bj m hj hmj
  rcases qM j m hmj with⟨rfl,rfl⟩ | ⟨e,hmj⟩
  ·simp only[List.getElem?_append_right (lRf _)]at hj;simp at hj;subst hj;exact⟨vs,fZ hle _ _ hvs,hbk⟩
  ·have hlt:j<S.hp.length:=by
    rcases Nat.lt_or_ge j S.hp.length with h | h
    ·exact h
    ·rw[H.dom j h]at hmj;cases hmj
   simp only[List.getElem?_append_left hlt]at hj;exact Blk.ok_keep hle (fun _ h=>h) (fun _ _=>rfl) (fun _ _=>rfl) (P.heap j bj m hj hmj)
 ·intro j hj;simp at hj
  by_cases e:j=S.hp.length
  ·subst e;exact⟨_,Mu.upd_same _ _ _⟩
  ·obtain⟨m,hm⟩:=P.all j (by omega);exact⟨m,by rw[(eO e).2.2];exact hm⟩
 ·intro j j' b' h1 h2
  rcases qM j _ h1 with⟨r1,e1⟩ | ⟨e1,g1⟩<;>rcases qM j' _ h2 with⟨r2,e2⟩ | ⟨e2,g2⟩
  ·rw[r1,r2]
  ·injection e1 with e1;rw[e1]at g2;exact absurd g2 (q4 j')
  ·injection e2 with e2;rw[e2]at g1;exact absurd g1 (q4 j)
  ·exact P.inj j j' b' g1 g2
 ·intro j b' h1
  rcases qM j _ h1 with⟨rfl,e1⟩ | ⟨e,h1⟩
  ·injection e1 with e1;subst e1;exact⟨q1,q3,q2⟩
  ·exact P.loc j b' h1
 ·refine⟨fun f hf=>?_,(List.Pairwise.of_cons hap).imp_of_mem fun {f g} hf hg hq j hj hj'=>?_⟩
  rotate_left
  ·have k1:=(f.st μ (μ.upd S.hp.length (.own b)) w w hle.v (fun _ _=>rfl) (P.own.at_ f (by rw[how];exact .tail _ hf)).1).2
   have k2:=(g.st μ (μ.upd S.hp.length (.own b)) w w hle.v (fun _ _=>rfl) (P.own.at_ g (by rw[how];exact .tail _ hg)).1).2
   exact hq j ((k1 j).1 hj) ((k2 j).1 hj')
  obtain⟨h1,h2⟩:=P.own.at_ f (by rw[how];exact .tail _ hf);obtain⟨h3,h4⟩:=f.st μ (μ.upd S.hp.length (.own b)) w w hle.v (fun _ _=>rfl) h1;refine⟨h3,fun j hj=>?_⟩;obtain⟨r1,r2,r3,r4⟩:=h2 j ((h4 j).1 hj);refine⟨r1,r2,r3,fun k' hk'=>?_⟩
  rcases qM k' _ hk' with⟨rfl,e1⟩ | ⟨e,h5⟩
  ·injection e1 with e1;subst e1
   exact List.rel_of_pairwise_cons hap hf j rfl ((h4 j).1 hj)
  ·exact r4 k' h5
 ·intro j hj;simp at hj;rw[(eO (by omega)).2.2];exact H.dom j (by omega)
theorem aZs {R:OF→OF→Prop}{pre post:List OF}{g g':OF}(h1:∀f,R f g→R f g')(h2:∀f,R g f→R g' f)(h:(pre++g::post).Pairwise R):(pre++g'::post).Pairwise R:=by
 rw[List.pairwise_append,List.pairwise_cons]at h ⊢;obtain⟨a1,⟨a2,a3⟩,a4⟩:=h;refine⟨a1,⟨fun f hf=>h2 f (a2 f hf),a3⟩,fun x hx y hy=>?_⟩
 rcases List.mem_cons.1 hy with e | e
 ·subst e;exact h1 x (a4 x hx g (.head _))
 ·exact a4 x hx y (.tail _ e)
theorem bCt {R:OF→OF→Prop}{pre post:List OF}{g:OF}(h:(pre++g::post).Pairwise R):∀f,f∈pre++post→R f g∨R g f:=by
 rw[List.pairwise_append,List.pairwise_cons]at h;obtain⟨a1,⟨a2,a3⟩,a4⟩:=h;intro f hf
 rcases List.mem_append.1 hf with e | e
 ·exact .inl (a4 f e g (.head _))
 ·exact .inr (a2 f e)
theorem aGp {n0:Nat}{D:Nat→Prop}{o:Oper}{t:TypeId}{x y:Operand}{i:TyI}{b off bt:Nat}{av:AV}{l cells:List AV}{pre post:List OF}(hop:o.op=.store t x y)(hd:o.dst=none)(hi:c.ty t=some i)(hx:fG S.sl x=some (.o (.pointer (some ⟨b,off,none⟩))))(hy:fG S.sl y=some av)(hl:cellsOf av=some l)
  (how:S.ow=pre++OF.cells b bt cells::post) (hsz:l.length=i.size) (hle:off+l.length≤cells.length) (mJ:l.all AV.one=true) (hD:∀t,Operand.tmp t∈o.op.operands→D t):
  Cert c K n0 D S o (.q undef) none [] (pre++OF.cells b bt (nS cells off l)::post):=by
 intro X μ a w next Q H _ hn
 have hf0:OF.cells b bt cells∈S.ow:=by rw[how];simp
 obtain⟨⟨cs,hcs,ho⟩,hat⟩:=H.own.at_ _ hf0;obtain⟨q1,q2,q3,q4⟩:=hat b rfl;have e1:=aI H hx (fun t e=>hD t (by rw[hop];simp[Op.operands,e]))
 have e2:=aI H hy (fun t e=>hD t (by rw[hop];simp[Op.operands,e]))
 have hb2:a.eval x=.pointer (some ⟨b,off,none⟩):=by
  simp only[aC,Value.oneCell',if_true]at e1;injection e1 with e1;exact e1.symm
 have hcl:=jL hl e2
 obtain⟨ti,z,h1,h2,h3,h4,h5⟩:=(c.tok _ i hi).info;have hlen:=aY hcl
 have aRl:=aY hcs
 have mJ:=sJ mJ hcl
 have hwr:(Instr.storeAt t (a.eval x) (a.eval y)).run c.P w=.ok () (w.setCells b off (a.eval y).cells.toList):=by
  rw[hb2];simp only[Instr.storeAt,Instr.sureAddr,Sem.run_bind,Sem.run_pure,Result.andThen_ok,storeVar,cO h1];rw[if_neg (by simp at hlen;omega)];have:=run_storeCells_cells (P:=c.P) b off (a.eval y).cells.toList 0 w
   (fun j hj=>by simp[World.cell?,ho];simp at hlen hj;omega)
   (fun j hj=>by simp[World.frozen?,ho]) mJ
  simpa using this
 have aHg:∀j,j≠b→(w.setCells b off (a.eval y).cells.toList).heap[j]?=w.heap[j]?:=fun j hj=>eK b _ _ _ j hj
 have yU:∃vs,aH μ (nS cells off l)=some vs∧(w.setCells b off (a.eval y).cells.toList).heap[b]?=some (.cells vs.toArray bt (0,0)):=by
  refine⟨_,pT hcs hcl hle,(fO b bt _ off w cs.toArray ho (by simp at hlen ⊢;omega)).trans ?_⟩
  congr 2
  rw[←Array.foldl_toList];simp
 have mL:=setCells_size b (a.eval y).cells.toList off w
 have hap:=H.own.apart
 rw[how]at hap;have hnb:∀f,f∈pre++post→¬f.F μ b:=fun f hf hfb=>by
  rcases bCt hap f hf with h | h
  ·exact h b hfb rfl
  ·exact h b rfl hfb
 have hr:(execOp a.eval o).run c.P w=.ok .skip (w.setCells b off (a.eval y).cells.toList):=by simp only[execOp,hop,Sem.run_bind,hwr,Result.andThen_ok,Sem.run_pure]
 refine rS hr ?_;have:=hn X μ undef (w.setCells b off (a.eval y).cells.toList) ⟨eJ b q1 _ _ _ (RowKit.Below.refl _ _),fun j hj hjf=>aHg j (fun e=>hjf _ hf0 (show j=b from e)),by simp[aC],rfl,fun _ h=>h,fun _ h=>.inl h,?_⟩ (fun f hf=>by cases hf)
 ·simpa[Act.put,hd]using this
 ·refine⟨fun f hf=>?_,aZs (g:=OF.cells b bt cells) (fun f h=>h) (fun f h=>h) hap⟩;rw[mL]
  by_cases hfn:f=OF.cells b bt (nS cells off l)
  ·subst hfn;refine⟨yU,fun j hj=>?_⟩;have hj:j=b:=hj
   subst hj;exact⟨q1,q2,q3,q4⟩
  ·have hf':f∈pre++post:=by
    rcases List.mem_append.1 hf with h | h
    ·exact List.mem_append.2 (.inl h)
    ·rcases List.mem_cons.1 h with h | h
     ·exact absurd h hfn
     ·exact List.mem_append.2 (.inr h)
   obtain⟨h1,h2⟩:=H.own.at_ f (by rw[how];rcases List.mem_append.1 hf' with h | h<;>simp[h]);obtain⟨h3,h4⟩:=f.st μ μ w _ (Mu.vle_refl _) (fun j hj=>aHg j (fun e=>hnb f hf' (e▸hj))) h1;exact⟨h3,h2⟩
theorem sL (hc:Ctx c P ty nt){all:Array Oper}{i0 n0:Nat}{K0:List KF}{k:List KI}(o:Oper){t:TypeId}{x y:Operand}{i:TyI}{b off bt:Nat}{G:Nat→List AV→OF}(hG:∀b l,G b l=OF.cells b bt l){av:AV}{l cells:List AV}(pre:List OF){post:List OF}(ho:all[i0]?=some o)(hg:guardOf all S.sl o=some true)(hop:o.op=.store t x y)(hd:o.dst=none)(hi:ty t=some i)(hx:fG S.sl x=some (.o (.pointer (some ⟨b,off,none⟩))))(hy:fG S.sl y=some av)(hl:cellsOf av=some l)
  (how:S.ow=pre++G b cells::post) (hsz:l.length=i.size) (hle:Nat.ble (off+l.length) cells.length=true) (mJ:l.all AV.one=true) (n:Nat)
  (h:Goal c K (run ty nt K n (.dops all (i0+1) n0 K0::k) ⟨S.sl,S.hp,pre++G b (nS cells off l)::post⟩ [])):Goal c K ⟨.dops all i0 n0 K0::k,S,[]⟩:=by
 rw[hG]at how h;have hs:=dP hc n h
 have hic:bZ o=true:=by unfold bZ;rw[hop]
 refine .mk0 (show DPath c all n0 K0 k i0 S K from ?_);refine DPath.op (Kn:=[]) ho hg (by rw[hd];rfl) (by
  rw[hic];simp only[if_true,fl,hic];exact aGp hop hd (by rw[hc.hty];exact hi) hx hy hl how hsz (lbl hle) mJ (fun t ht=>by simp only[uV,dO,List.mem_append];exact .inl (fA (by simpa using ht)))) (fun _=>rfl) ?_ hs
 rw[hic,hd];exact Wk.refl _
def aU4 (o:Oper):Bool:=match o.op with | .store ..=>true | _=>false
def bBk:List KI→Bool
 | .code (.region _ ops true)::_=>ops.toList.any aU4
 | _=>false
def aVn (ty:Nat→Option TyI)(nt:Nat)(K:List KF):Nat→List KI→St→List Obl→Cfg
 | 0,ks,S,ob=>⟨ks,S,ob⟩
 | n+1,ks,S,ob=>if bBk ks then⟨ks,S,ob⟩else match aIp ty nt K ks S with
  | some r=>aVn ty nt K n r.ks r.S (match r.ob with | []=>ob | o=>ob++o)
  | none=>⟨ks,S,ob⟩
theorem aIe (ty:Nat→Option TyI)(nt:Nat)(K:List KF):∀(n:Nat) (ks:List KI) (S:St) (ob:List Obl),∃m,aVn ty nt K n ks S ob=run ty nt K m ks S ob
 | 0,ks,S,ob=>⟨0,rfl⟩
 | n+1,ks,S,ob=>by
  simp only[aVn];split
  ·exact⟨0,rfl⟩
  ·split
   ·rename_i r hr;obtain⟨m,hm⟩:=aIe ty nt K n r.ks r.S (match r.ob with | []=>ob | o=>ob++o);exact⟨m+1,by simp only[run,hr];exact hm⟩
   ·exact⟨0,rfl⟩
theorem aWy (hc:Ctx c P ty nt)(n:Nat){ks:List KI}(h:Goal c K (aVn ty nt K n ks S [])):Goal c K ⟨ks,S,[]⟩:=by
 obtain⟨m,hm⟩:=aIe ty nt K n ks S [];rw[hm]at h;exact jA hc m h
end
end Go.Ai
namespace Go.Ai
open Go Go.RowKit
def kY (P:Program)(g:Nat)(ls:List ByteArray)(r:Value):Prop:=
 ∀w b ty,Glob P w→w.heap[b]?=some (.cells (ls.map Value.string).toArray ty (0,0))→Calls P g #[.slice (some ⟨b,0,none⟩) ls.length ls.length] w fun e w'=>e=.returned r∧Below w.heap.size w w'
theorem aQb {c:Cx}{K:List KF}{n0:Nat}{D:Nat→Prop}{S:St}{o:Oper}{g k n m T:Nat}{cells:List AV}{ls:List ByteArray}{av:AV}{r:Value}(h:gT S.sl o.op=some (g,[.sl k 0 (.l (n:Int)) m]))(hD:∀t,Operand.tmp t∈o.op.operands→D t)(hg:aB c.P g)
  (hp:kY c.P g ls r) (hb:S.hp[k]?=some (.c T cells)) (ha:aH iJ cells=some (ls.map Value.string)) (hn:n=ls.length) (hm:m=ls.length) (hr:aC iJ av=some r):Cert c K n0 D S o av none [] S.ow:=by
 refine oI h hD hg fun X μ a w aL H hv=>?_
 obtain⟨v1,rfl,e1⟩:=aV hv;cases hk:μ k with
 | none=>simp[aC,atS,hk]at e1
 | some mv=>
  have hok:=H.heap k _ mv hb hk
  cases mv with
  | ext a=>exact hok.elim
  | val v=>exact hok.elim
  | own b=>
   obtain⟨vs,q1,q2⟩:=hok;rw[cS ha]at q1;injection q1 with q1;subst q1
   have hv1:v1=.slice (some ⟨b,0,none⟩) ls.length ls.length:=by
    simp[aC,atS,hk,MV.atS,IE.den,hn,hm]at e1;exact e1.symm
   subst hv1;refine(hp w b T H.glob q2).mono ?_;rintro e w' ⟨rfl,hbl⟩;exact⟨X,r,rfl,kX H hbl (eS hr),fun f hf=>by cases hf⟩
section
variable {c:Cx}{P:Program}{ty:Nat→Option TyI}{nt:Nat}{K:List KF}
theorem pU (hc:Ctx c P ty nt)(av:AV){g k n m T:Nat}{cells:List AV}{ls:List ByteArray}{all:Array Oper}{i:Nat}{ks:List KI}{S:St}{r:Value}(hp:kY P g ls r)(hg:aB P g)(hb:S.hp[k]?=some (.c T cells))(ha:aH iJ cells=some (ls.map Value.string))(hn:n=ls.length)(hm:m=ls.length)(hr:aC iJ av=some r)(N:Nat)
  (h:Goal c K (run ty nt K N (.ops all (i+1)::ks) (S.put (eU all i) av none) [])):Goal c K ⟨.cal g [.sl k 0 (.l (n:Int)) m] all i::ks,S,[]⟩:=
 .mk0 (xR (Kn:=[]) (ow:=S.ow) (fun o n0 D ho hD _=>aQb ho hD (hc.hP▸hg) (hc.hP▸hp) hb ha hn hm hr) (dP hc N h))
theorem bI (hc:Ctx c P ty nt)(av:AV){g k n m T:Nat}{cells:List AV}{ls:List ByteArray}{all:Array Oper}{i n0:Nat}{K0:List KF}{ks:List KI}{S:St}{r:Value}(hp:kY P g ls r)(hg:aB P g)(hb:S.hp[k]?=some (.c T cells))(ha:aH iJ cells=some (ls.map Value.string))(hn:n=ls.length)(hm:m=ls.length)(hr:aC iJ av=some r)(N:Nat)
  (h:Goal c K (run ty nt K N (.dops all (i+1) n0 K0::ks) (S.put (eU all i) av none) [])):Goal c K ⟨.dcal g [.sl k 0 (.l (n:Int)) m] all i n0 K0::ks,S,[]⟩:=
 .mk0 (sK (Kn:=[]) (ow:=S.ow) (fun o D ho hD=>aQb ho hD (hc.hP▸hg) (hc.hP▸hp) hb ha hn hm hr) (dP hc N h))
def aIc (l:List ByteArray):VF where
 p v X w:=∃b ty,v=.slice (some ⟨b,0,none⟩) l.length l.length∧X b∧w.heap[b]?=some (.cells (l.map Value.string).toArray ty (0,0))
 st v X X' w w' hs hw h:=by
  obtain⟨b,ty,h1,h2,h3⟩:=h;exact⟨b,ty,h1,hs _ h2,by rw[hw _ h2];exact h3⟩
theorem kY.of_fn {P:Program}{g:Nat}{ls:List ByteArray}{r:Value}(h:∀X w v,(∀b,X b→b<w.heap.size)→(aIc ls).p v X w→Fn P g [v] X w (dJ r)):kY P g ls r:=by
 intro w b ty hg hb;have hlt:b<w.heap.size:=by
  rcases Nat.lt_or_ge b w.heap.size with h | h
  ·exact h
  ·rw[Array.getElem?_eq_none h]at hb;cases hb
 refine(h (fun c=>c<w.heap.size) w _ (fun _ h=>h) ⟨b,ty,rfl,hlt,hb⟩ hg).mono ?_;rintro e w' ⟨v,X',rfl,h1,_,_,h2⟩;have h2:v=r:=h2
 exact⟨by rw[h2],h1⟩
structure RowTX where
 f:Nat→ByteArray
theorem xV {ks:List KI}{S:St}(d:Nat){av:AV}(l:List ByteArray)(N:Nat)(hN:N=l.length)(hp:iO ks=true)(hl:look S.sl d=some av)(hr:∀X μ a w v,Sim c K S X μ a w→aC μ av=some v→(aIc l).p v X w)
  (h:∀f,(∀i x,l[i]?=some x→f i=x)→Goal c K ⟨ks,{S with sl:=(d,.sl S.hp.length 0 (.l (N:Int)) N)::S.sl,hp:=S.hp++[.xs N f]},[]⟩):Goal c K ⟨ks,S,[]⟩:=by
 refine gO (ι:=RowTX) (K':=fun _=>K) (S':=fun x=>{S with sl:=(d,.sl S.hp.length 0 (.l (N:Int)) N)::S.sl,hp:=S.hp++[.xs N x.f]}) (p:=fun x=>∀i y,l[i]?=some y→x.f i=y) hp ?_ (fun x hx=>h x.f hx);intro X μ a w H;obtain⟨v,hv,hs⟩:=H.toP.slots d av trivial hl;obtain⟨b,ty,e1,e2,e3⟩:=hr X μ a w v H hv;subst hN;have hok:(Blk.xs l.length (fun i=>l.getD i default)).ok X (μ.upd S.hp.length (.ext (some (b,0)))) w (.ext (some (b,0))):=
  ⟨e2,_,(ty,(0,0)),e3,fun i hi=>by simp[hi]⟩
 refine⟨⟨fun i=>l.getD i default⟩,X,μ.upd S.hp.length (.ext (some (b,0))),fun i y hy=>by simp[List.getD_eq_getElem?_getD,hy],?_⟩;have H1:=pY H (blk:=.xs l.length (fun i=>l.getD i default)) (m:=.ext (some (b,0))) (fun b e=>by cases e) hok
 refine iC (av:=av) H1 hl ?_;rw[gK (Mu.le_upd (H.dom _ (lRf _))) av v hv];have hz:(0:Int)≤(IE.l (l.length:Int)).den:=by simp[IE.den]
 refine(gU (len:=.l (l.length:Int)) (a:=some (b,0)) (by simp[atS,Mu.upd_same,MV.atS]) hz (fun e=>by cases e)).trans ?_;rw[e1];simp[IE.den]
def yD (P:Program)(g:Nat)(pre:List Value)(s:ByteArray)(r:Value):Prop:=
 ∀(w:World) (b ty:Nat),Glob P w→w.heap[b]?=some (Obj.cells #[Value.string s] ty (0,0))→Calls P g (pre++[Value.pointer (some ⟨b,0,none⟩)]).toArray w fun e w'=>e=.returned r∧Below w.heap.size w w'
theorem aDc {μ:Mu}:∀{l:List AV} {x:AV} {vs:List Value},aH μ (l++[x])=some vs→∃us v,aH μ l=some us∧aC μ x=some v∧vs=us++[v]
 | [],x,vs,h=>by
  obtain⟨v,rfl,h1⟩:=aV h;exact⟨[],v,rfl,h1,rfl⟩
 | y::l,x,vs,h=>by
  simp only[List.cons_append,aH]at h;cases h1:aC μ y with
  | none=>rw[h1]at h;cases h
  | some u=>
   cases h2:aH μ (l++[x])with
   | none=>rw[h1,h2]at h;cases h
   | some us=>
    rw[h1,h2]at h;injection h with h;subst h
    obtain⟨us',v,e1,e2,rfl⟩:=aDc h2;exact⟨u::us',v,by simp[aH,h1,e1],e2,rfl⟩
theorem aXy {n0:Nat}{D:Nat→Prop}{S:St}{o:Oper}{g k T:Nat}{pre:List AV}{prev:List Value}{cell:AV}{s:ByteArray}{av:AV}{r:Value}(h:gT S.sl o.op=some (g,pre++[.p k 0]))(hD:∀t,Operand.tmp t∈o.op.operands→D t)(hg:aB c.P g)
  (hp:yD c.P g prev s r) (aY6:aH iJ pre=some prev) (hb:S.hp[k]?=some (.c T [cell])) (ha:aC iJ cell=some (.string s)) (hr:aC iJ av=some r):Cert c K n0 D S o av none [] S.ow:=by
 refine oI h hD hg fun X μ a w aL H hv=>?_
 obtain⟨us,v1,e0,e1,rfl⟩:=aDc hv;rw[cS aY6]at e0;injection e0 with e0;subst e0
 cases hk:μ k with
 | none=>simp[aC,oY,atS,hk]at e1
 | some mv=>
  have hok:=H.heap k _ mv hb hk
  cases mv with
  | ext a=>exact hok.elim
  | val v=>exact hok.elim
  | own b=>
   obtain⟨vs,q1,q2⟩:=hok;rw[cS (show aH iJ [cell]=some [.string s] by simp[aH,ha])]at q1;injection q1 with q1;subst q1
   have hv1:v1=.pointer (some ⟨b,0,none⟩):=by
    simp[aC,oY,hk,MV.at]at e1;exact e1.symm
   subst hv1;refine(hp w b T H.glob q2).mono ?_;rintro e w' ⟨rfl,hbl⟩;exact⟨X,r,rfl,kX H hbl (eS hr),fun f hf=>by cases hf⟩
theorem jW (hc:Ctx c P ty nt)(av:AV){g k T:Nat}{pre avs:List AV}{prev:List Value}{cell:AV}{s:ByteArray}{all:Array Oper}{i n0:Nat}{K0:List KF}{ks:List KI}{S:St}{r:Value}(hp:yD P g prev s r)(hg:aB P g)(hav:avs=pre++[.p k 0])(aY6:aH iJ pre=some prev)(hb:S.hp[k]?=some (.c T [cell]))(ha:aC iJ cell=some (.string s))(hr:aC iJ av=some r)(N:Nat)
  (h:Goal c K (run ty nt K N (.dops all (i+1) n0 K0::ks) (S.put (eU all i) av none) [])):Goal c K ⟨.dcal g avs all i n0 K0::ks,S,[]⟩:=by
 subst hav;exact .mk0 (sK (Kn:=[]) (ow:=S.ow) (fun o D ho hD=>aXy ho hD (hc.hP▸hg) (hc.hP▸hp) aY6 hb ha hr) (dP hc N h))
def aVe (s:ByteArray):VF where
 p v X w:=∃b ty,v=.pointer (some ⟨b,0,none⟩)∧X b∧w.heap[b]?=some (.cells #[.string s] ty (0,0))
 st v X X' w w' hs hw h:=by
  obtain⟨b,ty,h1,h2,h3⟩:=h;exact⟨b,ty,h1,hs _ h2,by rw[hw _ h2];exact h3⟩
theorem yD.of_fn {P:Program}{g:Nat}{pre:List Value}{s:ByteArray}{r:Value}(h:∀X w v,(∀b,X b→b<w.heap.size)→(aVe s).p v X w→Fn P g (pre++[v]) X w (dJ r)):yD P g pre s r:=by
 intro w b ty hg hb;have hlt:b<w.heap.size:=by
  rcases Nat.lt_or_ge b w.heap.size with h | h
  ·exact h
  ·rw[Array.getElem?_eq_none h]at hb;cases hb
 refine(h (fun c=>c<w.heap.size) w _ (fun _ h=>h) ⟨b,ty,rfl,hlt,hb⟩ hg).mono ?_;rintro e w' ⟨v,X',rfl,h1,_,_,h2⟩;have h2:v=r:=h2
 exact⟨by rw[h2],h1⟩
theorem aSs {ks:List KI}{S:St}(d:Nat){av:AV}(s:ByteArray)(hp:iO ks=true)(hl:look S.sl d=some av)(hr:∀X μ a w v,Sim c K S X μ a w→aC μ av=some v→(aVe s).p v X w)
  (h:∀f:Nat→ByteArray,f 0=s→Goal c K ⟨ks,{S with sl:=(d,.p S.hp.length 0)::S.sl,hp:=S.hp++[.xs 1 f]},[]⟩):Goal c K ⟨ks,S,[]⟩:=by
 refine gO (ι:=RowTX) (K':=fun _=>K) (S':=fun x=>{S with sl:=(d,.p S.hp.length 0)::S.sl,hp:=S.hp++[.xs 1 x.f]}) (p:=fun x=>x.f 0=s) hp ?_ (fun x hx=>h x.f hx);intro X μ a w H;obtain⟨v,hv,hs⟩:=H.toP.slots d av trivial hl;obtain⟨b,ty,e1,e2,e3⟩:=hr X μ a w v H hv;have hok:(Blk.xs 1 (fun _=>s)).ok X (μ.upd S.hp.length (.ext (some (b,0)))) w (.ext (some (b,0))):=
  ⟨e2,_,(ty,(0,0)),e3,fun i hi=>by
   have h0:i=0:=by omega
   subst h0;rfl⟩
 refine⟨⟨fun _=>s⟩,X,μ.upd S.hp.length (.ext (some (b,0))),rfl,?_⟩;have H1:=pY H (blk:=.xs 1 (fun _=>s)) (m:=.ext (some (b,0))) (fun b e=>by cases e) hok
 refine iC (av:=av) H1 hl ?_;rw[gK (Mu.le_upd (H.dom _ (lRf _))) av v hv,e1];simp[aC,oY,Mu.upd_same,MV.at]
end
end Go.Ai
