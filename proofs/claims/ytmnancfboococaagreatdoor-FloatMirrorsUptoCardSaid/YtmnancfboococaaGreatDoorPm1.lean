/- Part 2 of the proof: garboardlaw17.FloatMirrors returns true, where what it reads is of bulk at most 1048576. -/
import Derived.Test.YtmnancfboococaaGreatDoorPm0
set_option linter.all false
namespace Go.Ai
open Go Go.RowKit
section
variable {c:Cx}{K:List KF}{n0:Nat}{D:Nat→Prop}{S:St}{X:Nat→Prop}{μ:Mu}{a:Act}{w:World}
def iE (c:Cx)(S:St)(X:Nat→Prop)(μ:Mu)(a:Act)(w:World)(o:Oper)(r:Rs):Prop:=
 ∃v w' μ',(execOp a.eval o).run c.P w=.ok (.value v) w'∧cK c S X μ w r.av r.nb S.ow X μ' v w'
theorem iE.pure (H:PSim c K n0 D S X μ a w){o:Oper}{av:AV}{v:Value}{ob:List Obl}(h1:(execOp a.eval o).run c.P w=.ok (.value v) w)(h2:aC μ av=some v):iE c S X μ a w o ⟨av,none,ob⟩:=
 ⟨v,w,μ,h1,cK.same H.own h2⟩
theorem nY {k off:Nat}{v:Value}(h:aC μ (.p k off)=some v):∃b o,oY μ k=some (b,o)∧v=.pointer (some ⟨b,o+off,none⟩):=by
 simp only[aC]at h;split at h
 ·rename_i b o hb;injection h with h;exact⟨b,o,hb,h.symm⟩
 ·cases h
theorem uU {k off:Nat}{i:IE}{sz inner:Nat}{v:Value}(h:aC μ (.pe k off i sz inner)=some v):∃b o,oY μ k=some (b,o)∧v=.pointer (some ⟨b,o+aX off i.den sz inner,none⟩):=by
 simp only[aC]at h;split at h
 ·rename_i b o hb;injection h with h;exact⟨b,o,hb,h.symm⟩
 ·cases h
theorem nO {k off:Nat}{len:IE}{cap:Nat}{v:Value}(h:aC μ (.sl k off len cap)=some v):∃a,atS μ k=some a∧v=.slice (a.map fun x=>⟨x.1,x.2+off,none⟩) len.den.toNat cap∧0≤len.den∧(a=none→len.den=0∧cap=0):=by
 simp only[aC]at h;split at h
 ·rename_i a hb;split at h
  ·rename_i hc;injection h with h;exact⟨a,hb,h.symm,hc⟩
  ·cases h
 ·cases h
theorem mG {k off:Nat}{len:IE}{cap:Nat}{v:Value}(h:aC μ (.sl k off len cap)=some v)(h0:0<len.den):∃b o,oY μ k=some (b,o)∧v=.slice (some ⟨b,o+off,none⟩) len.den.toNat cap:=by
 obtain⟨a,h1,h2,h3,h4⟩:=nO h;cases a with
 | none=>have:=(h4 rfl).1;omega
 | some x=>exact⟨x.1,x.2,aT2 h1,h2⟩
theorem mH {l:List AV}{v:Value}(h:aC μ (.t l)=some v):∃vs,aH μ l=some vs∧v=.tuple vs.toArray:=by
 simp only[aC]at h;split at h
 ·rename_i vs hvs;injection h with h;exact⟨vs,hvs,h.symm⟩
 ·cases h
theorem aE2 {fn:Fn}{fs l:List AV}{v:Value}(h:aC μ (.f fn fs l)=some v):∃us vs,aH μ fs=some us∧aH μ l=some vs∧v=.func fn us.toArray vs.toArray:=by
 simp only[aC]at h;split at h
 ·rename_i us vs hus hvs;injection h with h;exact⟨us,vs,hus,hvs,h.symm⟩
 ·cases h
theorem aTn {P:Program}{t:TypeId}{i:TyI}(h:TyOk P t i):∃d,P.underlying t=some d:=by
 have hu:=h.und
 cases hk:i.kind with
 | struct fl=>rw[hk]at hu;obtain⟨fs,h1,_⟩:=hu;exact⟨_,h1⟩
 | array n e s=>rw[hk]at hu;exact⟨_,hu.1⟩
 | slice e s=>rw[hk]at hu;exact⟨_,hu.1⟩
 | int k=>rw[hk]at hu;exact⟨_,hu⟩
 | str=>rw[hk]at hu;exact⟨_,hu⟩
 | bool=>rw[hk]at hu;exact⟨_,hu⟩
 | other=>rw[hk]at hu;obtain⟨d,h1,_⟩:=hu;exact⟨d,h1⟩
theorem xF {l:List AV}{v:Value}(h:aC μ (.g l)=some v):∃vs,aH μ l=some vs∧v=.agg vs.toArray:=by
 simp only[aC]at h;split at h
 ·rename_i vs hvs;injection h with h;exact⟨vs,hvs,h.symm⟩
 ·cases h
theorem bQ {k:IntKind}{e:IE}{v:Value}(h:aC μ (.i k e)=some v):v=.int k e.den:=by simp only[aC]at h;injection h with h;exact h.symm
theorem fU {e:BE}{v:Value}(h:aC μ (.b e)=some v):v=.bool e.den:=by simp only[aC]at h;injection h with h;exact h.symm
theorem dH {s:SE}{v:Value}(h:aC μ (.s s)=some v):v=.string s.den:=by simp only[aC]at h;injection h with h;exact h.symm
theorem lI {x:Option Addr}{len cap:Nat}{v:Value}(h:aC μ (.xs x len cap)=some v):v=.slice x len cap:=by simp only[aC]at h;injection h with h;exact h.symm
theorem add_eq (b o j:Nat):(⟨b,o,none⟩:Addr).add j=⟨b,o+j,none⟩:=Addr.add_mid b o j
theorem aBp {P:Program}:∀{fs:List Field} {fl:List (Nat × Nat)},fs.mapM (fun f=>(P.info? f.type).map fun i=>(f.offset,i.size))=some fl→∀(j off sz:Nat),fl[j]?=some (off,sz)→
  ∃f ti,fs[j]?=some f∧f.offset=off∧P.info? f.type=some ti∧ti.size=sz
 | [],fl,h,j,off,sz,hj=>by simp at h;subst h;simp at hj
 | f::fs,fl,h,j,off,sz,hj=>by
  simp only[List.mapM_cons,Option.bind_eq_bind,Option.pure_def]at h;cases hi:P.info? f.type with
  | none=>simp[hi]at h
  | some ti=>
   cases hr:fs.mapM (fun f=>(P.info? f.type).map fun i=>(f.offset,i.size))with
   | none=>simp[hi,hr]at h
   | some rest=>
    simp[hi,hr]at h;subst h;cases j with
    | zero=>simp at hj;exact⟨f,ti,rfl,hj.1,hi,hj.2⟩
    | succ j=>simp at hj;simpa using aBp hr j off sz hj
theorem yL {t:TypeId}{i:TyI}(T:TyOk c.P t i){fl:List (Nat × Nat)}(hk:i.kind=.struct fl){f off sz:Nat}(hf:fl[f]?=some (off,sz))(h0:sz≠0)(b o:Nat):
  (Instr.fieldAt t (.pointer (some ⟨b,o,none⟩)) f).run c.P w=.ok (.pointer (some ⟨b,o+off,none⟩)) w:=by
 have hu:=T.und
 rw[hk]at hu;obtain⟨fs,h1,h2⟩:=hu;obtain⟨fd,ti,e1,e2,e3,e4⟩:=aBp h2 f off sz hf;have e1:fs[f]?=some fd:=by simpa using e1
 have h5:ti.size≠0:=by omega
 simp only[Instr.fieldAt,Sem.run_bind,run_underlying h1,Result.andThen_ok,e1,Instr.sureAddr,Sem.run_pure,fieldPlace,cO e3,h5,if_false,e2,add_eq]
theorem tB {t:TypeId}{i:TyI}(T:TyOk c.P t i){len elem gA:Nat}(hk:i.kind=.array len elem gA){n:Int}(h0:0≤n)(h1:n<(len:Int))(k:IntKind)(b o:Nat):
  (Instr.indexAt t (.pointer (some ⟨b,o,none⟩)) (.int k n)).run c.P w=.ok (.pointer (some ⟨b,o+n.toNat*gA,none⟩)) w:=by
 have hu:=T.und
 rw[hk]at hu;obtain⟨h2,ti,e1,e2⟩:=hu;simp only[Instr.indexAt,asIntOf,Sem.run_bind,Sem.run_pure,Result.andThen_ok,run_underlying h2,Instr.sureAddr];rw[if_pos ⟨h0,h1⟩];simp only[Sem.run_bind,cO e1,Result.andThen_ok,Sem.run_pure,e2,add_eq]
theorem aCo {t:TypeId}{i:TyI}(T:TyOk c.P t i){elem gA:Nat}(hk:i.kind=.slice elem gA){n:Int}{len cap:Nat}(h0:0≤n)(h1:n<(len:Int))(k:IntKind)(b o:Nat):
  (Instr.indexAt t (.slice (some ⟨b,o,none⟩) len cap) (.int k n)).run c.P w=.ok (.pointer (some ⟨b,o+n.toNat*gA,none⟩)) w:=by
 have hu:=T.und
 rw[hk]at hu;obtain⟨h2,ti,e1,e2⟩:=hu;simp only[Instr.indexAt,asIntOf,Sem.run_bind,Sem.run_pure,Result.andThen_ok,run_underlying h2];rw[if_pos ⟨h0,h1⟩];simp only[Sem.run_bind,cO e1,Result.andThen_ok,Sem.run_pure,e2,add_eq]
theorem aI5 {op:BinOp}{x y:AV}{r:Rs}(h:aI4 op x y=some r)(ho:hJ r.ob){v u:Value}(hx:aC μ x=some v)(hy:aC μ y=some u)(t:TypeId)(ox oy:Operand):
  r.nb=none∧∃z,(do eqGuard op t ox oy v u;binOp op t v u:Sem Value).run c.P w=.ok z w∧aC μ r.av=some z:=by
 unfold aI4 at h;split at h
 ·
  rename_i k e k' e';have ev:=bQ hx;have eu:=bQ hy
  subst ev;subst eu;split at h
  ·rename_i hkk;subst hkk;have hgd:(eqGuard op t ox oy (.int k e.den) (.int k e'.den)).run c.P w=.ok () w:=by cases op<;>simp[eqGuard]
   simp only[Sem.run_bind,hgd,Result.andThen_ok];cases op
   case add=>
    injection h with h;subst h;refine⟨rfl,_,?_,rfl⟩
    have hw:=oP ho
    simp only[IE.mkAdd_den]at hw ⊢;simp only[binOp,ne_eq,not_true_eq_false,if_false,Op.intArith,Sem.run_pure,hw]
   case sub=>
    injection h with h;subst h;refine⟨rfl,_,?_,rfl⟩
    have hw:=oP ho
    simp only[IE.mkSub_den]at hw ⊢;simp only[binOp,ne_eq,not_true_eq_false,if_false,Op.intArith,Sem.run_pure,hw]
   case mul=>
    injection h with h;subst h;refine⟨rfl,_,?_,rfl⟩
    have hw:=oP ho
    simp only[IE.mkMul_den]at hw ⊢;simp only[binOp,ne_eq,not_true_eq_false,if_false,Op.intArith,Sem.run_pure,hw]
   case quo=>
    injection h with h;subst h;refine⟨rfl,_,?_,rfl⟩
    have hz:¬e'.den=0:=ho.1
    have hw:=oP ho.2
    simp only[IE.mkQuo_den]at hw ⊢;simp only[binOp,ne_eq,not_true_eq_false,if_false,Op.intDiv,hz,Sem.run_pure,hw]
   case rem=>
    injection h with h;subst h;refine⟨rfl,_,?_,rfl⟩
    have hz:¬e'.den=0:=ho.1
    simp only[binOp,ne_eq,not_true_eq_false,if_false,Op.intDiv,hz,Sem.run_pure,IE.mkRem_den]
   case lss=>injection h with h;subst h;refine⟨rfl,_,?_,rfl⟩;simp[binOp,Op.intCmp,BE.mkLt_den]
   case leq=>injection h with h;subst h;refine⟨rfl,_,?_,rfl⟩;simp[binOp,Op.intCmp,BE.mkLe_den]
   case gtr=>injection h with h;subst h;refine⟨rfl,_,?_,rfl⟩;simp[binOp,Op.intCmp,BE.mkLt_den]
   case geq=>injection h with h;subst h;refine⟨rfl,_,?_,rfl⟩;simp[binOp,Op.intCmp,BE.mkLe_den]
   case eql=>injection h with h;subst h;refine⟨rfl,_,?_,rfl⟩;simp[binOp,Op.intCmp,BE.mkEq_den];rfl
   case neq=>injection h with h;subst h;refine⟨rfl,_,?_,rfl⟩;simp[binOp,Op.intCmp,BE.mkEq_den,BE.mkNot_den,bne];rfl
   all_goals cases h
  ·cases h
 ·rename_i s s';have ev:=dH hx;have eu:=dH hy
  subst ev;subst eu;have hgd:(eqGuard op t ox oy (.string s.den) (.string s'.den)).run c.P w=.ok () w:=by cases op<;>simp[eqGuard]
  simp only[Sem.run_bind,hgd,Result.andThen_ok];split at h
  ·injection h with h;subst h
   exact⟨rfl,_,by simp only[binOp,Op.stringOp,Sem.run_pure];rfl,rfl⟩
  ·injection h with h;subst h
   exact⟨rfl,_,by simp only[binOp,Op.stringOp,Sem.run_pure];rfl,by simp only[aC,BE.mkNot_den,BE.den]⟩
  ·injection h with h;subst h
   have hle:((s.den.size+s'.den.size:Nat):Int)≤9223372036854775807:=ho.1
   refine⟨rfl,.string (s.den++s'.den),?_,by simp only[aC,SE.den]⟩;simp only[binOp,Op.stringOp];rw[if_neg (by simp only[IntKind.max,IntKind.bits,IntKind.signed];omega)]
   rfl
  ·cases h
 ·cases h
theorem aFc {x:AV}(h:tC x=some .b):∃e,x=.b e:=by cases x<;>simp[tC]at h;exact⟨_,rfl⟩
theorem aFe {x:AV}(h:tC x=some .s):∃e,x=.s e:=by cases x<;>simp[tC]at h;exact⟨_,rfl⟩
theorem aFd {x:AV}{q:IntKind}(h:tC x=some (.i q)):∃e,x=.i q e:=by
 cases x<;>simp[tC]at h
 subst h;exact⟨_,rfl⟩
theorem aHp {x:AV}{k:LK}{v:Value}(h:tC x=some k)(hv:aC μ x=some v):qG v=some k:=by
 cases k with
 | b=>obtain⟨e,rfl⟩:=aFc h;rw[fU hv];rfl
 | s=>obtain⟨e,rfl⟩:=aFe h;rw[dH hv];rfl
 | i q=>obtain⟨e,rfl⟩:=aFd h;rw[bQ hv];rfl
theorem pN:∀{l:List AV} {ks:List LK} {vs:List Value},mM l=some ks→aH μ l=some vs→cY vs=some ks
 | [],ks,vs,h,hv=>by simp only[aH]at hv;injection hv with hv;subst hv;simpa[mM,cY]using h
 | x::l,ks,vs,h,hv=>by
  simp only[mM]at h;simp only[aH]at hv;split at h
  ·rename_i k ks' h1 h2;injection h with h;subst h
   split at hv
   ·rename_i v us h3 h4;injection hv with hv;subst hv
    simp only[cY,aHp h1 h3,pN h2 h4]
   ·cases hv
  ·cases h
theorem aUq {x y:AV}{k:LK}{v u:Value}(hx:tC x=some k)(hy:tC y=some k)(ex:aC μ x=some v)(ey:aC μ y=some u):(eq1 x y).den=true↔v=u:=by
 cases k with
 | b=>obtain⟨e,rfl⟩:=aFc hx;obtain⟨f,rfl⟩:=aFc hy;rw[fU ex,fU ey];simp[eq1,BE.den]
 | s=>
  obtain⟨e,rfl⟩:=aFe hx;obtain⟨f,rfl⟩:=aFe hy;rw[dH ex,dH ey];have:=aPh e.den f.den
  simpa[eq1,BE.den,Value.cells]using this
 | i q=>obtain⟨e,rfl⟩:=aFd hx;obtain⟨f,rfl⟩:=aFd hy;rw[bQ ex,bQ ey];simp[eq1,BE.mkEq_den]
theorem aDk:∀{l m:List AV} {ks:List LK} {vs us:List Value},mM l=some ks→mM m=some ks→aH μ l=some vs→aH μ m=some us→((aA1 l m).den=true↔vs=us)
 | [],[],ks,vs,us,_,_,h1,h2=>by
  simp only[aH]at h1 h2;injection h1 with h1;injection h2 with h2;subst h1;subst h2;simp[aA1,BE.den]
 | [],y::m,ks,vs,us,h1,h2,_,_=>by
  simp only[mM]at h1 h2;injection h1 with h1;subst h1
  split at h2
  ·injection h2 with h2;cases h2
  ·cases h2
 | x::l,[],ks,vs,us,h1,h2,_,_=>by
  simp only[mM]at h1 h2;injection h2 with h2;subst h2
  split at h1
  ·injection h1 with h1;cases h1
  ·cases h1
 | x::l,y::m,ks,vs,us,h1,h2,h3,h4=>by
  simp only[mM]at h1 h2;simp only[aH]at h3 h4;split at h1
  ·rename_i k ks1 a1 a2;split at h2
   ·rename_i k' ks2 b1 b2;injection h1 with h1;subst h1
    injection h2 with h2;injection h2 with e1 e2;subst e1;subst e2
    split at h3
    ·rename_i v vs' c1 c2;split at h4
     ·rename_i u us' d1 d2;injection h3 with h3;subst h3
      injection h4 with h4;subst h4
      simp only[aA1,BE.mkAnd_den,Bool.and_eq_true,aUq a1 b1 c1 d1,aDk a2 b2 c2 d2,List.cons.injEq]
     ·cases h4
    ·cases h3
   ·cases h2
  ·cases h1
theorem yG (μ:Mu):∀(vs:List Value),aH μ (vs.map vT)=some vs
 | []=>rfl
 | v::l=>by simp only[List.map_cons,aH,aBn,yG μ l]
theorem uS {x:AV}{l:List AV}{v:Value}(h:aEz x=some l)(hv:aC μ x=some v):∃vs,v=.agg vs.toArray∧aH μ l=some vs:=by
 unfold aEz at h;split at h
 ·injection h with h;subst h
  simp only[aC]at hv;split at hv
  ·rename_i vs hvs;injection hv with hv;exact⟨vs,hv.symm,hvs⟩
  ·cases hv
 ·rename_i vs;injection h with h;subst h
  simp only[aC]at hv;injection hv with hv
  exact⟨vs.toList,by rw[←hv],yG μ _⟩
 ·cases h
theorem aNy {op:BinOp}{t:TypeId}{x y:AV}{r:Rs}{v u:Value}(h:eqG c.ty op t x y=some r)(hx:aC μ x=some v)(hy:aC μ y=some u)(ox oy:Operand):
  r.nb=none∧∃z,(do eqGuard op t ox oy v u;binOp op t v u:Sem Value).run c.P w=.ok z w∧aC μ r.av=some z:=by
 unfold eqG at h;split at h
 ·rename_i i hi;split at h
  ·rename_i hkb;have hu:=(c.tok _ i hi).und
   rw[hkb]at hu;unfold eqB at h;split at h
   ·rename_i p q;rw[fU hx,fU hy];split at h
    ·injection h with h;subst h
     exact⟨rfl,.bool (p.den==q.den),by rw[eqGuard_at_bool,pure_bind];simp only[binOp,Sem.run_bind,run_equal_bool w t p.den q.den hu,Result.andThen_ok,Sem.run_pure],rfl⟩
    ·injection h with h;subst h
     exact⟨rfl,.bool (!(p.den==q.den)),by rw[eqGuard_at_bool,pure_bind];simp only[binOp,Sem.run_bind,run_equal_bool w t p.den q.den hu,Result.andThen_ok,Sem.run_pure],by simp only[aC,BE.mkNot_den];rfl⟩
    ·cases h
   ·cases h
  split at h
  ·rename_i ls l m hk hl hm;split at h
   ·rename_i hks;obtain⟨vs,rfl,e1⟩:=uS hl hx;obtain⟨us,rfl,e2⟩:=uS hm hy;obtain⟨k1,k2,fs,k3⟩:=(c.tok _ i hi).keyOk ls hk;have hsv:Shp c.P t (.agg vs.toArray):=by unfold Shp;rw[k3];exact⟨_,rfl⟩
    have hsu:Shp c.P t (.agg us.toArray):=by unfold Shp;rw[k3];exact⟨_,rfl⟩
    obtain⟨b,h1,h2⟩:=tP 12 9988 t ls k1 w _ _ hsv hsu (show cY vs.toArray.toList=_ by simpa using pN hks.1 e1) (show cY us.toArray.toList=_ by simpa using pN hks.2 e2);have h3:=aDk hks.1 hks.2 e1 e2
    have h4:b=true↔vs=us:=h2.trans (by show vs.toArray.toList=us.toArray.toList↔_;simp)
    have hbe:b=(aA1 l m).den:=Bool.eq_iff_iff.2 (h4.trans h3.symm)
    split at h
    ·injection h with h;subst h
     refine⟨rfl,.bool b,?_,by rw[hbe];rfl⟩;rw[Sem.run_bind,run_eqGuard_agg (hm:=k2),Result.andThen_ok,run_eql_struct];rw[show(Op.equalIn 10000 t (.agg vs.toArray) (.agg us.toArray)).run c.P w=.ok b w from h1]
     rfl
    ·injection h with h;subst h
     refine⟨rfl,.bool (!b),?_,by rw[hbe];simp only[aC,BE.mkNot_den]⟩;rw[Sem.run_bind,run_eqGuard_agg (hm:=k2),Result.andThen_ok,run_neq_struct];rw[show(Op.equalIn 10000 t (.agg vs.toArray) (.agg us.toArray)).run c.P w=.ok b w from h1]
     rfl
    ·cases h
   ·cases h
  ·cases h
 ·cases h
theorem aN0 (H:PSim c K n0 D S X μ a w){o:Oper}{r:Rs}(h:fop c.ty n0 S o.op=some r)(hfr:r.nb.isSome=true→μ S.hp.length=none)(hb:hJ r.ob)(hD:∀t,Operand.tmp t∈o.op.operands→D t):iE c S X μ a w o r:=by
 unfold fop at h;split at h
 case h_1 x hx | h_2 x hx=>
  split at h
  ·rename_i av hav;injection h with h;subst h
   exact iE.pure H (by simp[execOp,hx]) (aI H hav (fun t e=>hD t (by rw[hx];simp[Op.operands,e])))
  ·cases h
 case h_3 x y z hx=>
  split at h
  ·rename_i t av bv h1 h2 h3;injection h with h;subst h
   have e1:=aI H h1 (fun t e=>hD t (by rw[hx];simp[Op.operands,e]))
   have e2:=aI H h2 (fun t e=>hD t (by rw[hx];simp[Op.operands,e]))
   have e3:=aI H h3 (fun t e=>hD t (by rw[hx];simp[Op.operands,e]))
   refine iE.pure H (v:=if t then a.eval y else a.eval z) ?_ ?_
   ·simp only[execOp,hx,fU e1,asBool,Sem.run_bind,Sem.run_pure,Result.andThen_ok,BE.den]
   ·cases t
    ·simpa using e3
    ·simpa using e2
  ·cases h
 case h_4 e hx=>
  split at h
  ·rename_i i hi;injection h with h;subst h
   obtain⟨ti,z,h1,h2,h3,h4,h5⟩:=(c.tok _ i hi).info;refine⟨.pointer (some ⟨w.heap.size,0,none⟩),{w with heap:=w.heap.push (.cells z.cells e)},_,?_,cK.alloc H.own H.bel.size (hfr rfl) H.xlt (fun μ' w' _ hw=>⟨_,cS h4,by simpa using hw⟩) (fun μ' _ hm=>by simp[aC,oZ hm])⟩;simp[execOp,hx,Instr.alloc,jV h1 h3,newVar,newRow]
  ·cases h
 case h_5 e x hx=>
  split at h
  ·rename_i av hav;split at h
   ·rename_i l hl;injection h with h;subst h
    have e1:=aI H hav (fun t e=>hD t (by rw[hx];simp[Op.operands,e]))
    refine⟨.pointer (some ⟨w.heap.size,0,none⟩),{w with heap:=w.heap.push (.cells (a.eval x).cells e)},_,?_,cK.alloc H.own H.bel.size (hfr rfl) H.xlt (fun μ' w' hle hw=>⟨_,fZ hle _ _ (jL hl e1),by simpa using hw⟩) (fun μ' _ hm=>by simp[aC,oZ hm])⟩;simp[execOp,hx,Instr.box,newVar,newRow]
   ·cases h
  ·cases h
 case h_6 t x hx=>
  split at h
  ·rename_i i k off hi hav;have e1:=aI H hav (fun t e=>hD t (by rw[hx];simp[Op.operands,e]))
   obtain⟨b,o',hb1,hb2⟩:=nY e1;split at h
   ·rename_i hk;split at h
    ·rename_i ty cells hbk;split at h
     ·rename_i av hp;injection h with h;subst h
      obtain⟨v,hv1,hv2⟩:=aBh H hi hbk hb1 hp;exact iE.pure H (by simp only[execOp,hx,hb2,Sem.run_bind,hv1,Result.andThen_ok,Sem.run_pure]) hv2
     ·cases h
    ·rename_i blk _ hbk;obtain⟨hn,v,hv1,hv2⟩:=yQ H hi hbk hb1 h hb
     try rw[show aX off (IE.l 0).den 0 0=off by simp[aX]]at hv1
     refine⟨v,w,μ,by simp only[execOp,hx,hb2,Sem.run_bind,hv1,Result.andThen_ok,Sem.run_pure],?_⟩;rw[hn];exact cK.same H.own hv2
    ·cases h
   ·cases h
  ·rename_i i k off ix sz inner hi hav;have e1:=aI H hav (fun t e=>hD t (by rw[hx];simp[Op.operands,e]))
   obtain⟨b,o',hb1,hb2⟩:=uU e1;split at h
   ·rename_i hk;split at h
    ·rename_i blk hbk;obtain⟨hn,v,hv1,hv2⟩:=yQ H hi hbk hb1 h hb
     try rw[show aX off (IE.l 0).den 0 0=off by simp[aX]]at hv1
     refine⟨v,w,μ,by simp only[execOp,hx,hb2,Sem.run_bind,hv1,Result.andThen_ok,Sem.run_pure],?_⟩;rw[hn];exact cK.same H.own hv2
    ·cases h
   ·cases h
  ·cases h
 case h_7 t parts hx=>
  split at h
  ·rename_i i ps hi hps;have T:=c.tok _ i hi
   obtain⟨ti,z,h1,h2,h3,h4,h5⟩:=T.info;have e1:=tZ H hps (fun t e=>hD t (by rw[hx];simp only[Op.operands];exact List.mem_toArray.2 e))
   have hu:=T.und
   split at h
   ·rename_i fl hk;rw[hk]at hu;obtain⟨fs,u1,u2⟩:=hu;split at h
    ·rename_i cs hcs;injection h with h;subst h
     obtain⟨os,f1,f2⟩:=pL e1 (cS (μ:=μ) h4) hcs;refine iE.pure H (v:=.agg os) ?_ (by simp[aC,f2]);have e:(fun(j:Nat)=>(fl.toArray)[j]?)=fun(j:Nat)=>fl[j]?:=by funext j;simp
     have f1':Instr.fill (fun(j:Nat)=>fl.toArray[j]?) z.cells ((parts.map fun(i,x)=>(i,a.eval x)).toList)=some os:=by rw[e];simpa using f1
     simp[execOp,hx,Instr.build,jV h1 h3,run_underlying u1,Array.mapM_eq_mapM_toList,run_places w _ _ u2];simp at f1';simp[f1']
    ·cases h
   ·rename_i len elem gA hk;rw[hk]at hu;obtain⟨u1,tj,u2,u3⟩:=hu;split at h
    ·rename_i cs hcs;injection h with h;subst h
     obtain⟨os,f1,f2⟩:=pL e1 (cS (μ:=μ) h4) hcs;refine iE.pure H (v:=.agg os) ?_ (by simp[aC,f2]);simp only[execOp,hx,Instr.build,Sem.run_bind,jV h1 h3,Result.andThen_ok,run_underlying u1,cO u2,u3];simp at f1;simp[f1]
    ·cases h
   ·cases h
  ·cases h
 case h_8 t x f hx=>
  split at h
  ·rename_i i k off hi hav;have e1:=aI H hav (fun t e=>hD t (by rw[hx];simp[Op.operands,e]))
   obtain⟨b,o1,hb1,hb2⟩:=nY e1;split at h
   ·rename_i fl hk;split at h
    ·rename_i o' sz hf;split at h
     ·cases h
     ·rename_i hz;injection h with h;subst h
      exact iE.pure H (v:=.pointer (some ⟨b,o1+off+o',none⟩)) (by simp only[execOp,hx,hb2,Sem.run_bind,yL (c.tok _ i hi) hk hf hz,Result.andThen_ok,Sem.run_pure]) (by simp[aC,hb1,aX,Nat.add_assoc])
    ·cases h
   ·cases h
  ·rename_i i k off ix sz inner hi hav;have e1:=aI H hav (fun t e=>hD t (by rw[hx];simp[Op.operands,e]))
   obtain⟨b,o1,hb1,hb2⟩:=uU e1;split at h
   ·rename_i fl hk;split at h
    ·rename_i o' s' hf;split at h
     ·cases h
     ·rename_i hz;injection h with h;subst h
      exact iE.pure H (v:=.pointer (some ⟨b,o1+aX off ix.den sz inner+o',none⟩)) (by simp only[execOp,hx,hb2,Sem.run_bind,yL (c.tok _ i hi) hk hf hz,Result.andThen_ok,Sem.run_pure]) (by simp[aC,hb1,aX,Nat.add_assoc])
    ·cases h
   ·cases h
  ·cases h
 case h_9 t x ix hx=>
  split at h
  ·rename_i i k off kk n hi hav hix;have e1:=aI H hav (fun t e=>hD t (by rw[hx];simp[Op.operands,e]))
   have e2:=aI H hix (fun t e=>hD t (by rw[hx];simp[Op.operands,e]))
   obtain⟨b,o1,hb1,hb2⟩:=nY e1;have e3:=bQ e2
   simp only[IE.den]at e3;split at h
   ·rename_i len elem gA hk;split at h
    ·rename_i hn;injection h with h;subst h
     exact iE.pure H (v:=.pointer (some ⟨b,o1+off+n.toNat*gA,none⟩)) (by simp only[execOp,hx,hb2,e3,Sem.run_bind,tB (c.tok _ i hi) hk hn.1 hn.2,Result.andThen_ok,Sem.run_pure]) (by simp[aC,hb1,aX,Nat.add_assoc])
    ·cases h
   ·cases h
  ·rename_i i k off jx sz inner kk n hi hav hix;have e1:=aI H hav (fun t e=>hD t (by rw[hx];simp[Op.operands,e]))
   obtain⟨b,o1,hb1,hb2⟩:=uU e1;have e2:=aI H hix (fun t e=>hD t (by rw[hx];simp[Op.operands,e]))
   have e3:=bQ e2
   simp only[IE.den]at e3;split at h
   ·rename_i len elem gA hk;split at h
    ·rename_i hn;injection h with h;subst h
     exact iE.pure H (v:=.pointer (some ⟨b,o1+aX off jx.den sz inner+n.toNat*gA,none⟩)) (by simp only[execOp,hx,hb2,e3,Sem.run_bind,tB (c.tok _ i hi) hk hn.1 hn.2,Result.andThen_ok,Sem.run_pure]) (by simp[aC,hb1,aX,Nat.add_assoc])
    ·cases h
   ·cases h
  ·rename_i i k off len cap kk e hi hav hix;have e1:=aI H hav (fun t e=>hD t (by rw[hx];simp[Op.operands,e]))
   have e3:=bQ (aI H hix (fun t e=>hD t (by rw[hx];simp[Op.operands,e])))
   split at h
   ·rename_i elem gA hk;have go:∀(av:AV),0≤e.den∧e.den<len.den→(∀b o1,oY μ k=some (b,o1)→aC μ av=some (.pointer (some ⟨b,o1+off+e.den.toNat*gA,none⟩)))→∀ob,iE c S X μ a w o ⟨av,none,ob⟩:=by
     intro av hn bDy ob;obtain⟨b,o1,hb1,hb2⟩:=mG e1 (by omega);exact iE.pure H (v:=.pointer (some ⟨b,o1+off+e.den.toNat*gA,none⟩)) (by simp only[execOp,hx,hb2,e3,Sem.run_bind,aCo (c.tok _ i hi) hk (len:=len.den.toNat) hn.1 (by omega),Result.andThen_ok,Sem.run_pure]) (bDy b o1 hb1)
    unfold ixS at h;split at h
    ·split at h
     ·rename_i hn;injection h with h;subst h
      exact go _ hn (fun b o1 hb1=>by simp[aC,hb1,IE.den,Nat.add_assoc]) _
     ·cases h
    ·injection h with h;subst h
     exact go _ hb.1 (fun b o1 hb1=>by simp[aC,hb1,IE.den,Nat.add_assoc]) _
    ·injection h with h;subst h
     exact go _ hb.1 (fun b o1 hb1=>by simp[aC,hb1,aX,Nat.add_assoc]) _
   ·cases h
  ·cases h
 case h_10 t x ix hx=>
  split at h
  ·rename_i i s kk e hi hav hix;have e1:=dH (aI H hav (fun t e=>hD t (by rw[hx];simp[Op.operands,e])))
   have e3:=bQ (aI H hix (fun t e=>hD t (by rw[hx];simp[Op.operands,e])))
   split at h
   ·rename_i hk;injection h with h;subst h
    have hn:0≤e.den∧e.den<(s.den.size:Int):=hb.1
    have hu:=(c.tok _ i hi).und
    rw[hk]at hu;generalize hsd:s.den=sd at hn e1;have hlt:e.den.toNat<sd.size:=by omega
    have hg:sd[e.den.toNat]?=some sd[e.den.toNat]:=by simp[hlt]
    refine iE.pure H (v:=.int .u8 (sd[e.den.toNat].toNat)) ?_ ?_
    ·simp only[execOp,hx,e1,e3,Instr.index,asIntOf,Sem.run_bind,Sem.run_pure,Result.andThen_ok,run_underlying hu,hn.1,if_true,hg]
    ·simp only[aC,IE.den,hsd];have:sd.data.toList.getD e.den.toNat 0=sd[e.den.toNat]:=by
      rw[List.getD_eq_getElem?_getD,Array.getElem?_toList];have:sd.data[e.den.toNat]?=some sd[e.den.toNat]:=by
       rw[Array.getElem?_eq_getElem (by simpa using hlt)];rfl
      rw[this];rfl
     rw[this]
   ·cases h
  ·rename_i i l kk n hi hav hix;have e1:=aI H hav (fun t e=>hD t (by rw[hx];simp[Op.operands,e]))
   have e3:=bQ (aI H hix (fun t e=>hD t (by rw[hx];simp[Op.operands,e])))
   simp only[IE.den]at e3;obtain⟨vs,hvs,e2⟩:=xF e1;split at h
   ·rename_i len elem gA hk;split at h
    ·rename_i j hj;split at h
     ·rename_i hn;obtain⟨n0,n1,n2⟩:=hn;split at h
      ·rename_i av lA;injection h with h;subst h
       have hu:=(c.tok _ i hi).und
       rw[hk]at hu;obtain⟨u1,ti,u2,u3⟩:=hu;have T:=c.tok _ j hj
       have hlen:=aY hvs
       unfold partOf at lA;cases hag:j.kind.agg with
       | true=>
        rw[hag]at lA;simp only[if_true]at lA;split at lA
        ·rename_i hle;injection lA with lA;subst lA
         refine iE.pure H (v:=.agg ((vs.drop (n.toNat*gA)).take gA).toArray) ?_ (by simp only[aC,pH gA (pG _ hvs)]);simp only[execOp,hx,e2,e3,Instr.index,asIntOf,Sem.run_bind,Sem.run_pure,Result.andThen_ok,run_underlying u1,n0,n1,and_self,if_true,cO u2,u3,part,aBe T,hag];simp
        ·cases lA
       | false=>
        rw[hag]at lA;simp only[Bool.false_eq_true,if_false]at lA;split at lA
        ·rename_i x hx';split at lA
         ·injection lA with lA;subst lA
          obtain⟨v,hv1,hv2⟩:=gF hvs _ _ hx';refine iE.pure H (v:=v) ?_ hv2;simp[execOp,hx,e2,e3,Instr.index,asIntOf,run_underlying u1,n0,n1,cO u2,u3,part,aBe T,hag,hv1,Result.andThen]
         ·cases lA
        ·cases lA
      ·cases h
     ·cases h
    ·cases h
   ·cases h
  ·cases h
 case h_11 x ix hx=>
  split at h
  ·rename_i l hav;have e1:=aI H hav (fun t e=>hD t (by rw[hx];simp[Op.operands,e]))
   obtain⟨vs,hvs,e2⟩:=mH e1;split at h
   ·rename_i av hl;injection h with h;subst h
    obtain⟨v,hv1,hv2⟩:=gF hvs ix av hl;exact iE.pure H (v:=v) (by simp[execOp,hx,e2,Instr.extract,hv1]) hv2
   ·cases h
  ·cases h
 case h_12 op xt x y yt hx=>
  split at h
  ·rename_i av bv h1 h2;have e1:=aI H h1 (fun t e=>hD t (by rw[hx];simp[Op.operands,e]))
   have e2:=aI H h2 (fun t e=>hD t (by rw[hx];simp[Op.operands,e]))
   have hbs:r.nb=none∧∃z,(do eqGuard op xt x y (a.eval x) (a.eval y);binOp op xt (a.eval x) (a.eval y):Sem Value).run c.P w=.ok z w∧aC μ r.av=some z:=by
    split at h
    ·rename_i r' hr';injection h with h;subst h
     exact aI5 hr' hb e1 e2 (w:=w) (c:=c) xt x y
    ·exact aNy h e1 e2 (w:=w) x y
   obtain⟨hn,z,hz1,hz2⟩:=hbs;refine⟨z,w,μ,?_,?_⟩
   ·simp only[execOp,hx,Sem.run_bind]at hz1 ⊢;simp only[hz1,Result.andThen_ok,Sem.run_pure]
   ·rw[hn];exact cK.same H.own hz2
  ·cases h
 case h_13 xt x hx=>
  split at h
  ·rename_i e hav;injection h with h;subst h
   have e1:=fU (aI H hav (fun t e=>hD t (by rw[hx];simp[Op.operands,e])))
   exact iE.pure H (v:=.bool !e.den) (by simp[execOp,hx,e1,Op.unary]) (by simp[aC,BE.mkNot_den])
  ·cases h
 case h_14 fn first cap hx=>
  split at h
  ·rename_i fs l hfs hl;injection h with h;subst h
   have e0:=mR H hfs (fun t e=>hD t (by rw[hx];simp[Op.operands,Array.mem_toList_iff]at e ⊢;exact .inl e))
   have e1:=mR H hl (fun t e=>hD t (by rw[hx];simp[Op.operands,Array.mem_toList_iff]at e ⊢;exact .inr e))
   refine iE.pure H (v:=.func fn (first.map a.eval) (cap.map a.eval)) (by simp[execOp,hx,Instr.makeFunc]) ?_;simp only[aC,e0,e1]
   congr 2<;>(apply Array.ext';simp)
  ·cases h
 case h_15 t len parts hx=>
  split at h
  ·rename_i i ps hi hps;have T:=c.tok _ i hi
   have e1:=tZ H hps (fun t e=>hD t (by rw[hx];simp only[Op.operands];exact List.mem_toArray.2 e))
   have hu:=T.und
   split at h
   ·rename_i e gA hk;rw[hk]at hu;obtain⟨u1,tj,u2,u3⟩:=hu;split at h
    ·rename_i j hj;split at h
     ·rename_i jS;split at h
      ·rename_i cs hcs;injection h with h;subst h
       obtain⟨ti,z,h1,h2,h3,h4,h5⟩:=(c.tok _ j hj).info;rw[u2]at h1;injection h1 with h1;subst h1
       have hzl:=aY h4
       have bB0:aH μ ((List.range (len*gA)).map fun m=>j.zero.getD (m%j.zero.length) (.o .nilFunc))=some ((List.range (len*gA)).map fun m=>z.cells[m%z.cells.size]!):=by
        have hne:∀m,m∈List.range (len*gA)→0<j.zero.length:=fun m hm=>by
         simp at hm
         rcases jS.2.2 with h0 | h0
         ·subst h0;simp at hm
         ·rcases Nat.eq_zero_or_pos gA with h6 | h6
          ·subst h6;simp at hm
          ·omega
        revert hne
        generalize List.range (len*gA)=l;intro hne
        induction l with
        | nil=>simp[aH]
        | cons m l ih=>
         have hp:=hne m (by simp)
         have hlt:m%j.zero.length<j.zero.length:=Nat.mod_lt _ hp
         obtain⟨v,hv1,hv2⟩:=gF (cS (μ:=μ) h4) (m%j.zero.length) _ (List.getElem?_eq_getElem hlt);simp only[List.map_cons,aH,ih (fun m' hm'=>hne m' (by simp[hm']))];have e3:j.zero.getD (m%j.zero.length) (.o .nilFunc)=j.zero[m%j.zero.length]:=by simp[hlt]
         have hsz:z.cells.size=j.zero.length:=by simpa using hzl
         have e4:z.cells[m%z.cells.size]! =v:=by
          rw[hsz];have:z.cells[m%j.zero.length]?=some v:=by simpa using hv1
          rw[getElem!_def,this]
         rw[e3,hv2,e4]
       obtain⟨os,f1,f2⟩:=pL e1 bB0 hcs;refine⟨.slice (some ⟨w.heap.size,0,none⟩) len len,{w with heap:=w.heap.push (.cells os e)},_,?_,cK.alloc H.own H.bel.size (hfr rfl) H.xlt (fun μ' w' hle hw=>⟨os.toList,fZ hle _ _ f2,by simpa using hw⟩) (fun μ' _ hm=>by simp[aC,aEm (oZ hm),IE.den])⟩;have hle:¬(len*gA>2^24):=by have:=jS.1;omega
       have f1':Instr.fill (fun m=>some (m*gA,gA)) ((Array.range (len*gA)).map fun m=>z.cells[m%z.cells.size]!) ((parts.map fun(i,x)=>(i,a.eval x)).toList)=some os:=by
        rw[←f1]
        congr 1
        ·apply Array.ext';simp
        ·simp
       have f0:len*gA=0→((Array.range (len*gA)).map fun m=>z.cells[m%z.cells.size]!)=(Array.range (len*gA)).map fun m=>(#[]:Array Value)[m%(#[]:Array Value).size]! :=by
        intro h0;rw[h0];apply Array.ext';simp
       simp only[execOp,hx,Instr.buildSlice,Sem.run_bind,run_underlying u1,Result.andThen_ok,cO u2,u3,hle,if_false,Sem.run_pure]
       by_cases h0:len*gA=0
       ·rw[f0 h0]at f1';simp only[h0,if_true,Sem.run_pure,Result.andThen_ok]at f1' ⊢;simp only[f1',Sem.run_bind,newRow,run_newObj,Result.andThen_ok,Sem.run_pure]
       ·simp only[h0,if_false,Sem.run_bind,jV u2 h3,Result.andThen_ok,Sem.run_pure];simp only[f1',Sem.run_bind,newRow,run_newObj,Result.andThen_ok,Sem.run_pure]
      ·cases h
     ·cases h
    ·cases h
   ·cases h
  ·cases h
 case h_16 src dst x hx=>
  split at h
  ·rename_i j i kk e hj hi hav;have e1:=bQ (aI H hav (fun t e=>hD t (by rw[hx];simp[Op.operands,e])))
   obtain⟨d,hd⟩:=aTn (c.tok _ j hj);split at h
   ·rename_i k hk;injection h with h;subst h
    have hu:=(c.tok _ i hi).und
    rw[hk]at hu;refine iE.pure H (v:=.int k e.den) ?_ rfl;simp[execOp,hx,e1,convert,run_underlying hd,run_underlying hu,Conv.intToInt,oP hb]
   ·cases h
  ·rename_i j i s hj hi hav;have e1:=dH (aI H hav (fun t e=>hD t (by rw[hx];simp[Op.operands,e])))
   obtain⟨d,hd⟩:=aTn (c.tok _ j hj);split at h
   ·rename_i hk;injection h with h;subst h
    have hu:=(c.tok _ i hi).und
    rw[hk]at hu;refine iE.pure H (v:=.string s.den) ?_ rfl;simp[execOp,hx,e1,convert,run_underlying hd,run_underlying hu]
   ·cases h
  ·cases h
 case h_17 x hx=>
  split at h
  ·rename_i k off hav;injection h with h;subst h
   have e1:=aI H hav (fun t e=>hD t (by rw[hx];simp[Op.operands,e]))
   obtain⟨b,o1,hb1,hb2⟩:=nY e1;exact iE.pure H (v:=.pointer (some ⟨b,o1+off,none⟩)) (by simp[execOp,hx,hb2]) (by simp[aC,hb1])
  ·rename_i g fs l hav;injection h with h;subst h
   have e1:=aI H hav (fun t e=>hD t (by rw[hx];simp[Op.operands,e]))
   obtain⟨us,vs,hus,hvs,e2⟩:=aE2 e1;exact iE.pure H (v:=.func (.func g) us.toArray vs.toArray) (by simp[execOp,hx,e2]) (by simp[aC,hus,hvs])
  ·cases h
 case h_18 t x hx=>
  split at h
  ·rename_i i k off hi hav;have e1:=aI H hav (fun t e=>hD t (by rw[hx];simp[Op.operands,e]))
   obtain⟨b,o1,hb1,hb2⟩:=nY e1;split at h
   ·rename_i len elem gA hk;injection h with h;subst h
    have hu:=(c.tok _ i hi).und
    rw[hk]at hu;obtain⟨u1,tj,u2,u3⟩:=hu;refine iE.pure H (v:=.slice (some ⟨b,o1+off,none⟩) len len) ?_ (by simp[aC,aEm hb1,IE.den]);simp[execOp,hx,hb2,Instr.sliceAt,run_underlying u1,Instr.sureAddr,Instr.sliceBounds,cO u2,Addr.add]
   ·cases h
  ·cases h
 case h_19 args argTypes hx=>
  split at h
  ·rename_i x t ha ht;have ha':args=#[x]:=Array.ext' ha
   have ht':argTypes=#[t]:=Array.ext' ht
   subst ha';subst ht';split at h
   ·rename_i i s hi hav;have e1:=dH (aI H hav (fun t e=>hD t (by rw[hx];simp[Op.operands,Call.operands,e])))
    split at h
    ·rename_i hk;injection h with h;subst h
     have hu:=(c.tok _ i hi).und
     rw[hk]at hu;refine iE.pure H (v:=.int .i64 s.den.size) ?_ (by simp[aC,IE.den]);simp[execOp,hx,resolve,invoke,builtin,Builtin.len_,run_underlying hu,e1,goInt]
    ·cases h
   ·rename_i i xa len cap hi hav;have e1:=lI (aI H hav (fun t e=>hD t (by rw[hx];simp[Op.operands,Call.operands,e])))
    split at h
    ·rename_i e gA hk;injection h with h;subst h
     have hu:=(c.tok _ i hi).und
     rw[hk]at hu;refine iE.pure H (v:=.int .i64 len) ?_ rfl;simp[execOp,hx,resolve,invoke,builtin,Builtin.len_,run_underlying hu.1,e1,goInt]
    ·cases h
   ·rename_i i k off len cap hi hav;have e1:=aI H hav (fun t e=>hD t (by rw[hx];simp[Op.operands,Call.operands,e]))
    obtain⟨ad,_,hb2,hl0,_⟩:=nO e1;split at h
    ·rename_i e gA hk;injection h with h;subst h
     have hu:=(c.tok _ i hi).und
     rw[hk]at hu;refine iE.pure H (v:=.int .i64 len.den) ?_ rfl;simp[execOp,hx,resolve,invoke,builtin,Builtin.len_,run_underlying hu.1,hb2,goInt];omega
    ·cases h
   ·cases h
  ·cases h
 case h_20 args argTypes hx=>
  split at h
  ·rename_i x y ha;have ha':args=#[x,y]:=Array.ext' ha
   subst ha';split at h
   ·rename_i k e k' e' h1 h2;injection h with h;subst h
    have e1:=bQ (aI H h1 (fun t e=>hD t (by rw[hx];simp[Op.operands,Call.operands,e])))
    have e2:=bQ (aI H h2 (fun t e=>hD t (by rw[hx];simp[Op.operands,Call.operands,e])))
    refine iE.pure H (v:=.int k (if e.den<e'.den then e'.den else e.den)) ?_ (by simp[aC,IE.mkMax_den]);simp[execOp,hx,resolve,invoke,builtin,Builtin.max_,Builtin.max2,e1,e2]
   ·cases h
  ·cases h
 case h_21 xt x hx=>
  split at h
  ·rename_i k e hav;injection h with h;subst h
   have e1:=bQ (aI H hav (fun t e=>hD t (by rw[hx];simp[Op.operands,e])))
   have hw:=oP hb
   simp only[IE.mkSub_den,IE.den]at hw;exact iE.pure H (v:=.int k (0 - e.den)) (by simp only[execOp,hx,e1,Op.unary,Op.intArith,hw,Sem.run_bind,Sem.run_pure,Result.andThen_ok]) (by simp[aC,IE.mkSub_den,IE.den])
  ·cases h
 case h_22 t x y hx=>
  split at h
  ·rename_i i s kk e hi hav hy;have e1:=dH (aI H hav (fun t e=>hD t (by rw[hx];simp[Op.operands,e])))
   have e2:=bQ (aI H hy (fun t e=>hD t (by rw[hx];simp[Op.operands,e])))
   split at h
   ·rename_i hk;injection h with h;subst h
    have hn:0≤e.den∧e.den≤(IE.len s).den∧(IE.len s).den≤(s.den.size:Int):=hb.1
    have hu:=(c.tok _ i hi).und
    rw[hk]at hu;refine iE.pure H (v:=.string (s.den.extract e.den.toNat s.den.size)) ?_ (by simp[aC,SE.den,IE.den]);simp only[execOp,hx,e1,e2,Option.map_none,Option.map_some,Instr.sliceAt,Instr.slice,Sem.run_bind,run_underlying hu,Result.andThen_ok,Instr.sliceBounds,Instr.sliceBound,asIntOf,Sem.run_pure,Option.isSome_none,Bool.false_eq_true,if_false];simp only[IE.den]at hn;rw[if_pos ⟨hn.1,hn.2.1⟩];simp only[Sem.run_pure,Result.andThen_ok]
   ·cases h
  ·cases h
 case h_23 args argTypes hx=>
  split at h
  ·rename_i x y ha;have ha':args=#[x,y]:=Array.ext' ha
   subst ha';split at h
   ·rename_i k e k' e' h1 h2;injection h with h;subst h
    have e1:=bQ (aI H h1 (fun t e=>hD t (by rw[hx];simp[Op.operands,Call.operands,e])))
    have e2:=bQ (aI H h2 (fun t e=>hD t (by rw[hx];simp[Op.operands,Call.operands,e])))
    refine iE.pure H (v:=.int k (if e'.den<e.den then e'.den else e.den)) ?_ (by simp[aC,IE.mkMin_den]);simp[execOp,hx,resolve,invoke,builtin,Builtin.min_,Builtin.min2,e1,e2]
   ·cases h
  ·cases h
 case h_24 t x y hx=>
  split at h
  ·rename_i i k off len cap kk e hi hav hy;have e1:=aI H hav (fun t e=>hD t (by rw[hx];simp[Op.operands,e]))
   have e2:=bQ (aI H hy (fun t e=>hD t (by rw[hx];simp[Op.operands,e])))
   obtain⟨ad,hb1,hb2,hl0,hl1⟩:=nO e1;split at h
   ·rename_i el gA hk;injection h with h;subst h
    have hn:0≤e.den∧e.den≤(cap:Int):=hb.1
    have hu:=(c.tok _ i hi).und
    rw[hk]at hu;obtain⟨u1,tj,u2,u3⟩:=hu;refine iE.pure H (v:=.slice (ad.map fun x=>⟨x.1,x.2+off,none⟩) e.den.toNat cap) ?_ ?_
    ·simp only[execOp,hx,hb2,e2,Option.map_none,Option.map_some,Instr.sliceAt,Instr.slice,Sem.run_bind,run_underlying u1,Result.andThen_ok,Instr.sliceBounds,Instr.sliceBound,asIntOf,Sem.run_pure,cO u2,Option.isSome_none,Bool.false_eq_true,if_false];simp only[if_pos hn,Sem.run_pure,Result.andThen_ok,Nat.zero_mul,Nat.sub_zero];cases ad<;>simp[add_eq]
    ·simp only[aC,hb1];rw[if_pos];exact⟨hn.1,fun e0=>by have:=(hl1 e0).2;omega⟩
   ·cases h
  ·rename_i i s kk e hi hav hy;have e1:=dH (aI H hav (fun t e=>hD t (by rw[hx];simp[Op.operands,e])))
   have e2:=bQ (aI H hy (fun t e=>hD t (by rw[hx];simp[Op.operands,e])))
   split at h
   ·rename_i hk;injection h with h;subst h
    have hn:0≤(IE.l 0).den∧(IE.l 0).den≤e.den∧e.den≤(s.den.size:Int):=hb.1
    have hu:=(c.tok _ i hi).und
    rw[hk]at hu;refine iE.pure H (v:=.string (s.den.extract 0 e.den.toNat)) ?_ (by simp[aC,SE.den,IE.den]);simp only[execOp,hx,e1,e2,Option.map_none,Option.map_some,Instr.sliceAt,Instr.slice,Sem.run_bind,run_underlying hu,Result.andThen_ok,Instr.sliceBounds,Instr.sliceBound,asIntOf,Sem.run_pure,Option.isSome_none,Bool.false_eq_true,if_false];simp only[IE.den]at hn;rw[if_pos ⟨hn.2.1,hn.2.2⟩];simp only[Sem.run_pure,Result.andThen_ok]
   ·cases h
  ·cases h
 case h_25=>cases h
end
end Go.Ai
namespace Go.Ai
open Go Go.RowKit
inductive KI
 | code (c:Code)
 | ops (all:Array Oper) (i:Nat)
 | blk (id:Nat)
 | hole (p:Act→World→Prop)
 | cal (g:Nat) (avs:List AV) (all:Array Oper) (i:Nat)
 | dops (all:Array Oper) (i n0:Nat) (K0:List KF)
 | dcal (g:Nat) (avs:List AV) (all:Array Oper) (i n0:Nat) (K0:List KF)
 | ord (all:Array Oper) (L:Array Bool)
def aR (F:Fence)(P:Program)(R:Act→World→Prop):List KI→Exit→Act→World→Prop
 | [],e,a,w=>match e with | .normal | .ret=>R a w | _=>False
 | .code c::k,e,a,w=>match e with | .normal=>c.wpIn F 0 P (aR F P R k) a w | e=>aR F P R k e a w
 | .ops all i::k,e,a,w=>match e with | .normal=>wpOpsIn F 0 P all (aR F P R k) (List.range' i (all.size - i)) a w | e=>aR F P R k e a w
 | .blk id::k,e,a,w=>match e with | .exit j=>if j=id then aR F P R k .normal a w else aR F P R k (.exit j) a w | e=>aR F P R k e a w
 | .hole p::k,e,a,w=>match e with | .normal=>p a w | e=>aR F P R k e a w
 | .ord all L::k,e,a,w=>match e with | .normal=>wpAnyIn F 0 P .any all (aR F P R k) (L.toList.count false) L a w | e=>aR F P R k e a w
 | .cal ..::_,_,_,_=>False
 | .dops ..::_,_,_,_=>False
 | .dcal ..::_,_,_,_=>False
structure Sim (c:Cx)(K:List KF)(S:St)(X:Nat→Prop)(μ:Mu)(a:Act)(w:World):Prop where
 toP:PSim c K S.hp.length (fun _=>True) S X μ a w
 dom:∀k,S.hp.length≤k→μ k=none
def bD (c:Cx)(K:List KF)(ks:List KI)(S:St):Prop:=
 ∀X μ a w,Sim c K S X μ a w→aR c.F c.P c.R ks .normal a w
def St.putO (S:St)(dst:Option Nat)(av:AV)(nb:Option Blk)(ow:List OF):St:=
 {sl:=match dst with | some d=>(d,av)::S.sl | none=>S.sl,hp:=match nb with | some b=>S.hp++[b] | none=>S.hp,ow:=ow}
def St.put (S:St)(dst:Option Nat)(av:AV)(nb:Option Blk):St:=S.putO dst av nb S.ow
def Cert (c:Cx)(K:List KF)(n0:Nat)(D:Nat→Prop)(S:St)(o:Oper)(av:AV)(nb:Option Blk)(Kn:List KF)(ow:List OF):Prop:=
 ∀X μ a w (next:Act→World→Prop) (Q:Exit→Act→World→Prop),PSim c K n0 D S X μ a w→(nb.isSome=true→μ S.hp.length=none)→
  (∀X' μ' v w',cK c S X μ w av nb ow X' μ' v w'→(∀f,f∈Kn→f.p X' μ' w')→next (a.put o.dst v) w')→o.wpIn c.F 0 c.P a w next Q
theorem aOd {P:Program}{ρ:Operand→Value}{o:Oper}{w w':World}{r:Next}(h:(execOp ρ o).run P w=.ok r w')(hr:∀d,r≠.defer d):∀c,o.op≠.defer c:=by
 intro c hc;simp only[execOp,hc,Sem.run_bind]at h;cases hx:(resolve ρ c o.type).run P w with
 | ok d w1=>
  rw[hx]at h;simp only[Result.andThen,Sem.run_pure]at h;injection h with h _
  exact hr d h.symm
 | halt x w1=>rw[hx]at h;cases h
theorem sN {P:Program}{ρ:Operand→Value}{o:Oper}{w w':World}{r:Next}(ro:Option Nat)(h:(execOp ρ o).run P w=.ok r w')(hr:∀d,r≠.defer d):(o.semAt ro ρ).run P w=.ok r w':=by
 rw[Oper.semAt_eq ro ρ o (aOd h hr)];exact h
theorem aAd {c:Cx}{P:Program}{o:Oper}{a:Act}{w w':World}{v:Value}{next:Act→World→Prop}{Q:Exit→Act→World→Prop}(h:(execOp a.eval o).run P w=.ok (.value v) w')(hn:next (a.put o.dst v) w'):o.wpIn c.F 0 P a w next Q:=by
 refine⟨fun _ _=>trivial,?_⟩;rw[sN _ h (fun d e=>by cases e),Oper.uponIn_value];exact hn
theorem rS {c:Cx}{P:Program}{o:Oper}{a:Act}{w w':World}{next:Act→World→Prop}{Q:Exit→Act→World→Prop}(h:(execOp a.eval o).run P w=.ok .skip w')(hn:next (a.put o.dst undef) w'):o.wpIn c.F 0 P a w next Q:=by
 refine⟨fun _ _=>trivial,?_⟩;rw[sN _ h (fun d e=>by cases e),Oper.uponIn_skip];exact hn
theorem aXx {c:Cx}{P:Program}{f:FuncId}{args:Array Value}{w:World}{R:Ending→World→Prop}(h:Calls P f args w R):CallsIn c.F 0 P f args w R:=
 (callsIn_wide (n:=0)).2 h
theorem oV {c:Cx}{P:Program}{o:Oper}{a:Act}{w w':World}{f:FuncId}{args:Array Value}{next:Act→World→Prop}{Q:Exit→Act→World→Prop}(h:(execOp a.eval o).run P w=.ok (.enter f args) w')
  (hc:Calls P f args w' fun e w''=>∃v,e=.returned v∧next (a.put o.dst v) w''):o.wpIn c.F 0 P a w next Q:=by
 refine⟨fun _ _=>trivial,?_⟩;rw[sN _ h (fun d e=>by cases e),Oper.uponIn_enter];refine⟨fun e=>(by cases e),aXx (Calls.mono hc ?_)⟩;rintro e w'' ⟨v,rfl,hn⟩;exact hn
def cF (nt:Nat):Option Nat→Bool
 | some d=>decide (d<nt)
 | none=>true
theorem jN {c:Cx}{K:List KF}{n0:Nat}{D:Nat→Prop}{S:St}{o:Oper}{r:Rs}(h:fop c.ty n0 S o.op=some r)(hb:hJ r.ob)(hD:∀t,Operand.tmp t∈o.op.operands→D t):
  Cert c K n0 D S o r.av r.nb [] S.ow:=by
 intro X μ a w next Q H hfr hn
 obtain⟨v,w',μ',hr,hp⟩:=aN0 H h hfr hb hD;refine aAd hr ?_;exact hn X μ' v w' hp (fun f hf=>by cases hf)
theorem vW (a:Act)(d:Option Nat)(v:Value):(a.put d v).tmps.size=a.tmps.size:=by
 cases d<;>simp[Act.put]
theorem put_defers (a:Act)(d:Option Nat)(v:Value):(a.put d v).defers=a.defers:=by
 cases d<;>simp[Act.put]
theorem mS {a:Act}{d:Option Nat}{v:Value}{t:Nat}(h:d≠some t):(a.put d v).tmps[t]?=a.tmps[t]?:=by
 cases d with
 | none=>rfl
 | some d=>simp only[Act.put];exact Array.getElem?_setIfInBounds_ne (fun e=>h (by rw[e]))
theorem lM {a:Act}{d:Nat}{v:Value}(h:d<a.tmps.size):(a.put (some d) v).tmps[d]?=some v:=by
 simp[Act.put,h]
theorem jT {K:List KF}{X X':Nat→Prop}{μ μ':Mu}{w w':World}(h:∀f,f∈K→f.p X μ w)(hs:∀b,X b→X' b)(hle:Mu.vle μ μ')(hw:∀b,X b→w'.heap[b]?=w.heap[b]?):∀f,f∈K→f.p X' μ' w':=
 fun f hf=>f.st X X' μ μ' w w' hs hle hw (h f hf)
theorem pQ {c:Cx}{S:St}{X:Nat→Prop}{μ:Mu}{w:World}{av:AV}{nb:Option Blk}{ow:List OF}{X':Nat→Prop}{μ':Mu}{v:Value}{w':World}(h:cK c S X μ w av nb ow X' μ' v w')(hf:nb.isSome=true→μ S.hp.length=none):Mu.le μ μ':=by
 have hb:=h.blk
 cases nb with
 | none=>simp only at hb;subst hb;exact Mu.le_refl _
 | some blk=>simp only at hb;obtain⟨m,rfl,_⟩:=hb;exact Mu.le_upd (hf rfl)
theorem rO {c:Cx}{S:St}{X:Nat→Prop}{μ:Mu}{w:World}{av:AV}{nb:Option Blk}{ow:List OF}{X':Nat→Prop}{μ':Mu}{v:Value}{w':World}(h:cK c S X μ w av nb ow X' μ' v w'){k:Nat}{m:MV}(hk:μ' k=some m):
  μ k=some m∨∃blk,nb=some blk∧k=S.hp.length∧blk.ok X' μ' w' m∧∀b,m=.own b→w.heap.size≤b∧b<w'.heap.size∧¬X' b:=by
 have hb:=h.blk
 cases nb with
 | none=>simp only at hb;subst hb;exact .inl hk
 | some blk=>
  simp only at hb;obtain⟨m',h1,h2,h3⟩:=hb
  by_cases hkk:k=S.hp.length
  ·subst hkk;rw[h1,Mu.upd_same]at hk;injection hk with hk;subst hk
   exact .inr ⟨blk,rfl,rfl,h2,h3⟩
  ·rw[h1]at hk;simp only[Mu.upd,hkk,if_false]at hk;exact .inl hk
theorem lB {c:Cx}{K Kn:List KF}{S:St}{X:Nat→Prop}{μ:Mu}{a:Act}{w:World}(H:Sim c K S X μ a w){d:Option Nat}(hd:cF c.nt d=true){av:AV}{nb:Option Blk}{ow:List OF}{X':Nat→Prop}{μ':Mu}{v:Value}{w':World}
  (hp:cK c S X μ w av nb ow X' μ' v w') (hk:∀f,f∈Kn→f.p X' μ' w'):Sim c (Kn++K) (S.putO d av nb ow) X' μ' (a.put d v) w':=by
 have P:=H.toP
 have hle:Mu.le μ μ':=pQ hp (fun _=>H.dom _ (lRf _))
 have hold:∀b,b<w.heap.size→(∀f,f∈S.ow→¬f.F μ b)→w'.heap[b]?=w.heap[b]?:=hp.keep
 have hmu:∀k b,μ k=some (.own b)→∀f,f∈S.ow→¬f.F μ b:=fun k b hkb f hf hb=>((P.own.at_ f hf).2 b hb).2.2.2 k hkb
 have hxo:∀b,X b→∀f,f∈S.ow→¬f.F μ b:=fun b hx f hf hb=>((P.own.at_ f hf).2 b hb).2.2.1 hx
 have hkx:∀b,X b→w'.heap[b]?=w.heap[b]?:=fun b hb=>hold b (P.xlt b hb) (hxo b hb)
 have hlen:(S.putO d av nb ow).hp.length=S.hp.length+(if nb.isSome then 1 else 0):=by cases nb<;>simp[St.putO]
 refine⟨⟨by rw[put_defers];exact P.dfr,by rw[vW];exact P.size,?_,?_,?_,?_,?_,?_,?_,fun b hb=>hp.sub b (P.xold b hb),?_,?_,hp.own⟩,?_⟩
 ·intro t b _ hl;cases d with
  | none=>
   obtain⟨u,h1,h2⟩:=P.slots t b trivial (by simpa[St.putO]using hl);exact⟨u,gK hle _ _ h1,by simpa[Act.put]using h2⟩
  | some d=>
   have hdn:d<a.tmps.size:=by simp only[cF,decide_eq_true_eq]at hd;rw[P.size];exact hd
   by_cases ht:d=t
   ·subst ht;simp only[St.putO,bF]at hl;injection hl with hl;subst hl
    exact⟨v,hp.val,lM hdn⟩
   ·simp only[St.putO,bA ht]at hl;obtain⟨u,h1,h2⟩:=P.slots t b trivial hl;exact⟨u,gK hle _ _ h1,by rw[mS (by simpa using ht)];exact h2⟩
 ·intro k blk m hkb hm
  rcases rO hp hm with h1 | ⟨blk',e1,e2,h2,h3⟩
  ·have hk':k<S.hp.length:=by
    rcases Nat.lt_or_ge k S.hp.length with h | h
    ·exact h
    ·rw[H.dom k h]at h1;cases h1
   have bEg:S.hp[k]?=some blk:=by
    cases nb with
    | none=>simpa[St.putO]using hkb
    | some x=>simp only[St.putO]at hkb;rwa [List.getElem?_append_left hk']at hkb
   exact Blk.ok_keep hle hp.sub hkx (fun b e=>hold b (P.loc k b (by rw[h1,e])).2.2 (hmu k b (by rw[h1,e]))) (P.heap k blk m bEg h1)
  ·subst e1;subst e2;simp only[St.putO]at hkb;rw[List.getElem?_append_right (lRf _)]at hkb;simp at hkb;subst hkb;exact h2
 ·intro k hk';rw[hlen]at hk'
  rcases Nat.lt_or_ge k S.hp.length with h | h
  ·obtain⟨b,hb⟩:=P.all k h;exact⟨b,hle _ _ hb⟩
  ·have hb:=hp.blk
   cases nb with
   | none=>simp at hk';omega
   | some blk=>
    simp at hk';have:k=S.hp.length:=by omega
    subst this;simp only at hb;obtain⟨m',h4,_⟩:=hb;exact⟨m',by rw[h4,Mu.upd_same]⟩
 ·intro k k' b h1 h2
  rcases rO hp h1 with h1 | ⟨_,_,e2,_,h3⟩<;>rcases rO hp h2 with h4 | ⟨_,_,e5,_,h6⟩
  ·exact P.inj k k' b h1 h4
  ·have:=(P.loc k b h1).2.2;have:=(h6 b rfl).1;omega
  ·have:=(P.loc k' b h4).2.2;have:=(h3 b rfl).1;omega
  ·omega
 ·intro k b h1
  rcases rO hp h1 with h1 | ⟨_,_,e2,_,h3⟩
  ·obtain⟨l1,l2,l3⟩:=P.loc k b h1;refine⟨l1,fun hx=>?_,Nat.lt_of_lt_of_le l3 hp.bel.size⟩
   rcases hp.new b hx with h | h | ⟨f,hf,hb⟩
   ·exact l2 h
   ·omega
   ·exact hmu k b h1 f hf hb
  ·obtain⟨q1,q2,q3⟩:=h3 b rfl;exact⟨lTr P.bel.size q1,q3,q2⟩
 ·intro b hx
  rcases hp.new b hx with h | h | ⟨f,hf,hb⟩
  ·exact Nat.lt_of_lt_of_le (P.xlt b h) hp.bel.size
  ·exact h.2
  ·exact Nat.lt_of_lt_of_le ((P.own.at_ f hf).2 b hb).2.1 hp.bel.size
 ·intro b hx
  rcases hp.new b hx with h | h | ⟨f,hf,hb⟩
  ·exact P.xnew b h
  ·exact .inr (lTr P.bel.size h.1)
  ·exact .inr ((P.own.at_ f hf).2 b hb).1
 ·exact P.bel.trans hp.bel
 ·intro f hf
  rcases List.mem_append.1 hf with hf | hf
  ·exact hk f hf
  ·exact jT P.kf hp.sub hle.v hkx f hf
 ·intro k hk';rw[hlen]at hk';have hb:=hp.blk
  cases nb with
  | none=>simp only at hb;subst hb;exact H.dom k (by simpa using hk')
  | some blk=>
   simp at hk';simp only at hb;obtain⟨m',h4,_⟩:=hb;rw[h4];simp only[Mu.upd];rw[if_neg (by omega)];exact H.dom k (by omega)
theorem fW {i n:Nat}(h:i<n):List.range' i (n - i)=i::List.range' (i+1) (n - (i+1)):=by
 obtain⟨m,hm⟩:∃m,n - i=m+1:=⟨n - i - 1,by omega⟩;rw[hm,List.range'_succ,show n - (i+1)=m from by omega]
theorem iD {o:Oper}(h:o.guard=none)(y:Nat→Option Bool):Region.wanted o y=true:=by simp[Region.wanted,h]
theorem kP {c:Cx}{K Kn:List KF}{all:Array Oper}{i:Nat}{k:List KI}{S:St}{o:Oper}(ho:all[i]?=some o)(hw:∀X μ a w,Sim c K S X μ a w→Region.wanted o (yielded all a.tmps)=true){av:AV}{nb:Option Blk}{ow:List OF}
  (hd:cF c.nt o.dst=true) (hc:Cert c K S.hp.length (fun _=>True) S o av nb Kn ow) (h:bD c (Kn++K) (.ops all (i+1)::k) (S.putO o.dst av nb ow)):bD c K (.ops all i::k) S:=by
 intro X μ a w H;have hlt:i<all.size:=(Array.getElem?_eq_some_iff.1 ho).1
 simp only[aR];rw[fW hlt];simp only[wpOpsIn,ho];rw[if_pos (hw X μ a w H)];refine hc X μ a w _ _ H.toP (fun _=>H.dom _ (lRf _)) fun X' μ' v w' hp hk=>?_
 have:=h X' μ' _ w' (lB H hd hp hk)
 simpa[aR]using this
theorem aK1 {c:Cx}{K:List KF}{all:Array Oper}{i:Nat}{k:List KI}{S:St}{o:Oper}(ho:all[i]?=some o)(hw:∀X μ a w,Sim c K S X μ a w→Region.wanted o (yielded all a.tmps)=false)
  (hd:cF c.nt o.dst=true) (h:bD c K (.ops all (i+1)::k) (S.put o.dst (.q undef) none)):bD c K (.ops all i::k) S:=by
 intro X μ a w H;have hlt:i<all.size:=(Array.getElem?_eq_some_iff.1 ho).1
 simp only[aR];rw[fW hlt];simp only[wpOpsIn,ho];rw[if_neg (by rw[hw X μ a w H];simp)];refine⟨fun _ _=>trivial,?_⟩;have:=h X μ _ w (lB (Kn:=[]) H hd (cK.same H.toP.own (av:=.q undef) (v:=undef) (by simp[aC])) (fun f hf=>by cases hf))
 simpa[aR]using this
theorem wJ {c:Cx}{K:List KF}{all:Array Oper}{i:Nat}{k:List KI}{S:St}(hi:all.size≤i)(h:bD c K k S):bD c K (.ops all i::k) S:=by
 intro X μ a w H;simp only[aR];rw[show all.size - i=0 from by omega]
 simpa[wpOpsIn]using h X μ a w H
theorem aO1 {c:Cx}{K:List KF}{x y:Code}{k:List KI}{S:St}(h:bD c K (.code x::.code y::k) S):bD c K (.code (.seq x y)::k) S:=by
 intro X μ a w H;refine wpIn_seq (wpIn_mono (h X μ a w H) fun e a w hq=>?_);cases e<;>simpa[aR,Exit.then]using hq
theorem aIn {c:Cx}{K:List KF}{k:List KI}{S:St}(h:bD c K k S):bD c K (.code .skip::k) S:=
 fun X μ a w H=>wpIn_skip (h X μ a w H)
theorem aFx {c:Cx}{K:List KF}{id:Nat}{ops:Array Oper}{k:List KI}{S:St}(h:bD c K (.ops ops 0::k) S):bD c K (.code (.region id ops false)::k) S:=by
 intro X μ a w H;have:=h X μ a w H
 simp only[aR,Nat.sub_zero]at this;exact wpIn_region (by rw[List.range_eq_range'];exact this)
theorem aIl {c:Cx}{K:List KF}{id:Nat}{b:Code}{k:List KI}{S:St}(h:bD c K (.code b::.blk id::k) S):bD c K (.code (.block id b)::k) S:=by
 intro X μ a w H;refine wpIn_block (wpIn_mono (h X μ a w H) fun e a w hq=>?_);cases e<;>simpa[aR,Exit.inBlock]using hq
theorem aOy {c:Cx}{K:List KF}{id:Nat}{k:List KI}{S:St}(h:bD c K k S):bD c K (.blk id::k) S:=
 fun X μ a w H=>by simpa[aR]using h X μ a w H
theorem uE {c:Cx}{K:List KF}{x:Operand}{p q:Code}{k:List KI}{S:St}{e:BE}(hx:fG S.sl x=some (.b e))(ht:e.den=true→bD c K (.code p::k) S)(hf:e.den=false→bD c K (.code q::k) S):
  bD c K (.code (.cond x p q)::k) S:=by
 intro X μ a w H;have:=aI H.toP hx (fun _ _=>trivial)
 simp only[aC]at this;injection this with this
 exact wpIn_cond_split this.symm (fun h=>ht h X μ a w H) (fun h=>hf h X μ a w H)
theorem aO0 {c:Cx}{K:List KF}{k:List KI}{S:St}(hk:∀X μ a w,Sim c K S X μ a w→aR c.F c.P c.R k .ret a w):bD c K (.code .ret::k) S:=
 fun X μ a w H=>wpIn_ret (hk X μ a w H)
def noD:List KI→Bool
 | []=>true
 | .cal ..::_=>false
 | .dops ..::_=>false
 | .dcal ..::_=>false
 | _::k=>noD k
theorem lU {F:Fence}{P:Program}{R:Act→World→Prop}:∀{k:List KI},noD k=true→∀{a:Act} {w:World},R a w→aR F P R k .ret a w
 | [],_,a,w,h=>h
 | .code c::k,hk,a,w,h=>by simpa[aR]using lU (k:=k) hk h
 | .ops all i::k,hk,a,w,h=>by simpa[aR]using lU (k:=k) hk h
 | .blk id::k,hk,a,w,h=>by simpa[aR]using lU (k:=k) hk h
 | .hole p::k,hk,a,w,h=>by simpa[aR]using lU (k:=k) hk h
 | .ord all L::k,hk,a,w,h=>by simpa[aR]using lU (k:=k) hk h
theorem aK0 {c:Cx}{K:List KF}{k:List KI}{S:St}(hk:noD k=true)(h:bD c K [] S):bD c K (.code .ret::k) S:=
 aO0 fun X μ a w H=>lU hk (by simpa[aR]using h X μ a w H)
def fR (id:Nat):List KI→Option (List KI)
 | .blk j::k=>if id=j then some k else fR id k
 | .code _::k=>fR id k
 | .ops _ _::k=>fR id k
 | .hole _::k=>fR id k
 | .ord _ _::k=>fR id k
 | _=>none
theorem kF {F:Fence}{P:Program}{R:Act→World→Prop}{id:Nat}:∀{k k':List KI},fR id k=some k'→∀{a:Act} {w:World},aR F P R k' .normal a w→aR F P R k (.exit id) a w
 | .blk j::k,k',h,a,w,hc=>by
  simp only[fR]at h;simp only[aR];split at h
  ·injection h with h;subst h;rename_i e;rw[if_pos e];exact hc
  ·rename_i e;rw[if_neg e];exact kF h hc
 | .code c::k,k',h,a,w,hc=>by simp only[fR]at h;simpa[aR]using kF h hc
 | .ops all i::k,k',h,a,w,hc=>by simp only[fR]at h;simpa[aR]using kF h hc
 | .hole p::k,k',h,a,w,hc=>by simp only[fR]at h;simpa[aR]using kF h hc
 | .ord all L::k,k',h,a,w,hc=>by simp only[fR]at h;simpa[aR]using kF h hc
theorem aKz {c:Cx}{K:List KF}{id:Nat}{k k':List KI}{S:St}(hu:fR id k=some k')(h:bD c K k' S):bD c K (.code (.exit id)::k) S:=
 fun X μ a w H=>wpIn_exit (kF hu (h X μ a w H))
end Go.Ai
