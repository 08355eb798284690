/- Part 2: lemmas for the particulars laws -/
import Derived.Test.YtafimpgfbgigeaaGreatDoorPh0
set_option linter.all false
namespace Go.Ai
open Go Go.RowKit
section
variable {c:Cx}{K:List KF}{n0:Nat}{D:Nat->Prop}{S:St}{X:Nat->Prop}{μ:Mu}{a:Act}{w:World}
def jA (c:Cx)(S:St)(X:Nat->Prop)(μ:Mu)(a:Act)(w:World)(o:Oper)(r:Rs):Prop:=
 ∃v w' μ',(execOp a.eval o).run c.P w=.ok (.value v) w'/\cV c S X μ w r.av r.nb S.ow X μ' v w'
theorem jA.pure (H:PSim c K n0 D S X μ a w){o:Oper}{av:AV}{v:Value}{ob:List Obl}(h1:(execOp a.eval o).run c.P w=.ok (.value v) w)(h2:aD μ av=some v):jA c S X μ a w o ⟨av,none,ob⟩:=
 ⟨v,w,μ,h1,cV.same H.own h2⟩
theorem pT {k off:Nat}{v:Value}(h:aD μ (.p k off)=some v):∃b o,rA μ k=some (b,o)/\v=.pointer (some ⟨b,o+off,none⟩):=by
 simp only[aD]at h;split at h
 ·rename_i b o hb;injection h with h;exact⟨b,o,hb,h.symm⟩
 ·cases h
theorem xK {k off:Nat}{i:IE}{sz inner:Nat}{v:Value}(h:aD μ (.pe k off i sz inner)=some v):∃b o,rA μ k=some (b,o)/\v=.pointer (some ⟨b,o+aY off i.den sz inner,none⟩):=by
 simp only[aD]at h;split at h
 ·rename_i b o hb;injection h with h;exact⟨b,o,hb,h.symm⟩
 ·cases h
theorem pH {k off:Nat}{len:IE}{cap:Nat}{v:Value}(h:aD μ (.sl k off len cap)=some v):∃a,atS μ k=some a/\v=.slice (a.map λx=>⟨x.1,x.2+off,none⟩) len.den.toNat cap/\0<=len.den/\(a=none->len.den=0/\cap=0):=by
 simp only[aD]at h;split at h
 ·rename_i a hb;split at h
  ·rename_i hc;injection h with h;exact⟨a,hb,h.symm,hc⟩
  ·cases h
 ·cases h
theorem oH {k off:Nat}{len:IE}{cap:Nat}{v:Value}(h:aD μ (.sl k off len cap)=some v)(h0:0<len.den):∃b o,rA μ k=some (b,o)/\v=.slice (some ⟨b,o+off,none⟩) len.den.toNat cap:=by
 obtain⟨a,h1,h2,h3,h4⟩:=pH h;cases a with
 | none=>have:=(h4 rfl).1;omega
 | some x=>exact⟨x.1,x.2,aWd h1,h2⟩
theorem rJ {l:List AV}{v:Value}(h:aD μ (.t l)=some v):∃vs,aF μ l=some vs/\v=.tuple vs.toArray:=by
 simp only[aD]at h;split at h
 ·rename_i vs hvs;injection h with h;exact⟨vs,hvs,h.symm⟩
 ·cases h
theorem aHf {fn:Fn}{fs l:List AV}{v:Value}(h:aD μ (.f fn fs l)=some v):∃us vs,aF μ fs=some us/\aF μ l=some vs/\v=.func fn us.toArray vs.toArray:=by
 simp only[aD]at h;split at h
 ·rename_i us vs hus hvs;injection h with h;exact⟨us,vs,hus,hvs,h.symm⟩
 ·cases h
theorem aV1 {P:Program}{t:TypeId}{i:TyI}(h:TyOk P t i):∃d,P.underlying t=some d:=by
 have hu:=h.und
 cases hk:i.kind with
 | struct fl=>rw[hk]at hu;obtain⟨fs,h1,_⟩:=hu;exact⟨_,h1⟩
 | array n e s=>rw[hk]at hu;exact⟨_,hu.1⟩
 | slice e s=>rw[hk]at hu;exact⟨_,hu.1⟩
 | int k=>rw[hk]at hu;exact⟨_,hu⟩
 | str=>rw[hk]at hu;exact⟨_,hu⟩
 | bool=>rw[hk]at hu;exact⟨_,hu⟩
 | other=>rw[hk]at hu;obtain⟨d,h1,_⟩:=hu;exact⟨d,h1⟩
theorem tA {l:List AV}{v:Value}(h:aD μ (.g l)=some v):∃vs,aF μ l=some vs/\v=.agg vs.toArray:=by
 simp only[aD]at h;split at h
 ·rename_i vs hvs;injection h with h;exact⟨vs,hvs,h.symm⟩
 ·cases h
theorem bY {k:IntKind}{e:IE}{v:Value}(h:aD μ (.i k e)=some v):v=.int k e.den:=by simp only[aD]at h;injection h with h;exact h.symm
theorem iT {e:BE}{v:Value}(h:aD μ (.b e)=some v):v=.bool e.den:=by simp only[aD]at h;injection h with h;exact h.symm
theorem dW {s:SE}{v:Value}(h:aD μ (.s s)=some v):v=.string s.den:=by simp only[aD]at h;injection h with h;exact h.symm
theorem nF {x:Option Addr}{len cap:Nat}{v:Value}(h:aD μ (.xs x len cap)=some v):v=.slice x len cap:=by simp only[aD]at h;injection h with h;exact h.symm
theorem add_eq (b o j:Nat):(⟨b,o,none⟩:Addr).add j=⟨b,o+j,none⟩:=Addr.add_mid b o j
theorem aDy {P:Program}:∀{fs:List Field} {fl:List (Nat × Nat)},fs.mapM (λf=>(P.info? f.type).map λi=>(f.offset,i.size))=some fl->∀(j off sz:Nat),fl[j]?=some (off,sz)->
  ∃f ti,fs[j]?=some f/\f.offset=off/\P.info? f.type=some ti/\ti.size=sz
 | [],fl,h,j,off,sz,hj=>by simp at h;subst h;simp at hj
 | f::fs,fl,h,j,off,sz,hj=>by
  simp only[List.mapM_cons,Option.bind_eq_bind,Option.pure_def]at h;cases hi:P.info? f.type with
  | none=>simp[hi]at h
  | some ti=>
   cases hr:fs.mapM (λf=>(P.info? f.type).map λi=>(f.offset,i.size))with
   | none=>simp[hi,hr]at h
   | some rest=>
    simp[hi,hr]at h;subst h;cases j with
    | zero=>simp at hj;exact⟨f,ti,rfl,hj.1,hi,hj.2⟩
    | succ j=>simp at hj;simpa using aDy hr j off sz hj
theorem aA1 {t:TypeId}{i:TyI}(T:TyOk c.P t i){fl:List (Nat × Nat)}(hk:i.kind=.struct fl){f off sz:Nat}(hf:fl[f]?=some (off,sz))(h0:sz≠0)(b o:Nat):
  (Instr.fieldAt t (.pointer (some ⟨b,o,none⟩)) f).run c.P w=.ok (.pointer (some ⟨b,o+off,none⟩)) w:=by
 have hu:=T.und
 rw[hk]at hu;obtain⟨fs,h1,h2⟩:=hu;obtain⟨fd,ti,e1,e2,e3,e4⟩:=aDy h2 f off sz hf;have e1:fs[f]?=some fd:=by simpa using e1
 have h5:ti.size≠0:=zW
 simp only[Instr.fieldAt,Sem.run_bind,run_underlying h1,Result.andThen_ok,e1,Instr.sureAddr,Sem.run_pure,fieldPlace,dD e3,h5,if_false,e2,add_eq]
theorem vF {t:TypeId}{i:TyI}(T:TyOk c.P t i){len elem gW:Nat}(hk:i.kind=.array len elem gW){n:Int}(h0:0<=n)(h1:n<(len:Int))(k:IntKind)(b o:Nat):
  (Instr.indexAt t (.pointer (some ⟨b,o,none⟩)) (.int k n)).run c.P w=.ok (.pointer (some ⟨b,o+n.toNat*gW,none⟩)) w:=by
 have hu:=T.und
 rw[hk]at hu;obtain⟨h2,ti,e1,e2⟩:=hu;simp only[Instr.indexAt,asIntOf,Sem.run_bind,Sem.run_pure,Result.andThen_ok,run_underlying h2,Instr.sureAddr];rw[if_pos ⟨h0,h1⟩];simp only[Sem.run_bind,dD e1,Result.andThen_ok,Sem.run_pure,e2,add_eq]
theorem aEu {t:TypeId}{i:TyI}(T:TyOk c.P t i){elem gW:Nat}(hk:i.kind=.slice elem gW){n:Int}{len cap:Nat}(h0:0<=n)(h1:n<(len:Int))(k:IntKind)(b o:Nat):
  (Instr.indexAt t (.slice (some ⟨b,o,none⟩) len cap) (.int k n)).run c.P w=.ok (.pointer (some ⟨b,o+n.toNat*gW,none⟩)) w:=by
 have hu:=T.und
 rw[hk]at hu;obtain⟨h2,ti,e1,e2⟩:=hu;simp only[Instr.indexAt,asIntOf,Sem.run_bind,Sem.run_pure,Result.andThen_ok,run_underlying h2];rw[if_pos ⟨h0,h1⟩];simp only[Sem.run_bind,dD e1,Result.andThen_ok,Sem.run_pure,e2,add_eq]
theorem aLr {op:BinOp}{x y:AV}{r:Rs}(h:aLq op x y=some r)(ho:iA r.ob){v u:Value}(hx:aD μ x=some v)(hy:aD μ y=some u)(t:TypeId)(ox oy:Operand):
  r.nb=none/\∃z,(do eqGuard op t ox oy v u;binOp op t v u:Sem Value).run c.P w=.ok z w/\aD μ r.av=some z:=by
 unfold aLq at h;split at h
 ·
  rename_i k e k' e';have ev:=bY hx;have eu:=bY hy;subst ev;subst eu;split at h
  ·rename_i hkk;subst hkk;have hgd:(eqGuard op t ox oy (.int k e.den) (.int k e'.den)).run c.P w=.ok () w:=by cases op<;>simp[eqGuard]
   simp only[Sem.run_bind,hgd,Result.andThen_ok];cases op
   case add=>
    injection h with h;subst h;refine⟨rfl,_,?_,rfl⟩
    have hw:=qQ ho
    simp only[IE.mkAdd_den]at hw |-;simp only[binOp,ne_eq,not_true_eq_false,if_false,Op.intArith,Sem.run_pure,hw]
   case sub=>
    injection h with h;subst h;refine⟨rfl,_,?_,rfl⟩
    have hw:=qQ ho
    simp only[IE.mkSub_den]at hw |-;simp only[binOp,ne_eq,not_true_eq_false,if_false,Op.intArith,Sem.run_pure,hw]
   case mul=>
    injection h with h;subst h;refine⟨rfl,_,?_,rfl⟩
    have hw:=qQ ho
    simp only[IE.mkMul_den]at hw |-;simp only[binOp,ne_eq,not_true_eq_false,if_false,Op.intArith,Sem.run_pure,hw]
   case quo=>
    injection h with h;subst h;refine⟨rfl,_,?_,rfl⟩
    have hz:¬e'.den=0:=ho.1
    have hw:=qQ ho.2
    simp only[IE.mkQuo_den]at hw |-;simp only[binOp,ne_eq,not_true_eq_false,if_false,Op.intDiv,hz,Sem.run_pure,hw]
   case rem=>
    injection h with h;subst h;refine⟨rfl,_,?_,rfl⟩
    have hz:¬e'.den=0:=ho.1
    simp only[binOp,ne_eq,not_true_eq_false,if_false,Op.intDiv,hz,Sem.run_pure,IE.mkRem_den]
   case lss=>injection h with h;subst h;refine⟨rfl,_,?_,rfl⟩;simp[binOp,Op.intCmp,BE.mkLt_den]
   case leq=>injection h with h;subst h;refine⟨rfl,_,?_,rfl⟩;simp[binOp,Op.intCmp,BE.mkLe_den]
   case gtr=>injection h with h;subst h;refine⟨rfl,_,?_,rfl⟩;simp[binOp,Op.intCmp,BE.mkLt_den]
   case geq=>injection h with h;subst h;refine⟨rfl,_,?_,rfl⟩;simp[binOp,Op.intCmp,BE.mkLe_den]
   case eql=>injection h with h;subst h;refine⟨rfl,_,?_,rfl⟩;simp[binOp,Op.intCmp,BE.mkEq_den];rfl
   case neq=>injection h with h;subst h;refine⟨rfl,_,?_,rfl⟩;simp[binOp,Op.intCmp,BE.mkEq_den,BE.mkNot_den,bne];rfl
   all_goals cases h
  ·cases h
 ·rename_i s s';have ev:=dW hx;have eu:=dW hy;subst ev;subst eu;have hgd:(eqGuard op t ox oy (.string s.den) (.string s'.den)).run c.P w=.ok () w:=by cases op<;>simp[eqGuard]
  simp only[Sem.run_bind,hgd,Result.andThen_ok];split at h
  ·injection h with h;subst h
   exact⟨rfl,_,by simp only[binOp,Op.stringOp,Sem.run_pure];rfl,rfl⟩
  ·injection h with h;subst h
   exact⟨rfl,_,by simp only[binOp,Op.stringOp,Sem.run_pure];rfl,by simp only[aD,BE.mkNot_den,BE.den]⟩
  ·injection h with h;subst h
   have hle:((s.den.size+s'.den.size:Nat):Int)<=9223372036854775807:=ho.1
   refine⟨rfl,.string (s.den++s'.den),?_,by simp only[aD,SE.den]⟩;simp only[binOp,Op.stringOp];rw[if_neg (by simp only[IntKind.max,IntKind.bits,IntKind.signed];omega)];rfl
  ·cases h
 ·cases h
theorem aHv {x:AV}(h:vG x=some .b):∃e,x=.b e:=by cases x<;>simp[vG]at h;exact⟨_,rfl⟩
theorem aHx {x:AV}(h:vG x=some .s):∃e,x=.s e:=by cases x<;>simp[vG]at h;exact⟨_,rfl⟩
theorem aHw {x:AV}{q:IntKind}(h:vG x=some (.i q)):∃e,x=.i q e:=by
 cases x<;>simp[vG]at h;subst h;exact⟨_,rfl⟩
theorem aJ9 {x:AV}{k:LK}{v:Value}(h:vG x=some k)(hv:aD μ x=some v):sG v=some k:=by
 cases k with
 | b=>obtain⟨e,rfl⟩:=aHv h;rw[iT hv];rfl
 | s=>obtain⟨e,rfl⟩:=aHx h;rw[dW hv];rfl
 | i q=>obtain⟨e,rfl⟩:=aHw h;rw[bY hv];rfl
theorem rQ:∀{l:List AV} {ks:List LK} {vs:List Value},oL l=some ks->aF μ l=some vs->dQ vs=some ks
 | [],ks,vs,h,hv=>by simp only[aF]at hv;injection hv with hv;subst hv;simpa[oL,dQ]using h
 | x::l,ks,vs,h,hv=>by
  simp only[oL]at h;simp only[aF]at hv;split at h
  ·rename_i k ks' h1 h2;injection h with h;subst h
   split at hv
   ·rename_i v us h3 h4;injection hv with hv;subst hv
    simp only[dQ,aJ9 h1 h3,rQ h2 h4]
   ·cases hv
  ·cases h
theorem aW4 {x y:AV}{k:LK}{v u:Value}(hx:vG x=some k)(hy:vG y=some k)(ex:aD μ x=some v)(ey:aD μ y=some u):(eq1 x y).den=true↔v=u:=by
 cases k with
 | b=>obtain⟨e,rfl⟩:=aHv hx;obtain⟨f,rfl⟩:=aHv hy;rw[iT ex,iT ey];simp[eq1,BE.den]
 | s=>
  obtain⟨e,rfl⟩:=aHx hx;obtain⟨f,rfl⟩:=aHx hy;rw[dW ex,dW ey];have:=aRn e.den f.den;simpa[eq1,BE.den,Value.cells]using this
 | i q=>obtain⟨e,rfl⟩:=aHw hx;obtain⟨f,rfl⟩:=aHw hy;rw[bY ex,bY ey];simp[eq1,BE.mkEq_den]
theorem aFt:∀{l m:List AV} {ks:List LK} {vs us:List Value},oL l=some ks->oL m=some ks->aF μ l=some vs->aF μ m=some us->((aC5 l m).den=true↔vs=us)
 | [],[],ks,vs,us,_,_,h1,h2=>by
  simp only[aF]at h1 h2;injection h1 with h1;injection h2 with h2;subst h1;subst h2;simp[aC5,BE.den]
 | [],y::m,ks,vs,us,h1,h2,_,_=>by
  simp only[oL]at h1 h2;injection h1 with h1;subst h1
  split at h2
  ·injection h2 with h2;cases h2
  ·cases h2
 | x::l,[],ks,vs,us,h1,h2,_,_=>by
  simp only[oL]at h1 h2;injection h2 with h2;subst h2
  split at h1
  ·injection h1 with h1;cases h1
  ·cases h1
 | x::l,y::m,ks,vs,us,h1,h2,h3,h4=>by
  simp only[oL]at h1 h2;simp only[aF]at h3 h4;split at h1
  ·rename_i k ks1 a1 a2;split at h2
   ·rename_i k' ks2 b1 b2;injection h1 with h1;subst h1
    injection h2 with h2;injection h2 with e1 e2;subst e1;subst e2
    split at h3
    ·rename_i v vs' c1 c2;split at h4
     ·rename_i u us' d1 d2;injection h3 with h3;subst h3
      injection h4 with h4;subst h4
      simp only[aC5,BE.mkAnd_den,Bool.and_eq_true,aW4 a1 b1 c1 d1,aFt a2 b2 c2 d2,List.cons.injEq]
     ·cases h4
    ·cases h3
   ·cases h2
  ·cases h1
theorem aAx (μ:Mu):∀(vs:List Value),aF μ (vs.map yE)=some vs
 | []=>rfl
 | v::l=>by simp only[List.map_cons,aF,aDu,aAx μ l]
theorem xH {x:AV}{l:List AV}{v:Value}(h:aG9 x=some l)(hv:aD μ x=some v):∃vs,v=.agg vs.toArray/\aF μ l=some vs:=by
 unfold aG9 at h;split at h
 ·injection h with h;subst h
  simp only[aD]at hv;split at hv
  ·rename_i vs hvs;injection hv with hv;exact⟨vs,hv.symm,hvs⟩
  ·cases hv
 ·rename_i vs;injection h with h;subst h
  simp only[aD]at hv;injection hv with hv
  exact⟨vs.toList,by rw[<-hv],aAx μ _⟩
 ·cases h
theorem aQa {op:BinOp}{t:TypeId}{x y:AV}{r:Rs}{v u:Value}(h:eqG c.ty op t x y=some r)(hx:aD μ x=some v)(hy:aD μ y=some u)(ox oy:Operand):
  r.nb=none/\∃z,(do eqGuard op t ox oy v u;binOp op t v u:Sem Value).run c.P w=.ok z w/\aD μ r.av=some z:=by
 unfold eqG at h;split at h
 ·rename_i i hi;split at h
  ·rename_i hkb;have hu:=(c.tok _ i hi).und;rw[hkb]at hu;unfold eqB at h;split at h
   ·rename_i p q;rw[iT hx,iT hy];split at h
    ·injection h with h;subst h
     exact⟨rfl,.bool (p.den==q.den),by rw[eqGuard_at_bool,pure_bind];simp only[binOp,Sem.run_bind,run_equal_bool w t p.den q.den hu,Result.andThen_ok,Sem.run_pure],rfl⟩
    ·injection h with h;subst h
     exact⟨rfl,.bool (!(p.den==q.den)),by rw[eqGuard_at_bool,pure_bind];simp only[binOp,Sem.run_bind,run_equal_bool w t p.den q.den hu,Result.andThen_ok,Sem.run_pure],by simp only[aD,BE.mkNot_den];rfl⟩
    ·cases h
   ·cases h
  split at h
  ·rename_i ls l m hk hl hm;split at h
   ·rename_i hks;obtain⟨vs,rfl,e1⟩:=xH hl hx;obtain⟨us,rfl,e2⟩:=xH hm hy;obtain⟨k1,k2,fs,k3⟩:=(c.tok _ i hi).keyOk ls hk;have hsv:Shp c.P t (.agg vs.toArray):=by unfold Shp;rw[k3];exact⟨_,rfl⟩
    have hsu:Shp c.P t (.agg us.toArray):=by unfold Shp;rw[k3];exact⟨_,rfl⟩
    obtain⟨b,h1,h2⟩:=vZ 12 9988 t ls k1 w _ _ hsv hsu (show dQ vs.toArray.toList=_ by simpa using rQ hks.1 e1) (show dQ us.toArray.toList=_ by simpa using rQ hks.2 e2);have h3:=aFt hks.1 hks.2 e1 e2;have h4:b=true↔vs=us:=h2.trans (by show vs.toArray.toList=us.toArray.toList↔_;simp);have hbe:b=(aC5 l m).den:=Bool.eq_iff_iff.2 (h4.trans h3.symm);split at h
    ·injection h with h;subst h
     refine⟨rfl,.bool b,?_,by rw[hbe];rfl⟩;rw[Sem.run_bind,run_eqGuard_agg (hm:=k2),Result.andThen_ok,run_eql_struct];rw[show(Op.equalIn 10000 t (.agg vs.toArray) (.agg us.toArray)).run c.P w=.ok b w from h1];rfl
    ·injection h with h;subst h
     refine⟨rfl,.bool (!b),?_,by rw[hbe];simp only[aD,BE.mkNot_den]⟩;rw[Sem.run_bind,run_eqGuard_agg (hm:=k2),Result.andThen_ok,run_neq_struct];rw[show(Op.equalIn 10000 t (.agg vs.toArray) (.agg us.toArray)).run c.P w=.ok b w from h1];rfl
    ·cases h
   ·cases h
  ·cases h
 ·cases h
theorem aQb (H:PSim c K n0 D S X μ a w){o:Oper}{r:Rs}(h:fop c.ty n0 S o.op=some r)(hfr:r.nb.isSome=true->μ S.hp.length=none)(hb:iA r.ob)(hD:∀t,Operand.tmp t∈o.op.operands->D t):jA c S X μ a w o r:=by
 unfold fop at h;split at h
 case h_1 x hx | h_2 x hx=>
  split at h
  ·rename_i av hav;injection h with h;subst h
   exact jA.pure H (by simp[execOp,hx]) (aH H hav (λt e=>hD t (by rw[hx];simp[Op.operands,e])))
  ·cases h
 case h_3 x y z hx=>
  split at h
  ·rename_i t av bv h1 h2 h3;injection h with h;subst h
   have e1:=aH H h1 (λt e=>hD t (by rw[hx];simp[Op.operands,e]))
   have e2:=aH H h2 (λt e=>hD t (by rw[hx];simp[Op.operands,e]))
   have e3:=aH H h3 (λt e=>hD t (by rw[hx];simp[Op.operands,e]))
   refine jA.pure H (v:=if t then a.eval y else a.eval z) ?_ ?_
   ·simp only[execOp,hx,iT e1,asBool,Sem.run_bind,Sem.run_pure,Result.andThen_ok,BE.den]
   ·cases t
    ·simpa using e3
    ·simpa using e2
  ·cases h
 case h_4 e hx=>
  split at h
  ·rename_i i hi;injection h with h;subst h
   obtain⟨ti,z,h1,h2,h3,h4,h5⟩:=(c.tok _ i hi).info;refine⟨.pointer (some ⟨w.heap.size,0,none⟩),{w with heap:=w.heap.push (.cells z.cells e)},_,?_,cV.alloc H.own H.bel.size (hfr rfl) H.xlt (λμ' w' _ hw=>⟨_,cW h4,by simpa using hw⟩) (λμ' _ hm=>by simp[aD,rB hm])⟩;simp[execOp,hx,Instr.alloc,lJ h1 h3,newVar,newRow]
  ·cases h
 case h_5 e x hx=>
  split at h
  ·rename_i av hav;split at h
   ·rename_i l hl;injection h with h;subst h
    have e1:=aH H hav (λt e=>hD t (by rw[hx];simp[Op.operands,e]))
    refine⟨.pointer (some ⟨w.heap.size,0,none⟩),{w with heap:=w.heap.push (.cells (a.eval x).cells e)},_,?_,cV.alloc H.own H.bel.size (hfr rfl) H.xlt (λμ' w' hle hw=>⟨_,gV hle _ _ (kZ hl e1),by simpa using hw⟩) (λμ' _ hm=>by simp[aD,rB hm])⟩;simp[execOp,hx,Instr.box,newVar,newRow]
   ·cases h
  ·cases h
 case h_6 t x hx=>
  split at h
  ·rename_i i k off hi hav;have e1:=aH H hav (λt e=>hD t (by rw[hx];simp[Op.operands,e]));obtain⟨b,o',hb1,hb2⟩:=pT e1;split at h
   ·rename_i hk;split at h
    ·rename_i ty cells hbk;split at h
     ·rename_i av hp;injection h with h;subst h
      obtain⟨v,hv1,hv2⟩:=aDq H hi hbk hb1 hp;exact jA.pure H (by simp only[execOp,hx,hb2,Sem.run_bind,hv1,Result.andThen_ok,Sem.run_pure]) hv2
     ·cases h
    ·rename_i blk _ hbk;obtain⟨hn,v,hv1,hv2⟩:=aBa H hi hbk hb1 h hb;try rw[show aY off (IE.l 0).den 0 0=off by simp[aY]]at hv1
     refine⟨v,w,μ,by simp only[execOp,hx,hb2,Sem.run_bind,hv1,Result.andThen_ok,Sem.run_pure],?_⟩;rw[hn];exact cV.same H.own hv2
    ·cases h
   ·cases h
  ·rename_i i k off ix sz inner hi hav;have e1:=aH H hav (λt e=>hD t (by rw[hx];simp[Op.operands,e]));obtain⟨b,o',hb1,hb2⟩:=xK e1;split at h
   ·rename_i hk;split at h
    ·rename_i blk hbk;obtain⟨hn,v,hv1,hv2⟩:=aBa H hi hbk hb1 h hb;try rw[show aY off (IE.l 0).den 0 0=off by simp[aY]]at hv1
     refine⟨v,w,μ,by simp only[execOp,hx,hb2,Sem.run_bind,hv1,Result.andThen_ok,Sem.run_pure],?_⟩;rw[hn];exact cV.same H.own hv2
    ·cases h
   ·cases h
  ·cases h
 case h_7 t parts hx=>
  split at h
  ·rename_i i ps hi hps;have T:=c.tok _ i hi;obtain⟨ti,z,h1,h2,h3,h4,h5⟩:=T.info;have e1:=wI H hps (λt e=>hD t (by rw[hx];simp only[Op.operands];exact List.mem_toArray.2 e));have hu:=T.und;split at h
   ·rename_i fl hk;rw[hk]at hu;obtain⟨fs,u1,u2⟩:=hu;split at h
    ·rename_i cs hcs;injection h with h;subst h
     obtain⟨os,f1,f2⟩:=rM e1 (cW (μ:=μ) h4) hcs;refine jA.pure H (v:=.agg os) ?_ (by simp[aD,f2]);have e:(λ(j:Nat)=>(fl.toArray)[j]?)=λ(j:Nat)=>fl[j]?:=by funext j;simp
     have f1':Instr.fill (λ(j:Nat)=>fl.toArray[j]?) z.cells ((parts.map λ(i,x)=>(i,a.eval x)).toList)=some os:=by rw[e];simpa using f1
     simp[execOp,hx,Instr.build,lJ h1 h3,run_underlying u1,Array.mapM_eq_mapM_toList,run_places w _ _ u2];simp at f1';simp[f1']
    ·cases h
   ·rename_i len elem gW hk;rw[hk]at hu;obtain⟨u1,tj,u2,u3⟩:=hu;split at h
    ·rename_i cs hcs;injection h with h;subst h
     obtain⟨os,f1,f2⟩:=rM e1 (cW (μ:=μ) h4) hcs;refine jA.pure H (v:=.agg os) ?_ (by simp[aD,f2]);simp only[execOp,hx,Instr.build,Sem.run_bind,lJ h1 h3,Result.andThen_ok,run_underlying u1,dD u2,u3];simp at f1;simp[f1]
    ·cases h
   ·cases h
  ·cases h
 case h_8 t x f hx=>
  split at h
  ·rename_i i k off hi hav;have e1:=aH H hav (λt e=>hD t (by rw[hx];simp[Op.operands,e]));obtain⟨b,o1,hb1,hb2⟩:=pT e1;split at h
   ·rename_i fl hk;split at h
    ·rename_i o' sz hf;split at h
     ·cases h
     ·rename_i hz;injection h with h;subst h
      exact jA.pure H (v:=.pointer (some ⟨b,o1+off+o',none⟩)) (by simp only[execOp,hx,hb2,Sem.run_bind,aA1 (c.tok _ i hi) hk hf hz,Result.andThen_ok,Sem.run_pure]) (by simp[aD,hb1,aY,Nat.add_assoc])
    ·cases h
   ·cases h
  ·rename_i i k off ix sz inner hi hav;have e1:=aH H hav (λt e=>hD t (by rw[hx];simp[Op.operands,e]));obtain⟨b,o1,hb1,hb2⟩:=xK e1;split at h
   ·rename_i fl hk;split at h
    ·rename_i o' s' hf;split at h
     ·cases h
     ·rename_i hz;injection h with h;subst h
      exact jA.pure H (v:=.pointer (some ⟨b,o1+aY off ix.den sz inner+o',none⟩)) (by simp only[execOp,hx,hb2,Sem.run_bind,aA1 (c.tok _ i hi) hk hf hz,Result.andThen_ok,Sem.run_pure]) (by simp[aD,hb1,aY,Nat.add_assoc])
    ·cases h
   ·cases h
  ·cases h
 case h_9 t x ix hx=>
  split at h
  ·rename_i i k off kk n hi hav hix;have e1:=aH H hav (λt e=>hD t (by rw[hx];simp[Op.operands,e]));have e2:=aH H hix (λt e=>hD t (by rw[hx];simp[Op.operands,e]));obtain⟨b,o1,hb1,hb2⟩:=pT e1;have e3:=bY e2;simp only[IE.den]at e3;split at h
   ·rename_i len elem gW hk;split at h
    ·rename_i hn;injection h with h;subst h
     exact jA.pure H (v:=.pointer (some ⟨b,o1+off+n.toNat*gW,none⟩)) (by simp only[execOp,hx,hb2,e3,Sem.run_bind,vF (c.tok _ i hi) hk hn.1 hn.2,Result.andThen_ok,Sem.run_pure]) (by simp[aD,hb1,aY,Nat.add_assoc])
    ·cases h
   ·cases h
  ·rename_i i k off jx sz inner kk n hi hav hix;have e1:=aH H hav (λt e=>hD t (by rw[hx];simp[Op.operands,e]));obtain⟨b,o1,hb1,hb2⟩:=xK e1;have e2:=aH H hix (λt e=>hD t (by rw[hx];simp[Op.operands,e]));have e3:=bY e2;simp only[IE.den]at e3;split at h
   ·rename_i len elem gW hk;split at h
    ·rename_i hn;injection h with h;subst h
     exact jA.pure H (v:=.pointer (some ⟨b,o1+aY off jx.den sz inner+n.toNat*gW,none⟩)) (by simp only[execOp,hx,hb2,e3,Sem.run_bind,vF (c.tok _ i hi) hk hn.1 hn.2,Result.andThen_ok,Sem.run_pure]) (by simp[aD,hb1,aY,Nat.add_assoc])
    ·cases h
   ·cases h
  ·rename_i i k off len cap kk e hi hav hix;have e1:=aH H hav (λt e=>hD t (by rw[hx];simp[Op.operands,e]));have e3:=bY (aH H hix (λt e=>hD t (by rw[hx];simp[Op.operands,e])));split at h
   ·rename_i elem gW hk;have go:∀(av:AV),0<=e.den/\e.den<len.den->(∀b o1,rA μ k=some (b,o1)->aD μ av=some (.pointer (some ⟨b,o1+off+e.den.toNat*gW,none⟩)))->∀ob,jA c S X μ a w o ⟨av,none,ob⟩:=by
     intro av hn bG1 ob;obtain⟨b,o1,hb1,hb2⟩:=oH e1 zW;exact jA.pure H (v:=.pointer (some ⟨b,o1+off+e.den.toNat*gW,none⟩)) (by simp only[execOp,hx,hb2,e3,Sem.run_bind,aEu (c.tok _ i hi) hk (len:=len.den.toNat) hn.1 zW,Result.andThen_ok,Sem.run_pure]) (bG1 b o1 hb1)
    unfold ixS at h;split at h
    ·split at h
     ·rename_i hn;injection h with h;subst h
      exact go _ hn (λb o1 hb1=>by simp[aD,hb1,IE.den,Nat.add_assoc]) _
     ·cases h
    ·injection h with h;subst h
     exact go _ hb.1 (λb o1 hb1=>by simp[aD,hb1,IE.den,Nat.add_assoc]) _
    ·injection h with h;subst h
     exact go _ hb.1 (λb o1 hb1=>by simp[aD,hb1,aY,Nat.add_assoc]) _
   ·cases h
  ·cases h
 case h_10 t x ix hx=>
  split at h
  ·rename_i i s kk e hi hav hix;have e1:=dW (aH H hav (λt e=>hD t (by rw[hx];simp[Op.operands,e])));have e3:=bY (aH H hix (λt e=>hD t (by rw[hx];simp[Op.operands,e])));split at h
   ·rename_i hk;injection h with h;subst h
    have hn:0<=e.den/\e.den<(s.den.size:Int):=hb.1
    have hu:=(c.tok _ i hi).und
    rw[hk]at hu;generalize hsd:s.den=sd at hn e1;have hlt:e.den.toNat<sd.size:=zW;have hg:sd[e.den.toNat]?=some sd[e.den.toNat]:=by simp[hlt]
    refine jA.pure H (v:=.int .u8 (sd[e.den.toNat].toNat)) ?_ ?_
    ·simp only[execOp,hx,e1,e3,Instr.index,asIntOf,Sem.run_bind,Sem.run_pure,Result.andThen_ok,run_underlying hu,hn.1,if_true,hg]
    ·simp only[aD,IE.den,hsd];have:sd.data.toList.getD e.den.toNat 0=sd[e.den.toNat]:=by
      rw[List.getD_eq_getElem?_getD,Array.getElem?_toList];have:sd.data[e.den.toNat]?=some sd[e.den.toNat]:=by
       rw[Array.getElem?_eq_getElem (by simpa using hlt)];rfl
      rw[this];rfl
     rw[this]
   ·cases h
  ·rename_i i l kk n hi hav hix;have e1:=aH H hav (λt e=>hD t (by rw[hx];simp[Op.operands,e]));have e3:=bY (aH H hix (λt e=>hD t (by rw[hx];simp[Op.operands,e])));simp only[IE.den]at e3;obtain⟨vs,hvs,e2⟩:=tA e1;split at h
   ·rename_i len elem gW hk;split at h
    ·rename_i j hj;split at h
     ·rename_i hn;obtain⟨n0,n1,n2⟩:=hn;split at h
      ·rename_i av mO;injection h with h;subst h
       have hu:=(c.tok _ i hi).und
       rw[hk]at hu;obtain⟨u1,ti,u2,u3⟩:=hu;have T:=c.tok _ j hj;have hlen:=bC hvs;unfold partOf at mO;cases hag:j.kind.agg with
       | true=>
        rw[hag]at mO;simp only[if_true]at mO;split at mO
        ·rename_i hle;injection mO with mO;subst mO
         refine jA.pure H (v:=.agg ((vs.drop (n.toNat*gW)).take gW).toArray) ?_ (by simp only[aD,rH gW (rG _ hvs)]);simp only[execOp,hx,e2,e3,Instr.index,asIntOf,Sem.run_bind,Sem.run_pure,Result.andThen_ok,run_underlying u1,n0,n1,and_self,if_true,dD u2,u3,part,aDm T,hag];simp
        ·cases mO
       | false=>
        rw[hag]at mO;simp only[Bool.false_eq_true,if_false]at mO;split at mO
        ·rename_i x hx';split at mO
         ·injection mO with mO;subst mO
          obtain⟨v,hv1,hv2⟩:=iF hvs _ _ hx';refine jA.pure H (v:=v) ?_ hv2;simp[execOp,hx,e2,e3,Instr.index,asIntOf,run_underlying u1,n0,n1,dD u2,u3,part,aDm T,hag,hv1,Result.andThen]
         ·cases mO
        ·cases mO
      ·cases h
     ·cases h
    ·cases h
   ·cases h
  ·cases h
 case h_11 x ix hx=>
  split at h
  ·rename_i l hav;have e1:=aH H hav (λt e=>hD t (by rw[hx];simp[Op.operands,e]));obtain⟨vs,hvs,e2⟩:=rJ e1;split at h
   ·rename_i av hl;injection h with h;subst h
    obtain⟨v,hv1,hv2⟩:=iF hvs ix av hl;exact jA.pure H (v:=v) (by simp[execOp,hx,e2,Instr.extract,hv1]) hv2
   ·cases h
  ·cases h
 case h_12 op xt x y yt hx=>
  split at h
  ·rename_i av bv h1 h2;have e1:=aH H h1 (λt e=>hD t (by rw[hx];simp[Op.operands,e]));have e2:=aH H h2 (λt e=>hD t (by rw[hx];simp[Op.operands,e]));have hbs:r.nb=none/\∃z,(do eqGuard op xt x y (a.eval x) (a.eval y);binOp op xt (a.eval x) (a.eval y):Sem Value).run c.P w=.ok z w/\aD μ r.av=some z:=by
    split at h
    ·rename_i r' hr';injection h with h;subst h
     exact aLr hr' hb e1 e2 (w:=w) (c:=c) xt x y
    ·exact aQa h e1 e2 (w:=w) x y
   obtain⟨hn,z,hz1,hz2⟩:=hbs;refine⟨z,w,μ,?_,?_⟩
   ·simp only[execOp,hx,Sem.run_bind]at hz1 |-;simp only[hz1,Result.andThen_ok,Sem.run_pure]
   ·rw[hn];exact cV.same H.own hz2
  ·cases h
 case h_13 xt x hx=>
  split at h
  ·rename_i e hav;injection h with h;subst h
   have e1:=iT (aH H hav (λt e=>hD t (by rw[hx];simp[Op.operands,e])))
   exact jA.pure H (v:=.bool !e.den) (by simp[execOp,hx,e1,Op.unary]) (by simp[aD,BE.mkNot_den])
  ·cases h
 case h_14 fn first cap hx=>
  split at h
  ·rename_i fs l hfs hl;injection h with h;subst h
   have e0:=oP H hfs (λt e=>hD t (by rw[hx];simp[Op.operands,Array.mem_toList_iff]at e |-;exact .inl e))
   have e1:=oP H hl (λt e=>hD t (by rw[hx];simp[Op.operands,Array.mem_toList_iff]at e |-;exact .inr e))
   refine jA.pure H (v:=.func fn (first.map a.eval) (cap.map a.eval)) (by simp[execOp,hx,Instr.makeFunc]) ?_;simp only[aD,e0,e1];congr 2<;>(apply Array.ext';simp)
  ·cases h
 case h_15 t len parts hx=>
  split at h
  ·rename_i i ps hi hps;have T:=c.tok _ i hi;have e1:=wI H hps (λt e=>hD t (by rw[hx];simp only[Op.operands];exact List.mem_toArray.2 e));have hu:=T.und;split at h
   ·rename_i e gW hk;rw[hk]at hu;obtain⟨u1,tj,u2,u3⟩:=hu;split at h
    ·rename_i j hj;split at h
     ·rename_i mM;split at h
      ·rename_i cs hcs;injection h with h;subst h
       obtain⟨ti,z,h1,h2,h3,h4,h5⟩:=(c.tok _ j hj).info;rw[u2]at h1;injection h1 with h1;subst h1
       have hzl:=bC h4
       have bEv:aF μ ((List.range (len*gW)).map λm=>j.zero.getD (m%j.zero.length) (.o .nilFunc))=some ((List.range (len*gW)).map λm=>z.cells[m%z.cells.size]!):=by
        have hne:∀m,m∈List.range (len*gW)->0<j.zero.length:=λm hm=>by
         simp at hm;rcases mM.2.2 with h0 | h0
         ·subst h0;simp at hm
         ·rcases Nat.eq_zero_or_pos gW with h6 | h6
          ·subst h6;simp at hm
          ·omega
        revert hne
        generalize List.range (len*gW)=l;intro hne;induction l with
        | nil=>simp[aF]
        | cons m l ih=>
         have hp:=hne m zA
         have hlt:m%j.zero.length<j.zero.length:=Nat.mod_lt _ hp
         obtain⟨v,hv1,hv2⟩:=iF (cW (μ:=μ) h4) (m%j.zero.length) _ (List.getElem?_eq_getElem hlt);simp only[List.map_cons,aF,ih (λm' hm'=>hne m' (by simp[hm']))];have e3:j.zero.getD (m%j.zero.length) (.o .nilFunc)=j.zero[m%j.zero.length]:=by simp[hlt]
         have hsz:z.cells.size=j.zero.length:=by simpa using hzl
         have e4:z.cells[m%z.cells.size]! =v:=by
          rw[hsz];have:z.cells[m%j.zero.length]?=some v:=by simpa using hv1
          rw[getElem!_def,this]
         rw[e3,hv2,e4]
       obtain⟨os,f1,f2⟩:=rM e1 bEv hcs;refine⟨.slice (some ⟨w.heap.size,0,none⟩) len len,{w with heap:=w.heap.push (.cells os e)},_,?_,cV.alloc H.own H.bel.size (hfr rfl) H.xlt (λμ' w' hle hw=>⟨os.toList,gV hle _ _ f2,by simpa using hw⟩) (λμ' _ hm=>by simp[aD,aGt (rB hm),IE.den])⟩;have hle:¬(len*gW>2^24):=by have:=mM.1;omega
       have f1':Instr.fill (λm=>some (m*gW,gW)) ((Array.range (len*gW)).map λm=>z.cells[m%z.cells.size]!) ((parts.map λ(i,x)=>(i,a.eval x)).toList)=some os:=by
        rw[<-f1];congr 1
        ·apply Array.ext';simp
        ·simp
       have f0:len*gW=0->((Array.range (len*gW)).map λm=>z.cells[m%z.cells.size]!)=(Array.range (len*gW)).map λm=>(#[]:Array Value)[m%(#[]:Array Value).size]! :=by
        intro h0;rw[h0];apply Array.ext';simp
       simp only[execOp,hx,Instr.buildSlice,Sem.run_bind,run_underlying u1,Result.andThen_ok,dD u2,u3,hle,if_false,Sem.run_pure];by_cases h0:len*gW=0
       ·rw[f0 h0]at f1';simp only[h0,if_true,Sem.run_pure,Result.andThen_ok]at f1' |-;simp only[f1',Sem.run_bind,newRow,run_newObj,Result.andThen_ok,Sem.run_pure]
       ·simp only[h0,if_false,Sem.run_bind,lJ u2 h3,Result.andThen_ok,Sem.run_pure];simp only[f1',Sem.run_bind,newRow,run_newObj,Result.andThen_ok,Sem.run_pure]
      ·cases h
     ·cases h
    ·cases h
   ·cases h
  ·cases h
 case h_16 src dst x hx=>
  split at h
  ·rename_i j i kk e hj hi hav;have e1:=bY (aH H hav (λt e=>hD t (by rw[hx];simp[Op.operands,e])));obtain⟨d,hd⟩:=aV1 (c.tok _ j hj);split at h
   ·rename_i k hk;injection h with h;subst h
    have hu:=(c.tok _ i hi).und
    rw[hk]at hu;refine jA.pure H (v:=.int k e.den) ?_ rfl;simp[execOp,hx,e1,convert,run_underlying hd,run_underlying hu,Conv.intToInt,qQ hb]
   ·cases h
  ·rename_i j i s hj hi hav;have e1:=dW (aH H hav (λt e=>hD t (by rw[hx];simp[Op.operands,e])));obtain⟨d,hd⟩:=aV1 (c.tok _ j hj);split at h
   ·rename_i hk;injection h with h;subst h
    have hu:=(c.tok _ i hi).und
    rw[hk]at hu;refine jA.pure H (v:=.string s.den) ?_ rfl;simp[execOp,hx,e1,convert,run_underlying hd,run_underlying hu]
   ·cases h
  ·cases h
 case h_17 x hx=>
  split at h
  ·rename_i k off hav;injection h with h;subst h
   have e1:=aH H hav (λt e=>hD t (by rw[hx];simp[Op.operands,e]))
   obtain⟨b,o1,hb1,hb2⟩:=pT e1;exact jA.pure H (v:=.pointer (some ⟨b,o1+off,none⟩)) (by simp[execOp,hx,hb2]) (by simp[aD,hb1])
  ·rename_i g fs l hav;injection h with h;subst h
   have e1:=aH H hav (λt e=>hD t (by rw[hx];simp[Op.operands,e]))
   obtain⟨us,vs,hus,hvs,e2⟩:=aHf e1;exact jA.pure H (v:=.func (.func g) us.toArray vs.toArray) (by simp[execOp,hx,e2]) (by simp[aD,hus,hvs])
  ·cases h
 case h_18 t x hx=>
  split at h
  ·rename_i i k off hi hav;have e1:=aH H hav (λt e=>hD t (by rw[hx];simp[Op.operands,e]));obtain⟨b,o1,hb1,hb2⟩:=pT e1;split at h
   ·rename_i len elem gW hk;injection h with h;subst h
    have hu:=(c.tok _ i hi).und
    rw[hk]at hu;obtain⟨u1,tj,u2,u3⟩:=hu;refine jA.pure H (v:=.slice (some ⟨b,o1+off,none⟩) len len) ?_ (by simp[aD,aGt hb1,IE.den]);simp[execOp,hx,hb2,Instr.sliceAt,run_underlying u1,Instr.sureAddr,Instr.sliceBounds,dD u2,Addr.add]
   ·cases h
  ·cases h
 case h_19 args argTypes hx=>
  split at h
  ·rename_i x t ha ht;have ha':args=#[x]:=Array.ext' ha;have ht':argTypes=#[t]:=Array.ext' ht;subst ha';subst ht';split at h
   ·rename_i i s hi hav;have e1:=dW (aH H hav (λt e=>hD t (by rw[hx];simp[Op.operands,Call.operands,e])));split at h
    ·rename_i hk;injection h with h;subst h
     have hu:=(c.tok _ i hi).und
     rw[hk]at hu;refine jA.pure H (v:=.int .i64 s.den.size) ?_ (by simp[aD,IE.den]);simp[execOp,hx,resolve,invoke,builtin,Builtin.len_,run_underlying hu,e1,goInt]
    ·cases h
   ·rename_i i xa len cap hi hav;have e1:=nF (aH H hav (λt e=>hD t (by rw[hx];simp[Op.operands,Call.operands,e])));split at h
    ·rename_i e gW hk;injection h with h;subst h
     have hu:=(c.tok _ i hi).und
     rw[hk]at hu;refine jA.pure H (v:=.int .i64 len) ?_ rfl;simp[execOp,hx,resolve,invoke,builtin,Builtin.len_,run_underlying hu.1,e1,goInt]
    ·cases h
   ·rename_i i k off len cap hi hav;have e1:=aH H hav (λt e=>hD t (by rw[hx];simp[Op.operands,Call.operands,e]));obtain⟨ad,_,hb2,hl0,_⟩:=pH e1;split at h
    ·rename_i e gW hk;injection h with h;subst h
     have hu:=(c.tok _ i hi).und
     rw[hk]at hu;refine jA.pure H (v:=.int .i64 len.den) ?_ rfl;simp[execOp,hx,resolve,invoke,builtin,Builtin.len_,run_underlying hu.1,hb2,goInt];omega
    ·cases h
   ·cases h
  ·cases h
 case h_20 args argTypes hx=>
  split at h
  ·rename_i x y ha;have ha':args=#[x,y]:=Array.ext' ha;subst ha';split at h
   ·rename_i k e k' e' h1 h2;injection h with h;subst h
    have e1:=bY (aH H h1 (λt e=>hD t (by rw[hx];simp[Op.operands,Call.operands,e])))
    have e2:=bY (aH H h2 (λt e=>hD t (by rw[hx];simp[Op.operands,Call.operands,e])))
    refine jA.pure H (v:=.int k (if e.den<e'.den then e'.den else e.den)) ?_ (by simp[aD,IE.mkMax_den]);simp[execOp,hx,resolve,invoke,builtin,Builtin.max_,Builtin.max2,e1,e2]
   ·cases h
  ·cases h
 case h_21 xt x hx=>
  split at h
  ·rename_i k e hav;injection h with h;subst h
   have e1:=bY (aH H hav (λt e=>hD t (by rw[hx];simp[Op.operands,e])))
   have hw:=qQ hb
   simp only[IE.mkSub_den,IE.den]at hw;exact jA.pure H (v:=.int k (0 - e.den)) (by simp only[execOp,hx,e1,Op.unary,Op.intArith,hw,Sem.run_bind,Sem.run_pure,Result.andThen_ok]) (by simp[aD,IE.mkSub_den,IE.den])
  ·cases h
 case h_22 t x y hx=>
  split at h
  ·rename_i i s kk e hi hav hy;have e1:=dW (aH H hav (λt e=>hD t (by rw[hx];simp[Op.operands,e])));have e2:=bY (aH H hy (λt e=>hD t (by rw[hx];simp[Op.operands,e])));split at h
   ·rename_i hk;injection h with h;subst h
    have hn:0<=e.den/\e.den<=(IE.len s).den/\(IE.len s).den<=(s.den.size:Int):=hb.1
    have hu:=(c.tok _ i hi).und
    rw[hk]at hu;refine jA.pure H (v:=.string (s.den.extract e.den.toNat s.den.size)) ?_ (by simp[aD,SE.den,IE.den]);simp only[execOp,hx,e1,e2,Option.map_none,Option.map_some,Instr.sliceAt,Instr.slice,Sem.run_bind,run_underlying hu,Result.andThen_ok,Instr.sliceBounds,Instr.sliceBound,asIntOf,Sem.run_pure,Option.isSome_none,Bool.false_eq_true,if_false];simp only[IE.den]at hn;rw[if_pos ⟨hn.1,hn.2.1⟩];simp only[Sem.run_pure,Result.andThen_ok]
   ·cases h
  ·cases h
 case h_23 args argTypes hx=>
  split at h
  ·rename_i x y ha;have ha':args=#[x,y]:=Array.ext' ha;subst ha';split at h
   ·rename_i k e k' e' h1 h2;injection h with h;subst h
    have e1:=bY (aH H h1 (λt e=>hD t (by rw[hx];simp[Op.operands,Call.operands,e])))
    have e2:=bY (aH H h2 (λt e=>hD t (by rw[hx];simp[Op.operands,Call.operands,e])))
    refine jA.pure H (v:=.int k (if e'.den<e.den then e'.den else e.den)) ?_ (by simp[aD,IE.mkMin_den]);simp[execOp,hx,resolve,invoke,builtin,Builtin.min_,Builtin.min2,e1,e2]
   ·cases h
  ·cases h
 case h_24 t x y hx=>
  split at h
  ·rename_i i k off len cap kk e hi hav hy;have e1:=aH H hav (λt e=>hD t (by rw[hx];simp[Op.operands,e]));have e2:=bY (aH H hy (λt e=>hD t (by rw[hx];simp[Op.operands,e])));obtain⟨ad,hb1,hb2,hl0,hl1⟩:=pH e1;split at h
   ·rename_i el gW hk;injection h with h;subst h
    have hn:0<=e.den/\e.den<=(cap:Int):=hb.1
    have hu:=(c.tok _ i hi).und
    rw[hk]at hu;obtain⟨u1,tj,u2,u3⟩:=hu;refine jA.pure H (v:=.slice (ad.map λx=>⟨x.1,x.2+off,none⟩) e.den.toNat cap) ?_ ?_
    ·simp only[execOp,hx,hb2,e2,Option.map_none,Option.map_some,Instr.sliceAt,Instr.slice,Sem.run_bind,run_underlying u1,Result.andThen_ok,Instr.sliceBounds,Instr.sliceBound,asIntOf,Sem.run_pure,dD u2,Option.isSome_none,Bool.false_eq_true,if_false];simp only[if_pos hn,Sem.run_pure,Result.andThen_ok,Nat.zero_mul,Nat.sub_zero];cases ad<;>simp[add_eq]
    ·simp only[aD,hb1];rw[if_pos];exact⟨hn.1,λe0=>by have:=(hl1 e0).2;omega⟩
   ·cases h
  ·rename_i i s kk e hi hav hy;have e1:=dW (aH H hav (λt e=>hD t (by rw[hx];simp[Op.operands,e])));have e2:=bY (aH H hy (λt e=>hD t (by rw[hx];simp[Op.operands,e])));split at h
   ·rename_i hk;injection h with h;subst h
    have hn:0<=(IE.l 0).den/\(IE.l 0).den<=e.den/\e.den<=(s.den.size:Int):=hb.1
    have hu:=(c.tok _ i hi).und
    rw[hk]at hu;refine jA.pure H (v:=.string (s.den.extract 0 e.den.toNat)) ?_ (by simp[aD,SE.den,IE.den]);simp only[execOp,hx,e1,e2,Option.map_none,Option.map_some,Instr.sliceAt,Instr.slice,Sem.run_bind,run_underlying hu,Result.andThen_ok,Instr.sliceBounds,Instr.sliceBound,asIntOf,Sem.run_pure,Option.isSome_none,Bool.false_eq_true,if_false];simp only[IE.den]at hn;rw[if_pos ⟨hn.2.1,hn.2.2⟩];simp only[Sem.run_pure,Result.andThen_ok]
   ·cases h
  ·cases h
 case h_25=>cases h
end
end Go.Ai
namespace Go.Ai
open Go Go.RowKit
inductive KI
 | code (c:Code)
 | ops (all:Array Oper) (i:Nat)
 | blk (id:Nat)
 | hole (p:Act->World->Prop)
 | cal (g:Nat) (avs:List AV) (all:Array Oper) (i:Nat)
 | dops (all:Array Oper) (i n0:Nat) (K0:List KF)
 | dcal (g:Nat) (avs:List AV) (all:Array Oper) (i n0:Nat) (K0:List KF)
 | ord (all:Array Oper) (L:Array Bool)
def aO (F:Fence)(P:Program)(R:Act->World->Prop):List KI->Exit->Act->World->Prop
 | [],e,a,w=>match e with | .normal | .ret=>R a w | _=>False
 | .code c::k,e,a,w=>match e with | .normal=>c.wpIn F 0 P (aO F P R k) a w | e=>aO F P R k e a w
 | .ops all i::k,e,a,w=>match e with | .normal=>wpOpsIn F 0 P all (aO F P R k) (List.range' i (all.size - i)) a w | e=>aO F P R k e a w
 | .blk id::k,e,a,w=>match e with | .exit j=>if j=id then aO F P R k .normal a w else aO F P R k (.exit j) a w | e=>aO F P R k e a w
 | .hole p::k,e,a,w=>match e with | .normal=>p a w | e=>aO F P R k e a w
 | .ord all L::k,e,a,w=>match e with | .normal=>wpAnyIn F 0 P .any all (aO F P R k) (L.toList.count false) L a w | e=>aO F P R k e a w
 | .cal ..::_,_,_,_=>False
 | .dops ..::_,_,_,_=>False
 | .dcal ..::_,_,_,_=>False
structure Sim (c:Cx)(K:List KF)(S:St)(X:Nat->Prop)(μ:Mu)(a:Act)(w:World):Prop where
 toP:PSim c K S.hp.length (λ_=>True) S X μ a w
 dom:∀k,S.hp.length<=k->μ k=none
def bH (c:Cx)(K:List KF)(ks:List KI)(S:St):Prop:=
 ∀X μ a w,Sim c K S X μ a w->aO c.F c.P c.R ks .normal a w
def St.putO (S:St)(dst:Option Nat)(av:AV)(nb:Option Blk)(ow:List OF):St:=
 {sl:=match dst with | some d=>(d,av)::S.sl | none=>S.sl,hp:=match nb with | some b=>S.hp++[b] | none=>S.hp,ow:=ow}
def St.put (S:St)(dst:Option Nat)(av:AV)(nb:Option Blk):St:=S.putO dst av nb S.ow
def Cert (c:Cx)(K:List KF)(n0:Nat)(D:Nat->Prop)(S:St)(o:Oper)(av:AV)(nb:Option Blk)(Kn:List KF)(ow:List OF):Prop:=
 ∀X μ a w (next:Act->World->Prop) (Q:Exit->Act->World->Prop),PSim c K n0 D S X μ a w->(nb.isSome=true->μ S.hp.length=none)->
  (∀X' μ' v w',cV c S X μ w av nb ow X' μ' v w'->(∀f,f∈Kn->f.p X' μ' w')->next (a.put o.dst v) w')->o.wpIn c.F 0 c.P a w next Q
theorem aQl {P:Program}{ρ:Operand->Value}{o:Oper}{w w':World}{r:Next}(h:(execOp ρ o).run P w=.ok r w')(hr:∀d,r≠.defer d):∀c,o.op≠.defer c:=by
 intro c hc;simp only[execOp,hc,Sem.run_bind]at h;cases hx:(resolve ρ c o.type).run P w with
 | ok d w1=>
  rw[hx]at h;simp only[Result.andThen,Sem.run_pure]at h;injection h with h _
  exact hr d h.symm
 | halt x w1=>rw[hx]at h;cases h
theorem uT {P:Program}{ρ:Operand->Value}{o:Oper}{w w':World}{r:Next}(ro:Option Nat)(h:(execOp ρ o).run P w=.ok r w')(hr:∀d,r≠.defer d):(o.semAt ro ρ).run P w=.ok r w':=by
 rw[Oper.semAt_eq ro ρ o (aQl h hr)];exact h
theorem aB8 {c:Cx}{P:Program}{o:Oper}{a:Act}{w w':World}{v:Value}{next:Act->World->Prop}{Q:Exit->Act->World->Prop}(h:(execOp a.eval o).run P w=.ok (.value v) w')(hn:next (a.put o.dst v) w'):o.wpIn c.F 0 P a w next Q:=by
 refine⟨λ_ _=>trivial,?_⟩;rw[uT _ h (λd e=>by cases e),Oper.uponIn_value];exact hn
theorem tW {c:Cx}{P:Program}{o:Oper}{a:Act}{w w':World}{next:Act->World->Prop}{Q:Exit->Act->World->Prop}(h:(execOp a.eval o).run P w=.ok .skip w')(hn:next (a.put o.dst undef) w'):o.wpIn c.F 0 P a w next Q:=by
 refine⟨λ_ _=>trivial,?_⟩;rw[uT _ h (λd e=>by cases e),Oper.uponIn_skip];exact hn
theorem bAq {c:Cx}{P:Program}{f:FuncId}{args:Array Value}{w:World}{R:Ending->World->Prop}(h:Calls P f args w R):CallsIn c.F 0 P f args w R:=
 (callsIn_wide (n:=0)).2 h
theorem qY {c:Cx}{P:Program}{o:Oper}{a:Act}{w w':World}{f:FuncId}{args:Array Value}{next:Act->World->Prop}{Q:Exit->Act->World->Prop}(h:(execOp a.eval o).run P w=.ok (.enter f args) w')
  (hc:Calls P f args w' λe w''=>∃v,e=.returned v/\next (a.put o.dst v) w''):o.wpIn c.F 0 P a w next Q:=by
 refine⟨λ_ _=>trivial,?_⟩;rw[uT _ h (λd e=>by cases e),Oper.uponIn_enter];refine⟨λe=>(by cases e),bAq (Calls.mono hc ?_)⟩;rintro e w'' ⟨v,rfl,hn⟩;exact hn
def cM (nt:Nat):Option Nat->Bool
 | some d=>decide (d<nt)
 | none=>true
theorem lA {c:Cx}{K:List KF}{n0:Nat}{D:Nat->Prop}{S:St}{o:Oper}{r:Rs}(h:fop c.ty n0 S o.op=some r)(hb:iA r.ob)(hD:∀t,Operand.tmp t∈o.op.operands->D t):
  Cert c K n0 D S o r.av r.nb [] S.ow:=by
 intro X μ a w next Q H hfr hn
 obtain⟨v,w',μ',hr,hp⟩:=aQb H h hfr hb hD;refine aB8 hr ?_;exact hn X μ' v w' hp (λf hf=>by cases hf)
theorem yH (a:Act)(d:Option Nat)(v:Value):(a.put d v).tmps.size=a.tmps.size:=by
 cases d<;>simp[Act.put]
theorem put_defers (a:Act)(d:Option Nat)(v:Value):(a.put d v).defers=a.defers:=by
 cases d<;>simp[Act.put]
theorem oQ {a:Act}{d:Option Nat}{v:Value}{t:Nat}(h:d≠some t):(a.put d v).tmps[t]?=a.tmps[t]?:=by
 cases d with
 | none=>rfl
 | some d=>simp only[Act.put];exact Array.getElem?_setIfInBounds_ne (λe=>h (by rw[e]))
theorem nK {a:Act}{d:Nat}{v:Value}(h:d<a.tmps.size):(a.put (some d) v).tmps[d]?=some v:=by
 simp[Act.put,h]
theorem lH {K:List KF}{X X':Nat->Prop}{μ μ':Mu}{w w':World}(h:∀f,f∈K->f.p X μ w)(hs:∀b,X b->X' b)(hle:Mu.vle μ μ')(hw:∀b,X b->w'.heap[b]?=w.heap[b]?):∀f,f∈K->f.p X' μ' w':=
 λf hf=>f.st X X' μ μ' w w' hs hle hw (h f hf)
theorem rT {c:Cx}{S:St}{X:Nat->Prop}{μ:Mu}{w:World}{av:AV}{nb:Option Blk}{ow:List OF}{X':Nat->Prop}{μ':Mu}{v:Value}{w':World}(h:cV c S X μ w av nb ow X' μ' v w')(hf:nb.isSome=true->μ S.hp.length=none):Mu.le μ μ':=by
 have hb:=h.blk
 cases nb with
 | none=>simp only at hb;subst hb;exact Mu.le_refl _
 | some blk=>simp only at hb;obtain⟨m,rfl,_⟩:=hb;exact Mu.le_upd (hf rfl)
theorem tR {c:Cx}{S:St}{X:Nat->Prop}{μ:Mu}{w:World}{av:AV}{nb:Option Blk}{ow:List OF}{X':Nat->Prop}{μ':Mu}{v:Value}{w':World}(h:cV c S X μ w av nb ow X' μ' v w'){k:Nat}{m:MV}(hk:μ' k=some m):
  μ k=some m\/∃blk,nb=some blk/\k=S.hp.length/\blk.ok X' μ' w' m/\∀b,m=.own b->w.heap.size<=b/\b<w'.heap.size/\¬X' b:=by
 have hb:=h.blk
 cases nb with
 | none=>simp only at hb;subst hb;exact .inl hk
 | some blk=>
  simp only at hb;obtain⟨m',h1,h2,h3⟩:=hb;by_cases hkk:k=S.hp.length
  ·subst hkk;rw[h1,Mu.upd_same]at hk;injection hk with hk;subst hk
   exact .inr ⟨blk,rfl,rfl,h2,h3⟩
  ·rw[h1]at hk;simp only[Mu.upd,hkk,if_false]at hk;exact .inl hk
theorem mQ {c:Cx}{K Kn:List KF}{S:St}{X:Nat->Prop}{μ:Mu}{a:Act}{w:World}(H:Sim c K S X μ a w){d:Option Nat}(hd:cM c.nt d=true){av:AV}{nb:Option Blk}{ow:List OF}{X':Nat->Prop}{μ':Mu}{v:Value}{w':World}
  (hp:cV c S X μ w av nb ow X' μ' v w') (hk:∀f,f∈Kn->f.p X' μ' w'):Sim c (Kn++K) (S.putO d av nb ow) X' μ' (a.put d v) w':=by
 have P:=H.toP
 have hle:Mu.le μ μ':=rT hp (λ_=>H.dom _ (lRf _))
 have hold:∀b,b<w.heap.size->(∀f,f∈S.ow->¬f.F μ b)->w'.heap[b]?=w.heap[b]?:=hp.keep
 have hmu:∀k b,μ k=some (.own b)->∀f,f∈S.ow->¬f.F μ b:=λk b hkb f hf hb=>((P.own.at_ f hf).2 b hb).2.2.2 k hkb
 have hxo:∀b,X b->∀f,f∈S.ow->¬f.F μ b:=λb hx f hf hb=>((P.own.at_ f hf).2 b hb).2.2.1 hx
 have hkx:∀b,X b->w'.heap[b]?=w.heap[b]?:=λb hb=>hold b (P.xlt b hb) (hxo b hb)
 have hlen:(S.putO d av nb ow).hp.length=S.hp.length+(if nb.isSome then 1 else 0):=by cases nb<;>simp[St.putO]
 refine⟨⟨by rw[put_defers];exact P.dfr,by rw[yH];exact P.size,?_,?_,?_,?_,?_,?_,?_,λb hb=>hp.sub b (P.xold b hb),?_,?_,hp.own⟩,?_⟩
 ·intro t b _ hl;cases d with
  | none=>
   obtain⟨u,h1,h2⟩:=P.slots t b trivial (by simpa[St.putO]using hl);exact⟨u,iN hle _ _ h1,by simpa[Act.put]using h2⟩
  | some d=>
   have hdn:d<a.tmps.size:=by simp only[cM,decide_eq_true_eq]at hd;rw[P.size];exact hd
   by_cases ht:d=t
   ·subst ht;simp only[St.putO,bK]at hl;injection hl with hl;subst hl
    exact⟨v,hp.val,nK hdn⟩
   ·simp only[St.putO,bE ht]at hl;obtain⟨u,h1,h2⟩:=P.slots t b trivial hl;exact⟨u,iN hle _ _ h1,by rw[oQ (by simpa using ht)];exact h2⟩
 ·intro k blk m hkb hm;rcases tR hp hm with h1 | ⟨blk',e1,e2,h2,h3⟩
  ·have hk':k<S.hp.length:=by
    rcases Nat.lt_or_ge k S.hp.length with h | h
    ·exact h
    ·rw[H.dom k h]at h1;cases h1
   have bHj:S.hp[k]?=some blk:=by
    cases nb with
    | none=>simpa[St.putO]using hkb
    | some x=>simp only[St.putO]at hkb;rwa [List.getElem?_append_left hk']at hkb
   exact Blk.ok_keep hle hp.sub hkx (λb e=>hold b (P.loc k b (by rw[h1,e])).2.2 (hmu k b (by rw[h1,e]))) (P.heap k blk m bHj h1)
  ·subst e1;subst e2;simp only[St.putO]at hkb;rw[List.getElem?_append_right (lRf _)]at hkb;simp at hkb;subst hkb;exact h2
 ·intro k hk';rw[hlen]at hk';rcases Nat.lt_or_ge k S.hp.length with h | h
  ·obtain⟨b,hb⟩:=P.all k h;exact⟨b,hle _ _ hb⟩
  ·have hb:=hp.blk
   cases nb with
   | none=>simp at hk';omega
   | some blk=>
    simp at hk';have:k=S.hp.length:=zW;subst this;simp only at hb;obtain⟨m',h4,_⟩:=hb;exact⟨m',by rw[h4,Mu.upd_same]⟩
 ·intro k k' b h1 h2;rcases tR hp h1 with h1 | ⟨_,_,e2,_,h3⟩<;>rcases tR hp h2 with h4 | ⟨_,_,e5,_,h6⟩
  ·exact P.inj k k' b h1 h4
  ·have:=(P.loc k b h1).2.2;have:=(h6 b rfl).1;omega
  ·have:=(P.loc k' b h4).2.2;have:=(h3 b rfl).1;omega
  ·omega
 ·intro k b h1;rcases tR hp h1 with h1 | ⟨_,_,e2,_,h3⟩
  ·obtain⟨l1,l2,l3⟩:=P.loc k b h1;refine⟨l1,λhx=>?_,Nat.lt_of_lt_of_le l3 hp.bel.size⟩;rcases hp.new b hx with h | h | ⟨f,hf,hb⟩
   ·exact l2 h
   ·omega
   ·exact hmu k b h1 f hf hb
  ·obtain⟨q1,q2,q3⟩:=h3 b rfl;exact⟨lTr P.bel.size q1,q3,q2⟩
 ·intro b hx;rcases hp.new b hx with h | h | ⟨f,hf,hb⟩
  ·exact Nat.lt_of_lt_of_le (P.xlt b h) hp.bel.size
  ·exact h.2
  ·exact Nat.lt_of_lt_of_le ((P.own.at_ f hf).2 b hb).2.1 hp.bel.size
 ·intro b hx;rcases hp.new b hx with h | h | ⟨f,hf,hb⟩
  ·exact P.xnew b h
  ·exact .inr (lTr P.bel.size h.1)
  ·exact .inr ((P.own.at_ f hf).2 b hb).1
 ·exact P.bel.trans hp.bel
 ·intro f hf;rcases List.mem_append.1 hf with hf | hf
  ·exact hk f hf
  ·exact lH P.kf hp.sub hle.v hkx f hf
 ·intro k hk';rw[hlen]at hk';have hb:=hp.blk;cases nb with
  | none=>simp only at hb;subst hb;exact H.dom k (by simpa using hk')
  | some blk=>
   simp at hk';simp only at hb;obtain⟨m',h4,_⟩:=hb;rw[h4];simp only[Mu.upd];rw[if_neg zW];exact H.dom k zW
theorem gP {i n:Nat}(h:i<n):List.range' i (n - i)=i::List.range' (i+1) (n - (i+1)):=by
 obtain⟨m,hm⟩:∃m,n - i=m+1:=⟨n - i - 1,zW⟩;rw[hm,List.range'_succ,show n - (i+1)=m from zW]
theorem iZ {o:Oper}(h:o.guard=none)(y:Nat->Option Bool):Region.wanted o y=true:=by simp[Region.wanted,h]
theorem mC {c:Cx}{K Kn:List KF}{all:Array Oper}{i:Nat}{k:List KI}{S:St}{o:Oper}(ho:all[i]?=some o)(hw:∀X μ a w,Sim c K S X μ a w->Region.wanted o (yielded all a.tmps)=true){av:AV}{nb:Option Blk}{ow:List OF}
  (hd:cM c.nt o.dst=true) (hc:Cert c K S.hp.length (λ_=>True) S o av nb Kn ow) (h:bH c (Kn++K) (.ops all (i+1)::k) (S.putO o.dst av nb ow)):bH c K (.ops all i::k) S:=by
 intro X μ a w H;have hlt:i<all.size:=(Array.getElem?_eq_some_iff.1 ho).1;simp only[aO];rw[gP hlt];simp only[wpOpsIn,ho];rw[if_pos (hw X μ a w H)];refine hc X μ a w _ _ H.toP (λ_=>H.dom _ (lRf _)) λX' μ' v w' hp hk=>?_;have:=h X' μ' _ w' (mQ H hd hp hk);simpa[aO]using this
theorem aNn {c:Cx}{K:List KF}{all:Array Oper}{i:Nat}{k:List KI}{S:St}{o:Oper}(ho:all[i]?=some o)(hw:∀X μ a w,Sim c K S X μ a w->Region.wanted o (yielded all a.tmps)=false)
  (hd:cM c.nt o.dst=true) (h:bH c K (.ops all (i+1)::k) (S.put o.dst (.q undef) none)):bH c K (.ops all i::k) S:=by
 intro X μ a w H;have hlt:i<all.size:=(Array.getElem?_eq_some_iff.1 ho).1;simp only[aO];rw[gP hlt];simp only[wpOpsIn,ho];rw[if_neg (by rw[hw X μ a w H];simp)];refine⟨λ_ _=>trivial,?_⟩;have:=h X μ _ w (mQ (Kn:=[]) H hd (cV.same H.toP.own (av:=.q undef) (v:=undef) (by simp[aD])) (λf hf=>by cases hf));simpa[aO]using this
theorem yT {c:Cx}{K:List KF}{all:Array Oper}{i:Nat}{k:List KI}{S:St}(hi:all.size<=i)(h:bH c K k S):bH c K (.ops all i::k) S:=by
 intro X μ a w H;simp only[aO];rw[show all.size - i=0 from zW];simpa[wpOpsIn]using h X μ a w H
theorem aRa {c:Cx}{K:List KF}{x y:Code}{k:List KI}{S:St}(h:bH c K (.code x::.code y::k) S):bH c K (.code (.seq x y)::k) S:=by
 intro X μ a w H;refine wpIn_seq (wpIn_mono (h X μ a w H) λe a w hq=>?_);cases e<;>simpa[aO,Exit.then]using hq
theorem aK7 {c:Cx}{K:List KF}{k:List KI}{S:St}(h:bH c K k S):bH c K (.code .skip::k) S:=
 λX μ a w H=>wpIn_skip (h X μ a w H)
theorem aId {c:Cx}{K:List KF}{id:Nat}{ops:Array Oper}{k:List KI}{S:St}(h:bH c K (.ops ops 0::k) S):bH c K (.code (.region id ops false)::k) S:=by
 intro X μ a w H;have:=h X μ a w H;simp only[aO,Nat.sub_zero]at this;exact wpIn_region (by rw[List.range_eq_range'];exact this)
theorem aK5 {c:Cx}{K:List KF}{id:Nat}{b:Code}{k:List KI}{S:St}(h:bH c K (.code b::.blk id::k) S):bH c K (.code (.block id b)::k) S:=by
 intro X μ a w H;refine wpIn_block (wpIn_mono (h X μ a w H) λe a w hq=>?_);cases e<;>simpa[aO,Exit.inBlock]using hq
theorem aQ7 {c:Cx}{K:List KF}{id:Nat}{k:List KI}{S:St}(h:bH c K k S):bH c K (.blk id::k) S:=
 λX μ a w H=>by simpa[aO]using h X μ a w H
theorem wN {c:Cx}{K:List KF}{x:Operand}{p q:Code}{k:List KI}{S:St}{e:BE}(hx:fW S.sl x=some (.b e))(ht:e.den=true->bH c K (.code p::k) S)(hf:e.den=false->bH c K (.code q::k) S):
  bH c K (.code (.cond x p q)::k) S:=by
 intro X μ a w H;have:=aH H.toP hx (λ_ _=>trivial);simp only[aD]at this;injection this with this
 exact wpIn_cond_split this.symm (λh=>ht h X μ a w H) (λh=>hf h X μ a w H)
theorem aQ9 {c:Cx}{K:List KF}{k:List KI}{S:St}(hk:∀X μ a w,Sim c K S X μ a w->aO c.F c.P c.R k .ret a w):bH c K (.code .ret::k) S:=
 λX μ a w H=>wpIn_ret (hk X μ a w H)
def noD:List KI->Bool
 | []=>true
 | .cal ..::_=>false
 | .dops ..::_=>false
 | .dcal ..::_=>false
 | _::k=>noD k
theorem nW {F:Fence}{P:Program}{R:Act->World->Prop}:∀{k:List KI},noD k=true->∀{a:Act} {w:World},R a w->aO F P R k .ret a w
 | [],_,a,w,h=>h
 | .code c::k,hk,a,w,h=>by simpa[aO]using nW (k:=k) hk h
 | .ops all i::k,hk,a,w,h=>by simpa[aO]using nW (k:=k) hk h
 | .blk id::k,hk,a,w,h=>by simpa[aO]using nW (k:=k) hk h
 | .hole p::k,hk,a,w,h=>by simpa[aO]using nW (k:=k) hk h
 | .ord all L::k,hk,a,w,h=>by simpa[aO]using nW (k:=k) hk h
theorem aNm {c:Cx}{K:List KF}{k:List KI}{S:St}(hk:noD k=true)(h:bH c K [] S):bH c K (.code .ret::k) S:=
 aQ9 λX μ a w H=>nW hk (by simpa[aO]using h X μ a w H)
def gK (id:Nat):List KI->Option (List KI)
 | .blk j::k=>if id=j then some k else gK id k
 | .code _::k=>gK id k
 | .ops _ _::k=>gK id k
 | .hole _::k=>gK id k
 | .ord _ _::k=>gK id k
 | _=>none
theorem lW {F:Fence}{P:Program}{R:Act->World->Prop}{id:Nat}:∀{k k':List KI},gK id k=some k'->∀{a:Act} {w:World},aO F P R k' .normal a w->aO F P R k (.exit id) a w
 | .blk j::k,k',h,a,w,hc=>by
  simp only[gK]at h;simp only[aO];split at h
  ·injection h with h;subst h;rename_i e;rw[if_pos e];exact hc
  ·rename_i e;rw[if_neg e];exact lW h hc
 | .code c::k,k',h,a,w,hc=>by simp only[gK]at h;simpa[aO]using lW h hc
 | .ops all i::k,k',h,a,w,hc=>by simp only[gK]at h;simpa[aO]using lW h hc
 | .hole p::k,k',h,a,w,hc=>by simp only[gK]at h;simpa[aO]using lW h hc
 | .ord all L::k,k',h,a,w,hc=>by simp only[gK]at h;simpa[aO]using lW h hc
theorem aNl {c:Cx}{K:List KF}{id:Nat}{k k':List KI}{S:St}(hu:gK id k=some k')(h:bH c K k' S):bH c K (.code (.exit id)::k) S:=
 λX μ a w H=>wpIn_exit (lW hu (h X μ a w H))
end Go.Ai
