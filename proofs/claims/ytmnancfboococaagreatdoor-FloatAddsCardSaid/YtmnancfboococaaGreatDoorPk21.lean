/- Part 22 of the proof: garboardlaw17.FloatAdds returns true, whatever the input. -/
import Derived.Test.YtmnancfboococaaGreatDoorPk6
import Derived.Test.YtmnancfboococaaGreatDoorPk8
import Derived.Test.YtmnancfboococaaGreatDoorPk17
import Derived.Test.YtmnancfboococaaGreatDoorPk18
import Derived.Test.YtmnancfboococaaGreatDoorPk20
set_option linter.all false
namespace Go.Ai
open Go Go.Proofs Go.Num V3
theorem aSq:aB PP 85:=zK
theorem aLt {e:Int}(he:e≠0):(BE.not (.eq (.v e) (.l 0))).den=true:=by show(!decide (e=0))=true;simp[he]
theorem Raw.errs.ne {r:Raw}{e:Int}(hr:r.errs e):e≠0:=by
 cases hr with
 | solid h=>exact h
 | bad h h2=>decide
 | att e h h2 h3 h4=>exact h4
 | op l p h h2 h3 h4 h5 h6 h7=>decide
theorem aAf {r:Raw}{e:Int}(hr:r.errs e)(hL:r.L.length=9*r.N){X:Nat→Prop}{w:World}{v:Value}(hX:∀b,X b→b<w.heap.size)(hv:(rowS r.N r.L).p v X w):
  Fn PP 60 [v,r.attV,.string r.d] X w (dI (.tuple #[.agg #[.string ⟨#[]⟩,.string ⟨#[]⟩,.string ⟨#[]⟩,.string ⟨#[]⟩,.string ⟨#[]⟩,.string ⟨#[]⟩,.string ⟨#[]⟩,.string ⟨#[]⟩,.string ⟨#[]⟩,.string ⟨#[]⟩],.int .i64 e])):=by
 have hne:=hr.ne
 have kw:∀{X:Nat→Prop} {w:World} {v:Value},(∀b,X b→b<w.heap.size)→(rowS r.N r.L).p v X w→Fn PP 48 [v,r.attV,.string r.d] X w (dI (.tuple #[.agg #[.string ⟨#[]⟩,.string ⟨#[]⟩,.string ⟨#[]⟩,.string ⟨#[]⟩],.int .i64 e])):=fun hX hv=>aIq hr hL hX hv
 obtain⟨R,hRR⟩:=nm (dI (.tuple #[.agg #[.string ⟨#[]⟩,.string ⟨#[]⟩,.string ⟨#[]⟩,.string ⟨#[]⟩,.string ⟨#[]⟩,.string ⟨#[]⟩,.string ⟨#[]⟩,.string ⟨#[]⟩,.string ⟨#[]⟩,.string ⟨#[]⟩],.int .i64 e]));rw[←hRR];unfold Raw.attV at *;obtain⟨RS,hRS⟩:=nm (rowS r.N r.L);rw[←hRS]at hv kw;obtain⟨K,hK⟩:=nm ([KF.cst v RS]);refine bE mixed tok [.q v,.g [.s (.v r.h),.s (.v r.t)],.s (.v r.d)] (K:=K) Tryz.func60 rfl rfl (lbl rfl) rfl hX (by rw[hK];simp;exact hv) fun c hc hR=>?_
 refine zN hc ?_;cbv;refine bJ hc (.t [.g [.s (.v ⟨#[]⟩),.s (.v ⟨#[]⟩),.s (.v ⟨#[]⟩),.s (.v ⟨#[]⟩)],.i .i64 (.v e)]) zB (fun n0 D X μ a w aK H hv=>?_) rfl 100 ?_
 ·obtain⟨u1,u2,u3,rfl,e1,e2,e3⟩:=dV hv;rw[bO e1,show u2=_ from(Option.some.inj e2).symm,show u3=_ from(Option.some.inj e3).symm];exact kw H.xlt (H.cst (by rw[hK];exact .head _))
 cbv;refine aE hc rfl 100 (fun h=>?_) (fun h=>by rw[aLt hne]at h;cases h);cbv;refine aS hc hR rfl (fun X μ a w v' H hv'=>?_);rw[hRR];simp only[aD,aG]at hv';injection hv' with hv'
 exact hv'.symm
theorem wQ {r:Raw}{l:List Tri}{p:Pl}(hg:r.good l p)(hp:p.fit (2^9))(hl:∀t,t∈l→t.le (2^9))(hN:r.N≤32)(hL:r.L.length=9*r.N){X:Nat→Prop}{w:World}{v:Value}(hX:∀b,X b→b<w.heap.size)(hv:(rowS r.N r.L).p v X w):
  Fn PP 60 [v,r.attV,.string r.d] X w (dI (.tuple #[oF (bD p l),.int .i64 0])):=by
 have hlen:l.length=r.N:=by
  have:=hL
  rw[hg.eq,eQ]at this;omega
 have kw:∀{X:Nat→Prop} {w:World} {v:Value},(∀b,X b→b<w.heap.size)→(rowS r.N r.L).p v X w→Fn PP 48 [v,r.attV,.string r.d] X w (dI (.tuple #[mY p,.int .i64 0])):=fun hX hv=>aCy hg hL hX hv
 have kb:∀{X:Nat→Prop} {w:World} {v:Value},(∀b,X b→b<w.heap.size)→(rowS r.N r.L).p v X w→Fn PP 117 [v,mY p] X w (dI (.tuple #[oF (bD p l),.int .i64 0])):=fun {X} {w} {v} hX hv=>by
  rw[hg.eq,←hlen]at hv;exact aXl hp hl (by omega) hg.ok hX hv
 clear hg hp;obtain⟨R,hRR⟩:=nm (dI (.tuple #[oF (bD p l),.int .i64 0]));rw[←hRR];unfold Raw.attV at *;obtain⟨RS,hRS⟩:=nm (rowS r.N r.L);rw[←hRS]at hv kw kb;obtain⟨K,hK⟩:=nm ([KF.cst v RS]);obtain⟨m0,m1,m2,m3,m4,m5,m6,m7,m8,m9,hm⟩:∃m0 m1 m2 m3 m4 m5 m6 m7 m8 m9:ByteArray,oF (bD p l)=.agg #[.string m0,.string m1,.string m2,.string m3,.string m4,.string m5,.string m6,.string m7,.string m8,.string m9]:=⟨_,_,_,_,_,_,_,_,_,_,rfl⟩;rw[hm]at hRR kb;unfold mY at *;generalize aA p.n.x=q1 at *;generalize aA p.n.y=q2 at *;generalize aA p.n.z=q3 at *;generalize aA p.a=q4 at *;refine bE mixed tok [.q v,.g [.s (.v r.h),.s (.v r.t)],.s (.v r.d)] (K:=K) Tryz.func60 rfl rfl (lbl rfl) rfl hX (by rw[hK];simp;exact hv) fun c hc hR=>?_
 refine zN hc ?_;cbv;refine bJ hc (.t [.g [.s (.v q1),.s (.v q2),.s (.v q3),.s (.v q4)],.i .i64 (.l 0)]) zB (fun n0 D X μ a w aK H hv=>?_) rfl 100 ?_
 ·obtain⟨u1,u2,u3,rfl,e1,e2,e3⟩:=dV hv;rw[bO e1,show u2=_ from(Option.some.inj e2).symm,show u3=_ from(Option.some.inj e3).symm];exact kw H.xlt (H.cst (by rw[hK];exact .head _))
 cbv;refine bJ hc (.t [.g [.s (.v m0),.s (.v m1),.s (.v m2),.s (.v m3),.s (.v m4),.s (.v m5),.s (.v m6),.s (.v m7),.s (.v m8),.s (.v m9)],.i .i64 (.l 0)]) aOh (fun n0 D X μ a w aK H hv=>?_) rfl 100 ?_
 ·obtain⟨u1,u2,rfl,e1,e2⟩:=bL hv;rw[bO e1,show u2=_ from(Option.some.inj e2).symm];exact kb H.xlt (H.cst (by rw[hK];exact .head _))
 cbv;refine aS hc hR rfl (fun X μ a w v' H hv'=>?_);rw[hRR];simp only[aD,aG]at hv';injection hv' with hv'
 exact hv'.symm
theorem aGb {r:Raw}{e:Int}(hr:r.errs e)(hL:r.L.length=9*r.N){X:Nat→Prop}{w:World}{v:Value}(hX:∀b,X b→b<w.heap.size)(hv:(rowS r.N r.L).p v X w):
  Fn PP 19 [v,r.attV,.string r.d] X w (dI (.tuple #[.string ⟨#[]⟩,.int .i64 e])):=by
 have kw:∀{X:Nat→Prop} {w:World} {v:Value},(∀b,X b→b<w.heap.size)→(rowS r.N r.L).p v X w→Fn PP 60 [v,r.attV,.string r.d] X w (dI (.tuple #[.agg #[.string ⟨#[]⟩,.string ⟨#[]⟩,.string ⟨#[]⟩,.string ⟨#[]⟩,.string ⟨#[]⟩,.string ⟨#[]⟩,.string ⟨#[]⟩,.string ⟨#[]⟩,.string ⟨#[]⟩,.string ⟨#[]⟩],.int .i64 e])):=fun hX hv=>aAf hr hL hX hv
 obtain⟨R,hRR⟩:=nm (dI (.tuple #[.string ⟨#[]⟩,.int .i64 e]));rw[←hRR];unfold Raw.attV at *;obtain⟨RS,hRS⟩:=nm (rowS r.N r.L);rw[←hRS]at hv kw;obtain⟨K,hK⟩:=nm ([KF.cst v RS]);refine bE mixed tok [.q v,.g [.s (.v r.h),.s (.v r.t)],.s (.v r.d)] (K:=K) Tryz.func19 rfl rfl (lbl rfl) rfl hX (by rw[hK];simp;exact hv) fun c hc hR=>?_
 refine zN hc ?_;cbv;refine bJ hc (.t [.g [.s (.v ⟨#[]⟩),.s (.v ⟨#[]⟩),.s (.v ⟨#[]⟩),.s (.v ⟨#[]⟩),.s (.v ⟨#[]⟩),.s (.v ⟨#[]⟩),.s (.v ⟨#[]⟩),.s (.v ⟨#[]⟩),.s (.v ⟨#[]⟩),.s (.v ⟨#[]⟩)],.i .i64 (.v e)]) qD (fun n0 D X μ a w aK H hv=>?_) rfl 100 ?_
 ·obtain⟨u1,u2,u3,rfl,e1,e2,e3⟩:=dV hv;rw[bO e1,show u2=_ from(Option.some.inj e2).symm,show u3=_ from(Option.some.inj e3).symm];exact kw H.xlt (H.cst (by rw[hK];exact .head _))
 cbv;refine aS hc hR rfl (fun X μ a w v' H hv'=>?_);rw[hRR];simp only[aD,aG]at hv';injection hv' with hv'
 exact hv'.symm
theorem aAh {r:Raw}{l:List Tri}{p:Pl}(hg:r.good l p)(hp:p.fit (2^9))(hl:∀t,t∈l→t.le (2^9))(hN:r.N≤32)(hL:r.L.length=9*r.N){X:Nat→Prop}{w:World}{v:Value}(hX:∀b,X b→b<w.heap.size)(hv:(rowS r.N r.L).p v X w):
  Fn PP 19 [v,r.attV,.string r.d] X w (dI (.tuple #[.string (aA (bD p l).v),.int .i64 0])):=by
 have kw:∀{X:Nat→Prop} {w:World} {v:Value},(∀b,X b→b<w.heap.size)→(rowS r.N r.L).p v X w→Fn PP 60 [v,r.attV,.string r.d] X w (dI (.tuple #[oF (bD p l),.int .i64 0])):=fun hX hv=>wQ hg hp hl hN hL hX hv
 clear hg hp;unfold oF at kw;obtain⟨R,hRR⟩:=nm (dI (.tuple #[.string (aA (bD p l).v),.int .i64 0]));rw[←hRR];unfold Raw.attV at *;obtain⟨RS,hRS⟩:=nm (rowS r.N r.L);rw[←hRS]at hv kw;obtain⟨K,hK⟩:=nm ([KF.cst v RS]);generalize aA (bD p l).v=m0 at *;generalize aA (bD p l).f.x=m1 at *;generalize aA (bD p l).f.y=m2 at *;generalize aA (bD p l).f.z=m3 at *;generalize aA (bD p l).xx=m4 at *;generalize aA (bD p l).yy=m5 at *;generalize aA (bD p l).zz=m6 at *;generalize aA (bD p l).xy=m7 at *;generalize aA (bD p l).yz=m8 at *;generalize aA (bD p l).zx=m9 at *;refine bE mixed tok [.q v,.g [.s (.v r.h),.s (.v r.t)],.s (.v r.d)] (K:=K) Tryz.func19 rfl rfl (lbl rfl) rfl hX (by rw[hK];simp;exact hv) fun c hc hR=>?_
 refine zN hc ?_;cbv;refine bJ hc (.t [.g [.s (.v m0),.s (.v m1),.s (.v m2),.s (.v m3),.s (.v m4),.s (.v m5),.s (.v m6),.s (.v m7),.s (.v m8),.s (.v m9)],.i .i64 (.l 0)]) qD (fun n0 D X μ a w aK H hv=>?_) rfl 100 ?_
 ·obtain⟨u1,u2,u3,rfl,e1,e2,e3⟩:=dV hv;rw[bO e1,show u2=_ from(Option.some.inj e2).symm,show u3=_ from(Option.some.inj e3).symm];exact kw H.xlt (H.cst (by rw[hK];exact .head _))
 cbv;refine aS hc hR rfl (fun X μ a w v' H hv'=>?_);rw[hRR];simp only[aD,aG]at hv';injection hv' with hv'
 exact hv'.symm
theorem aEh {r:Raw}{e:Int}(hr:r.errs e)(hL:r.L.length=9*r.N){X:Nat→Prop}{w:World}{v:Value}(hX:∀b,X b→b<w.heap.size)(hv:(rowS r.N r.L).p v X w):
  Fn PP 39 [v,r.attV,.string r.d] X w (dI (.tuple #[.string ⟨#[]⟩,.int .i64 e])):=by
 have hne:=hr.ne
 have kw:∀{X:Nat→Prop} {w:World} {v:Value},(∀b,X b→b<w.heap.size)→(rowS r.N r.L).p v X w→Fn PP 60 [v,r.attV,.string r.d] X w (dI (.tuple #[.agg #[.string ⟨#[]⟩,.string ⟨#[]⟩,.string ⟨#[]⟩,.string ⟨#[]⟩,.string ⟨#[]⟩,.string ⟨#[]⟩,.string ⟨#[]⟩,.string ⟨#[]⟩,.string ⟨#[]⟩,.string ⟨#[]⟩],.int .i64 e])):=fun hX hv=>aAf hr hL hX hv
 obtain⟨R,hRR⟩:=nm (dI (.tuple #[.string ⟨#[]⟩,.int .i64 e]));rw[←hRR];unfold Raw.attV at *;obtain⟨RS,hRS⟩:=nm (rowS r.N r.L);rw[←hRS]at hv kw;obtain⟨K,hK⟩:=nm ([KF.cst v RS]);refine bE mixed tok [.q v,.g [.s (.v r.h),.s (.v r.t)],.s (.v r.d)] (K:=K) Tryz.func39 rfl rfl (lbl rfl) rfl hX (by rw[hK];simp;exact hv) fun c hc hR=>?_
 refine zN hc ?_;cbv;refine bJ hc (.t [.g [.s (.v ⟨#[]⟩),.s (.v ⟨#[]⟩),.s (.v ⟨#[]⟩),.s (.v ⟨#[]⟩),.s (.v ⟨#[]⟩),.s (.v ⟨#[]⟩),.s (.v ⟨#[]⟩),.s (.v ⟨#[]⟩),.s (.v ⟨#[]⟩),.s (.v ⟨#[]⟩)],.i .i64 (.v e)]) qD (fun n0 D X μ a w aK H hv=>?_) rfl 100 ?_
 ·obtain⟨u1,u2,u3,rfl,e1,e2,e3⟩:=dV hv;rw[bO e1,show u2=_ from(Option.some.inj e2).symm,show u3=_ from(Option.some.inj e3).symm];exact kw H.xlt (H.cst (by rw[hK];exact .head _))
 cbv;refine aE hc rfl 100 (fun h=>?_) (fun h=>by rw[aLt hne]at h;cases h);cbv;refine aS hc hR rfl (fun X μ a w v' H hv'=>?_);rw[hRR];simp only[aD,aG]at hv';injection hv' with hv'
 exact hv'.symm
theorem aGa {r:Raw}{l:List Tri}{p:Pl}(hg:r.good l p)(hp:p.fit (2^9))(hl:∀t,t∈l→t.le (2^9))(hN:r.N≤32)(hL:r.L.length=9*r.N)(hb:sz (bD p l).v≤2^29){X:Nat→Prop}{w:World}{v:Value}(hX:∀b,X b→b<w.heap.size)(hv:(rowS r.N r.L).p v X w):
  Fn PP 39 [v,r.attV,.string r.d] X w (dI (.tuple #[.string (aA (vY l - (bD p l).v)),.int .i64 0])):=by
 have hlen:l.length=r.N:=by
  have:=hL
  rw[hg.eq,eQ]at this;omega
 have kw:∀{X:Nat→Prop} {w:World} {v:Value},(∀b,X b→b<w.heap.size)→(rowS r.N r.L).p v X w→Fn PP 60 [v,r.attV,.string r.d] X w (dI (.tuple #[oF (bD p l),.int .i64 0])):=fun hX hv=>wQ hg hp hl hN hL hX hv
 have kv:∀{X:Nat→Prop} {w:World} {v:Value},(∀b,X b→b<w.heap.size)→(rowS r.N r.L).p v X w→Fn PP 84 [v] X w (dI (.tuple #[.string (aA (vY l)),.int .i64 0])):=fun {X} {w} {v} hX hv=>by
  rw[hg.eq,←hlen]at hv;exact aTp (fun t ht=>⟨(hl t ht).1.mono (by decide),(hl t ht).2.1.mono (by decide),(hl t ht).2.2.mono (by decide)⟩) (by omega) hg.ok hX hv
 have hvs:sz (vY l)≤2^29:=by
  have h1:=oM hl l.length (lRf _)
  rw[List.take_of_length_le (lRf _)]at h1;have h2:l.length*(15*2^9+6)≤245952:=lTr (Nat.mul_le_mul_right (15*2^9+6) (show l.length≤32 by omega)) (by decide)
  refine lTr (sz_mm h1 sz6) ?_;generalize l.length*(15*2^9+6)=z at h2 ⊢;omega
 have ks:=aXu (x:=vY l) (y:=(bD p l).v) hvs hb
 clear hg hp hb hvs;unfold oF at kw;obtain⟨R,hRR⟩:=nm (dI (.tuple #[.string (aA (vY l - (bD p l).v)),.int .i64 0]));rw[←hRR];unfold Raw.attV at *;obtain⟨RS,hRS⟩:=nm (rowS r.N r.L);rw[←hRS]at hv kw kv;obtain⟨K,hK⟩:=nm ([KF.cst v RS]);generalize aA (bD p l).v=m0 at *;generalize aA (bD p l).f.x=m1 at *;generalize aA (bD p l).f.y=m2 at *;generalize aA (bD p l).f.z=m3 at *;generalize aA (bD p l).xx=m4 at *;generalize aA (bD p l).yy=m5 at *;generalize aA (bD p l).zz=m6 at *;generalize aA (bD p l).xy=m7 at *;generalize aA (bD p l).yz=m8 at *;generalize aA (bD p l).zx=m9 at *;generalize aA (vY l - (bD p l).v)=res at *;generalize aA (vY l)=tot at *;refine bE mixed tok [.q v,.g [.s (.v r.h),.s (.v r.t)],.s (.v r.d)] (K:=K) Tryz.func39 rfl rfl (lbl rfl) rfl hX (by rw[hK];simp;exact hv) fun c hc hR=>?_
 refine zN hc ?_;cbv;refine bJ hc (.t [.g [.s (.v m0),.s (.v m1),.s (.v m2),.s (.v m3),.s (.v m4),.s (.v m5),.s (.v m6),.s (.v m7),.s (.v m8),.s (.v m9)],.i .i64 (.l 0)]) qD (fun n0 D X μ a w aK H hv=>?_) rfl 100 ?_
 ·obtain⟨u1,u2,u3,rfl,e1,e2,e3⟩:=dV hv;rw[bO e1,show u2=_ from(Option.some.inj e2).symm,show u3=_ from(Option.some.inj e3).symm];exact kw H.xlt (H.cst (by rw[hK];exact .head _))
 cbv;refine bJ hc (.t [.s (.v tot),.i .i64 (.l 0)]) aL6 (fun n0 D X μ a w aK H hv=>?_) rfl 100 ?_
 ·obtain⟨u1,rfl,e1⟩:=aV hv;rw[bO e1];exact kv H.xlt (H.cst (by rw[hK];exact .head _))
 cbv;refine zC hc (.t [.s (.v res),.i .i64 (.l 0)]) ks aSq ?_;cbv;refine aS hc hR rfl (fun X μ a w v' H hv'=>?_);rw[hRR];simp only[aD,aG]at hv';injection hv' with hv'
 exact hv'.symm
end Go.Ai
namespace Go.Ai
open Go Go.RowKit
section
variable {c:Cx}{P:Program}{ty:Nat→Option TyI}{nt:Nat}{K:List KF}{S:St}
def Ls3 (b4 b5 b6 b7 b8:Bool):Array Bool:=#[true,true,true,b4,b5,b6,b7,b8]
theorem aQ4 (hc:Ctx c P ty nt){mt kt et n:Nat}(T:KeyTy P mt kt et n){all:Array Oper}{n0:Nat}{K0:List KF}{k:List KI}{M:Nat→fM→OF}(hM:∀r es,M r es=OF.mp r es){r:Nat}{ks:List ByteArray}{es:fM}(pre:List OF){post:List OF}{a b d4 d5 d6 d7:Nat}{kav:AV}{bop:BinOp}(dl:Int)
  (hsz:all.size=8) {o4 o5 o6 o7 o8:Oper} (g4:all[3]?=some o4) (g5:all[4]?=some o5) (g6:all[5]?=some o6) (g7:all[6]?=some o7) (g8:all[7]?=some o8)
  (e4:o4.op=.lookup mt (.tmp a) (.tmp b) false) (f4:o4.dst=some d4) (q4:o4.guard=none)
  (e5:o5.op=.binOp bop 3 (.tmp d4) (.const (.int .i64 1)) 3) (f5:o5.dst=some d5) (q5:o5.guard=none)
  (e6:o6.op=.mapEntry mt (.tmp a) (.tmp b)) (f6:o6.dst=some d6) (q6:o6.guard=none)
  (e7:o7.op=.extract (.tmp d6) 1) (f7:o7.dst=some d7) (q7:o7.guard=none)
  (e8:o8.op=.entryStore mt (.tmp a) (.tmp d7) (.tmp d5)) (f8:o8.dst=none) (q8:o8.guard=none)
  (hb:(bop=.add∧dl=1)∨(bop=.sub∧dl=-1)) (hz:-4611686018427387904≤fK es ks∧fK es ks≤4611686018427387904)
  (hdd:(decide (d4<nt)&&decide (d5<nt)&&decide (d6<nt)&&decide (d7<nt))=true) (aGf:[a,b,d4,d5,d6,d7].Nodup)
  (sa:look S.sl a=some (.o (.map (some r)))) (sb:look S.sl b=some kav) (hk:aD iD kav=some (iU ks)) (hn:ks.length=n) (hes:iC n es) (how:S.ow=pre++M r es::post)
  (w4:look S.sl d4=none) (w5:look S.sl d5=none) (w6:look S.sl d6=none) (w7:look S.sl d7=none)
  (r0:Region.ready .any all (Ls3 false false false false false)=[3,5]) (r4:Region.ready .any all (Ls3 true false false false false)=[4,5]) (r6:Region.ready .any all (Ls3 false false true false false)=[3,6])
  (r45:Region.ready .any all (Ls3 true true false false false)=[5]) (r46:Region.ready .any all (Ls3 true false true false false)=[4,6]) (r67:Region.ready .any all (Ls3 false false true true false)=[3])
  (r456:Region.ready .any all (Ls3 true true true false false)=[6]) (r467:Region.ready .any all (Ls3 true false true true false)=[4]) (r4567:Region.ready .any all (Ls3 true true true true false)=[7]) (r8:Region.ready .any all (Ls3 true true true true true)=[])
  (hd:rW all 3=true) (hkk:iN k=true) (h:Goal c K ⟨k,{S with ow:=pre++M r (iG ks dl es)::post},[]⟩):Goal c K ⟨.dops all 3 n0 K0::k,S,[]⟩:=by
 simp only[Bool.and_eq_true,decide_eq_true_eq]at hdd;obtain⟨⟨⟨l4,l5⟩,l6⟩,l7⟩:=hdd;simp only[List.nodup_cons,List.mem_cons,List.not_mem_nil,not_or,or_false,not_false_eq_true,List.nodup_nil,and_true]at aGf;obtain⟨⟨n1,n2,n3,n4,n5⟩,⟨n6,n7,n8,n9⟩,⟨n10,n11,n12⟩,⟨n13,n14⟩,n15⟩:=aGf;have hd4:cJ nt o4.dst=true:=by rw[f4];simpa[cJ]using l4
 have hd5:cJ nt o5.dst=true:=by rw[f5];simpa[cJ]using l5
 have hd6:cJ nt o6.dst=true:=by rw[f6];simpa[cJ]using l6
 have hd7:cJ nt o7.dst=true:=by rw[f7];simpa[cJ]using l7
 have gd:∀(o:Oper) (sl:List (Nat × AV)),o.guard=none→guardOf #[o] sl o=some true:=fun o sl h=>by simp[guardOf,h]
 have aIt:=hes.touch (k:=ks) hn
 obtain⟨z,hz'⟩:=nm (fK es ks);rw[←hz']at hz;obtain⟨st,hst⟩:=nm (lC es ks);obtain⟨es1,aAm⟩:=nm (fR es ks);rw[←aAm]at aIt;have hlt:st<es1.length:=by rw[hst,aAm];exact aDm es ks
 have hz1:z=fK es1 ks:=by rw[aAm,aAk];exact hz'
 let e5e:IE:=if bop=.add then .add (.v z) (.l 1)else .sub (.v z) (.l 1)
 have he5:e5e.den=z+dl:=by
  rcases hb with⟨h1,h2⟩ | ⟨h1,h2⟩
  ·simp only[e5e,h1,h2,if_true,IE.den]
  ·simp only[e5e,h1,h2,if_neg (show ¬BinOp.sub=BinOp.add by intro h;cases h),IE.den];omega
 have iH:lN es1 st e5e.den=iG ks dl es:=by rw[he5,aAm,hst,hz'];exact aHj es ks dl
 have t4:∀(S1:St) (L:Array Bool) (es0:fM),iC n es0→z=fK es0 ks→look S1.sl a=some (.o (.map (some r)))→look S1.sl b=some kav→S1.ow=pre++M r es0::post→
   Goal c K ⟨.ord all L::k,{S1 with sl:=(d4,.i .i64 (.v z))::S1.sl},[]⟩→Goal c K ⟨.ops #[o4] 0::.ord all L::k,S1,[]⟩:=by
  intro S1 L es0 u1 u2 u3 u4 u5 g;refine aLo hc o4 rfl (gd _ _ q4) hd4 T pre hM e4 u3 u4 hk hn u1 u5 z u2 ?_;refine iO rfl rfl ?_;simp only[St.put,St.putO,f4];exact g
 have t5:∀(S1:St) (L:Array Bool),look S1.sl d4=some (.i .i64 (.v z))→Goal c K ⟨.ord all L::k,{S1 with sl:=(d5,.i .i64 e5e)::S1.sl},[]⟩→Goal c K ⟨.ops #[o5] 0::.ord all L::k,S1,[]⟩:=by
  intro S1 L u1 g;have hf:fop c.ty S1.hp.length S1 o5.op=some ⟨.i .i64 e5e,none,[.inR .i64 e5e]⟩:=by
   rw[e5]
   rcases hb with⟨h1,h2⟩ | ⟨h1,h2⟩
   ·subst h1;simp only[fop,eV,u1,vC,aH4,IE.mkAdd,pW,if_true,e5e]
   ·subst h1;simp only[fop,eV,u1,vC,aH4,IE.mkSub,pW,if_true,e5e,if_neg (show ¬BinOp.sub=BinOp.add by intro h;cases h)]
  have hs:Goal c K ⟨.ops #[o5] 1::.ord all L::k,S1.put o5.dst (.i .i64 e5e) none,[]⟩:=by
   refine iO rfl rfl ?_;simp only[St.put,St.putO,f5];exact g
  refine .mk0 (show bG c K _ _ from kI (Kn:=[]) (o:=o5) rfl (fun X μ a w H=>gW q5 _) (by rw[hc.hnt];exact hd5) (jI hf ⟨?_,trivial⟩ (fun _ _=>trivial)) hs.so);show lo .i64≤e5e.den∧e5e.den≤hi .i64
  rw[he5];simp only[lo,hi]
  rcases hb with⟨_,h2⟩ | ⟨_,h2⟩<;>omega
 have t6:∀(S1:St) (L:Array Bool),look S1.sl a=some (.o (.map (some r)))→look S1.sl b=some kav→S1.ow=pre++M r es::post→
   (∀v,Goal c K ⟨.ord all L::k,{S1 with sl:=(d6,.t [.q v,.i .i64 (.n st)])::S1.sl,ow:=pre++M r es1::post},[]⟩)→Goal c K ⟨.ops #[o6] 0::.ord all L::k,S1,[]⟩:=by
  intro S1 L u3 u4 u5 g;refine aA9 hc o6 rfl (gd _ _ q6) hd6 T pre hM e6 u3 u4 hk hn hes u5 aAm hst (fun v=>?_);refine iO rfl rfl ?_;simp only[St.putO,f6];exact g v
 have t7:∀(S1:St) (L:Array Bool) (v:Value),look S1.sl d6=some (.t [.q v,.i .i64 (.n st)])→Goal c K ⟨.ord all L::k,{S1 with sl:=(d7,.i .i64 (.n st))::S1.sl},[]⟩→Goal c K ⟨.ops #[o7] 0::.ord all L::k,S1,[]⟩:=by
  intro S1 L v u1 g;have hf:fop c.ty S1.hp.length S1 o7.op=some ⟨.i .i64 (.n st),none,[]⟩:=by
   rw[e7];simp only[fop,eV,u1,dJ,List.getElem?_cons_succ,List.getElem?_cons_zero]
  have hs:Goal c K ⟨.ops #[o7] 1::.ord all L::k,S1.put o7.dst (.i .i64 (.n st)) none,[]⟩:=by
   refine iO rfl rfl ?_;simp only[St.put,St.putO,f7];exact g
  exact .mk0 (show bG c K _ _ from kI (Kn:=[]) (o:=o7) rfl (fun X μ a w H=>gW q7 _) (by rw[hc.hnt];exact hd7) (jI hf trivial (fun _ _=>trivial)) hs.so)
 have t8:∀(S1:St),look S1.sl a=some (.o (.map (some r)))→look S1.sl d7=some (.i .i64 (.n st))→look S1.sl d5=some (.i .i64 e5e)→S1.ow=pre++M r es1::post→S1.hp=S.hp→(∀t av,look S.sl t=some av→look S1.sl t=some av)→
   Goal c K ⟨.ops #[o8] 0::.ord all (Ls3 true true true true true)::k,S1,[]⟩:=by
  intro S1 u1 u2 u3 u4 u5 u6;refine vJ hc o8 rfl (gd _ _ q8) f8 pre hM e8 u1 u2 u3 hlt u4 iH.symm ?_;refine iO rfl rfl ?_;refine tR r8 hkk ?_;exact aQ7 (S':={S with ow:=pre++M r (iG ks dl es)::post}) hkk u5.symm rfl u6 h
 have ne:∀{d t:Nat},¬t=d→(d==t)=false:=fun h=>by simp;exact fun e=>h e.symm
 have keep:∀(l:List (Nat × AV)),(∀x,x∈l→x.1=d4∨x.1=d5∨x.1=d6∨x.1=d7)→∀t av,look S.sl t=some av→look (l++S.sl) t=some av:=by
  intro l
  induction l with
  | nil=>intro _ t av h;exact h
  | cons x l ih=>
   intro hl t av ht;have hx:=hl x (by simp)
   rw[List.cons_append];obtain⟨j,v⟩:=x;rw[bB]
   ·exact ih (fun y hy=>hl y (List.mem_cons_of_mem _ hy)) t av ht
   ·intro e;simp only at e hx;subst e
    rcases hx with e | e | e | e<;>subst e
    ·rw[w4]at ht;cases ht
    ·rw[w5]at ht;cases ht
    ·rw[w6]at ht;cases ht
    ·rw[w7]at ht;cases ht
 have L0:firstM all.size 3=Ls3 false false false false false:=by rw[hsz];rfl
 refine yT hc hd (by omega) ?_;rw[L0];have A:=n1;
 have m1:∀{x y:Nat} {av:AV} {l:List (Nat × AV)},¬y=x→look ((x,av)::l) y=look l y:=fun h=>bB (fun e=>h e.symm) _ _
 have m2:∀{x y:Nat} {av:AV} {l:List (Nat × AV)},¬x=y→look ((x,av)::l) y=look l y:=fun h=>bB h _ _
 have m3:∀{x:Nat} {av:AV} {l:List (Nat × AV)},look ((x,av)::l) x=some av:=bH _ _ _
 refine bR [3,5] r0 rfl (fun i hi=>?_);simp only[List.mem_cons,List.not_mem_nil,or_false]at hi
 rcases hi with rfl | rfl
 ·
  refine⟨o4,g4,q4,t4 S _ es hes hz' sa sb how ?_⟩;refine bR [4,5] r4 rfl (fun i hi=>?_);simp only[List.mem_cons,List.not_mem_nil,or_false]at hi
  rcases hi with rfl | rfl
  ·refine⟨o5,g5,q5,t5 _ _ m3 ?_⟩;refine bR [5] r45 rfl (fun i hi=>?_);simp only[List.mem_cons,List.not_mem_nil,or_false]at hi;subst hi;refine⟨o6,g6,q6,t6 _ _ ((m1 n3).trans ((m1 n2).trans sa)) ((m1 n7).trans ((m1 n6).trans sb)) how (fun v=>?_)⟩;refine bR [6] r456 rfl (fun i hi=>?_);simp only[List.mem_cons,List.not_mem_nil,or_false]at hi;subst hi;refine⟨o7,g7,q7,t7 _ _ v m3 ?_⟩;refine bR [7] r4567 rfl (fun i hi=>?_);simp only[List.mem_cons,List.not_mem_nil,or_false]at hi;subst hi;exact⟨o8,g8,q8,t8 _ ((m1 n5).trans ((m1 n4).trans ((m1 n3).trans ((m1 n2).trans sa)))) m3 ((m1 n14).trans ((m1 n13).trans m3)) rfl rfl (keep [(d7,_),(d6,_),(d5,_),(d4,_)] (by simp))⟩
  ·refine⟨o6,g6,q6,t6 _ _ ((m1 n2).trans sa) ((m1 n6).trans sb) how (fun v=>?_)⟩;refine bR [4,6] r46 rfl (fun i hi=>?_);simp only[List.mem_cons,List.not_mem_nil,or_false]at hi
   rcases hi with rfl | rfl
   ·refine⟨o5,g5,q5,t5 _ _ ((m1 n11).trans m3) ?_⟩;refine bR [6] r456 rfl (fun i hi=>?_);simp only[List.mem_cons,List.not_mem_nil,or_false]at hi;subst hi;refine⟨o7,g7,q7,t7 _ _ v ((m2 n13).trans m3) ?_⟩;refine bR [7] r4567 rfl (fun i hi=>?_);simp only[List.mem_cons,List.not_mem_nil,or_false]at hi;subst hi;exact⟨o8,g8,q8,t8 _ ((m1 n5).trans ((m1 n3).trans ((m1 n4).trans ((m1 n2).trans sa)))) m3 ((m1 n14).trans m3) rfl rfl (keep [(d7,_),(d5,_),(d6,_),(d4,_)] (by simp))⟩
   ·refine⟨o7,g7,q7,t7 _ _ v m3 ?_⟩;refine bR [4] r467 rfl (fun i hi=>?_);simp only[List.mem_cons,List.not_mem_nil,or_false]at hi;subst hi;refine⟨o5,g5,q5,t5 _ _ ((m1 n12).trans ((m1 n11).trans m3)) ?_⟩;refine bR [7] r4567 rfl (fun i hi=>?_);simp only[List.mem_cons,List.not_mem_nil,or_false]at hi;subst hi;exact⟨o8,g8,q8,t8 _ ((m1 n3).trans ((m1 n5).trans ((m1 n4).trans ((m1 n2).trans sa)))) ((m2 n14).trans m3) m3 rfl rfl (keep [(d5,_),(d7,_),(d6,_),(d4,_)] (by simp))⟩
 ·
  refine⟨o6,g6,q6,t6 S _ sa sb how (fun v=>?_)⟩;refine bR [3,6] r6 rfl (fun i hi=>?_);simp only[List.mem_cons,List.not_mem_nil,or_false]at hi
  rcases hi with rfl | rfl
  ·refine⟨o4,g4,q4,t4 _ _ es1 aIt hz1 ((m1 n4).trans sa) ((m1 n8).trans sb) rfl ?_⟩;refine bR [4,6] r46 rfl (fun i hi=>?_);simp only[List.mem_cons,List.not_mem_nil,or_false]at hi
   rcases hi with rfl | rfl
   ·refine⟨o5,g5,q5,t5 _ _ m3 ?_⟩;refine bR [6] r456 rfl (fun i hi=>?_);simp only[List.mem_cons,List.not_mem_nil,or_false]at hi;subst hi;refine⟨o7,g7,q7,t7 _ _ v ((m2 n13).trans ((m2 n11).trans m3)) ?_⟩;refine bR [7] r4567 rfl (fun i hi=>?_);simp only[List.mem_cons,List.not_mem_nil,or_false]at hi;subst hi;exact⟨o8,g8,q8,t8 _ ((m1 n5).trans ((m1 n3).trans ((m1 n2).trans ((m1 n4).trans sa)))) m3 ((m1 n14).trans m3) rfl rfl (keep [(d7,_),(d5,_),(d4,_),(d6,_)] (by simp))⟩
   ·refine⟨o7,g7,q7,t7 _ _ v ((m2 n11).trans m3) ?_⟩;refine bR [4] r467 rfl (fun i hi=>?_);simp only[List.mem_cons,List.not_mem_nil,or_false]at hi;subst hi;refine⟨o5,g5,q5,t5 _ _ ((m1 n12).trans m3) ?_⟩;refine bR [7] r4567 rfl (fun i hi=>?_);simp only[List.mem_cons,List.not_mem_nil,or_false]at hi;subst hi;exact⟨o8,g8,q8,t8 _ ((m1 n3).trans ((m1 n5).trans ((m1 n2).trans ((m1 n4).trans sa)))) ((m2 n14).trans m3) m3 rfl rfl (keep [(d5,_),(d7,_),(d4,_),(d6,_)] (by simp))⟩
  ·refine⟨o7,g7,q7,t7 _ _ v m3 ?_⟩;refine bR [3] r67 rfl (fun i hi=>?_);simp only[List.mem_cons,List.not_mem_nil,or_false]at hi;subst hi;refine⟨o4,g4,q4,t4 _ _ es1 aIt hz1 ((m1 n5).trans ((m1 n4).trans sa)) ((m1 n9).trans ((m1 n8).trans sb)) rfl ?_⟩;refine bR [4] r467 rfl (fun i hi=>?_);simp only[List.mem_cons,List.not_mem_nil,or_false]at hi;subst hi;refine⟨o5,g5,q5,t5 _ _ m3 ?_⟩;refine bR [7] r4567 rfl (fun i hi=>?_);simp only[List.mem_cons,List.not_mem_nil,or_false]at hi;subst hi;exact⟨o8,g8,q8,t8 _ ((m1 n3).trans ((m1 n2).trans ((m1 n5).trans ((m1 n4).trans sa)))) ((m2 n14).trans ((m2 n12).trans m3)) m3 rfl rfl (keep [(d5,_),(d4,_),(d7,_),(d6,_)] (by simp))⟩
theorem aQ6 {ks:List KI}(d k:Nat){bt n sz:Nat}{G:Option Addr→Nat→Nat→List Value→OF}(hG:∀a n cap l,G a n cap l=OF.rv (.slice a n cap) c.B.heap.size bt sz n l){cells:List AV}{news:List Value}{l:List (Nat × AV)}{K':List KF}(hp:iN ks=true)(hk:S.hp[k]?=some (.c bt cells))(hd:look S.sl d=some (.sl k 0 (.l (n:Int)) n))(gQ:aG iD cells=some news)(aGl:cells.length=n*sz)(h63:n≤9223372036854775807)(h1n:Nat.ble 1 n=true)(hl:aB1 S k l)(hb:(S.hp.set k .e).all (Blk.fr k)=true)(hK:yX k K K')(hO:aB0 k S.ow)
  (h:∀b,Goal c K' ⟨ks,⟨(d,.xs (some ⟨b,0,none⟩) n n)::l,S.hp.set k .e,G (some ⟨b,0,none⟩) n n news::S.ow⟩,[]⟩):Goal c K ⟨ks,S,[]⟩:=by
 simp only[hG]at h;refine iA (ι:=Nat) (K':=fun _=>K') (S':=fun b=>⟨(d,.xs (some ⟨b,0,none⟩) n n)::l,S.hp.set k .e,OF.rv (.slice (some ⟨b,0,none⟩) n n) c.B.heap.size bt sz n news::S.ow⟩) (p:=fun _=>True) hp (fun X μ a w H=>?_) (fun b _=>h b);have P:=H.toP
 have hkl:k<S.hp.length:=(List.getElem?_eq_some_iff.1 hk).1
 obtain⟨m,hm⟩:=P.all k hkl;have hok:=P.heap k _ m hk hm
 match m,hok,hm with
 | .own b,hok,hm=>
 obtain⟨vs,hvs,hbk⟩:=hok;have h1n:=lbl h1n
 have aTk:news=vs:=by rw[cV gQ]at hvs;injection hvs
 have hvl:vs.length=cells.length:=aZ hvs
 have hlen:(S.hp.set k .e).length=S.hp.length:=by simp
 have dX:∀j b',(μ.upd k (.val undef)) j=some (.own b')→j≠k∧μ j=some (.own b'):=fun j b' hj=>by
  by_cases e:j=k
  ·subst e;rw[Mu.upd_same]at hj;injection hj with hj;cases hj
  ·rw[(eL e).2.2]at hj;exact⟨e,hj⟩
 refine⟨b,X,μ.upd k (.val undef),trivial,⟨⟨P.dfr,P.size,?_,?_,?_,?_,?_,P.xlt,P.xnew,P.xold,P.bel,?_,?_⟩,?_⟩⟩
 ·intro t av _ ht
  by_cases e:d=t
  ·subst e;rw[bH]at ht;injection ht with ht;subst ht
   obtain⟨v,e1,e2⟩:=P.slots d _ trivial hd;have hv:v=.slice (some ⟨b,0,none⟩) n n:=by
    obtain⟨b0,o0,h1,h2⟩:=mH e1 (by simp only[IE.den];omega);rw[oS hm]at h1;injection h1 with h1;injection h1 with h1 h1';subst h1;subst h1'
    simpa[IE.den]using h2
   exact⟨v,by rw[hv];rfl,e2⟩
  ·rw[bB e]at ht;obtain⟨a',e1,e2,e3⟩:=hl.look t av ht;obtain⟨v,e4,e5⟩:=P.slots t a' trivial e1;exact⟨v,by rw[uK _ e2,←e3 μ];exact e4,e5⟩
 ·intro j bj m hj hmj
  by_cases e:j=k
  ·subst e;rw[Mu.upd_same]at hmj;injection hmj with hmj;subst hmj
   have hse:(S.hp.set j .e)[j]?=some .e:=by simp[hkl]
   have hj:some Blk.e=some bj:=hse.symm.trans hj
   injection hj with hj;subst hj;trivial
  ·rw[(eL e).2.2]at hmj;have hfr:bj.fr k=true:=List.all_eq_true.1 hb _ (List.mem_of_getElem? hj)
   rw[List.getElem?_set_ne (fun e'=>e e'.symm)]at hj;exact Blk.ok_fr hfr (P.heap j bj m hj hmj)
 ·intro j hj;rw[hlen]at hj
  by_cases e:j=k
  ·subst e;exact⟨_,Mu.upd_same _ _ _⟩
  ·obtain⟨m,hm⟩:=P.all j hj;exact⟨m,by rw[(eL e).2.2];exact hm⟩
 ·intro j j' b' h1 h2;exact P.inj j j' b' (dX _ _ h1).2 (dX _ _ h2).2
 ·intro j b' h1;exact P.loc j b' (dX _ _ h1).2
 ·intro f hf;obtain⟨h1,h2⟩:=hK.mem f hf;exact h2.out _ _ _ _ (P.kf f h1)
 ·obtain⟨l1,l2,l3⟩:=P.loc k b hm;refine⟨fun f hf=>?_,List.Pairwise.cons (fun g hg j hj=>?_) ?_⟩
  ·rcases List.mem_cons.1 hf with e | e
   ·subst e;refine⟨⟨by rw[aZ gQ,aGl],.inr ⟨b,n,vs.toArray,rfl,l1,hbk,lRf _,by simpa[maxLen]using h63,by rw[List.size_toArray,hvl,aGl],by rw[←aTk];exact List.take_of_length_le (by rw[aZ gQ,aGl];exact lRf _)⟩⟩,fun j hj=>?_⟩;have hj:j=b:=(Option.some.inj hj).symm
    subst hj;exact⟨l1,l3,l2,fun k' hk'=>(dX _ _ hk').1 (P.inj _ _ _ (dX _ _ hk').2 hm)⟩
   ·obtain⟨h1,h2⟩:=P.own.at_ f e;obtain⟨h3,h4⟩:=(hO.mem f e).out μ w undef h1;refine⟨h3,fun j hj=>?_⟩;obtain⟨q1,q2,q3,q4⟩:=h2 j ((h4 j).1 hj);exact⟨q1,q2,q3,fun k' hk'=>q4 k' (dX _ _ hk').2⟩
  ·have hj:j=b:=(Option.some.inj hj).symm
   subst hj;intro hg';obtain⟨h1,h2⟩:=P.own.at_ g hg;exact(h2 j ((((hO.mem g hg).out μ w undef h1).2 j).1 hg')).2.2.2 k hm
  ·refine P.own.apart.imp_of_mem fun {f g} hf hg hq j hj hj'=>?_
   exact hq j ((((hO.mem f hf).out μ w undef (P.own.at_ f hf).1).2 j).1 hj) ((((hO.mem g hg).out μ w undef (P.own.at_ g hg).1).2 j).1 hj')
 ·intro j hj;rw[hlen]at hj;have e:j≠k:=by omega
  rw[(eL e).2.2];exact H.dom j hj
end
end Go.Ai
namespace Go.Ai
open Go Go.Proofs Go.Num V3
theorem aIa:aB PP 51:=zK
theorem nE:aB PP 102:=zK
theorem aMw {u v:V3}(hu:u.le (2^26))(hv:v.le (2^26)):Pure PP 102 [fL u,fL v] (.string (aA (u.dot v))):=by
 have k1:=bDc hu hv
 clear hu hv;unfold fL kO at *;generalize aA u.x=a at *;generalize aA u.y=b at *;generalize aA u.z=d at *;generalize aA v.x=a' at *;generalize aA v.y=b' at *;generalize aA v.z=d' at *;generalize aA (u.dot v)=r at *;refine aH mixed tok [iF a b d,iF a' b' d'] Tryz.func102 rfl rfl (lbl rfl) rfl fun c hc hR=>?_
 refine zN hc ?_;cbv;refine zC hc (.t [.s (.v r),.i .i64 (.l 0)]) k1 aV4 ?_;cbv;exact aF hc hR rfl rfl
def vK (a:V3):List ByteArray:=[aA a.x,aA a.y,aA a.z]
def ptL (l:List V3):List ByteArray:=l.flatMap vK
theorem aLg:∀(l:List V3),(ptL l).length=3*l.length
 | []=>rfl
 | t::l=>by
  have:=aLg l
  unfold ptL at this ⊢;rw[List.flatMap_cons,List.length_append,this];show 3+_=_
  rw[List.length_cons];omega
theorem yP:∀{l:List V3} {j i:Nat} {t:V3},l[j]?=some t→i<3→(ptL l)[j*3+i]?=(vK t)[i]?
 | [],j,i,t,h,_=>by simp at h
 | u::l,0,i,t,h,hi=>by
  simp at h;subst h;unfold ptL;rw[List.flatMap_cons,List.getElem?_append_left (by show _<3;omega)];simp
 | u::l,j+1,i,t,h,hi=>by
  have:=yP (l:=l) (j:=j) (i:=i) (t:=t) (by simpa using h) hi
  unfold ptL at this ⊢;rw[List.flatMap_cons,List.getElem?_append_right (by show 3≤_;omega),←this]
  congr 1
  show _ - 3=_
  omega
def ends (l:List Seg):List V3:=l.flatMap fun g=>[g.a,g.b]
theorem aF8:∀(l:List Seg),(ends l).length=2*l.length
 | []=>rfl
 | g::l=>by
  have:=aF8 l
  unfold ends at this ⊢;rw[List.flatMap_cons,List.length_append,this];show 2+_=_
  rw[List.length_cons];omega
theorem aMj {l:List Seg}{i:Nat}{g:Seg}(h:l[i]?=some g):ends (l.take (i+1))=ends (l.take i)++[g.a,g.b]:=by
 obtain⟨h1,h2⟩:=List.getElem?_eq_some_iff.1 h;unfold ends;rw[List.take_succ_eq_append_getElem h1,List.flatMap_append,h2];simp
theorem aTv (l m:List V3):ptL (l++m)=ptL l++ptL m:=by unfold ptL;simp
def aS2 (es:fM)(g:Seg):fM:=iG (vK g.b) (-1) (iG (vK g.a) 1 es)
def tB (l:List Seg):fM:=l.foldl aS2 []
def aRf (l:List Seg):Bool:=(tB l).all fun x=>decide (x.2=0)
def tX (n m:Nat)(es:fM):Prop:=iC n es∧∀x,x∈es→-(m:Int)≤x.2∧x.2≤m
theorem tX.add {n:Nat}{k:List ByteArray}{d:Int}(hk:k.length=n)(hd:-1≤d∧d≤1){m:Nat}:∀{es:fM},tX n m es→tX n (m+1) (iG k d es):=by
 intro es h;refine⟨h.1.add hk,?_⟩;have h2:=h.2
 clear h
 induction es with
 | nil=>intro x hx;simp[iG]at hx;subst hx;simp only;omega
 | cons y l ih=>
  obtain⟨q,v⟩:=y;have hq:=h2 (q,v) (by simp)
  have hl:∀x,x∈l→-(m:Int)≤x.2∧x.2≤m:=fun x hx=>h2 x (List.mem_cons_of_mem _ hx)
  simp only at hq;unfold iG;split
  ·intro x hx
   rcases List.mem_cons.1 hx with e | e
   ·subst e;simp only;omega
   ·have:=hl x e;omega
  ·intro x hx
   rcases List.mem_cons.1 hx with e | e
   ·subst e;simp only;omega
   ·exact ih hl x e
theorem tX.get {n m:Nat}{es:fM}(h:tX n m es)(k:List ByteArray):-(m:Int)≤fK es k∧fK es k≤m:=by
 unfold fK;cases hf:eU k es 0 with
 | none=>simp only;omega
 | some x=>
  obtain⟨j,v⟩:=x;have:=(nZ hf).2.2
  exact h.2 (k,v) (List.mem_of_getElem? this)
theorem tX.s {m:Nat}{es:fM}(h:tX 3 m es)(g:Seg):tX 3 (m+2) (aS2 es g):=
 tX.add (n:=3) (k:=vK g.b) (d:=-1) rfl (by omega) (tX.add (n:=3) (k:=vK g.a) (d:=1) rfl (by omega) h)
theorem xJ {l:List Seg}{i:Nat}{t:Seg}(h:l[i]?=some t):tB (l.take (i+1))=aS2 (tB (l.take i)) t:=by
 unfold tB;exact kE aS2 [] h
theorem tC (l:List Seg):∀i,i≤l.length→tX 3 (2*i) (tB (l.take i))
 | 0,_=>⟨(fun x hx=>by cases hx),fun x hx=>by cases hx⟩
 | i+1,h=>by
  have h1:l[i]?=some l[i]:=by simp
  rw[xJ h1];exact(tC l i (by omega)).s _
theorem aSv (a0 a1 a2:ByteArray)(b:Bool)(w:World):(Instr.checkKey b 10000 36 (.agg #[.string a0,.string a1,.string a2])).run PP w=.ok () w:=by kernel_rfl
theorem wT:KeyTy PP 160 36 3 3:=by
 refine⟨by kernel_rfl,by kernel_rfl,by kernel_rfl,?_,fun w=>by kernel_rfl⟩;intro a b w ha
 match a,ha with
 | [a0,a1,a2],_=>exact aSv a0 a1 a2 b w
structure Wp where
 a:Rat
 x:Rat
 y:Rat
 xx:Rat
 yy:Rat
 xy:Rat
def wpV (s:Wp):Value:=.agg #[.string (aA s.a),.string (aA s.x),.string (aA s.y),.string (aA s.xx),.string (aA s.yy),.string (aA s.xy)]
def Wp.none:Wp:=⟨0,0,0,0,0,0⟩
def Wp.tri (s:Wp)(ax ay bx yb:Rat):Wp:=
 let c:=ax*yb - bx*ay
 ⟨s.a+c*(1/2),s.x+c*(ax+bx)*(1/6),s.y+c*(ay+yb)*(1/6),s.xx+c*(ax*ax+ax*bx+bx*bx)*(1/12),s.yy+c*(ay*ay+ay*yb+yb*yb)*(1/12),s.xy+c*(2*ax*ay+ax*yb+bx*ay+2*bx*yb)*(1/24)⟩
def Wp.seg (u v:V3)(s:Wp)(g:Seg):Wp:=s.tri (u.dot g.a) (v.dot g.a) (u.dot g.b) (v.dot g.b)
def wpS (u v:V3)(l:List Seg):Wp:=l.foldl (Wp.seg u v) Wp.none
def Wp.le (s:Wp)(k:Nat):Prop:=sz s.a≤k∧sz s.x≤k∧sz s.y≤k∧sz s.xx≤k∧sz s.yy≤k∧sz s.xy≤k
theorem aVh:aA (1/12)=⟨#[49,47,49,50]⟩:=(tQ (s:=⟨#[49,47,49,50]⟩) (by decide+kernel)).symm
theorem aNp:sz (1/12)≤4:=lTr (iW _) (by rw[aVh];decide)
theorem Wp.le_tri {s:Wp}{ax ay bx yb:Rat}{k e:Nat}(hs:s.le k)(h1:sz ax≤e)(h2:sz ay≤e)(h3:sz bx≤e)(h4:sz yb≤e):(s.tri ax ay bx yb).le (k+(12*e+12)):=by
 have hc:=sz_ss (sz_mm h1 h4) (sz_mm h3 h2)
 obtain⟨a1,a2,a3,a4,a5,a6⟩:=hs;refine⟨?_,?_,?_,?_,?_,?_⟩
 ·exact lTr (sz_aa a1 (sz_mm hc szh)) (by omega)
 ·exact lTr (sz_aa a2 (sz_mm (sz_mm hc (sz_aa h1 h3)) sz6)) (by omega)
 ·exact lTr (sz_aa a3 (sz_mm (sz_mm hc (sz_aa h2 h4)) sz6)) (by omega)
 ·exact lTr (sz_aa a4 (sz_mm (sz_mm hc (sz_aa (sz_aa (sz_mm h1 h1) (sz_mm h1 h3)) (sz_mm h3 h3))) aNp)) (by omega)
 ·exact lTr (sz_aa a5 (sz_mm (sz_mm hc (sz_aa (sz_aa (sz_mm h2 h2) (sz_mm h2 h4)) (sz_mm h4 h4))) aNp)) (by omega)
 ·exact lTr (sz_aa a6 (sz_mm (sz_mm hc (sz_aa (sz_aa (sz_aa (sz_mm (sz_mm sz2 h1) h2) (sz_mm h1 h4)) (sz_mm h3 h2)) (sz_mm (sz_mm sz2 h3) h4))) aRm)) (by omega)
end Go.Ai
