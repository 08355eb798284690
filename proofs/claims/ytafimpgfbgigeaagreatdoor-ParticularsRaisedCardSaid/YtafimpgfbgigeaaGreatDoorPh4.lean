/- Part 5: lemmas for the particulars laws -/
import Derived.Test.YtafimpgfbgigeaaGreatDoorProg
import Derived.Laws.AppendOwn
import Derived.Laws.MakeOwn
import Derived.Laws.OwnMore
import Derived.Test.YtafimpgfbgigeaaGreatDoorPh3
set_option linter.all false
set_option maxRecDepth 100000
namespace Go.Ai
open Go
def nFu:Option TyI:=some ⟨1,.other,[.o .nilFunc],none⟩
def tA_:AV:=.s (.v ⟨#[]⟩)
def tB_:AV:=.i .u8 (.l 0)
def tC_:AV:=.xs none 0 0
def tD_:TT:=.nd .e nFu .e
def tE_:AV:=.b (.l false)
def tF_:TT:=.nd tD_ nFu .e
def tG_:Option TyI:=some ⟨1,.other,[.o (.pointer none)],none⟩
def tH_:AV:=.i .u64 (.l 0)
def tI_:TT:=.nd tD_ nFu (.nd .e (some ⟨11,.struct [(0,1),(1,1),(2,1),(3,1),(4,1),(5,1),(6,1),(7,1),(8,1),(9,1),(10,1)],[tH_,tH_,.i .u32 (.l 0),tB_,tB_,tB_,tB_,.o .nilFunc,.o (.pointer none),.i .i32 (.l 0),.i .i32 (.l 0)],none⟩) .e)
def tJ_:Option TyI:=some ⟨30,.struct [(0,3),(3,9),(12,18)],[tE_,tC_,tC_,tE_,tC_,tC_,tE_,tC_,tC_,tE_,tC_,tC_,tE_,tC_,tC_,tE_,tC_,tC_,tE_,tC_,tC_,tE_,tC_,tC_,tE_,tC_,tC_,tE_,tC_,tC_],none⟩
def tK_:Option TyI:=some ⟨27,.struct [(0,9),(9,9),(18,9)],[tE_,tC_,tC_,tE_,tC_,tC_,tE_,tC_,tC_,tE_,tC_,tC_,tE_,tC_,tC_,tE_,tC_,tC_,tE_,tC_,tC_,tE_,tC_,tC_,tE_,tC_,tC_],none⟩
def tL_:Option TyI:=some ⟨10,.struct [(0,1),(1,3),(4,1),(5,1),(6,1),(7,1),(8,1),(9,1)],[tA_,tA_,tA_,tA_,tA_,tA_,tA_,tA_,tA_,tA_],some [.s,.s,.s,.s,.s,.s,.s,.s,.s,.s]⟩
def tM_:TT:=.nd tD_ nFu (.nd .e (some ⟨4,.struct [(0,1),(1,1),(2,1),(3,1)],[.o (.pointer none),.o (.pointer none),.o (.pointer none),tA_],none⟩) .e)
def tN_:Option TyI:=some ⟨1,.int .i64,[.i .i64 (.l 0)],none⟩
def tO_:Option TyI:=some ⟨10,.struct [(0,1),(1,3),(4,1),(5,1),(6,1),(7,1),(8,1),(9,1)],[tA_,tA_,tA_,tA_,tA_,tA_,tA_,tA_,tA_,tA_],none⟩
def tP_:Option TyI:=some ⟨1,.int .u8,[tB_],none⟩
def tQ_:Option TyI:=some ⟨4,.struct [(0,1),(1,1),(2,1),(3,1)],[.i .i64 (.l 0),.i .i64 (.l 0),tE_,tB_],none⟩
def tR_:TT:=.nd .e (some ⟨3,.struct [(0,1),(1,1),(2,1)],[tA_,tA_,.o .nilIface],none⟩) .e
def tS_:Option TyI:=some ⟨1,.int .i32,[.i .i32 (.l 0)],none⟩
def tT_:TT:=.nd .e (some ⟨2,.struct [(0,1),(1,1)],[.o (.pointer none),tC_],none⟩) .e
def tU_:Option TyI:=some ⟨9,.struct [(0,3),(3,3),(6,3)],[tE_,tC_,tC_,tE_,tC_,tC_,tE_,tC_,tC_],none⟩
def tV_:Option TyI:=some ⟨1,.str,[tA_],none⟩
def tW_:Option TyI:=some ⟨10,.struct [(0,9),(9,1)],[tA_,tA_,tA_,tA_,tA_,tA_,tA_,tA_,tA_,tE_],none⟩
def tX_:Option TyI:=some ⟨1,.other,[.o (.map none)],none⟩
def tY_:TT:=.nd tD_ none .e
def tZ_:Option TyI:=some ⟨1,.other,[.o .nilIface],none⟩
def tAa_:TT:=.nd (.nd .e (some ⟨1,.struct [(0,1)],[tA_],none⟩) .e) nFu .e
def tBa_:Option TyI:=some ⟨1,.slice 145 1,[tC_],none⟩
def tCa_:Option TyI:=some ⟨9,.array 3 34 3,[tA_,tA_,tA_,tA_,tA_,tA_,tA_,tA_,tA_],none⟩
def tDa_:Option TyI:=some ⟨1,.int .u64,[tH_],none⟩
def tEa_:Option TyI:=some ⟨2,.struct [(0,1),(1,1)],[tA_,tA_],some [.s,.s]⟩
def tFa_:Option TyI:=some ⟨6,.array 2 34 3,[tA_,tA_,tA_,tA_,tA_,tA_],none⟩
def tGa_:TT:=.nd .e (some ⟨0,.struct [(0,0)],[],none⟩) .e
def tHa_:Option TyI:=some ⟨1,.struct [(0,1)],[.o (.pointer none)],none⟩
def tIa_:Option TyI:=some ⟨3,.struct [(0,2),(2,1)],[tE_,tC_,tC_],none⟩
def tJa_:TT:=.nd tF_ nFu tF_
def tKa_:Option TyI:=some ⟨2,.struct [(0,1),(1,1)],[tE_,tC_],none⟩
def tLa_:Option TyI:=some ⟨2,.struct [(0,1),(1,1)],[tA_,tA_],none⟩
def tMa_:Option TyI:=some ⟨2,.struct [(0,1),(1,1)],[tA_,tH_],none⟩
def tNa_:TT:=.nd .e tG_ .e
def tt:TT:=(.nd (.nd (.nd (.nd (.nd (.nd (.nd (.nd .e nFu tD_) tKa_ tF_) nFu (.nd tD_ nFu (.nd tD_ tEa_ .e))) tG_ (.nd (.nd (.nd (.nd .e (some ⟨1,.slice 246 10,[tC_],none⟩) .e) nFu .e) nFu (.nd tNa_ nFu .e)) nFu (.nd tF_ tJ_ tF_))) tQ_ (.nd (.nd (.nd (.nd tD_ nFu (.nd .e tP_ .e)) nFu tF_) nFu (.nd (.nd (.nd .e (some ⟨4,.array 2 294 2,[.o .nilFunc,.o .nilFunc,.o .nilFunc,.o .nilFunc],none⟩) .e) (some ⟨9,.array 3 65 3,[tE_,tC_,tC_,tE_,tC_,tC_,tE_,tC_,tC_],none⟩) .e) none (.nd tD_ (some ⟨1,.slice 234 1,[tC_],none⟩) .e))) (some ⟨1,.slice 36 9,[tC_],none⟩) (.nd (.nd tY_ nFu tF_) nFu (.nd tD_ nFu tY_)))) tN_ (.nd (.nd (.nd (.nd tM_ nFu tD_) tCa_ (.nd tF_ (some ⟨1,.slice 24 1,[tC_],none⟩) (.nd tD_ tX_ .e))) tHa_ (.nd (.nd tF_ none tF_) nFu (.nd tF_ nFu (.nd (.nd .e (some ⟨20,.array 20 203 1,[tH_,tH_,tH_,tH_,tH_,tH_,tH_,tH_,tH_,tH_,tH_,tH_,tH_,tH_,tH_,tH_,tH_,tH_,tH_,tH_],none⟩) .e) nFu .e)))) tV_ (.nd (.nd (.nd (.nd .e none (.nd .e tS_ .e)) nFu (.nd .e tDa_ .e)) nFu (.nd (.nd tD_ (some ⟨1,.slice 69 9,[tC_],none⟩) .e) (some ⟨1,.slice 153 27,[tC_],none⟩) (.nd tNa_ nFu .e))) nFu (.nd (.nd tF_ nFu (.nd tD_ (some ⟨6,.struct [(0,3),(3,3)],[tA_,tA_,tA_,tA_,tA_,tA_],none⟩) .e)) nFu (.nd tF_ none (.nd tNa_ none .e)))))) nFu (.nd (.nd (.nd (.nd (.nd (.nd tD_ none (.nd .e (some ⟨64,.array 64 5 1,[tB_,tB_,tB_,tB_,tB_,tB_,tB_,tB_,tB_,tB_,tB_,tB_,tB_,tB_,tB_,tB_,tB_,tB_,tB_,tB_,tB_,tB_,tB_,tB_,tB_,tB_,tB_,tB_,tB_,tB_,tB_,tB_,tB_,tB_,tB_,tB_,tB_,tB_,tB_,tB_,tB_,tB_,tB_,tB_,tB_,tB_,tB_,tB_,tB_,tB_,tB_,tB_,tB_,tB_,tB_,tB_,tB_,tB_,tB_,tB_,tB_,tB_,tB_,tB_],none⟩) .e)) tIa_ tF_) (some ⟨3,.struct [(0,1),(1,1),(2,1)],[tA_,tA_,tA_],none⟩) tJa_) tG_ (.nd (.nd (.nd tD_ (some ⟨1,.int .u32,[.i .u32 (.l 0)],none⟩) .e) nFu (.nd tT_ nFu .e)) none (.nd tD_ nFu (.nd tR_ nFu .e)))) tV_ (.nd (.nd (.nd (.nd tD_ nFu tD_) nFu tF_) (some ⟨6,.struct [(0,1),(1,1),(2,1),(3,1),(4,1),(5,1)],[tA_,tA_,tA_,tA_,tA_,tA_],some [.s,.s,.s,.s,.s,.s]⟩) (.nd tD_ tK_ (.nd tD_ tG_ .e))) tLa_ (.nd (.nd (.nd tD_ (some ⟨27,.array 3 69 9,[tE_,tC_,tC_,tE_,tC_,tC_,tE_,tC_,tC_,tE_,tC_,tC_,tE_,tC_,tC_,tE_,tC_,tC_,tE_,tC_,tC_,tE_,tC_,tC_,tE_,tC_,tC_],none⟩) .e) none tF_) (some ⟨9,.struct [(0,3),(3,3),(6,3)],[tA_,tA_,tA_,tA_,tA_,tA_,tA_,tA_,tA_],some [.s,.s,.s,.s,.s,.s,.s,.s,.s]⟩) (.nd tY_ (some ⟨4,.struct [(0,3),(3,1)],[tA_,tA_,tA_,tA_],none⟩) tD_)))) tP_ (.nd (.nd (.nd (.nd (.nd tD_ nFu tGa_) tU_ tF_) nFu (.nd tF_ tO_ tD_)) tS_ (.nd (.nd (.nd (.nd .e (some ⟨2,.struct [(0,1),(1,1)],[tE_,tA_],some [.b,.s]⟩) .e) nFu .e) (some ⟨2,.array 2 24 1,[tA_,tA_],none⟩) tF_) (some ⟨5,.struct [(0,2),(2,3)],[tA_,tA_,tA_,tA_,tA_],none⟩) (.nd (.nd (.nd .e tZ_ .e) tX_ .e) nFu (.nd tD_ tW_ .e)))) tMa_ (.nd (.nd (.nd tI_ nFu tD_) tL_ (.nd tD_ nFu tF_)) tN_ (.nd (.nd (.nd (.nd .e (some ⟨3,.array 3 4 1,[tE_,tE_,tE_],none⟩) .e) nFu .e) nFu (.nd (.nd .e tN_ .e) nFu .e)) tBa_ (.nd (.nd tD_ (some ⟨3,.struct [(0,3)],[tA_,tA_,tA_],some [.s,.s,.s]⟩) .e) tFa_ tAa_)))))) none (.nd (.nd (.nd (.nd (.nd (.nd (.nd tD_ nFu (.nd .e (some ⟨32,.array 32 5 1,[tB_,tB_,tB_,tB_,tB_,tB_,tB_,tB_,tB_,tB_,tB_,tB_,tB_,tB_,tB_,tB_,tB_,tB_,tB_,tB_,tB_,tB_,tB_,tB_,tB_,tB_,tB_,tB_,tB_,tB_,tB_,tB_],none⟩) .e)) tIa_ tD_) nFu (.nd tF_ nFu tY_)) tG_ (.nd (.nd tF_ nFu (.nd tT_ none .e)) nFu (.nd (.nd (.nd .e tBa_ .e) nFu .e) tJ_ (.nd tR_ (some ⟨2,.array 2 23 1,[tC_,tC_],none⟩) .e)))) tQ_ (.nd (.nd (.nd (.nd tD_ nFu (.nd .e tP_ .e)) nFu .e) (some ⟨6,.struct [(0,1),(1,1),(2,1),(3,1),(4,1),(5,1)],[tA_,tA_,tA_,tA_,tA_,tA_],none⟩) (.nd tF_ nFu tD_)) tV_ (.nd (.nd tF_ nFu (.nd tD_ (some ⟨1,.slice 4 1,[tC_],none⟩) .e)) (some ⟨9,.struct [(0,3),(3,3),(6,3)],[tA_,tA_,tA_,tA_,tA_,tA_,tA_,tA_,tA_],none⟩) tJa_))) (some ⟨1,.bool,[tE_],none⟩) (.nd (.nd (.nd (.nd (.nd tD_ nFu (.nd .e (some ⟨0,.array 0 16 1,[],none⟩) .e)) tU_ tY_) tCa_ tJa_) tZ_ (.nd (.nd (.nd (.nd .e (some ⟨2,.struct [(0,1),(1,1)],[tE_,tA_],none⟩) .e) nFu .e) nFu tF_) nFu (.nd (.nd tD_ (some ⟨1,.slice 34 3,[tC_],none⟩) .e) nFu (.nd (.nd .e (some ⟨65,.array 65 5 1,[tB_,tB_,tB_,tB_,tB_,tB_,tB_,tB_,tB_,tB_,tB_,tB_,tB_,tB_,tB_,tB_,tB_,tB_,tB_,tB_,tB_,tB_,tB_,tB_,tB_,tB_,tB_,tB_,tB_,tB_,tB_,tB_,tB_,tB_,tB_,tB_,tB_,tB_,tB_,tB_,tB_,tB_,tB_,tB_,tB_,tB_,tB_,tB_,tB_,tB_,tB_,tB_,tB_,tB_,tB_,tB_,tB_,tB_,tB_,tB_,tB_,tB_,tB_,tB_,tB_],none⟩) .e) nFu .e)))) tDa_ (.nd (.nd (.nd tI_ nFu tF_) tO_ (.nd tF_ none tF_)) nFu (.nd (.nd tF_ nFu (.nd tD_ (some ⟨6,.struct [(0,3),(3,3)],[tA_,tA_,tA_,tA_,tA_,tA_],some [.s,.s,.s,.s,.s,.s]⟩) .e)) tBa_ (.nd (.nd tD_ (some ⟨3,.struct [(0,3)],[tA_,tA_,tA_],none⟩) .e) nFu tAa_))))) tN_ (.nd (.nd (.nd (.nd (.nd tM_ none tF_) (some ⟨3,.struct [(0,1),(1,1),(2,1)],[tA_,tA_,tA_],some [.s,.s,.s]⟩) (.nd tD_ nFu (.nd (.nd .e (some ⟨24,.array 24 5 1,[tB_,tB_,tB_,tB_,tB_,tB_,tB_,tB_,tB_,tB_,tB_,tB_,tB_,tB_,tB_,tB_,tB_,tB_,tB_,tB_,tB_,tB_,tB_,tB_],none⟩) .e) nFu .e))) tHa_ (.nd (.nd tF_ nFu (.nd tD_ (some ⟨1,.slice 5 1,[tC_],none⟩) .e)) nFu tJa_)) tV_ (.nd (.nd (.nd (.nd tD_ nFu (.nd .e tS_ .e)) nFu tF_) none (.nd tF_ tK_ (.nd tD_ tG_ .e))) tEa_ (.nd (.nd tF_ nFu (.nd tD_ tX_ .e)) none (.nd tD_ (some ⟨4,.struct [(0,3),(3,1)],[tA_,tA_,tA_,tA_],some [.s,.s,.s,.s]⟩) tF_)))) tP_ (.nd (.nd (.nd (.nd (.nd tD_ none tGa_) none tF_) none (.nd (.nd (.nd .e (some ⟨2,.array 2 293 1,[.o .nilFunc,.o .nilFunc],none⟩) .e) nFu .e) tL_ tF_)) (some ⟨1,.slice 36 9,[tC_],none⟩) (.nd (.nd tD_ none tD_) (some ⟨5,.struct [(0,2),(2,3)],[tA_,tA_,tA_,tA_,tA_],some [.s,.s,.s,.s,.s]⟩) (.nd (.nd (.nd .e tZ_ .e) tFa_ .e) nFu (.nd .e tW_ .e)))) tMa_ (.nd (.nd (.nd tF_ (some ⟨3,.array 3 24 1,[tA_,tA_,tA_],none⟩) tY_) nFu (.nd tF_ (some ⟨18,.array 6 65 3,[tE_,tC_,tC_,tE_,tC_,tC_,tE_,tC_,tC_,tE_,tC_,tC_,tE_,tC_,tC_,tE_,tC_,tC_],none⟩) tF_)) none (.nd (.nd tF_ nFu (.nd tNa_ tLa_ .e)) tKa_ (.nd (.nd (.nd .e tDa_ .e) nFu .e) (some ⟨1,.slice 182 6,[tC_],none⟩) tF_)))))))
def ty:Nat->Option TyI:=tyF tt
theorem tok:∀t i,ty t=some i->TyOk Go.Proofs.Tryz.prog t i:=aL4 zG
theorem mixed:Go.Proofs.Tryz.prog.follows .mixedOrders=true:=zG
theorem cal (g:Nat)(h:aWs Go.Proofs.Tryz.prog g=true):aB Go.Proofs.Tryz.prog g:=aI9 h
theorem zK {g:Nat}(h:aWs Go.Proofs.Tryz.prog g=true:=by kernel_rfl):aB Go.Proofs.Tryz.prog g:=aI9 h
end Go.Ai
namespace Go.Ai
open Go Go.RowKit
def KF.cst (v:Value)(R:VF):KF:=⟨λX _ w=>R.p v X w,λX X' _ _ w w' hs _ hw h=>R.st v X X' w w' hs hw h⟩
def KF.at (k:Nat)(R:VF):KF:=
 ⟨λX μ w=>∃v,μ k=some (.val v)/\R.p v X w,λX X' _ _ w w' hs hv hw h=>by
  obtain⟨v,h1,h2⟩:=h;exact⟨v,hv.fx _ _ rfl h1,R.st v X X' w w' hs hw h2⟩⟩
def KF.ext (k:Nat)(a:Option (Nat × Nat)):KF:=⟨λ_ μ _=>μ k=some (.ext a),λ_ _ _ _ _ _ _ hv _ h=>hv.fx _ _ rfl h⟩
def Fn (P:Program)(g:Nat)(args:List Value)(X:Nat->Prop)(w:World)(R:VF):Prop:=
 Glob P w->Calls P g args.toArray w λe w'=>∃v X',e=.returned v/\Below w.heap.size w w'/\(∀b,X b->X' b)/\(∀b,X' b->X b\/(w.heap.size<=b/\b<w'.heap.size))/\R.p v X' w'
theorem Fn.mono {P:Program}{g:Nat}{args:List Value}{X:Nat->Prop}{w:World}{R R':VF}(h:Fn P g args X w R)(hi:∀v X w,R.p v X w->R'.p v X w):Fn P g args X w R':=by
 intro hgl;refine Calls.mono (h hgl) ?_;rintro e w' ⟨v,X',h1,h2,h3,h4,h5⟩;exact⟨v,X',h1,h2,h3,h4,hi _ _ _ h5⟩
theorem aOi {c:Cx}{K:List KF}{n0:Nat}{D:Nat->Prop}{S:St}{o:Oper}{g:Nat}{avs:List AV}{R:VF}(h:iS S.sl o.op=some (g,avs))(hD:∀t,Operand.tmp t∈o.op.operands->D t)(hg:aB c.P g)
  (hp:∀X μ a w aK,PSim c K n0 D S X μ a w->aF μ avs=some aK->Fn c.P g aK X w R):Cert c K n0 D S o (.e S.hp.length) (some .e) [KF.at S.hp.length R] S.ow:=by
 intro X μ a w next Q H hfr hn
 obtain⟨aK,h1,h2⟩:=sZ H h hD hg;refine qY h2 (Calls.mono (hp X μ a w aK H h1 H.glob) ?_);rintro e w' ⟨v,X',rfl,hb,hs,hx,hr⟩;refine⟨v,rfl,?_⟩;refine hn X' (μ.upd S.hp.length (.val v)) v w' ⟨hb.mono H.bel.size,λb hb' _=>hb.block b hb',by simp[aD,Mu.upd_same],⟨.val v,rfl,trivial,λb e=>by cases e⟩,hs,λb hb'=>(hx b hb').imp id .inl,
  H.own.keep (Mu.le_upd (hfr rfl)) hb.size hb.block (λb hb'=>(hx b hb').imp id (·.1)) (λk b hk=>?_)⟩ (λf hf'=>?_)
 ·unfold Mu.upd at hk;split at hk
  ·injection hk with hk;cases hk
  ·exact .inl hk
 ·simp only[List.mem_singleton]at hf';subst hf';exact⟨v,Mu.upd_same _ _ _,hr⟩
section
variable {c:Cx}{P:Program}{ty:Nat->Option TyI}{nt:Nat}{K:List KF}
theorem eB (hc:Ctx c P ty nt){g:Nat}{avs:List AV}{all:Array Oper}{i:Nat}{k:List KI}{S:St}{R:VF}(hg:aB P g)
  (hp:∀n0 D X μ a w aK,PSim c K n0 D S X μ a w->aF μ avs=some aK->Fn P g aK X w R) (n:Nat)
  (h:Goal c (KF.at S.hp.length R::K) (run ty nt (KF.at S.hp.length R::K) n (.ops all (i+1)::k) (S.putO (eX all i) (.e S.hp.length) (some .e) S.ow) [])):Goal c K ⟨.cal g avs all i::k,S,[]⟩:=
 .mk0 (aAk (Kn:=[KF.at S.hp.length R]) (λo n0 D ho hD _=>aOi ho hD (hc.hP▸hg) (λX μ a w aK H hv=>hc.hP▸hp n0 D X μ a w aK H hv)) (dX hc n h))
theorem mP (hc:Ctx c P ty nt){g:Nat}{avs:List AV}{all:Array Oper}{i n0:Nat}{K0:List KF}{k:List KI}{S:St}{R:VF}(hg:aB P g)
  (hp:∀D X μ a w aK,PSim c K n0 D S X μ a w->aF μ avs=some aK->Fn P g aK X w R) (n:Nat)
  (h:Goal c (KF.at S.hp.length R::K) (run ty nt (KF.at S.hp.length R::K) n (.dops all (i+1) n0 K0::k) (S.putO (eX all i) (.e S.hp.length) (some .e) S.ow) [])):Goal c K ⟨.dcal g avs all i n0 K0::k,S,[]⟩:=
 .mk0 (uO (Kn:=[KF.at S.hp.length R]) (λo D ho hD=>aOi ho hD (hc.hP▸hg) (λX μ a w aK H hv=>hc.hP▸hp D X μ a w aK H hv)) (dX hc n h))
def aIl (c:Cx)(fn:Func)(R:VF):Prop:=
 aB9 c fn λv w'=>∃X',Below c.B.heap.size c.B w'/\(∀b,c.X0 b->X' b)/\(∀b,X' b->c.X0 b\/(c.B.heap.size<=b/\b<w'.heap.size))/\R.p v X' w'
theorem bJ (hm:P.follows .mixedOrders=true)(tok:∀t i,ty t=some i->TyOk P t i){g:Nat}{fn:Func}{code:Code}{args:List Value}(avs:List AV){X:Nat->Prop}{w:World}{R:VF}
  (hf:P.funcs[g]?=some fn) (hb:fn.body=some code) (ha:aF hJ avs=some args) (hn:args.length<=fn.ntmps) (hnt:fn.ntmps=nt) (hx:∀b,X b->b<w.heap.size) (hk:∀f,f∈K->f.p X hJ w)
  (h:∀(c:Cx),Ctx c P ty nt->aIl c fn R->Goal c K ⟨[.code code],⟨oY 0 avs,[],[]⟩,[]⟩):Fn P g args X w R:=by
 intro hgl;refine Calls.mono (enter tok hf hb hn ha hgl (K:=K) (X0:=X) (R:=λv w'=>∃X',Below w.heap.size w w'/\(∀b,X b->X' b)/\(∀b,X' b->X b\/(w.heap.size<=b/\b<w'.heap.size))/\R.p v X' w') hx hk λc h1 h2 h3 h4 h5 h6=>?_) ?_
 ·subst h4;subst h5;exact(h c ⟨h1,h2,h3.trans hnt,hm⟩ h6).so
 ·rintro e w' ⟨v,rfl,X',h1,h2,h3,h4⟩;exact⟨v,X',rfl,h1,h2,h3,h4⟩
theorem bB (hc:Ctx c P ty nt){S:St}{fn:Func}{R:VF}(hR:aIl c fn R){av:AV}(h:nC ty S fn.results.toList=some av)
  (hr:∀X μ a w v,Sim c K S X μ a w->aD μ av=some v->R.p v X w):Goal c K ⟨[],S,[]⟩:=by
 refine .mk0 (aU1 av hR (by rw[hc.hty];exact h) λX μ a w v H hv=>⟨X,H.toP.bel,H.toP.xold,λb hb=>?_,hr X μ a w v H hv⟩);exact(H.toP.xnew b hb).imp id (λh=>⟨h,H.toP.xlt b hb⟩)
def jT (ks:List KI):Bool:=match ks with | .cal ..::_=>false | .dcal ..::_=>false | .dops ..::_=>false | _=>true
theorem oR {ks:List KI}{S S':St}{K':List KF}(hp:jT ks=true)(hv:∀X μ a w,Sim c K S X μ a w->∃X' μ',Sim c K' S' X' μ' a w)(h:Goal c K' ⟨ks,S',[]⟩):Goal c K ⟨ks,S,[]⟩:=by
 have h':=h.so
 refine .mk0 ?_;match ks,hp,h' with
 | [],_,h'=>exact λX μ a w H=>by obtain⟨X',μ',H'⟩:=hv X μ a w H;exact h' X' μ' a w H'
 | .code _::_,_,h'=>exact λX μ a w H=>by obtain⟨X',μ',H'⟩:=hv X μ a w H;exact h' X' μ' a w H'
 | .ops _ _::_,_,h'=>exact λX μ a w H=>by obtain⟨X',μ',H'⟩:=hv X μ a w H;exact h' X' μ' a w H'
 | .blk _::_,_,h'=>exact λX μ a w H=>by obtain⟨X',μ',H'⟩:=hv X μ a w H;exact h' X' μ' a w H'
 | .hole _::_,_,h'=>exact λX μ a w H=>by obtain⟨X',μ',H'⟩:=hv X μ a w H;exact h' X' μ' a w H'
 | .ord _ _::_,_,h'=>exact λX μ a w H=>by obtain⟨X',μ',H'⟩:=hv X μ a w H;exact h' X' μ' a w H'
def okc (ks:List KI):Bool:=match ks with | .dcal ..::_=>false | .dops ..::_=>false | _=>true
theorem pN {ks:List KI}{S S':St}{K':List KF}(hp:okc ks=true)(hv:∀X μ a w,Sim c K S X μ a w->∃X' μ',Sim c K' S' X' μ' a w)(h:Goal c K' ⟨ks,S',[]⟩)(hsl:S'.sl=S.sl):Goal c K ⟨ks,S,[]⟩:=by
 match ks,hp,h with
 | [],_,h=>exact oR rfl hv h
 | .code _::_,_,h=>exact oR rfl hv h
 | .ops _ _::_,_,h=>exact oR rfl hv h
 | .blk _::_,_,h=>exact oR rfl hv h
 | .hole _::_,_,h=>exact oR rfl hv h
 | .ord _ _::_,_,h=>exact oR rfl hv h
 | .cal g avs all i::k,_,h=>
  have h':=h.so
  refine .mk0 (λaTn X μ a w H=>?_);obtain⟨X',μ',H'⟩:=hv X μ a w H;obtain⟨o,h1,h2,h3,h4⟩:=aTn.out;exact h' ⟨o,h1,by rw[hsl];exact h2,h3,by rw[hsl];exact h4⟩ X' μ' a w H'
theorem jD {ι:Type}{ks:List KI}{S:St}{K':ι->List KF}{S':ι->St}{p:ι->Prop}(hp:jT ks=true)(hv:∀X μ a w,Sim c K S X μ a w->∃x X' μ',p x/\Sim c (K' x) (S' x) X' μ' a w)(h:∀x,p x->Goal c (K' x) ⟨ks,S' x,[]⟩):Goal c K ⟨ks,S,[]⟩:=by
 have h':=λx hx=>(h x hx).so
 refine .mk0 ?_;match ks,hp,h' with
 | [],_,h'=>exact λX μ a w H=>by obtain⟨x,X',μ',hx,H'⟩:=hv X μ a w H;exact h' x hx X' μ' a w H'
 | .code _::_,_,h'=>exact λX μ a w H=>by obtain⟨x,X',μ',hx,H'⟩:=hv X μ a w H;exact h' x hx X' μ' a w H'
 | .ops _ _::_,_,h'=>exact λX μ a w H=>by obtain⟨x,X',μ',hx,H'⟩:=hv X μ a w H;exact h' x hx X' μ' a w H'
 | .blk _::_,_,h'=>exact λX μ a w H=>by obtain⟨x,X',μ',hx,H'⟩:=hv X μ a w H;exact h' x hx X' μ' a w H'
 | .hole _::_,_,h'=>exact λX μ a w H=>by obtain⟨x,X',μ',hx,H'⟩:=hv X μ a w H;exact h' x hx X' μ' a w H'
 | .ord _ _::_,_,h'=>exact λX μ a w H=>by obtain⟨x,X',μ',hx,H'⟩:=hv X μ a w H;exact h' x hx X' μ' a w H'
variable {S:St}{X:Nat->Prop}{μ:Mu}{a:Act}{w:World}
theorem sB (H:Sim c K S X μ a w){blk:Blk}{m:MV}(hm:∀b,m≠.own b)(hok:blk.ok X (μ.upd S.hp.length m) w m):Sim c K {S with hp:=S.hp++[blk]} X (μ.upd S.hp.length m) a w:=by
 have hle:Mu.le μ (μ.upd S.hp.length m):=Mu.le_upd (H.dom _ (lRf _))
 have:=mQ (Kn:=[]) H (d:=none) rfl (av:=.q undef) (nb:=some blk) (ow:=S.ow) (v:=undef) (X':=X) (w':=w) ⟨Below.refl _ _,λ_ _ _=>rfl,by simp[aD],⟨m,rfl,hok,λb e=>(hm b e).elim⟩,λ_ h=>h,λ_ h=>.inl h,
  H.toP.own.keep hle (lRf _) (λ_ _=>rfl) (λb h=>.inl h) (λk b hk=>by
   unfold Mu.upd at hk;split at hk
   ·injection hk with hk;exact(hm b hk).elim
   ·exact .inl hk)⟩ (λf hf=>by cases hf)
 simpa[St.putO,Act.put]using this
theorem jW (H:Sim c K S X μ a w){d:Nat}{av av':AV}(hl:look S.sl d=some av)(he:aD μ av'=aD μ av):Sim c K {S with sl:=(d,av')::S.sl} X μ a w:=by
 have P:=H.toP
 refine⟨⟨P.dfr,P.size,?_,P.heap,P.all,P.inj,P.loc,P.xlt,P.xnew,P.xold,P.bel,P.kf,P.own⟩,H.dom⟩;intro t b _ hb;by_cases e:d=t
 ·subst e;rw[bK]at hb;injection hb with hb;subst hb
  obtain⟨v,h1,h2⟩:=P.slots d av trivial hl;exact⟨v,by rw[he];exact h1,h2⟩
 ·rw[bE e]at hb;exact P.slots t b trivial hb
theorem tU (H:Sim c K S X μ a w){f:KF}(hf:f.p X μ w):Sim c (f::K) S X μ a w:=by
 have P:=H.toP
 refine⟨⟨P.dfr,P.size,P.slots,P.heap,P.all,P.inj,P.loc,P.xlt,P.xnew,P.xold,P.bel,?_,P.own⟩,H.dom⟩;intro g hg;rcases List.mem_cons.1 hg with e | e
 ·subst e;exact hf
 ·exact P.kf g e
def mY (kd:IntKind)(l:List Int):VF where
 p v X w:=∃(a:Option (Nat × Nat)) (cap:Nat),v=.slice (a.map λx=>⟨x.1,x.2,none⟩) l.length cap/\l.length<=cap/\match a with
  | none=>l=[]/\cap=0
  | some (b,o)=>X b/\∃cs,∃ty:Nat × Nat × Nat,w.heap[b]?=some (.cells cs ty.1 ty.2)/\∀i x,l[i]?=some x->cs[o+i]?=some (.int kd x)
 st v X X' w w' hs hw h:=by
  obtain⟨a,cap,h1,h2,h3⟩:=h;refine⟨a,cap,h1,h2,?_⟩;match a,h3 with
  | none,h3=>exact h3
  | some (b,o),⟨h3,cs,ty,h4,h5⟩=>exact⟨hs _ h3,cs,ty,by rw[hw _ h3];exact h4,h5⟩
theorem iU {k off:Nat}{len:IE}{cap:Nat}{a:Option (Nat × Nat)}(h:atS μ k=some a)(h0:0<=len.den)(h1:a=none->len.den=0/\cap=0):aD μ (.sl k off len cap)=some (.slice (a.map λx=>⟨x.1,x.2+off,none⟩) len.den.toNat cap):=by
 simp only[aD,h];rw[if_pos ⟨h0,h1⟩]
structure RowX where
 f:Nat->Int
 n:Nat
 cap:Nat
theorem dE {ks:List KI}(d:Nat){av:AV}(kd:IntKind)(l:List Int)(hp:jT ks=true)(hl:look S.sl d=some av)(hr:∀X μ a w v,Sim c K S X μ a w->aD μ av=some v->(mY kd l).p v X w)
  (h:∀f N cap,N=l.length->(∀i x,l[i]?=some x->f i=x)->N<=cap->Goal c K ⟨ks,{S with sl:=(d,.sl S.hp.length 0 (.n N) cap)::S.sl,hp:=S.hp++[.xi kd N f]},[]⟩):Goal c K ⟨ks,S,[]⟩:=by
 refine jD (ι:=RowX) (K':=λ_=>K) (S':=λx=>{S with sl:=(d,.sl S.hp.length 0 (.n x.n) x.cap)::S.sl,hp:=S.hp++[.xi kd x.n x.f]}) (p:=λx=>x.n=l.length/\(∀i y,l[i]?=some y->x.f i=y)/\x.n<=x.cap) hp ?_ (λx hx=>h x.f x.n x.cap hx.1 hx.2.1 hx.2.2);intro X μ a w H;obtain⟨v,hv,hs⟩:=H.toP.slots d av trivial hl;obtain⟨ad,cap,e1,e2,e3⟩:=hr X μ a w v H hv;have hok:(Blk.xi kd l.length (λi=>l.getD i 0)).ok X (μ.upd S.hp.length (.ext ad)) w (.ext ad):=by
  match ad,e3 with
  | none,e3=>simp[Blk.ok,e3.1]
  | some (b,o),⟨q1,cs,ty,q2,q3⟩=>exact⟨q1,cs,ty,q2,λi hi=>by rw[q3 i l[i] (by simp[hi])];simp[hi]⟩
 refine⟨⟨λi=>l.getD i 0,l.length,cap⟩,X,μ.upd S.hp.length (.ext ad),⟨rfl,λi y hy=>by simp[List.getD_eq_getElem?_getD,hy],e2⟩,?_⟩;have H1:=sB H (blk:=.xi kd l.length (λi=>l.getD i 0)) (m:=.ext ad) (λb e=>by cases e) hok;refine jW (av:=av) H1 hl ?_;rw[iN (Mu.le_upd (H.dom _ (lRf _))) av v hv];have hz:(0:Int)<=(IE.n l.length).den:=by simp[IE.den]
 refine(iU (len:=.n l.length) (a:=ad) (by simp[atS,Mu.upd_same,MV.atS]) hz (λe=>?_)).trans ?_
 rotate_left
 ·rw[e1];simp[IE.den]
 ·subst e;simp only at e3;simp[IE.den,e3.1,e3.2]
structure RowK where
 f:Nat->Int
 n:Nat
 cap:Nat
 a:Option (Nat × Nat)
theorem aVg {ks:List KI}(d:Nat){v0:Value}(kd:IntKind)(l:List Int)(hp:jT ks=true)(hl:look S.sl d=some (.q v0))(hr:∀X μ a w,Sim c K S X μ a w->(mY kd l).p v0 X w)
  (h:∀f N cap a,N=l.length->(∀i x,l[i]?=some x->f i=x)->N<=cap->v0=.slice (a.map λx=>⟨x.1,x.2,none⟩) N cap->Goal c (KF.ext S.hp.length a::K) ⟨ks,{S with sl:=(d,.sl S.hp.length 0 (.n N) cap)::S.sl,hp:=S.hp++[.xi kd N f]},[]⟩):Goal c K ⟨ks,S,[]⟩:=by
 refine jD (ι:=RowK) (K':=λx=>KF.ext S.hp.length x.a::K) (S':=λx=>{S with sl:=(d,.sl S.hp.length 0 (.n x.n) x.cap)::S.sl,hp:=S.hp++[.xi kd x.n x.f]}) (p:=λx=>x.n=l.length/\(∀i y,l[i]?=some y->x.f i=y)/\x.n<=x.cap/\v0=.slice (x.a.map λy=>⟨y.1,y.2,none⟩) x.n x.cap) hp ?_ (λx hx=>h x.f x.n x.cap x.a hx.1 hx.2.1 hx.2.2.1 hx.2.2.2);intro X μ a w H;obtain⟨ad,cap,e1,e2,e3⟩:=hr X μ a w H;have hok:(Blk.xi kd l.length (λi=>l.getD i 0)).ok X (μ.upd S.hp.length (.ext ad)) w (.ext ad):=by
  match ad,e3 with
  | none,e3=>simp[Blk.ok,e3.1]
  | some (b,o),⟨q1,cs,ty,q2,q3⟩=>exact⟨q1,cs,ty,q2,λi hi=>by rw[q3 i l[i] (by simp[hi])];simp[hi]⟩
 refine⟨⟨λi=>l.getD i 0,l.length,cap,ad⟩,X,μ.upd S.hp.length (.ext ad),⟨rfl,λi y hy=>by simp[List.getD_eq_getElem?_getD,hy],e2,e1⟩,?_⟩;have H1:=sB H (blk:=.xi kd l.length (λi=>l.getD i 0)) (m:=.ext ad) (λb e=>by cases e) hok;refine tU (jW (av:=.q v0) H1 hl ?_) (f:=KF.ext S.hp.length ad) (Mu.upd_same _ _ _);have hz:(0:Int)<=(IE.n l.length).den:=by simp[IE.den]
 refine(iU (len:=.n l.length) (a:=ad) (by simp[atS,Mu.upd_same,MV.atS]) hz (λe=>?_)).trans ?_
 rotate_left
 ·rw[show aD (μ.upd S.hp.length (.ext ad)) (.q v0)=some v0 from rfl,e1];simp[IE.den]
 ·subst e;simp only at e3;simp[IE.den,e3.1,e3.2]
theorem PSim.row {n0:Nat}{D:Nat->Prop}(H:PSim c K n0 D S X μ a w){k off N cap:Nat}{kd:IntKind}{f:Nat->Int}{len:IE}{v:Value}(hk:S.hp[k]?=some (.xi kd N f))(hv:aD μ (.sl k off len cap)=some v){l:List Int}(hl:(l.length:Int)=len.den)
  (hf:∀i x,l[i]?=some x->f (off+i)=x) (hN:off+l.length<=N) (hc:l.length<=cap):(mY kd l).p v X w:=by
 obtain⟨ad,h1,h2,h3,h4⟩:=pH hv;refine⟨ad.map λx=>(x.1,x.2+off),cap,by rw[h2,<-hl];cases ad<;>simp,hc,?_⟩;cases hm:μ k with
 | none=>simp[atS,hm]at h1
 | some m=>
  have hok:=H.heap k _ m hk hm
  simp only[atS,hm,Option.bind_some]at h1;match m,ad,h1,hok with
  | .ext none,ad,h1,hok=>
   simp only[MV.atS,Option.some.injEq]at h1;subst h1;obtain⟨q1,q2⟩:=h4 rfl;exact⟨List.eq_nil_of_length_eq_zero zW,q2⟩
  | .ext (some (b,o)),ad,h1,hok=>
   simp only[MV.atS,Option.some.injEq]at h1;subst h1;obtain⟨q1,cs,ty,q2,q3⟩:=hok;refine⟨q1,cs,ty,q2,λi x hx=>?_⟩;have hi:=(List.getElem?_eq_some_iff.1 hx).1;have:=q3 (off+i) zW;rw[hf i x hx]at this;rw[<-this];congr 1;omega
  | .own b,ad,h1,hok=>exact hok.elim
theorem PSim.val {n0:Nat}{D:Nat->Prop}(H:PSim c K n0 D S X μ a w){k:Nat}{R:VF}{v:Value}(hf:KF.at k R∈K)(hv:aD μ (.e k)=some v):R.p v X w:=by
 obtain⟨u,h1,h2⟩:=H.kf _ hf;simp only[aD,h1]at hv;injection hv with hv;subst hv;exact h2
theorem PSim.cst {n0:Nat}{D:Nat->Prop}(H:PSim c K n0 D S X μ a w){v:Value}{R:VF}(hf:KF.cst v R∈K):R.p v X w:=H.kf _ hf
theorem aL9 {μ μ':Mu}(h1:∀k,rA μ' k=rA μ k)(h2:∀k,atS μ' k=atS μ k)(h3:∀k v,μ' k=some (.val v)↔μ k=some (.val v)):(∀av,aD μ' av=aD μ av)/\(∀l,aF μ' l=aF μ l):=by
 have he:∀k,aD μ' (.e k)=aD μ (.e k):=λk=>by
  simp only[aD];cases hk:μ k with
  | none=>
   split
   ·rename_i v hv;rw[(h3 k v).1 hv]at hk;cases hk
   ·rfl
  | some m=>
   cases m with
   | val v=>rw[(h3 k v).2 hk]
   | own b=>
    split
    ·rename_i v hv;rw[(h3 k v).1 hv]at hk;cases hk
    ·rfl
   | ext b=>
    split
    ·rename_i v hv;rw[(h3 k v).1 hv]at hk;cases hk
    ·rfl
 have hec:∀k j,aD μ' (.ec k j)=aD μ (.ec k j):=λk j=>by
  have:=he k
  simp only[aD]at this |-;cases hk:μ k with
  | none=>
   rw[hk]at this;split
   ·rename_i v hv;rw[(h3 k v).1 hv]at hk;cases hk
   ·rfl
  | some m=>
   cases m with
   | val v=>rw[(h3 k v).2 hk]
   | own b=>
    split
    ·rename_i v hv;rw[(h3 k v).1 hv]at hk;cases hk
    ·rfl
   | ext b=>
    split
    ·rename_i v hv;rw[(h3 k v).1 hv]at hk;cases hk
    ·rfl
 have key:∀(av:AV),aD μ' av=aD μ av:=λav=>by
  refine AV.rec (motive_1:=λav=>aD μ' av=aD μ av) (motive_2:=λl=>aF μ' l=aF μ l) ?_ ?_ ?_ ?_ ?_ ?_ ?_ ?_ ?_ ?_ ?_ ?_ ?_ ?_ ?_ ?_ av
  case refine_8=>intro k;exact he k
  case refine_14=>intro k j;exact hec k j
  all_goals intros;simp_all [aD,aF]
 refine⟨key,λl=>?_⟩;induction l with
 | nil=>rfl
 | cons x l ih=>simp only[aF,key,ih]
def eE (r:Value):VF:=⟨λv _ _=>v=r,λ_ _ _ _ _ _ _ h=>h⟩
theorem cD {v u:Value}{R:VF}(H:Sim c K S X μ a w)(hf:KF.cst v R∈K)(hv:aD μ (.q v)=some u):R.p u X w:=by
 simp only[aD]at hv;injection hv with hv;subst hv;exact H.toP.cst hf
theorem fT (hc:Ctx c P ty nt)(av:AV){g:Nat}{avs:List AV}{all:Array Oper}{i:Nat}{k:List KI}{S:St}{aK:List Value}{r:Value}(hp:Pure P g aK r)(hg:aB P g)(ha:aF hJ avs=some aK)(hr:aD hJ av=some r)(n:Nat)
  (h:Goal c K (run ty nt K n (.ops all (i+1)::k) (S.put (eX all i) av none) [])):Goal c K ⟨.cal g avs all i::k,S,[]⟩:=
 .mk0 (aU0 (hc.hP▸hp) (hc.hP▸hg) av ha hr (dX hc n h))
theorem zC(av:AV){g:Nat}{avs:List AV}{all:Array Oper}{i:Nat}{k:List KI}{S:St}{aK:List Value}{r:Value}(hp:Pure P g aK r)(hg:aB P g)(h:Goal c K (run ty nt K 100 (.ops all (i+1)::k) (S.put (eX all i) av none) []))(hc:Ctx c P ty nt:=by assumption)(ha:aF hJ avs=some aK:=by exact rfl)(hr:aD hJ av=some r:=by exact rfl):Goal c K ⟨.cal g avs all i::k,S,[]⟩:=fT hc av hp hg ha hr 100 h
theorem eO (hc:Ctx c P ty nt)(av:AV){g:Nat}{avs:List AV}{all:Array Oper}{i n0:Nat}{K0:List KF}{k:List KI}{S:St}{aK:List Value}{r:Value}(hp:Pure P g aK r)(hg:aB P g)(ha:aF hJ avs=some aK)(n:Nat)
  (h:Goal c K (run ty nt K n (.dops all (i+1) n0 K0::k) (S.put (eX all i) av none) []))(hr:aD hJ av=some r:=by exact rfl):Goal c K ⟨.dcal g avs all i n0 K0::k,S,[]⟩:=
 .mk0 (aPe (hc.hP▸hp) (hc.hP▸hg) av ha hr (dX hc n h))
theorem zD(av:AV){g:Nat}{avs:List AV}{all:Array Oper}{i n0:Nat}{K0:List KF}{k:List KI}{S:St}{aK:List Value}{r:Value}(hp:Pure P g aK r)(hg:aB P g)(h:Goal c K (run ty nt K 100 (.dops all (i+1) n0 K0::k) (S.put (eX all i) av none) []))(hc:Ctx c P ty nt:=by assumption)(ha:aF hJ avs=some aK:=by exact rfl)(hr:aD hJ av=some r:=by exact rfl):Goal c K ⟨.dcal g avs all i n0 K0::k,S,[]⟩:=eO (hr:=hr) hc av hp hg ha 100 h
theorem aOt (hm:P.follows .mixedOrders=true)(tok:∀t i,ty t=some i->TyOk P t i){g:Nat}{fn:Func}{code:Code}{args:List Value}{r:Value}(avs:List AV)
  (hf:P.funcs[g]?=some fn) (hb:fn.body=some code) (ha:aF hJ avs=some args) (hn:args.length<=fn.ntmps) (hnt:fn.ntmps=nt)
  (h:∀(c:Cx),Ctx c P ty nt->(aB9 c fn λv w'=>v=r/\Below c.B.heap.size c.B w')->Goal c [] ⟨[.code code],⟨oY 0 avs,[],[]⟩,[]⟩):
  Pure P g args r:=by
 intro B hgl;refine(enter tok hf hb hn ha hgl (K:=[]) (R:=λv w'=>v=r/\Below B.heap.size B w') (X0:=λb=>b<B.heap.size) (λb h=>h) (λf hf=>by cases hf) λc h1 h2 h3 h4 _ h5=>?_).mono ?_
 ·subst h4;exact(h c ⟨h1,h2,h3.trans hnt,hm⟩ h5).so
 ·rintro e w' ⟨v,rfl,rfl,hb⟩;exact⟨rfl,hb⟩
theorem aFg {c:Cx}{K:List KF}{n0:Nat}{D:Nat->Prop}{S:St}{o:Oper}{g:Nat}{avs:List AV}{r:Value}{av:AV}(h:iS S.sl o.op=some (g,avs))(hD:∀t,Operand.tmp t∈o.op.operands->D t)(hg:aB c.P g)
  (hp:∀X μ a w aK,PSim c K n0 D S X μ a w->aF μ avs=some aK->Fn c.P g aK X w (eE r)) (hr:aD hJ av=some r):Cert c K n0 D S o av none [] S.ow:=by
 refine qJ h hD hg λX μ a w aK H hv=>?_;refine Calls.mono (hp X μ a w aK H hv H.glob) ?_;rintro e w' ⟨v,X',rfl,hb,hs,hx,hr'⟩;have hr':v=r:=hr';subst hr';exact⟨X',v,rfl,⟨hb.mono H.bel.size,λb hb' _=>hb.block b hb',fE hr,rfl,hs,λb hb'=>(hx b hb').imp id .inl,
  H.own.keep (Mu.le_refl _) hb.size hb.block (λb hb'=>(hx b hb').imp id (·.1)) (λk b hk=>.inl hk)⟩,λf hf=>by cases hf⟩
theorem cE (hc:Ctx c P ty nt)(av:AV){g:Nat}{avs:List AV}{all:Array Oper}{i:Nat}{k:List KI}{S:St}{r:Value}(hg:aB P g)
  (hp:∀n0 D X μ a w aK,PSim c K n0 D S X μ a w->aF μ avs=some aK->Fn P g aK X w (eE r)) (hr:aD hJ av=some r) (n:Nat)
  (h:Goal c K (run ty nt K n (.ops all (i+1)::k) (S.putO (eX all i) av none S.ow) [])):Goal c K ⟨.cal g avs all i::k,S,[]⟩:=
 .mk0 (aAk (Kn:=[]) (λo n0 D ho hD _=>aFg ho hD (hc.hP▸hg) (λX μ a w aK H hv=>hc.hP▸hp n0 D X μ a w aK H hv) hr) (dX hc n h))
theorem aYb (hc:Ctx c P ty nt)(av:AV){g:Nat}{avs:List AV}{all:Array Oper}{i n0:Nat}{K0:List KF}{k:List KI}{S:St}{r:Value}(hg:aB P g)
  (hp:∀D X μ a w aK,PSim c K n0 D S X μ a w->aF μ avs=some aK->Fn P g aK X w (eE r)) (hr:aD hJ av=some r) (n:Nat)
  (h:Goal c K (run ty nt K n (.dops all (i+1) n0 K0::k) (S.putO (eX all i) av none S.ow) [])):Goal c K ⟨.dcal g avs all i n0 K0::k,S,[]⟩:=
 .mk0 (uO (Kn:=[]) (λo D ho hD=>aFg ho hD (hc.hP▸hg) (λX μ a w aK H hv=>hc.hP▸hp D X μ a w aK H hv) hr) (dX hc n h))
end
end Go.Ai
