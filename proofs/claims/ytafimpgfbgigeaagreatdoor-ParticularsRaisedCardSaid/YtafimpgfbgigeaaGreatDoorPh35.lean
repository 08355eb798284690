/- Part 36: the law ParticularsRaised -/
import Derived.Test.YtafimpgfbgigeaaGreatDoorTie
import Derived.Test.YtafimpgfbgigeaaGreatDoorCards
import Derived.ProofKit
import Derived.LaidMore
import Derived.OpenShut
import Derived.Handed
import Derived.Deep.Strs
import Derived.Stop.Joined
import Derived.Shelf.Vars
import Derived.Lib.LaidTab
import Derived.Stop.LaidErr
import Derived.Test.YtafimpgfbgigeaaGreatDoorPh29
import Derived.Test.YtafimpgfbgigeaaGreatDoorPh34
set_option linter.all false
namespace Go.Proofs.YtafimpgfbgigeaaGreatDoor
open Go Go.ChangeShapes Go.WideShapes Go.ChangeAt Go.WideElems Go.RowKit
theorem own:ownKnob Tryz.prog.godebug=none:=zG
theorem tF (os:Os)(args:Array Value):laidMetH Tryz.prog Rows.particularsRaisedRow.laid ((World.doorLaid Tryz.prog 62 os).forCall (λ_ _=>0) ⟨#[],args,[]⟩).memory:=
 laidMetH_of_parts3 (fuel:=8) (laidMet_of_run' 8 zG zG) zG zG
theorem xT {W:World}(hL:laidMetH Tryz.prog Rows.particularsRaisedRow.laid W)(hsh:W.ShapedOpen Tryz.prog):Ai.Glob Tryz.prog W:=by
 refine⟨?_,?_⟩
 ·obtain⟨m,hm⟩:=cell_of_shapedOpen_int (g:=0) (zero:=#[.int .i64 0]) (t:=3) hsh (of_decide_eq_true zG) zG rfl zG zG Tryz.underlying3;obtain⟨cs,hh,hs,_⟩:=hsh.1 0 #[.int .i64 0] 3 (of_decide_eq_true zG) zG;refine⟨m,?_⟩;unfold World.var?;rw[show Tryz.prog.globalNamed "internal/bytealg.MaxLen"=some 0 by kernel_rfl];simp only[Option.bind_some,hh];simp only[World.cell?,hh]at hm;obtain⟨l⟩:=cs;match l,hs,hm with
  | [c],_,hm=>
   simp at hm;rw[hm]
 ·rw[MakeChecks.laidMetH_plain _ _ _ zG]at hL;exact Lib.tabIs_of_head (k:=.u64) (zs:=Lib.pow10Tab) (g:=3) (t:=371) (e:=203) (n:=20) zG zG Tryz.underlying371 Tryz.underlying203 zG zG (laidMet.tail (laidMet.tail hL))
set_option maxRecDepth 100000 in
theorem lifted (os:Os)(started:os.Started)(H:Type)(enc:TypeId × Value->H):
  ReturnsInHanded {} Tryz.checked os 7 .any (λw args=>(Rows.particularsRaisedSpec.pre enc Tryz.prog Tryz.f7 [] false w args/\laidMetH Tryz.prog Rows.particularsRaisedRow.laid w)/\sizedMet enc Tryz.prog Tryz.f7 (OpenSpec.ofChange Rows.particularsRaisedSpec) false w args)
   (Rows.particularsRaisedSpec.post enc Tryz.prog Tryz.f7 false true false false):=by
 refine vP (C:=Tryz.checked) (X:=λw _=>laidMetH Tryz.prog Rows.particularsRaisedRow.laid w) (λ_ _ _ hh h=>h.of_heap hh) own started zG Tryz.func7
  (ChangeSpec.witness_shaped (enc:=enc) (C:=Tryz.checked) (os:=os) (X:=λw _=>laidMetH Tryz.prog Rows.particularsRaisedRow.laid w) false (World.doorLaid Tryz.prog 62 os) #[.agg #[.string ⟨#[]⟩,.string ⟨#[]⟩,.string ⟨#[]⟩,.string ⟨#[]⟩,.string ⟨#[]⟩,.string ⟨#[]⟩,.string ⟨#[]⟩,.string ⟨#[]⟩,.string ⟨#[]⟩,.string ⟨#[]⟩],.agg #[.string ⟨#[]⟩,.string ⟨#[]⟩,.string ⟨#[]⟩,.string ⟨#[]⟩,.string ⟨#[]⟩],.string ⟨#[]⟩] 8 rfl (World.shaped_of_RefB zG zG) zG zG zG (tF os _)) ?_
 intro W base args ds gs before aA7 hW hz0 hL hsh;have pB:∀(j:Nat) t v,Tryz.f7.params[j]?=some t->args[j]?=some v->Value.okWide Tryz.prog W .any base t v:=aA7;have hz:(DataW.weightsEach Tryz.prog (Tryz.f7.params.toList++Rows.particularsRaisedSpec.plain.varTypes Tryz.prog) (ds++gs)).all (·<=reachBytes)=true:=hz0;have hW':=hW;obtain⟨p,q,hA0,hV,rfl,hfz,hnd⟩:=hW;have hA:DataW.TrodAll enc Tryz.prog W 0 (λ_=>true) true Tryz.f7.params.toList args.toList ds p:=hA0;rw[Tryz.params7]at hA pB hz;obtain⟨v0,v1,v2,d0,d1,d2,p0,p1,p2,rfl,rfl,rfl,h0,h1,h2⟩:=trodAll_three hA;obtain⟨rfl,rfl⟩:=trodVars_none hV;clear hA0 aA7 hz0;obtain⟨l0,n0,e0⟩:=pO 10 zG zG Tryz.underlying24 (sP Tryz.underlying45 (pB 0 45 v0 rfl rfl));obtain⟨a0x0,a0x1,a0x2,a0x3,a0x4,a0x5,a0x6,a0x7,a0x8,a0x9,q0⟩:∃a0x0 a0x1 a0x2 a0x3 a0x4 a0x5 a0x6 a0x7 a0x8 a0x9,l0=[a0x0,a0x1,a0x2,a0x3,a0x4,a0x5,a0x6,a0x7,a0x8,a0x9]:=by
  rcases l0 with _ | ⟨a0x0,_ | ⟨a0x1,_ | ⟨a0x2,_ | ⟨a0x3,_ | ⟨a0x4,_ | ⟨a0x5,_ | ⟨a0x6,_ | ⟨a0x7,_ | ⟨a0x8,_ | ⟨a0x9,_ | ⟨z,l⟩⟩⟩⟩⟩⟩⟩⟩⟩⟩⟩<;>simp at n0
  exact⟨_,_,_,_,_,_,_,_,_,_,rfl⟩
 subst q0;subst e0;obtain⟨l1,n1,e1⟩:=pO 5 zG zG Tryz.underlying24 (sP Tryz.underlying54 (pB 1 54 v1 rfl rfl));obtain⟨a1x0,a1x1,a1x2,a1x3,a1x4,q1⟩:∃a1x0 a1x1 a1x2 a1x3 a1x4,l1=[a1x0,a1x1,a1x2,a1x3,a1x4]:=by
  rcases l1 with _ | ⟨a1x0,_ | ⟨a1x1,_ | ⟨a1x2,_ | ⟨a1x3,_ | ⟨a1x4,_ | ⟨z,l⟩⟩⟩⟩⟩⟩<;>simp at n1
  exact⟨_,_,_,_,_,rfl⟩
 subst q1;subst e1;obtain⟨a2x0,e2⟩:=okWide_string Tryz.underlying24 (pB 2 24 v2 rfl rfl);subst e2;refine Calls.mono (Ai.lRaised ⟨a0x0,a0x1,a0x2,a0x3,a0x4,a0x5,a0x6,a0x7,a0x8,a0x9⟩ a1x0 a1x1 a1x2 a1x3 a1x4 a2x0 (λ_ h=>h) (xT hL hsh)) ?_;rintro e W' ⟨v,X',rfl,hb,_,_,hr⟩;obtain rfl:v=.bool true:=hr;have hlt:=hW'.lt;refine⟨_,rfl,_,_,_,[],_,[],hW',trodAll_mk1 (shut_bool Tryz.underlying4 _),⟨p0,_,Below.trod laidOut zG (of_decide_eq_true zG) h0 hb (λx hx=>hlt x (by simp[hx])),⟨p1,_,Below.trod laidOut zG (of_decide_eq_true zG) h1 hb (λx hx=>hlt x (by simp[hx])),⟨p2,[],Below.trod laidOut zG (of_decide_eq_true zG) h2 hb (λx hx=>hlt x (by simp[hx])),rfl,rfl⟩,rfl⟩,rfl⟩,rfl,hb.frame _,λh=>by cases h⟩
theorem qT:Rows.ParticularsRaisedSaid:=
 OpenClaim.holds_of_wide 7 Tryz.f7 rfl rfl rfl rfl rfl rfl rfl ⟨rfl,rfl,rfl,rfl,rfl⟩ rfl rfl rfl rfl rfl zG Tryz.func7 tG
  (of_decide_eq_true zG) (by unfold Func.isWrapper;first | (rw[if_pos (by decide+kernel)];kernel_rfl) | (rw[if_neg (by decide+kernel)];exact⟨rfl,rfl⟩))
  (λos started H enc _=>lifted os started H enc)
theorem particularsRaised_card:Rows.ParticularsRaisedCardSaid:=
 Claim7.holds_tied_plain_at .later [] [.data,.data,.data,.sentinel,.sentinel] true (true,"ce9edf15aa0eaa7adf8ef1b5fae6badd48e84ae115654ad7b468703eca27a8f4") true
  qT (λ_ h=>by cases h) zG (λ_ h=>by cases h) particularsRaised_row_tie rfl ⟨rfl,rfl⟩ zG rfl
  (λf fn hf hfn=>by
   obtain rfl:f=7:=Option.some.inj ((show Tryz.prog.funcNamed "garboard/garboardlaw18.ParticularsRaised"=some 7 by kernel_rfl).symm.trans hf) |>.symm;obtain rfl:fn=Tryz.f7:=(Option.some.inj (Tryz.func7.symm.trans hfn)).symm;exact⟨xQ,λj t ht=>by
    rw[Tryz.params7]at ht;have hm:t∈[45,54,24]:=by simpa using Array.mem_of_getElem? ht
    have cI:([45,54,24].all λu=> !Tryz.prog.wantsStandIn u)=true:=zG
    exact(show Tryz.prog.wantsStandIn t=false by simpa using List.all_eq_true.1 cI t hm)⟩)
  aC8
end Go.Proofs.YtafimpgfbgigeaaGreatDoor
