/- Part 31 of the proof: garboardlaw17.FloatAdds returns true, whatever the input. -/
import Derived.Test.YtmnancfboococaaGreatDoorTie
import Derived.Test.YtmnancfboococaaGreatDoorCards
import Derived.ProofKit
import Derived.LaidMore
import Derived.OpenShut
import Derived.Handed
import Derived.Deep.Strs
import Derived.Stop.Joined
import Derived.Shelf.Vars
import Derived.Lib.LaidTab
import Derived.Stop.LaidErr
import Derived.Test.YtmnancfboococaaGreatDoorPk28
import Derived.Test.YtmnancfboococaaGreatDoorPk29
set_option linter.all false
namespace Go.Proofs.YtmnancfboococaaGreatDoor
open Go Go.ChangeShapes Go.WideShapes Go.ChangeAt Go.WideElems Go.RowKit
theorem own:ownKnob Tryz.prog.godebug=none:=by kernel_rfl
theorem aPa (os:Os)(args:Array Value):laidMetH Tryz.prog Rows.floatAddsRow.laid ((World.doorLaid Tryz.prog 62 os).forCall (fun _ _=>0) ⟨#[],args,[]⟩).memory:=
 laidMetH_of_parts3 (fuel:=8) (laidMet_of_run' 8 (by kernel_rfl) (by kernel_rfl)) (by kernel_rfl) (by kernel_rfl)
theorem aTd {W:World}(hL:laidMetH Tryz.prog Rows.floatAddsRow.laid W)(hsh:W.ShapedOpen Tryz.prog):Ai.Glob Tryz.prog W:=by
 refine⟨?_,?_⟩
 ·obtain⟨m,hm⟩:=cell_of_shapedOpen_int (g:=0) (zero:=#[.int .i64 0]) (t:=3) hsh (of_decide_eq_true (by kernel_rfl)) (by kernel_rfl) rfl (by kernel_rfl) (by kernel_rfl) Tryz.underlying3;obtain⟨cs,hh,hs,_⟩:=hsh.1 0 #[.int .i64 0] 3 (of_decide_eq_true (by kernel_rfl)) (by kernel_rfl);refine⟨m,?_⟩;unfold World.var?;rw[show Tryz.prog.globalNamed "internal/bytealg.MaxLen"=some 0 by kernel_rfl];simp only[Option.bind_some,hh];simp only[World.cell?,hh]at hm;obtain⟨l⟩:=cs
  match l,hs,hm with
  | [c],_,hm=>
   simp at hm;rw[hm]
 ·rw[MakeChecks.laidMetH_plain _ _ _ (by kernel_rfl)]at hL;exact Lib.tabIs_of_head (k:=.u64) (zs:=Lib.pow10Tab) (g:=3) (t:=364) (e:=181) (n:=20) (by kernel_rfl) (by kernel_rfl) Tryz.underlying364 Tryz.underlying181 (by kernel_rfl) (by kernel_rfl) (laidMet.tail (laidMet.tail hL))
set_option maxRecDepth 100000 in
theorem lifted (os:Os)(started:os.Started)(H:Type)(enc:TypeId × Value→H):
  ReturnsInHanded {} Tryz.checked os 9 .any (fun w args=>(Rows.floatAddsSpec.pre enc Tryz.prog Tryz.f9 [] false w args∧laidMetH Tryz.prog Rows.floatAddsRow.laid w)∧sizedMet enc Tryz.prog Tryz.f9 (OpenSpec.ofChange Rows.floatAddsSpec) false w args)
   (Rows.floatAddsSpec.post enc Tryz.prog Tryz.f9 false true false false):=by
 refine aH2 (C:=Tryz.checked) (X:=fun w _=>laidMetH Tryz.prog Rows.floatAddsRow.laid w) (fun _ _ _ hh h=>h.of_heap hh) own started (by kernel_rfl) Tryz.func9
  (ChangeSpec.witness_shaped (enc:=enc) (C:=Tryz.checked) (os:=os) (X:=fun w _=>laidMetH Tryz.prog Rows.floatAddsRow.laid w) false (World.doorLaid Tryz.prog 62 os) #[.slice none 0 0,.agg #[.string ⟨#[]⟩,.string ⟨#[]⟩,.string ⟨#[]⟩,.string ⟨#[]⟩],.agg #[.string ⟨#[]⟩,.string ⟨#[]⟩]] 8 rfl (World.shaped_of_RefB (by kernel_rfl) (by kernel_rfl)) (by kernel_rfl) (by kernel_rfl) (by kernel_rfl) (aPa os _)) ?_
 intro W base args ds gs before aUw hW hz0 hL hsh;have sJ:∀(j:Nat) t v,Tryz.f9.params[j]?=some t→args[j]?=some v→Value.okWide Tryz.prog W .any base t v:=aUw
 have hz:(DataW.weightsEach Tryz.prog (Tryz.f9.params.toList++Rows.floatAddsSpec.plain.varTypes Tryz.prog) (ds++gs)).all (·≤reachBytes)=true:=hz0
 have hW':=hW
 obtain⟨p,q,hA0,hV,rfl,hfz,hnd⟩:=hW;have hA:DataW.TrodAll enc Tryz.prog W 0 (fun _=>true) true Tryz.f9.params.toList args.toList ds p:=hA0
 rw[Tryz.params9]at hA sJ hz;obtain⟨v0,v1,v2,d0,d1,d2,p0,p1,p2,rfl,rfl,rfl,h0,h1,h2⟩:=trodAll_three hA;obtain⟨rfl,rfl⟩:=trodVars_none hV;clear hA0 aUw hz0;obtain⟨L,N,hLN,hN,iS⟩:=aM0 (sJ 0 23 v0 rfl rfl) (fun es sp e=>sized_slice (j:=0) hz rfl (by rw[e];rfl) Tryz.underlying23) h0;have w1:=sJ 1 78 v1 rfl rfl
 have w2:=sJ 2 40 v2 rfl rfl
 simp only[Value.okWide,Tryz.underlying78]at w1;simp only[Value.okWide,Tryz.underlying40]at w2;obtain⟨c1,e1,_⟩:=w1;obtain⟨c2,e2,_⟩:=w2;obtain⟨_,h1'⟩:=id h1;obtain⟨_,h2'⟩:=id h2;obtain⟨a,b,c,d,e3⟩:=aLx h1';obtain⟨x,y,e4⟩:=aMe h2';have e5:=aFu e1 e3
 have e6:=aFu e2 e4
 clear e1 e2 e3 e4 h1' h2';subst e5;subst e6;refine Calls.mono (Ai.lAdds hLN hN a b c d x y (fun _ h=>h) iS (aTd hL hsh)) ?_;rintro e W' ⟨v,X',rfl,hb,_,_,hr⟩;obtain rfl:v=.bool true:=hr;have hlt:=hW'.lt
 refine⟨_,rfl,_,_,_,[],_,[],hW',trodAll_mk1 (shut_bool Tryz.underlying4 _),⟨p0,_,Below.trod laidOut (by kernel_rfl) (of_decide_eq_true (by kernel_rfl)) h0 hb (fun x hx=>hlt x (by simp[hx])),⟨p1,_,Below.trod laidOut (by kernel_rfl) (of_decide_eq_true (by kernel_rfl)) h1 hb (fun x hx=>hlt x (by simp[hx])),⟨p2,[],Below.trod laidOut (by kernel_rfl) (of_decide_eq_true (by kernel_rfl)) h2 hb (fun x hx=>hlt x (by simp[hx])),rfl,rfl⟩,rfl⟩,rfl⟩,rfl,hb.frame _,fun h=>by cases h⟩
theorem xZ:Rows.FloatAddsSaid:=
 OpenClaim.holds_of_wide 9 Tryz.f9 rfl rfl rfl rfl rfl rfl rfl ⟨rfl,rfl,rfl,rfl,rfl⟩ rfl rfl rfl rfl rfl (by kernel_rfl) Tryz.func9 aPk
  (of_decide_eq_true (by kernel_rfl)) (by unfold Func.isWrapper;first | (rw[if_pos (by decide+kernel)];kernel_rfl) | (rw[if_neg (by decide+kernel)];exact⟨rfl,rfl⟩))
  (fun os started H enc _=>lifted os started H enc)
theorem floatAdds_card:Rows.FloatAddsCardSaid:=
 Claim7.holds_tied_plain_at .later [] [.data,.data,.data,.sentinel,.sentinel] true (true,"c950a4b405ece2c7bb5a9d3963c7cff2c826d70397d4f6407373dce119441a08") true
  xZ (fun _ h=>by cases h) (by kernel_rfl) (fun _ h=>by cases h) floatAdds_row_tie rfl ⟨rfl,rfl⟩ (by kernel_rfl) rfl
  (fun f fn hf hfn=>by
   obtain rfl:f=9:=Option.some.inj ((show Tryz.prog.funcNamed "garboard/garboardlaw17.FloatAdds"=some 9 by kernel_rfl).symm.trans hf) |>.symm
   obtain rfl:fn=Tryz.f9:=(Option.some.inj (Tryz.func9.symm.trans hfn)).symm;exact⟨aTb,fun j t ht=>by
    rw[Tryz.params9]at ht;have hm:t∈[23,78,40]:=by simpa using Array.mem_of_getElem? ht
    have cK:([23,78,40].all fun u=> !Tryz.prog.wantsStandIn u)=true:=by kernel_rfl
    exact(show Tryz.prog.wantsStandIn t=false by simpa using List.all_eq_true.1 cK t hm)⟩)
  aWh
end Go.Proofs.YtmnancfboococaaGreatDoor
