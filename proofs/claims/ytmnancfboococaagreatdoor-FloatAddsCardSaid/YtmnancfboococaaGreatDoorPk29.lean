/- Part 30 of the proof: garboardlaw17.FloatAdds returns true, whatever the input. -/
import Derived.Test.YtmnancfboococaaGreatDoorRows
import Derived.Test.YtmnancfboococaaGreatDoorTie
import Derived.Test.YtmnancfboococaaGreatDoorCards
import Derived.ProofKit
import Derived.LaidMore
import Derived.OpenShut
import Derived.Handed
import Derived.Deep.Strs
import Derived.Stop.Joined
import Derived.Shelf.Vars
import Derived.Lib.LaidTab
set_option linter.all false
namespace Go.Proofs.YtmnancfboococaaGreatDoor
open Go Go.ChangeShapes Go.WideShapes Go.ChangeAt Go.WideElems Go.RowKit
theorem laidOut:laidOutB Tryz.prog=true:=by kernel_rfl
theorem bAw:mapsRowed Tryz.prog=true:=by kernel_rfl
theorem aMl:Tryz.prog.inPlace 9=Rows.floatAddsRow.inPlace:=by kernel_rfl
theorem aEi:Tryz.prog.unfollowed 9=true:=by kernel_rfl
theorem aIr:Tryz.prog.recurses 9=true:=by kernel_rfl
theorem aTc:Tryz.prog.varsNamed 9=Rows.floatAddsRow.named:=by kernel_rfl
theorem aWh:false=Rows.floatAddsRow.goesBy Tryz.pinned.checked.prog:=by kernel_rfl
theorem aTb:true=Tryz.pinned.checked.prog.looks []:=by kernel_rfl
theorem aPk:joinedFacts Tryz.prog 9 Tryz.f9 Rows.floatAddsSpec Rows.floatAddsRow=true:=by
 unfold joinedFacts;rw[laidOut,bAw,aMl,aEi,aIr,aTc]
 kernel_rfl
end Go.Proofs.YtmnancfboococaaGreatDoor
