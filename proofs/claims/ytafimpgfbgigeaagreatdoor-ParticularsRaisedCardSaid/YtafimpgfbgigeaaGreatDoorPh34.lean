/- Part 35: the law ParticularsRaised -/
import Derived.Test.YtafimpgfbgigeaaGreatDoorRows
import Derived.Test.YtafimpgfbgigeaaGreatDoorTie
import Derived.Test.YtafimpgfbgigeaaGreatDoorCards
import Derived.ProofKit
import Derived.LaidMore
import Derived.OpenShut
import Derived.Handed
import Derived.Deep.Strs
import Derived.Stop.Joined
import Derived.Shelf.Vars
import Derived.Lib.LaidTab
set_option linter.all false
namespace Go.Proofs.YtafimpgfbgigeaaGreatDoor
open Go Go.ChangeShapes Go.WideShapes Go.ChangeAt Go.WideElems Go.RowKit
theorem laidOut:laidOutB Tryz.prog=true:=by kernel_rfl
theorem aKu:mapsRowed Tryz.prog=true:=by kernel_rfl
theorem qK:Tryz.prog.inPlace 7=Rows.particularsRaisedRow.inPlace:=by kernel_rfl
theorem lD:Tryz.prog.unfollowed 7=true:=by kernel_rfl
theorem oI:Tryz.prog.recurses 7=true:=by kernel_rfl
theorem xR:Tryz.prog.varsNamed 7=Rows.particularsRaisedRow.named:=by kernel_rfl
theorem aC8:false=Rows.particularsRaisedRow.goesBy Tryz.pinned.checked.prog:=by kernel_rfl
theorem xQ:true=Tryz.pinned.checked.prog.looks []:=by kernel_rfl
theorem tG:joinedFacts Tryz.prog 7 Tryz.f7 Rows.particularsRaisedSpec Rows.particularsRaisedRow=true:=by
 unfold joinedFacts;rw[laidOut,aKu,qK,lD,oI,xR]
 kernel_rfl
end Go.Proofs.YtafimpgfbgigeaaGreatDoor
