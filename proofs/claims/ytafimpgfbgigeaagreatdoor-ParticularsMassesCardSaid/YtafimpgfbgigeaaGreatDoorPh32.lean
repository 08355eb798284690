/- Part 33: the law ParticularsMasses -/
import Derived.Test.YtafimpgfbgigeaaGreatDoorRows
import Derived.Test.YtafimpgfbgigeaaGreatDoorTie
import Derived.Test.YtafimpgfbgigeaaGreatDoorCards
import Derived.ProofKit
import Derived.LaidMore
import Derived.OpenShut
import Derived.Handed
import Derived.Deep.Strs
import Derived.Stop.Joined
import Derived.Shelf.Vars
import Derived.Lib.LaidTab
set_option linter.all false
namespace Go.Proofs.YtafimpgfbgigeaaGreatDoor
open Go Go.ChangeShapes Go.WideShapes Go.ChangeAt Go.WideElems Go.RowKit
theorem laidOut:laidOutB Tryz.prog=true:=by kernel_rfl
theorem aKu:mapsRowed Tryz.prog=true:=by kernel_rfl
theorem qK:Tryz.prog.inPlace 8=Rows.particularsMassesRow.inPlace:=by kernel_rfl
theorem lD:Tryz.prog.unfollowed 8=true:=by kernel_rfl
theorem oI:Tryz.prog.recurses 8=true:=by kernel_rfl
theorem xR:Tryz.prog.varsNamed 8=Rows.particularsMassesRow.named:=by kernel_rfl
theorem aC8:false=Rows.particularsMassesRow.goesBy Tryz.pinned.checked.prog:=by kernel_rfl
theorem xQ:true=Tryz.pinned.checked.prog.looks []:=by kernel_rfl
theorem tG:joinedFacts Tryz.prog 8 Tryz.f8 Rows.particularsMassesSpec Rows.particularsMassesRow=true:=by
 unfold joinedFacts;rw[laidOut,aKu,qK,lD,oI,xR]
 kernel_rfl
end Go.Proofs.YtafimpgfbgigeaaGreatDoor
