/- A part of the proof of this claim (closed facts of the program, by evaluation). -/
import Derived.Test.YtegmophpdembdaaGreatDoorRows
import Derived.JoinedOf
import Derived.KernelRfl

namespace Go.Proofs.YtegmophpdembdaaGreatDoor
open Go
theorem j12 : ((Rows.attackNamesRow.recurses == Tryz.prog.recurses 3)) = true := by kernel_rfl
theorem j13 : ((Rows.attackNamesRow.named == Tryz.prog.varsNamed 3)) = true := by kernel_rfl
theorem j14 : ((Rows.attackNamesRow.maps == (Tryz.f3.params.toList ++ Rows.attackNamesSpec.plain.varTypes Tryz.prog).any (Tryz.prog.mapsRec ·))) = true := by kernel_rfl
end Go.Proofs.YtegmophpdembdaaGreatDoor
