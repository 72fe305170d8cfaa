/- A part of the proof of this claim (closed facts of the program, by evaluation). -/
import Derived.Test.YtegmophpdembdaaGreatDoorRows
import Derived.JoinedOf
import Derived.KernelRfl

namespace Go.Proofs.YtegmophpdembdaaGreatDoor
open Go
theorem j1 : (Rows.attackNamesRow.wf (OpenSpec.ofChange Rows.attackNamesSpec)) = true := by kernel_rfl
theorem j2 : (laidOutB Tryz.prog) = true := by kernel_rfl
theorem j3 : (mapsRowed Tryz.prog) = true := by kernel_rfl
theorem j4 : (Tryz.f3.params.all (Tryz.prog.readableRec ·)) = true := by kernel_rfl
theorem j5 : (namedTie Tryz.prog Rows.attackNamesRow.named Rows.attackNamesSpec.vars) = true := by kernel_rfl
theorem j6 : ((Rows.attackNamesRow.stops == [])) = true := by kernel_rfl
theorem j7 : ((Tryz.prog.stops == [])) = true := by kernel_rfl
theorem j8 : ((Rows.attackNamesRow.knobs == [])) = true := by kernel_rfl
theorem j9 : ((Tryz.prog.stopKnobs == [])) = true := by kernel_rfl
theorem j10 : ((Rows.attackNamesRow.inPlace == Tryz.prog.inPlace 3)) = true := by kernel_rfl
theorem j11 : ((Rows.attackNamesRow.unfollowed == Tryz.prog.unfollowed 3)) = true := by kernel_rfl
end Go.Proofs.YtegmophpdembdaaGreatDoor
