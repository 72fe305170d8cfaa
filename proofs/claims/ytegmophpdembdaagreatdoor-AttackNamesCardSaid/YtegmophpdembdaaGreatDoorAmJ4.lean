/- A part of the proof of this claim (closed facts of the program, by evaluation). -/
import Derived.Test.YtegmophpdembdaaGreatDoorRows
import Derived.JoinedOf
import Derived.KernelRfl
import Derived.Test.YtegmophpdembdaaGreatDoorAmJ1
import Derived.Test.YtegmophpdembdaaGreatDoorAmJ2
import Derived.Test.YtegmophpdembdaaGreatDoorAmJ3
namespace Go.Proofs.YtegmophpdembdaaGreatDoor
open Go
theorem j29b : (Rows.attackNamesRow.kinds == []) = true := by kernel_rfl
theorem closed : joinedFacts Tryz.prog 3 Tryz.f3 Rows.attackNamesSpec Rows.attackNamesRow = true := by
  unfold joinedFacts
  rw [j1, j2, j3, j4, j5, j6, j7, j8, j9, j10, j11, j12, j13, j14, j15, j16, j17, j18, j19, j20, j21, j22, j23, j24, j25, j26, j27, j28, if_pos (show Rows.attackNamesRow.domain.isEmpty = true from rfl), j29b, j30, j31, j32]
  rfl
theorem fnamed : Tryz.pinned.checked.prog.funcNamed Rows.attackNamesRow.func = some 3 := by kernel_rfl
theorem inst : Tryz.f3.isInstance Tryz.pinned.checked.prog Rows.attackNamesRow.origin Rows.attackNamesRow.targs := of_decide_eq_true (by kernel_rfl)
theorem wrapped : Tryz.f3.isWrapper Tryz.pinned.checked.prog Rows.attackNamesRow.wrapper Rows.attackNamesRow.mainSum := by unfold Func.isWrapper; first | (rw [if_pos (by decide +kernel)]; kernel_rfl) | (rw [if_neg (by decide +kernel)]; exact ⟨rfl, rfl⟩)

end Go.Proofs.YtegmophpdembdaaGreatDoor
