/- A part of the proof of this claim (closed facts of the program, by evaluation). -/
import Derived.Test.YtegmophpdembdaaGreatDoorRows
import Derived.LaidByTextLater
import Derived.SevenTiedAt
import Derived.Test.YtegmophpdembdaaGreatDoorAmTie0
import Derived.KernelRfl
namespace Go.Proofs.YtegmophpdembdaaGreatDoor
open Go
theorem t8 : ∀ (os : Os) (tape : Tape), (DataW.laidRun Tryz.prog (varsWorld Tryz.prog 400 (varsId Tryz.prog) os tape).memory 8 (laid6.map (·.1))).map (·.1) = some laid6 := fun _ _ => by kernel_rfl
end Go.Proofs.YtegmophpdembdaaGreatDoor
