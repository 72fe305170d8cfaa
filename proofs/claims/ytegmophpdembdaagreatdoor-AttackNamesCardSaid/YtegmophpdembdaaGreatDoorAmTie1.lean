/- A part of the proof of this claim (closed facts of the program, by evaluation). -/
import Derived.Test.YtegmophpdembdaaGreatDoorRows
import Derived.LaidByTextLater
import Derived.SevenTiedAt
import Derived.Test.YtegmophpdembdaaGreatDoorAmTie0
import Derived.KernelRfl
namespace Go.Proofs.YtegmophpdembdaaGreatDoor
open Go
theorem t1 : Tryz.prog.worded (varsWordLater true) = true := by kernel_rfl
theorem t2 : Tryz.prog.worded (varsWordLater !true) = false := by kernel_rfl
theorem t3 : Tryz.prog.worded rootWordLater = true := by kernel_rfl
theorem t4 : laid6.map (fun x => Tryz.prog.kindOfLater x.1) = [LaidKind.data, .sentinel, .sentinel, .data, .data, .data].map some := by kernel_rfl
theorem t5 : (Tryz.prog.funcNamed "gosem.cut.vars").isSome = true := by kernel_rfl
theorem t6 : varsNamedLaterB Tryz.prog (varsId Tryz.prog) laid6 = true := by kernel_rfl
end Go.Proofs.YtegmophpdembdaaGreatDoor
