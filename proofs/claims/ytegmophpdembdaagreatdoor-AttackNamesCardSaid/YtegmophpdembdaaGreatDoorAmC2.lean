/- A part of the proof of this claim (closed facts of the program, by evaluation). -/
import Derived.Test.YtegmophpdembdaaGreatDoorAmT
import Derived.KernelRfl
namespace Go.AM.Tab
open Go.Proofs
theorem plan_ok : tabs.fn.allB (fun k f => match f.body with | some c => plansChk tabs.env tabs.certs k c | none => true) = true := by kernel_rfl
end Go.AM.Tab
