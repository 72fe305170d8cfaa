/- A part of the proof of this claim (closed facts of the program, by evaluation). -/
import Derived.Test.YtegmophpdembdaaGreatDoorAmT
import Derived.KernelRfl
namespace Go.AM.Tab
open Go.Proofs
theorem ti_ok : tabs.ti.allB (tiChk Tryz.prog) = true := by kernel_rfl
theorem name_ok : tabs.fn.allB (fun _ f => !(f.name == "runtime.NumGoroutine")) = true := by kernel_rfl
theorem meth_ok : tabs.meth.allB (fun x l => l.all fun p => methChk Tryz.prog x p.1 p.2) = true := by kernel_rfl
theorem envOk : EnvOk Tryz.prog tabs.env := Tabs.envOk ti_ok fns name_ok
theorem methOk : methOk Tryz.prog tabs.env := Tabs.methOk meth_ok
end Go.AM.Tab
