/- A part of the proof of this claim (closed facts of the program, by evaluation). -/
import Derived.Test.YtegmophpdembdaaGreatDoorAmC1
import Derived.Test.YtegmophpdembdaaGreatDoorAmC2
namespace Go.AM.Tab
open Go.Proofs
theorem plansOk : ∀ f fn c, tabs.env.fn f = some fn → fn.body = some c → PlansOk Tryz.prog tabs.env f c := Tabs.plansOk envOk methOk plan_ok
end Go.AM.Tab
