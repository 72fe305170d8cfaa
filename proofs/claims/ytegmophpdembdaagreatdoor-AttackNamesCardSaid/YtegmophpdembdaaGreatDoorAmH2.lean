/- A part of the proof of this claim (closed facts of the program, by evaluation). -/
import Derived.Test.YtegmophpdembdaaGreatDoorAmH0
import Derived.KernelRfl
namespace Go.AM.Tab
open Go.Proofs
noncomputable def ha14_1 : List V := [(.ptr 11 0), (.agg [(.int .i64 3), (.int .i64 0), (.int .i64 0), (.int .i64 0), (.int .i64 0), (.int .i64 0), (.int .i64 0), (.str []), (.int .i64 0), (.int .i64 0), (.str []), (.slice .nil 0 []), (.int .u32 0), (.int .i64 0), (.int .i64 0), (.slice .nil 0 []), (.slice .nil 0 [])])]
noncomputable def hr14_1 : V := (.int .i64 0)
theorem hrun14_1 : callN tabs.env pr12 200 (.fn 14 ha14_1) heap2 = some (hr14_1, heap3) := by kernel_rfl
end Go.AM.Tab
