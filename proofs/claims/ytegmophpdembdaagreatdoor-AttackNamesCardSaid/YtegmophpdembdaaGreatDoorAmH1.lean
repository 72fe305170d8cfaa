/- A part of the proof of this claim (closed facts of the program, by evaluation). -/
import Derived.Test.YtegmophpdembdaaGreatDoorAmH0
import Derived.KernelRfl
namespace Go.AM.Tab
open Go.Proofs
noncomputable def ha14_0 : List V := [(.ptr 11 0), (.agg [(.int .i64 1), (.int .i64 4), (.int .i64 0), (.int .i64 0), (.int .i64 0), (.int .i64 0), (.int .i64 1), (.str [97]), (.int .i64 5), (.int .i64 0), (.str [48]), (.slice .free 3 [(.int .i64 0), (.int .i64 1), (.int .i64 2), (.int .i64 3)]), (.int .u32 0), (.int .i64 0), (.int .i64 0), (.slice .nil 0 []), (.slice .nil 0 [])])]
noncomputable def hr14_0 : V := (.int .i64 0)
theorem hrun14_0 : callN tabs.env pr12 200 (.fn 14 ha14_0) heap0 = some (hr14_0, heap1) := by kernel_rfl
end Go.AM.Tab
