/- A part of the proof of this claim (closed facts of the program, by evaluation). -/
import Derived.Test.YtegmophpdembdaaGreatDoorAmH1
import Derived.Test.YtegmophpdembdaaGreatDoorAmH2
import Derived.KernelRfl
namespace Go.AM.Tab
open Go.Proofs
noncomputable def hm14 : List Known := [(ha14_0, heap0, hr14_0, heap1), (ha14_1, heap2, hr14_1, heap3)]
noncomputable def pr13 : Prims := fun f => if f = 14 then some (memoH hm14) else pr12 f
theorem prOk13 : PrimOk Tryz.prog pr13 (Good Tryz.prog tabs.env) := PrimOk.memoH envOk methOk plansOk prOk12 fun a g r g' hm => by
  simp only [hm14, List.mem_cons, Prod.mk.injEq, List.not_mem_nil, or_false] at hm
  rcases hm with ⟨rfl, rfl, rfl, rfl⟩ | ⟨rfl, rfl, rfl, rfl⟩
  · exact ⟨_, hrun14_0⟩
  · exact ⟨_, hrun14_1⟩

end Go.AM.Tab
namespace Go.AM.Tab
open Go.Proofs
theorem run4 : callN tabs.env pr13 200 (.fn 4 []) [] = some (.bool true, []) := by kernel_rfl
noncomputable def m4 : List (List V × V) := [([], .bool true)]
noncomputable def pr14 : Prims := fun f => if f = 4 then some (fun args h => (memoT m4 args).map (·, h)) else pr13 f
theorem prOk14 : PrimOk Tryz.prog pr14 (Good Tryz.prog tabs.env) := PrimOk.memo envOk methOk plansOk prOk13 fun a r hm => by
  simp only [m4, List.mem_cons, Prod.mk.injEq, List.not_mem_nil, or_false] at hm
  rcases hm with ⟨rfl, rfl⟩
  · exact ⟨⟨rfl, rfl⟩, _, run4⟩
end Go.AM.Tab
