/- A part of the proof of this claim (closed facts of the program, by evaluation). -/
import Derived.Test.YtegmophpdembdaaGreatDoorRows
import GoSem.ClaimGoes
import Derived.KernelRfl
namespace Go.Proofs.YtegmophpdembdaaGreatDoor
open Go

theorem goes_none {P : Program} (h : P.funcs.toList.any Func.goes = false) (f : FuncId) : P.goes f = false := by
  have hall : ∀ fn ∈ P.funcs.toList, Func.goes fn = false := fun fn hm => by
    have := List.any_eq_false.1 h fn hm
    simpa using this
  have hg : ∀ g : Nat, (P.funcs[g]?).any Func.goes = false := fun g => by
    cases hx : P.funcs[g]? with
    | none => rfl
    | some fn => exact hall fn (Array.mem_toList_iff.2 (Array.mem_of_getElem? hx))
  unfold Program.goes
  have h1 : ((P.closure f).any fun g => (P.funcs[g]?).any Func.goes) = false := List.any_eq_false.2 fun g _ => by rw [hg g]; simp
  have h2 : P.funcs.any Func.goes = false := by rw [← Array.any_toList]; exact h
  rw [h1, h2]
  simp
theorem noGo : Tryz.prog.funcs.toList.any Func.goes = false := by kernel_rfl
theorem progIs : Tryz.pinned.checked.prog = Tryz.prog := by kernel_rfl
theorem goesFalse : false = Rows.attackNamesRow.goesBy Tryz.pinned.checked.prog := by
  rw [progIs]
  have hgo : ∀ f, Tryz.prog.goes f = false := goes_none noGo
  have h : ∀ o : Option FuncId, o.any Tryz.prog.goes = false := fun o => by
    cases o with
    | none => rfl
    | some f => rw [Option.any_some, hgo f]
  have hs : Rows.attackNamesRow.start = .entering := rfl
  unfold OpenClaim.goesBy Program.goesAt Program.goesFrom
  rw [h, hs]
  rfl
end Go.Proofs.YtegmophpdembdaaGreatDoor
