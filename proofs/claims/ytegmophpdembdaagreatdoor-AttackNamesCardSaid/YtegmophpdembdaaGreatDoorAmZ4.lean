/- THE TIED CARD of bottomrylaw45.AttackNames: for every kind the call returns true, and the argument reads as it did. Its conditions: those of the given row (the listed package variables hold what the program text lays; the card ties them); a 64-bit int. -/
import Derived.Test.YtegmophpdembdaaGreatDoorAmTie5
import Derived.Test.YtegmophpdembdaaGreatDoorAmZ3
import Derived.Test.YtegmophpdembdaaGreatDoorAmJ4
import Derived.Test.YtegmophpdembdaaGreatDoorAmJ5
import Derived.Test.YtegmophpdembdaaGreatDoorCards
import Derived.SevenTiedAt
namespace Go.Proofs.YtegmophpdembdaaGreatDoor
open Go.ChangeShapes Go.WideShapes Go.ChangeAt Go.RowKit
theorem said : Rows.AttackNamesSaid :=
  OpenClaim.holds_of_wide 3 Tryz.f3 rfl rfl rfl rfl rfl rfl rfl ⟨rfl, rfl, rfl, rfl, rfl⟩ rfl rfl rfl rfl rfl fnamed Tryz.func3 closed inst wrapped
    (fun os started H enc _ => lifted os started H enc)

theorem z1 : Rows.attackNamesRow.wfByText (OpenSpec.ofChange Rows.attackNamesSpec) = true := by kernel_rfl
theorem z2 : Tryz.pinned.checked.prog.mainIs = some (true, "f652ff70687f1a13a422404a9a9de1c44fcc4a1e80cc0dc51b428c0e3442ca75".toList) := by kernel_rfl
theorem z3 : true = Tryz.pinned.checked.prog.looks [] := by kernel_rfl
theorem z5 : ([3].all fun u => !Tryz.prog.wantsStandIn u) = true := by kernel_rfl
theorem z6 : Tryz.prog.funcNamed "bottomry/bottomrylaw45.AttackNames" = some 3 := fnamed

theorem attackNames_card : Rows.AttackNamesCardSaid :=
  Claim7.holds_tied_plain_at .later [] [.pinned, .data, .sentinel, .sentinel, .data, .data, .data] true (true, "f652ff70687f1a13a422404a9a9de1c44fcc4a1e80cc0dc51b428c0e3442ca75") true said (fun _ h => by cases h) z1 (fun _ h => by cases h) attackNames_row_tie rfl ⟨rfl, rfl⟩ z2 rfl
    (fun f fn hf hfn => by
      obtain rfl : f = 3 := Option.some.inj (z6.symm.trans hf) |>.symm
      obtain rfl : fn = Tryz.f3 := (Option.some.inj (Tryz.func3.symm.trans hfn)).symm
      exact ⟨z3, fun j t ht => by
        rw [Tryz.params3] at ht
        have hm : t ∈ [3] := by simpa using Array.mem_of_getElem? ht
        exact (show Tryz.prog.wantsStandIn t = false by simpa using List.all_eq_true.1 z5 t hm)⟩)
    goesFalse
#print axioms attackNames_card
end Go.Proofs.YtegmophpdembdaaGreatDoor
