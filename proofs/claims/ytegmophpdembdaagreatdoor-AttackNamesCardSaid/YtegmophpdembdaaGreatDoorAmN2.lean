/- A part of the proof of this claim (closed facts of the program, by evaluation). -/
import Derived.Test.YtegmophpdembdaaGreatDoorAmG
import Derived.KernelRfl
namespace Go.AM.Tab
open Go.Proofs

def c1 : Code → Code | .seq a _ => a | c => c
def c2 : Code → Code | .seq _ b => b | c => c
def inB : Code → Code | .block _ b => b | .loop b => b | c => c
def opsOf : Code → List Oper | .region _ ops _ => ops.toList | _ => []
noncomputable def body3 : Code := Tryz.f3.body.getD .skip
noncomputable def b0 : Code := c2 (c1 (c2 (c2 (c2 body3))))
noncomputable def lb : Code := inB (inB b0)
noncomputable def tail3 : Code := c2 (c2 (c2 (c2 body3)))
noncomputable def R3 : Rec := ⟨callN tabs.env pr14 199⟩
noncomputable def h3 : Heap := [.list 9 1 [(.str [115, 105, 108, 101, 110, 99, 101]), (.str [102, 97, 99, 101, 115]), (.str [118, 111, 116, 101, 115]), (.str [118, 111, 117, 99, 104, 101, 115]), (.str [99, 104, 97, 110, 103, 101, 115]), (.str [115, 116, 111, 114, 109])]]
noncomputable def cond18 : Code := c2 (c2 (inB (c1 (c2 (c2 lb)))))
noncomputable def r9 : Code := c2 (c2 (c2 lb))

noncomputable def S3 (x : Int) : Nat → List V
  | 0 => [(.int .i64 x), undefV, (.bool false), (.str [63]), undefV, undefV, (.bool true), (.bool false), (.mslice 0 1 9 0 6 none), (.int .i64 6), (.int .i64 0), undefV, undefV, undefV, undefV, undefV, undefV, undefV, undefV, undefV, undefV, undefV, undefV, undefV, undefV]
  | 1 => [(.int .i64 x), undefV, (.bool false), (.str [63]), (.int .i64 0), (.str [115, 105, 108, 101, 110, 99, 101]), (.bool true), (.bool false), (.mslice 0 1 9 0 6 none), (.int .i64 6), (.int .i64 1), (.bool true), (.int .i64 0), (.lst 0 1 9 0 0), (.str [115, 105, 108, 101, 110, 99, 101]), (.int .i64 x), (.int .i64 (IntKind.i64.wrap (x - 1))), (.int .i64 0), (.bool false), undefV, (.int .i64 1), undefV, undefV, undefV, undefV]
  | 2 => [(.int .i64 x), undefV, (.bool false), (.str [63]), (.int .i64 1), (.str [102, 97, 99, 101, 115]), (.bool true), (.bool false), (.mslice 0 1 9 0 6 none), (.int .i64 6), (.int .i64 2), (.bool true), (.int .i64 1), (.lst 0 1 9 1 0), (.str [102, 97, 99, 101, 115]), (.int .i64 x), (.int .i64 (IntKind.i64.wrap (x - 1))), (.int .i64 1), (.bool false), undefV, (.int .i64 2), undefV, undefV, undefV, undefV]
  | 3 => [(.int .i64 x), undefV, (.bool false), (.str [63]), (.int .i64 2), (.str [118, 111, 116, 101, 115]), (.bool true), (.bool false), (.mslice 0 1 9 0 6 none), (.int .i64 6), (.int .i64 3), (.bool true), (.int .i64 2), (.lst 0 1 9 2 0), (.str [118, 111, 116, 101, 115]), (.int .i64 x), (.int .i64 (IntKind.i64.wrap (x - 1))), (.int .i64 2), (.bool false), undefV, (.int .i64 3), undefV, undefV, undefV, undefV]
  | 4 => [(.int .i64 x), undefV, (.bool false), (.str [63]), (.int .i64 3), (.str [118, 111, 117, 99, 104, 101, 115]), (.bool true), (.bool false), (.mslice 0 1 9 0 6 none), (.int .i64 6), (.int .i64 4), (.bool true), (.int .i64 3), (.lst 0 1 9 3 0), (.str [118, 111, 117, 99, 104, 101, 115]), (.int .i64 x), (.int .i64 (IntKind.i64.wrap (x - 1))), (.int .i64 3), (.bool false), undefV, (.int .i64 4), undefV, undefV, undefV, undefV]
  | 5 => [(.int .i64 x), undefV, (.bool false), (.str [63]), (.int .i64 4), (.str [99, 104, 97, 110, 103, 101, 115]), (.bool true), (.bool false), (.mslice 0 1 9 0 6 none), (.int .i64 6), (.int .i64 5), (.bool true), (.int .i64 4), (.lst 0 1 9 4 0), (.str [99, 104, 97, 110, 103, 101, 115]), (.int .i64 x), (.int .i64 (IntKind.i64.wrap (x - 1))), (.int .i64 4), (.bool false), undefV, (.int .i64 5), undefV, undefV, undefV, undefV]
  | 6 => [(.int .i64 x), undefV, (.bool false), (.str [63]), (.int .i64 5), (.str [115, 116, 111, 114, 109]), (.bool true), (.bool false), (.mslice 0 1 9 0 6 none), (.int .i64 6), (.int .i64 6), (.bool true), (.int .i64 5), (.lst 0 1 9 5 0), (.str [115, 116, 111, 114, 109]), (.int .i64 x), (.int .i64 (IntKind.i64.wrap (x - 1))), (.int .i64 5), (.bool false), undefV, (.int .i64 6), undefV, undefV, undefV, undefV]
  | _ => []
noncomputable def M3 (x : Int) (c : Bool) : Nat → List V
  | 0 => [(.int .i64 x), undefV, (.bool false), (.str [63]), (.int .i64 0), (.str [115, 105, 108, 101, 110, 99, 101]), (.bool true), (.bool false), (.mslice 0 1 9 0 6 none), (.int .i64 6), (.int .i64 0), (.bool true), (.int .i64 0), (.lst 0 1 9 0 0), (.str [115, 105, 108, 101, 110, 99, 101]), (.int .i64 x), (.int .i64 (IntKind.i64.wrap (x - 1))), (.int .i64 0), (.bool c), undefV, undefV, undefV, undefV, undefV, undefV]
  | 1 => [(.int .i64 x), undefV, (.bool false), (.str [63]), (.int .i64 1), (.str [102, 97, 99, 101, 115]), (.bool true), (.bool false), (.mslice 0 1 9 0 6 none), (.int .i64 6), (.int .i64 1), (.bool true), (.int .i64 1), (.lst 0 1 9 1 0), (.str [102, 97, 99, 101, 115]), (.int .i64 x), (.int .i64 (IntKind.i64.wrap (x - 1))), (.int .i64 1), (.bool c), undefV, (.int .i64 1), undefV, undefV, undefV, undefV]
  | 2 => [(.int .i64 x), undefV, (.bool false), (.str [63]), (.int .i64 2), (.str [118, 111, 116, 101, 115]), (.bool true), (.bool false), (.mslice 0 1 9 0 6 none), (.int .i64 6), (.int .i64 2), (.bool true), (.int .i64 2), (.lst 0 1 9 2 0), (.str [118, 111, 116, 101, 115]), (.int .i64 x), (.int .i64 (IntKind.i64.wrap (x - 1))), (.int .i64 2), (.bool c), undefV, (.int .i64 2), undefV, undefV, undefV, undefV]
  | 3 => [(.int .i64 x), undefV, (.bool false), (.str [63]), (.int .i64 3), (.str [118, 111, 117, 99, 104, 101, 115]), (.bool true), (.bool false), (.mslice 0 1 9 0 6 none), (.int .i64 6), (.int .i64 3), (.bool true), (.int .i64 3), (.lst 0 1 9 3 0), (.str [118, 111, 117, 99, 104, 101, 115]), (.int .i64 x), (.int .i64 (IntKind.i64.wrap (x - 1))), (.int .i64 3), (.bool c), undefV, (.int .i64 3), undefV, undefV, undefV, undefV]
  | 4 => [(.int .i64 x), undefV, (.bool false), (.str [63]), (.int .i64 4), (.str [99, 104, 97, 110, 103, 101, 115]), (.bool true), (.bool false), (.mslice 0 1 9 0 6 none), (.int .i64 6), (.int .i64 4), (.bool true), (.int .i64 4), (.lst 0 1 9 4 0), (.str [99, 104, 97, 110, 103, 101, 115]), (.int .i64 x), (.int .i64 (IntKind.i64.wrap (x - 1))), (.int .i64 4), (.bool c), undefV, (.int .i64 4), undefV, undefV, undefV, undefV]
  | 5 => [(.int .i64 x), undefV, (.bool false), (.str [63]), (.int .i64 5), (.str [115, 116, 111, 114, 109]), (.bool true), (.bool false), (.mslice 0 1 9 0 6 none), (.int .i64 6), (.int .i64 5), (.bool true), (.int .i64 5), (.lst 0 1 9 5 0), (.str [115, 116, 111, 114, 109]), (.int .i64 x), (.int .i64 (IntKind.i64.wrap (x - 1))), (.int .i64 5), (.bool c), undefV, (.int .i64 5), undefV, undefV, undefV, undefV]
  | _ => []
noncomputable def E3 (x : Int) : List V := [(.int .i64 x), undefV, (.bool false), (.str [63]), (.int .i64 5), (.str [115, 116, 111, 114, 109]), (.bool true), (.bool false), (.mslice 0 1 9 0 6 none), (.int .i64 6), (.int .i64 6), (.bool false), (.int .i64 5), (.lst 0 1 9 5 0), (.str [115, 116, 111, 114, 109]), (.int .i64 x), (.int .i64 (IntKind.i64.wrap (x - 1))), (.int .i64 5), (.bool false), undefV, (.int .i64 6), undefV, undefV, undefV, undefV]

theorem pre3 (L : LoopF) (x : Int) : exec tabs.env R3 L 3 none body3 ⟨[.int .i64 x] ++ List.replicate 24 undefV, []⟩ = exec tabs.env R3 L 3 none (.seq b0 tail3) ⟨S3 x 0, h3⟩ := by kernel_rfl

theorem it0a (L : LoopF) (x : Int) : exec tabs.env R3 L 3 none lb ⟨S3 x 0, h3⟩ = exec tabs.env R3 L 3 none (.seq (.block 1 cond18) r9) ⟨M3 x (IntKind.i64.wrap (x - 1) == 0) 0, h3⟩ := by kernel_rfl
theorem it0b (L : LoopF) (x : Int) : exec tabs.env R3 L 3 none (.seq (.block 1 cond18) r9) ⟨M3 x false 0, h3⟩ = some (.normal, ⟨S3 x 1, h3⟩) := by kernel_rfl
theorem it1a (L : LoopF) (x : Int) : exec tabs.env R3 L 3 none lb ⟨S3 x 1, h3⟩ = exec tabs.env R3 L 3 none (.seq (.block 1 cond18) r9) ⟨M3 x (IntKind.i64.wrap (x - 1) == 1) 1, h3⟩ := by kernel_rfl
theorem it1b (L : LoopF) (x : Int) : exec tabs.env R3 L 3 none (.seq (.block 1 cond18) r9) ⟨M3 x false 1, h3⟩ = some (.normal, ⟨S3 x 2, h3⟩) := by kernel_rfl
theorem it2a (L : LoopF) (x : Int) : exec tabs.env R3 L 3 none lb ⟨S3 x 2, h3⟩ = exec tabs.env R3 L 3 none (.seq (.block 1 cond18) r9) ⟨M3 x (IntKind.i64.wrap (x - 1) == 2) 2, h3⟩ := by kernel_rfl
theorem it2b (L : LoopF) (x : Int) : exec tabs.env R3 L 3 none (.seq (.block 1 cond18) r9) ⟨M3 x false 2, h3⟩ = some (.normal, ⟨S3 x 3, h3⟩) := by kernel_rfl
theorem it3a (L : LoopF) (x : Int) : exec tabs.env R3 L 3 none lb ⟨S3 x 3, h3⟩ = exec tabs.env R3 L 3 none (.seq (.block 1 cond18) r9) ⟨M3 x (IntKind.i64.wrap (x - 1) == 3) 3, h3⟩ := by kernel_rfl
theorem it3b (L : LoopF) (x : Int) : exec tabs.env R3 L 3 none (.seq (.block 1 cond18) r9) ⟨M3 x false 3, h3⟩ = some (.normal, ⟨S3 x 4, h3⟩) := by kernel_rfl
theorem it4a (L : LoopF) (x : Int) : exec tabs.env R3 L 3 none lb ⟨S3 x 4, h3⟩ = exec tabs.env R3 L 3 none (.seq (.block 1 cond18) r9) ⟨M3 x (IntKind.i64.wrap (x - 1) == 4) 4, h3⟩ := by kernel_rfl
theorem it4b (L : LoopF) (x : Int) : exec tabs.env R3 L 3 none (.seq (.block 1 cond18) r9) ⟨M3 x false 4, h3⟩ = some (.normal, ⟨S3 x 5, h3⟩) := by kernel_rfl
theorem it5a (L : LoopF) (x : Int) : exec tabs.env R3 L 3 none lb ⟨S3 x 5, h3⟩ = exec tabs.env R3 L 3 none (.seq (.block 1 cond18) r9) ⟨M3 x (IntKind.i64.wrap (x - 1) == 5) 5, h3⟩ := by kernel_rfl
theorem it5b (L : LoopF) (x : Int) : exec tabs.env R3 L 3 none (.seq (.block 1 cond18) r9) ⟨M3 x false 5, h3⟩ = some (.normal, ⟨S3 x 6, h3⟩) := by kernel_rfl
theorem it6 (L : LoopF) (x : Int) : exec tabs.env R3 L 3 none lb ⟨S3 x 6, h3⟩ = some (.exit 0, ⟨E3 x, h3⟩) := by kernel_rfl

/-! ### attack.Name -/
noncomputable def body5 : Code := Tryz.f5.body.getD .skip
noncomputable def R5 : Rec := ⟨callN tabs.env pr14 198⟩
noncomputable def h5 : Heap := h3 ++ [.cells [(.str [63]), (.str [115, 105, 108, 101, 110, 99, 101]), (.str [102, 97, 99, 101, 115]), (.str [118, 111, 116, 101, 115]), (.str [118, 111, 117, 99, 104, 101, 115]), (.str [99, 104, 97, 110, 103, 101, 115]), (.str [115, 116, 111, 114, 109])]]
noncomputable def r2c : Code := c1 (c1 (c2 (c2 body5)))
noncomputable def c10c : Code := c2 (c1 (c2 (c2 body5)))
noncomputable def tail5 : Code := c2 (c2 (c2 body5))
noncomputable def o2 : List Oper := opsOf r2c
noncomputable def T1 (x : Int) : List V := [(.int .i64 x), undefV, (.str []), (.ptr 1 0), (.agg [(.str [63]), (.str [115, 105, 108, 101, 110, 99, 101]), (.str [102, 97, 99, 101, 115]), (.str [118, 111, 116, 101, 115]), (.str [118, 111, 117, 99, 104, 101, 115]), (.str [99, 104, 97, 110, 103, 101, 115]), (.str [115, 116, 111, 114, 109])]), undefV, undefV, undefV, undefV, undefV, undefV, undefV, undefV, undefV, undefV, undefV]
noncomputable def T2 (x : Int) (c : Bool) : List V := [(.int .i64 x), undefV, (.str []), (.ptr 1 0), (.agg [(.str [63]), (.str [115, 105, 108, 101, 110, 99, 101]), (.str [102, 97, 99, 101, 115]), (.str [118, 111, 116, 101, 115]), (.str [118, 111, 117, 99, 104, 101, 115]), (.str [99, 104, 97, 110, 103, 101, 115]), (.str [115, 116, 111, 114, 109])]), (.int .i64 x), (.bool c), (.bool c), undefV, undefV, undefV, undefV, undefV, undefV, undefV, undefV]
noncomputable def TA (x : Int) : List V := [(.int .i64 x), undefV, (.str []), (.ptr 1 0), (.agg [(.str [63]), (.str [115, 105, 108, 101, 110, 99, 101]), (.str [102, 97, 99, 101, 115]), (.str [118, 111, 116, 101, 115]), (.str [118, 111, 117, 99, 104, 101, 115]), (.str [99, 104, 97, 110, 103, 101, 115]), (.str [115, 116, 111, 114, 109])]), (.int .i64 x), (.bool true), (.bool true), undefV, undefV, (.bool true), undefV, undefV, undefV, undefV, undefV]
noncomputable def TB (x : Int) (c : Bool) : List V := [(.int .i64 x), undefV, (.str []), (.ptr 1 0), (.agg [(.str [63]), (.str [115, 105, 108, 101, 110, 99, 101]), (.str [102, 97, 99, 101, 115]), (.str [118, 111, 116, 101, 115]), (.str [118, 111, 117, 99, 104, 101, 115]), (.str [99, 104, 97, 110, 103, 101, 115]), (.str [115, 116, 111, 114, 109])]), (.int .i64 x), (.bool false), (.bool false), (.int .i64 x), (.bool c), (.bool c), undefV, undefV, undefV, undefV, undefV]
noncomputable def TAe (x : Int) : List V := [(.int .i64 x), undefV, (.str [63]), (.ptr 1 0), (.agg [(.str [63]), (.str [115, 105, 108, 101, 110, 99, 101]), (.str [102, 97, 99, 101, 115]), (.str [118, 111, 116, 101, 115]), (.str [118, 111, 117, 99, 104, 101, 115]), (.str [99, 104, 97, 110, 103, 101, 115]), (.str [115, 116, 111, 114, 109])]), (.int .i64 x), (.bool true), (.bool true), undefV, undefV, (.bool true), (.ptr 1 0), (.str [63]), undefV, undefV, undefV]
noncomputable def TBe (x : Int) : List V := [(.int .i64 x), undefV, (.str [63]), (.ptr 1 0), (.agg [(.str [63]), (.str [115, 105, 108, 101, 110, 99, 101]), (.str [102, 97, 99, 101, 115]), (.str [118, 111, 116, 101, 115]), (.str [118, 111, 117, 99, 104, 101, 115]), (.str [99, 104, 97, 110, 103, 101, 115]), (.str [115, 116, 111, 114, 109])]), (.int .i64 x), (.bool false), (.bool false), (.int .i64 x), (.bool true), (.bool true), (.ptr 1 0), (.str [63]), undefV, undefV, undefV]

theorem exec_seq {E : Env} {R : Rec} {L : LoopF} {f : FuncId} {ro : Option Nat} {a b : Code} {s : St} : exec E R L f ro (.seq a b) s = (match exec E R L f ro a s with
  | some (.normal, s') => exec E R L f ro b s'
  | r => r) := by
  cases h : exec E R L f ro a s with
  | none => simp only [exec, h]
  | some p => obtain ⟨e, s'⟩ := p; cases e <;> simp only [exec, h]

theorem pre5 (L : LoopF) (x : Int) : exec tabs.env R5 L 5 none body5 ⟨[.int .i64 x] ++ List.replicate 15 undefV, h3⟩ = exec tabs.env R5 L 5 none (.seq (.seq r2c c10c) tail5) ⟨T1 x, h5⟩ := by kernel_rfl
theorem r2a (L : LoopF) (x : Int) : exec tabs.env R5 L 5 none r2c ⟨T1 x, h5⟩ = Option.map (fun s => (Ex.normal, s)) (runV tabs.env R5 o2 (o2.drop 3) ⟨T2 x (decide (x < 1)), h5⟩) := by kernel_rfl
theorem r2A (x : Int) : Option.map (fun s => (Ex.normal, s)) (runV tabs.env R5 o2 (o2.drop 3) ⟨T2 x true, h5⟩) = some (.normal, ⟨TA x, h5⟩) := by kernel_rfl
theorem r2B (x : Int) : Option.map (fun s => (Ex.normal, s)) (runV tabs.env R5 o2 (o2.drop 3) ⟨T2 x false, h5⟩) = some (.normal, ⟨TB x (decide (x > 6)), h5⟩) := by kernel_rfl
theorem endA (L : LoopF) (x : Int) : exec tabs.env R5 L 5 none c10c ⟨TA x, h5⟩ = some (.ret, ⟨TAe x, h5⟩) := by kernel_rfl
theorem endB (L : LoopF) (x : Int) : exec tabs.env R5 L 5 none c10c ⟨TB x true, h5⟩ = some (.ret, ⟨TBe x, h5⟩) := by kernel_rfl
theorem call5 (x : Int) : callN tabs.env pr14 199 (.fn 5 [.int .i64 x]) h3 = (match exec tabs.env R5 (loopN 198) 5 none body5 ⟨[.int .i64 x] ++ List.replicate 15 undefV, h3⟩ with
  | some (.exit _, _) => none
  | some (_, s) => match resultV tabs.env s.T s.h [.tmp 2] with
    | some vs => finish .trim 1 (tupleV vs) s.h
    | none => none
  | none => none) := by kernel_rfl
theorem finA (x : Int) : (match resultV tabs.env (TAe x) h5 [.tmp 2] with
    | some vs => finish .trim 1 (tupleV vs) h5
    | none => none) = some (.str [63], h3) := by kernel_rfl
theorem finB (x : Int) : (match resultV tabs.env (TBe x) h5 [.tmp 2] with
    | some vs => finish .trim 1 (tupleV vs) h5
    | none => none) = some (.str [63], h3) := by kernel_rfl
theorem name_out (x : Int) (hx : x < 1 ∨ x > 6) : callN tabs.env pr14 199 (.fn 5 [.int .i64 x]) h3 = some (.str [63], h3) := by
  rw [call5, pre5, exec_seq, exec_seq, r2a]
  by_cases h : x < 1
  · rw [decide_eq_true h, r2A]
    simp only [endA]
    exact finA x
  · have h6 : x > 6 := hx.resolve_left h
    rw [decide_eq_false h, r2B, decide_eq_true h6]
    simp only [endB]
    exact finB x

/-! ### AttackNames -/
noncomputable def o10 : List Oper := opsOf (c1 tail3)
noncomputable def o10b : Oper := o10.getD 1 default
noncomputable def E21 (x : Int) : List V := [(.int .i64 x), undefV, (.bool false), (.str [63]), (.int .i64 5), (.str [115, 116, 111, 114, 109]), (.bool true), (.bool false), (.mslice 0 1 9 0 6 none), (.int .i64 6), (.int .i64 6), (.bool false), (.int .i64 5), (.lst 0 1 9 5 0), (.str [115, 116, 111, 114, 109]), (.int .i64 x), (.int .i64 (IntKind.i64.wrap (x - 1))), (.int .i64 5), (.bool false), undefV, (.int .i64 6), (.int .i64 x), undefV, undefV, undefV]
noncomputable def E24 (x : Int) : List V := [(.int .i64 x), undefV, (.bool true), (.str [63]), (.int .i64 5), (.str [115, 116, 111, 114, 109]), (.bool true), (.bool false), (.mslice 0 1 9 0 6 none), (.int .i64 6), (.int .i64 6), (.bool false), (.int .i64 5), (.lst 0 1 9 5 0), (.str [115, 116, 111, 114, 109]), (.int .i64 x), (.int .i64 (IntKind.i64.wrap (x - 1))), (.int .i64 5), (.bool false), undefV, (.int .i64 6), (.int .i64 x), (.str [63]), (.str [63]), (.bool true)]

theorem exec_block {E : Env} {R : Rec} {L : LoopF} {f : FuncId} {ro : Option Nat} {id : Nat} {b : Code} {s : St} : exec E R L f ro (.block id b) s = (match exec E R L f ro b s with
  | some (.exit i, s') => if i = id then some (.normal, s') else some (.exit i, s')
  | r => r) := by
  cases h : exec E R L f ro b s with
  | none => simp only [exec, h]
  | some p => obtain ⟨e, s'⟩ := p; cases e <;> simp only [exec, h]

theorem call3 (x : Int) : callN tabs.env pr14 200 (.fn 3 [.int .i64 x]) [] = (match exec tabs.env R3 (loopN 199) 3 none body3 ⟨[.int .i64 x] ++ List.replicate 24 undefV, []⟩ with
  | some (.exit _, _) => none
  | some (_, s) => match resultV tabs.env s.T s.h [.tmp 2] with
    | some vs => finish .trim 0 (tupleV vs) s.h
    | none => none
  | none => none) := by kernel_rfl
theorem b0_eq : b0 = .block 0 (.loop lb) := by kernel_rfl
theorem tail_eq : tail3 = .seq (c1 tail3) .ret := by kernel_rfl
theorem tailA (L : LoopF) (x : Int) : exec tabs.env R3 L 3 none (c1 tail3) ⟨E3 x, h3⟩ = Option.map (fun s => (Ex.normal, s)) (runV tabs.env R3 o10 (o10b :: o10.drop 2) ⟨E21 x, h3⟩) := by kernel_rfl
theorem tailB (x : Int) : stepV tabs.env R3 o10 ⟨E21 x, h3⟩ o10b = (match callN tabs.env pr14 199 (.fn 5 [.int .i64 x]) h3 with
  | some (v, h') => some ⟨setT (E21 x) 22 v, h'⟩
  | none => none) := by kernel_rfl
theorem tailC (x : Int) : runV tabs.env R3 o10 (o10.drop 2) ⟨setT (E21 x) 22 (.str [63]), h3⟩ = some ⟨E24 x, h3⟩ := by kernel_rfl
theorem fin3 (x : Int) : (match resultV tabs.env (E24 x) h3 [.tmp 2] with
    | some vs => finish .trim 0 (tupleV vs) h3
    | none => none) = some (.bool true, []) := by kernel_rfl

theorem wrap_ne (x : Int) (lo : -(2 ^ 63) ≤ x) (hi : x < 2 ^ 63) (hx : x < 1 ∨ x > 6) (i : Int) (h0 : 0 ≤ i) (h5 : i ≤ 5) : (IntKind.i64.wrap (x - 1) == i) = false := by
  rw [beq_eq_false_iff_ne]
  simp only [IntKind.wrap, IntKind.bits, IntKind.signed]
  intro h
  simp only [Bool.true_and, decide_eq_true_eq, show (2 : Int) ^ (64 - 1) = 9223372036854775808 from rfl, show (2 : Int) ^ 64 = 18446744073709551616 from rfl] at h
  split at h <;> omega

theorem exec_loop {E : Env} {R : Rec} {L : LoopF} {f : FuncId} {ro : Option Nat} {b : Code} {s : St} : exec E R L f ro (.loop b) s = L (exec E R L f ro b) s := by simp only [exec]
theorem exec_ret {E : Env} {R : Rec} {L : LoopF} {f : FuncId} {ro : Option Nat} {s : St} : exec E R L f ro .ret s = some (.ret, s) := by simp only [exec]
theorem runV_cons {E : Env} {R : Rec} {ops : List Oper} {o : Oper} {l : List Oper} {s : St} : runV E R ops (o :: l) s = (match stepV E R ops s o with
  | some s' => runV E R ops l s'
  | none => none) := by
  cases h : stepV E R ops s o <;> simp only [runV, h]
theorem loop7 (n : Nat) (b : St → Option (Ex × St)) {s0 s1 s2 s3 s4 s5 s6 e : St} (a0 : b s0 = some (.normal, s1)) (a1 : b s1 = some (.normal, s2)) (a2 : b s2 = some (.normal, s3)) (a3 : b s3 = some (.normal, s4)) (a4 : b s4 = some (.normal, s5))
    (a5 : b s5 = some (.normal, s6)) (a6 : b s6 = some (.exit 0, e)) : loopN (n + 7) b s0 = some (.exit 0, e) := by
  simp only [loopN, a0, a1, a2, a3, a4, a5, a6]

theorem names_out (x : Int) (lo : -(2 ^ 63) ≤ x) (hi : x < 2 ^ 63) (hx : x < 1 ∨ x > 6) : callN tabs.env pr14 200 (.fn 3 [.int .i64 x]) [] = some (.bool true, []) := by
  have w := wrap_ne x lo hi hx
  have i0 := fun L => (it0a L x).trans ((congrArg (fun c => exec tabs.env R3 L 3 none (.seq (.block 1 cond18) r9) ⟨M3 x c 0, h3⟩) (w 0 (by omega) (by omega))).trans (it0b L x))
  have i1 := fun L => (it1a L x).trans ((congrArg (fun c => exec tabs.env R3 L 3 none (.seq (.block 1 cond18) r9) ⟨M3 x c 1, h3⟩) (w 1 (by omega) (by omega))).trans (it1b L x))
  have i2 := fun L => (it2a L x).trans ((congrArg (fun c => exec tabs.env R3 L 3 none (.seq (.block 1 cond18) r9) ⟨M3 x c 2, h3⟩) (w 2 (by omega) (by omega))).trans (it2b L x))
  have i3 := fun L => (it3a L x).trans ((congrArg (fun c => exec tabs.env R3 L 3 none (.seq (.block 1 cond18) r9) ⟨M3 x c 3, h3⟩) (w 3 (by omega) (by omega))).trans (it3b L x))
  have i4 := fun L => (it4a L x).trans ((congrArg (fun c => exec tabs.env R3 L 3 none (.seq (.block 1 cond18) r9) ⟨M3 x c 4, h3⟩) (w 4 (by omega) (by omega))).trans (it4b L x))
  have i5 := fun L => (it5a L x).trans ((congrArg (fun c => exec tabs.env R3 L 3 none (.seq (.block 1 cond18) r9) ⟨M3 x c 5, h3⟩) (w 5 (by omega) (by omega))).trans (it5b L x))
  have hl : loopN 199 (exec tabs.env R3 (loopN 199) 3 none lb) ⟨S3 x 0, h3⟩ = some (.exit 0, ⟨E3 x, h3⟩) :=
    loop7 192 _ (i0 _) (i1 _) (i2 _) (i3 _) (i4 _) (i5 _) (it6 _ x)
  rw [call3, pre3, exec_seq, b0_eq, exec_block, exec_loop, hl]
  simp only [if_true]
  rw [tail_eq, exec_seq, tailA, runV_cons, tailB, name_out x hx]
  simp only [tailC, Option.map_some, exec_ret]
  exact fin3 x

theorem names_run (x : Int) (lo : -(2 ^ 63) ≤ x) (hi : x < 2 ^ 63) : callN tabs.env pr14 200 (.fn 3 [.int .i64 x]) [] = some (.bool true, []) := by
  by_cases hx : x < 1 ∨ x > 6
  · exact names_out x lo hi hx
  · obtain h | h | h | h | h | h : x = 1 ∨ x = 2 ∨ x = 3 ∨ x = 4 ∨ x = 5 ∨ x = 6 := by omega
    · subst h; kernel_rfl
    · subst h; kernel_rfl
    · subst h; kernel_rfl
    · subst h; kernel_rfl
    · subst h; kernel_rfl
    · subst h; kernel_rfl
end Go.AM.Tab
