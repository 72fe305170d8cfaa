/- The abstract machine: checks of plans and tables, by evaluation; what a run in the empty heap says of the program. -/
import Derived.Test.YtegmophpdembdaaGreatDoorAmE
import Derived.ChangeSame
/- AM: a check for plans. -/
namespace Go.AM
variable {E : Env} {ops : Array Oper} {p : Plan}

/-- what a plan is checked with: each operation's place, what surely comes first (bits), its kind -/
structure PCert where
  pos : List Nat
  anc : List Nat
  cls : List Cls
  /-- an order for each of the two modes of the model -/
  text : List Nat
  gc : List Nat

def Cls.isEff : Cls → Bool | .eff => true | _ => false
def Cls.isAlloc : Cls → Bool | .alloc => true | _ => false
def Cls.isRead : Cls → Bool | .read => true | _ => false

def PCert.P (c : PCert) (i : Nat) : Nat := c.pos.getD i 0
def PCert.A (c : PCert) (i j : Nat) : Bool := (c.anc.getD i 0).testBit j
def PCert.C (c : PCert) (i : Nat) : Cls := c.cls.getD i .pure

def allLt (n : Nat) (f : Nat → Bool) : Bool := (List.range n).all f

theorem allLt_iff {n : Nat} {f : Nat → Bool} (h : allLt n f = true) {i : Nat} (hi : i < n) : f i = true := by
  unfold allLt at h
  rw [List.all_eq_true] at h
  exact h i (List.mem_range.2 hi)

def orAll (m : List Nat) : List Edge → Nat
  | [] => 0
  | e :: l => if Region.binds .any e then (1 <<< e.on) ||| (m.getD e.on 0 ||| orAll m l) else orAll m l

theorem orAll_spec {m : List Nat} {j : Nat} : ∀ {l : List Edge}, (orAll m l).testBit j = true → ∃ e ∈ l, Region.binds .any e = true ∧ (e.on = j ∨ (m.getD e.on 0).testBit j = true)
  | [], h => by simp [orAll] at h
  | e :: l, h => by
    simp only [orAll] at h
    split at h
    · rename_i hb
      rw [Nat.testBit_or, Nat.testBit_or, Bool.or_eq_true, Bool.or_eq_true] at h
      rcases h with h | h | h
      · refine ⟨e, List.mem_cons_self, hb, .inl ?_⟩
        rw [Nat.testBit_shiftLeft] at h
        simp only [Bool.and_eq_true, decide_eq_true_eq] at h
        obtain ⟨h1, h2⟩ := h
        have : j - e.on = 0 := by
          rcases Nat.eq_zero_or_pos (j - e.on) with h0 | h0
          · exact h0
          · exfalso
            rw [Nat.testBit_one_eq_true_iff_self_eq_zero] at h2
            omega
        omega
      · exact ⟨e, List.mem_cons_self, hb, .inr h⟩
      · obtain ⟨e', h1, h2, h3⟩ := orAll_spec h
        exact ⟨e', List.mem_cons_of_mem _ h1, h2, h3⟩
    · obtain ⟨e', h1, h2, h3⟩ := orAll_spec h
      exact ⟨e', List.mem_cons_of_mem _ h1, h2, h3⟩

section
variable (E ops p) (c : PCert)

def afterL (l : List Oper) (i : Nat) : List Edge := match l[i]? with | some o => o.after.toList | none => []
def dstL (l : List Oper) (i : Nat) : Option Tmp := match l[i]? with | some o => o.dst | none => none

def opTmps : List Operand → List Tmp
  | [] => []
  | .tmp t :: l => t :: opTmps l
  | _ :: l => opTmps l

def looksL (l : List Oper) (i : Nat) : List Tmp := match l[i]? with
  | some o => opTmps o.op.operands.toList ++ (match o.guard with
    | some (g, _) => (match dstL l g with | some d => [d] | none => [])
    | none => [])
  | none => []

def ck0 : Bool := p.order.length == ops.toList.length && allLt ops.toList.length (fun i => p.order[c.P i]? == some i && (match p.order[i]? with | some j => decide (j < ops.toList.length) && c.P j == i | none => false))
def ck1 : Bool := allLt ops.toList.length fun i => c.anc.getD i 0 == orAll c.anc (afterL ops.toList i)
def ck2 : Bool := allLt ops.toList.length fun i => (afterL ops.toList i).all fun e => !Region.binds .any e || (decide (e.on < ops.toList.length) && decide (c.P e.on < c.P i))
def ck3 : Bool := (ops.toList.all fun o => o.after.toList.all fun e => Region.binds .any e) || allLt ops.toList.length fun i => (afterL ops.toList i).all fun e =>
  (!Region.binds .text e || (decide (e.on < ops.toList.length) && decide (c.text.getD e.on 0 < c.text.getD i 0))) && (!Region.binds .gc e || (decide (e.on < ops.toList.length) && decide (c.gc.getD e.on 0 < c.gc.getD i 0)))
def ck4 : Bool := allLt ops.toList.length fun i => match dstL ops.toList i with
  | some d => allLt i fun j => match dstL ops.toList j with | some d' => !(d == d') | none => true
  | none => true
def ck5 : Bool := allLt ops.toList.length fun i => (looksL ops.toList i).all fun t => allLt ops.toList.length fun j => match dstL ops.toList j with | some t' => !(t == t') || c.A i j || i == j || c.A j i | none => true
def ck6 : Bool := allLt ops.toList.length fun i => (match ops.toList[i]? with | some o => decide (clsOp E o.op = c.C i) | none => false)
def ck7 : Bool := allLt ops.toList.length fun i => !(c.C i).isEff || allLt ops.toList.length fun j => !((c.C j).isEff || (c.C j).isAlloc) || !decide (c.P j < c.P i) || c.A i j
def ck8 : Bool := allLt ops.toList.length fun j => !(c.C j).isAlloc || allLt ops.toList.length fun k => !(c.C k).isEff || !decide (c.P k < c.P j) || allLt ops.toList.length fun i => !c.A i j || c.A i k
def noEff (lo hi : Nat) : Bool := allLt ops.toList.length fun k => !(c.C k).isEff || !decide (lo ≤ c.P k) || !decide (c.P k < hi)
def ck9 : Bool := allLt ops.toList.length fun i => !(c.C i).isRead || allLt ops.toList.length fun j => !(c.C j).isAlloc || !decide (c.P j < c.P i) || !noEff ops c (c.P j + 1) (c.P i) || c.A i j
def ck10 : Bool := allLt ops.toList.length fun i => !(c.C i).isRead ||
  (let t (q : Nat) : Bool := (decide (q ≤ c.P i) && noEff ops c q (c.P i)) || !(allLt ops.toList.length fun k => !((c.C k).isEff && decide (c.P k < q) && c.A k i)) || !(allLt ops.toList.length fun k => !((c.C k).isEff && decide (q ≤ c.P k) && c.A i k)) || (p.wins.contains (i, q) && (looksL ops.toList i).all fun t => allLt ops.toList.length fun j => match dstL ops.toList j with | some t' => !(t == t') || c.A i j | none => true)
   t 0 && allLt ops.toList.length fun k => !(c.C k).isEff || t (c.P k + 1))

def planChk : Bool := ck0 ops p c && ck1 ops c && ck2 ops c && ck3 ops c && ck4 ops && ck5 ops c && ck6 E ops c && ck7 ops c && ck8 ops c && ck9 ops c && ck10 ops p c
end

theorem afterL_eq (i : Nat) : afterL ops.toList i = afterOf ops i := by
  unfold afterL afterOf
  rw [Array.getElem?_toList]
  cases ops[i]? <;> rfl

theorem dstL_eq (i : Nat) : dstL ops.toList i = dstAt ops i := by
  unfold dstL dstAt
  rw [Array.getElem?_toList]
  cases ops[i]? <;> rfl

theorem opTmps_eq : ∀ (l : List Operand), opTmps l = l.filterMap fun | .tmp t => some t | _ => none
  | [] => rfl
  | x :: l => by cases x <;> simp [opTmps, opTmps_eq l]

theorem looksL_eq (i : Nat) : looksL ops.toList i = looksOf ops i := by
  unfold looksL looksOf
  rw [Array.getElem?_toList]
  cases h : ops[i]? with
  | none => rfl
  | some o =>
    simp only [Option.map_some, Option.getD_some, Oper.looksAt, opTmps_eq]
    congr 1
    cases o.guard with
    | none => rfl
    | some g =>
      simp only [dstL_eq, dstAt]
      cases (ops[g.1]?).bind (·.dst) <;> rfl

theorem isEff_iff {c : Cls} : c.isEff = true ↔ c = .eff := by cases c <;> simp [Cls.isEff]
theorem isAlloc_iff {c : Cls} : c.isAlloc = true ↔ c = .alloc := by cases c <;> simp [Cls.isAlloc]
theorem isRead_iff {c : Cls} : c.isRead = true ↔ c = .read := by cases c <;> simp [Cls.isRead]

theorem noEff_iff {c : PCert} {lo hi : Nat} (h : noEff ops c lo hi = true) (k : Nat) (hk : k < ops.size) (he : c.C k = .eff) (h1 : lo ≤ c.P k) (h2 : c.P k < hi) : False := by
  have := allLt_iff h (i := k) (by simpa using hk)
  simp [isEff_iff.2 he, h1, h2] at this

theorem planChk_ok {c : PCert} (h : planChk E ops p c = true) : ∃ pos anc rank, PlanOk E ops p pos anc rank := by
  unfold planChk at h
  simp only [Bool.and_eq_true] at h
  obtain ⟨⟨⟨⟨⟨⟨⟨⟨⟨⟨h0, h1⟩, h2⟩, h3⟩, h4⟩, h5⟩, h6⟩, h7⟩, h8⟩, h9⟩, h10⟩ := h
  have hn : ops.toList.length = ops.size := by simp
  unfold ck0 at h0
  simp only [Bool.and_eq_true, beq_iff_eq] at h0
  obtain ⟨hlen, h0⟩ := h0
  have g0 : ∀ i, i < ops.size → p.order[c.P i]? = some i := fun i hi => by
    have := allLt_iff h0 (i := i) (by omega)
    simp only [Bool.and_eq_true, beq_iff_eq] at this
    exact this.1
  have g1 : ∀ q i, p.order[q]? = some i → i < ops.size ∧ c.P i = q := fun q i hq => by
    have hlt := list_lt hq
    have := allLt_iff h0 (i := q) (by omega)
    simp only [Bool.and_eq_true, beq_iff_eq, hq, decide_eq_true_eq] at this
    exact ⟨by omega, this.2.2⟩
  have hcl : ∀ i, i < ops.size → clAt E ops i = c.C i := fun i hi => by
    have := allLt_iff h6 (i := i) (by omega)
    rw [Array.getElem?_toList] at this
    cases ho : ops[i]? with
    | none => rw [ho] at this; cases this
    | some o =>
      rw [ho] at this
      simp only [decide_eq_true_eq] at this
      simp [clAt, ho, this]
  have hedge : ∃ rank : Region.Mode → Nat → Nat, ∀ md, md = .any ∨ Region.departs ops = true → ∀ i e, i < ops.size → e ∈ afterOf ops i → Region.binds md e = true → e.on < ops.size ∧ rank md e.on < rank md i := by
    unfold ck3 at h3
    simp only [Bool.or_eq_true] at h3
    have any : ∀ i e, i < ops.size → e ∈ afterOf ops i → Region.binds .any e = true → e.on < ops.size ∧ c.P e.on < c.P i := fun i e hi he hb => by
      have := allLt_iff h2 (i := i) (by omega)
      rw [afterL_eq, List.all_eq_true] at this
      have := this e he
      simp only [hb, Bool.not_true, Bool.false_or, Bool.and_eq_true, decide_eq_true_eq] at this
      exact ⟨by omega, this.2⟩
    rcases h3 with h3 | h3
    · refine ⟨fun _ => c.P, fun md hmd i e hi he hb => any i e hi he ?_⟩
      rw [List.all_eq_true] at h3
      unfold afterOf at he
      rw [Array.getElem?_eq_getElem hi] at he
      have := h3 ops[i] (by simp)
      rw [List.all_eq_true] at this
      exact this e (by simpa using he)
    · refine ⟨fun md i => match md with | .any => c.P i | .text => c.text.getD i 0 | .gc => c.gc.getD i 0, fun md hmd i e hi he hb => ?_⟩
      have := allLt_iff h3 (i := i) (by omega)
      rw [afterL_eq, List.all_eq_true] at this
      have := this e he
      simp only [Bool.and_eq_true, Bool.or_eq_true, Bool.not_eq_true', decide_eq_true_eq] at this
      cases md with
      | any => exact any i e hi he hb
      | text =>
        have h' := this.1.resolve_left (by rw [hb]; simp)
        exact ⟨by omega, h'.2⟩
      | gc =>
        have h' := this.2.resolve_left (by rw [hb]; simp)
        exact ⟨by omega, h'.2⟩
  obtain ⟨rank, hrank⟩ := hedge
  refine ⟨c.P, fun i j => c.A i j = true, rank, by omega, g0, g1, fun i j hi ha => ?_, hrank, fun i e hi he hb => ?_, fun i j d hi hj hd hd' => ?_, fun i j t hi hj ht hd => ?_, fun i j hi hj hc hc' hp => ?_, fun i j k hi hj hk hc hc' ha hp => ?_, fun i j hi hj hc hc' hp hno => ?_, fun i q hi hc hq => ?_⟩
  · have := allLt_iff h1 (i := i) (by omega)
    simp only [beq_iff_eq] at this
    unfold PCert.A at ha
    rw [this, afterL_eq] at ha
    exact orAll_spec ha
  · have := allLt_iff h2 (i := i) (by omega)
    rw [afterL_eq, List.all_eq_true] at this
    have := this e he
    simp only [hb, Bool.not_true, Bool.false_or, Bool.and_eq_true, decide_eq_true_eq] at this
    exact ⟨by omega, this.2⟩
  · have key : ∀ i j, j < i → i < ops.size → dstAt ops i = some d → dstAt ops j = some d → False := fun i j hji hi hd hd' => by
      have := allLt_iff h4 (i := i) (by omega)
      rw [dstL_eq, hd] at this
      have := allLt_iff this (i := j) hji
      rw [dstL_eq, hd'] at this
      simp at this
    rcases Nat.lt_trichotomy i j with h | h | h
    · exact (key j i h hj hd' hd).elim
    · exact h
    · exact (key i j h hi hd hd').elim
  · have := allLt_iff h5 (i := i) (by omega)
    rw [looksL_eq, List.all_eq_true] at this
    have := allLt_iff (this t ht) (i := j) (by omega)
    rw [dstL_eq, hd] at this
    simp only [beq_self_eq_true, Bool.not_true, Bool.false_or, Bool.or_eq_true, beq_iff_eq] at this
    rcases this with (h | h) | h
    · exact .inl h
    · exact .inr (.inl h)
    · exact .inr (.inr h)
  · rw [hcl i hi] at hc
    rw [hcl j hj] at hc'
    have := allLt_iff h7 (i := i) (by omega)
    rw [isEff_iff.2 hc] at this
    simp only [Bool.not_true, Bool.false_or] at this
    have := allLt_iff this (i := j) (by omega)
    have hor : ((c.C j).isEff || (c.C j).isAlloc) = true := by
      rcases hc' with h | h <;> simp [h, Cls.isEff, Cls.isAlloc]
    simpa [hor, hp] using this
  · rw [hcl j hj] at hc
    rw [hcl k hk] at hc'
    have := allLt_iff h8 (i := j) (by omega)
    rw [isAlloc_iff.2 hc] at this
    simp only [Bool.not_true, Bool.false_or] at this
    have := allLt_iff this (i := k) (by omega)
    rw [isEff_iff.2 hc'] at this
    simp only [Bool.not_true, Bool.false_or, hp, decide_true] at this
    have := allLt_iff this (i := i) (by omega)
    simpa [ha] using this
  · rw [hcl i hi] at hc
    rw [hcl j hj] at hc'
    have := allLt_iff h9 (i := i) (by omega)
    rw [isRead_iff.2 hc] at this
    simp only [Bool.not_true, Bool.false_or] at this
    have := allLt_iff this (i := j) (by omega)
    rw [isAlloc_iff.2 hc'] at this
    have hne : noEff ops c (c.P j + 1) (c.P i) = true := by
      unfold noEff allLt
      rw [List.all_eq_true]
      intro k hk
      have hk := List.mem_range.1 hk
      by_cases he : c.C k = .eff
      · by_cases h1 : c.P j + 1 ≤ c.P k
        · by_cases h2 : c.P k < c.P i
          · exact (hno k (by omega) (by rw [hcl k (by omega)]; exact he) (by omega) h2).elim
          · simp [h2]
        · simp [h1]
      · have : (c.C k).isEff = false := by
          cases hk : c.C k <;> simp_all [Cls.isEff]
        simp [this]
    simpa [hp, hne] using this
  · rw [hcl i hi] at hc
    have := allLt_iff h10 (i := i) (by omega)
    rw [isRead_iff.2 hc] at this
    simp only [Bool.not_true, Bool.false_or, Bool.and_eq_true] at this
    have key : ((decide (q ≤ c.P i) && noEff ops c q (c.P i)) || !(allLt ops.toList.length fun k => !((c.C k).isEff && decide (c.P k < q) && c.A k i)) || !(allLt ops.toList.length fun k => !((c.C k).isEff && decide (q ≤ c.P k) && c.A i k)) || (p.wins.contains (i, q) && (looksL ops.toList i).all fun t => allLt ops.toList.length fun j => match dstL ops.toList j with | some t' => !(t == t') || c.A i j | none => true)) = true := by
      rcases hq with rfl | ⟨k, hk, hck, rfl⟩
      · exact this.1
      · have h' := allLt_iff this.2 (i := k) (by omega)
        rw [hcl k hk] at hck
        rw [isEff_iff.2 hck] at h'
        simpa using h'
    have aux : ∀ (f : Nat → Bool), (!(allLt ops.toList.length fun k => !f k)) = true → ∃ k, k < ops.size ∧ f k = true := fun f hf => by
      by_cases hx : ∃ k, k < ops.size ∧ f k = true
      · exact hx
      · exfalso
        have : (allLt ops.toList.length fun k => !f k) = true := by
          unfold allLt
          rw [List.all_eq_true]
          intro k hk
          have hk := List.mem_range.1 hk
          cases hfk : f k with
          | false => rfl
          | true => exact (hx ⟨k, by omega, hfk⟩).elim
        rw [this] at hf
        cases hf
    simp only [Bool.or_eq_true] at key
    rcases key with ((h1 | h1) | h1) | h1
    · simp only [Bool.and_eq_true, decide_eq_true_eq] at h1
      exact .inl ⟨h1.1, fun k hk he a b => noEff_iff h1.2 k hk (by rw [← hcl k hk]; exact he) a b⟩
    · obtain ⟨k, hk, hf⟩ := aux _ h1
      simp only [Bool.and_eq_true, decide_eq_true_eq] at hf
      exact .inr (.inl ⟨k, hk, by rw [hcl k hk]; exact isEff_iff.1 hf.1.1, hf.1.2, hf.2⟩)
    · obtain ⟨k, hk, hf⟩ := aux _ h1
      simp only [Bool.and_eq_true, decide_eq_true_eq] at hf
      exact .inr (.inr (.inl ⟨k, hk, by rw [hcl k hk]; exact isEff_iff.1 hf.1.1, hf.1.2, hf.2⟩))
    · simp only [Bool.and_eq_true] at h1
      refine .inr (.inr (.inr ⟨by simpa using h1.1, fun j t hj ht hd => ?_⟩))
      have h2 := h1.2
      rw [looksL_eq, List.all_eq_true] at h2
      have := allLt_iff (h2 t ht) (i := j) (by omega)
      rw [dstL_eq, hd] at this
      simpa using this

/-- the plans of a piece of code -/
def plansChk (E : Env) (cert : FuncId → Nat → Option PCert) (f : FuncId) : Code → Bool
  | .region id ops draw => !draw || (match E.plan f id with
    | none => true
    | some p => match cert f id with
      | some c => planChk E ops p c
      | none => false)
  | .seq a b => plansChk E cert f a && plansChk E cert f b
  | .cond _ a b => plansChk E cert f a && plansChk E cert f b
  | .rangeFunc _ _ a b => plansChk E cert f a && plansChk E cert f b
  | .block _ b => plansChk E cert f b
  | .loop b => plansChk E cert f b
  | _ => true

theorem plansChk_ok {P : Program} (hE : EnvOk P E) (hm : methOk P E) {cert : FuncId → Nat → Option PCert} {f : FuncId} : ∀ (c : Code), plansChk E cert f c = true → PlansOk P E f c
  | .region id ops draw, h => by
    intro hd p hp
    subst hd
    simp only [plansChk, Bool.not_true, Bool.false_or, hp] at h
    split at h
    · obtain ⟨pos, anc, rank, ok⟩ := planChk_ok h
      exact draw_ok hE hm ok
    · cases h
  | .seq a b, h => by simp only [plansChk, Bool.and_eq_true] at h; exact ⟨plansChk_ok hE hm a h.1, plansChk_ok hE hm b h.2⟩
  | .cond _ a b, h => by simp only [plansChk, Bool.and_eq_true] at h; exact ⟨plansChk_ok hE hm a h.1, plansChk_ok hE hm b h.2⟩
  | .rangeFunc _ _ a b, h => by simp only [plansChk, Bool.and_eq_true] at h; exact ⟨plansChk_ok hE hm a h.1, plansChk_ok hE hm b h.2⟩
  | .block _ b, h => by simp only [plansChk] at h; exact plansChk_ok hE hm b h
  | .loop b, h => by simp only [plansChk] at h; exact plansChk_ok hE hm b h
  | .skip, _ => trivial
  | .exit _, _ => trivial
  | .ret, _ => trivial
  | .scope _, _ => trivial
  | .label _, _ => trivial
  | .goto _, _ => trivial
  | .refuse _, _ => trivial

end Go.AM

/- AM: what a run in the empty heap says of the program. -/
namespace Go.AM
open Go.ChangeShapes
variable {P : Program} {E : Env} {w w' : World} {u : V}

def Gh.start (G : FuncId → Code → Code → Prop) : Gh := { n := 0, phi := fun _ => 0, base := fun _ => 0, cap := fun _ => 0, ver := fun _ => 0, F := fun _ => none, good := G }

theorem Inv.start {sz : TypeId → Nat} (G : FuncId → Code → Code → Prop) (w : World) : Inv sz (Gh.start G) w [] :=
  ⟨rfl, fun g o hg => by simp at hg, fun b arr hb => (nomatch hb), fun g ag => by have := alive_lt ag; simp at this, fun g g' ag => by have := alive_lt ag; simp at this⟩

theorem Post.same' {sz : TypeId → Nat} {σ τ : Gh} {h' : Heap} (p : Post sz σ [] w τ h' w') : ∀ b, b < w.heap.size → w'.heap[b]? = w.heap[b]? := fun b hb =>
  p.wst.keep b hb fun ⟨g, ag, _⟩ => by have := alive_lt ag; simp at this

theorem Post.keptBut {sz : TypeId → Nat} {σ τ : Gh} {h' : Heap} (p : Post sz σ [] w τ h' w') (may : MemPlace → Prop) : w.keptBut w' may := by
  refine ⟨p.wst.os.1, p.wst.os.2.1, fun i hi => ?_⟩
  rw [p.same' i hi]
  have := (World.keptBut_refl w may).2.2 i hi
  exact this

/-- A run in the empty heap that comes to a truth value. -/
theorem top_bool (hE : EnvOk P E) (hm : methOk P E) (hpl : ∀ f fn c, E.fn f = some fn → fn.body = some c → PlansOk P E f c) {pr : Prims} (hp : PrimOk P pr (Good P E)) {n : Nat} {f : FuncId} {args : List V} {b : Bool} {h' : Heap}
    (hc : callN E pr n (.fn f args) [] = some (.bool b, h')) {vs : Array Value} (W : World) (ra : RelA (szOf P) (Gh.start (Good P E)) args vs) :
    Calls P f vs W fun e W' => e = .returned (.bool b) ∧ (∀ may, W.keptBut W' may) ∧ W.heap.size ≤ W'.heap.size ∧ ∀ x, x < W.heap.size → W'.heap[x]? = W.heap[x]? := by
  refine (callN_calls hE hm hpl hp hc rfl (Inv.start _ W) ra).mono fun e W' ⟨τ, v, he, hr, hpost⟩ => ?_
  cases hr
  exact ⟨he, fun may => hpost.keptBut may, hpost.wst.size, hpost.same'⟩

/-- post, where the arguments hold no place -/
theorem post_bool {H : Type} {enc : TypeId × Value → H} {f : Func} {s : ChangeSpec} {apart fresh handsOn again : Bool} {W W' : World} {args : Array Value} {v : Value} {ds gs : List (DataW H)}
    (hW : DataW.Whole enc P f.params.toList s.vars apart W args.toList ds gs [])
    (hres : ∀ (b : Nat) (sp : Nat → Bool) (hd : Bool), DataW.TrodAll enc P W' b sp hd f.resultTypes.toList (v.resultList f.resultTypes.size) (s.fn H (ds ++ gs)).results [])
    (hargs : ∀ sp : Nat → Bool, DataW.TrodAll enc P W' 0 sp true f.params.toList args.toList (s.fn H (ds ++ gs)).args [])
    (hvars : ∀ sp : Nat → Bool, DataW.TrodVars enc P W' sp s.vars (s.fn H (ds ++ gs)).vars [])
    (hk : ∀ may, W.keptBut W' may)
    (hok : ∀ (j : Nat) (t : TypeId) (r : Value), f.resultTypes[j]? = some t → (v.resultList f.resultTypes.size)[j]? = some r → Value.okWide P W' .any 0 t r) :
    s.post enc P f apart fresh handsOn again W args v W' := by
  refine ⟨ds, gs, [], [], [], [], hW, hres _ _ _, hargs _, hvars _, hk _, fun _ => ?_⟩
  refine ⟨hok, _, _, [] ++ [], ⟨[] ++ [], [], trodAll_append (hargs _) (hres _ _ _), hvars _, rfl, ?_, ?_⟩, ?_⟩
  · intro b off hp; simp at hp
  · intro _; simp
  · intro p hp _; simp at hp

end Go.AM

/- AM: tables: what must be checked of an environment. -/
namespace Go.AM
variable {P : Program} {E : Env}

def Tr.All {α : Type} (p : Nat → α → Prop) : Tr α → Prop
  | .nil => True
  | .node k v l r => p k v ∧ l.All p ∧ r.All p

theorem Tr.All.get {α : Type} {p : Nat → α → Prop} : ∀ {t : Tr α} {k : Nat} {v : α}, t.All p → t.get? k = some v → p k v
  | .nil, k, v, _, h => by simp [Tr.get?] at h
  | .node k' v' l r, k, v, ha, h => by
    simp only [Tr.get?] at h
    split at h
    · rename_i e; cases h; rw [e]; exact ha.1
    · split at h
      · exact Tr.All.get ha.2.1 h
      · exact Tr.All.get ha.2.2 h

def Tr.allB {α : Type} (p : Nat → α → Bool) : Tr α → Bool
  | .nil => true
  | .node k v l r => p k v && l.allB p && r.allB p

theorem Tr.allB.get {α : Type} {p : Nat → α → Bool} : ∀ {t : Tr α} {k : Nat} {v : α}, t.allB p = true → t.get? k = some v → p k v = true
  | .nil, k, v, _, h => by simp [Tr.get?] at h
  | .node k' v' l r, k, v, ha, h => by
    simp only [Tr.allB, Bool.and_eq_true] at ha
    simp only [Tr.get?] at h
    split at h
    · rename_i e; cases h; rw [e]; exact ha.1.1
    · split at h
      · exact Tr.allB.get ha.1.2 h
      · exact Tr.allB.get ha.2 h

def listEq {α : Type} (eq : α → α → Bool) : List α → List α → Bool
  | [], [] => true
  | x :: l, y :: m => eq x y && listEq eq l m
  | _, _ => false

theorem listEq_eq {α : Type} {eq : α → α → Bool} (he : ∀ x y, eq x y = true → x = y) : ∀ {l m : List α}, listEq eq l m = true → l = m
  | [], [], _ => rfl
  | [], _ :: _, h => by simp [listEq] at h
  | _ :: _, [], h => by simp [listEq] at h
  | x :: l, y :: m, h => by
    simp only [listEq, Bool.and_eq_true] at h
    rw [he _ _ h.1, listEq_eq he h.2]

def kindChk (P : Program) (t : TypeId) (k : TK) : Bool :=
  match P.underlying t with
  | none => false
  | some d => match k with
    | .bool => (match d with | .bool => true | _ => false)
    | .int k => (match d with | .int k' => decide (k = k') | _ => false)
    | .str => (match d with | .string => true | _ => false)
    | .ptr e => (match d with | .pointer e' => e == e' | _ => false)
    | .slice e => (match d with | .slice e' => e == e' | _ => false)
    | .array n e => (match d with | .array n' e' => n == n' && e == e' | _ => false)
    | .map a e => (match d with | .map a' e' => a == a' && e == e' | _ => false)
    | .struct fs => (match d with | .struct fields => listEq (fun (x y : Nat × TypeId) => x.1 == y.1 && x.2 == y.2) (fields.toList.map fun f => (f.offset, f.type)) fs | _ => false)
    | .func => (match d with | .func _ _ _ => true | _ => false)
    | .iface => (match d with | .interface _ => true | _ => false)
    | .other => (match d with | .struct _ | .array _ _ | .interface _ => false | _ => true)

theorem kindChk_ok {t : TypeId} {k : TK} (h : kindChk P t k = true) : kindOk P t k := by
  unfold kindChk at h
  split at h
  · cases h
  · rename_i d hd
    cases k <;> simp only at h <;> simp only [kindOk]
    case other =>
      refine ⟨d, hd, ?_⟩
      cases d <;> simp_all
    all_goals (cases d <;> simp at h)
    all_goals first
      | exact hd
      | (subst h; exact hd)
      | (obtain ⟨rfl, rfl⟩ := h; exact hd)
      | exact ⟨_, _, _, hd⟩
      | exact ⟨_, hd⟩
      | (refine ⟨_, hd, ?_⟩; exact listEq_eq (fun x y hxy => by obtain ⟨a, b⟩ := x; obtain ⟨c, e⟩ := y; simp at hxy; simp [hxy]) h)

def lkEq : LK → LK → Bool
  | .bool, .bool | .int, .int | .str, .str => true
  | _, _ => false

def tiChk (P : Program) (t : TypeId) (i : TI) : Bool :=
  (match P.info? t with
  | some x => x.size == i.size && x.bytes == i.bytes && (match x.zero with
    | some z => (match ofValue z with
      | some v => V.same v i.zero
      | none => false)
    | none => false)
  | none => false) && kindChk P t i.kind && i.zero.cells.length == i.size &&
  (match i.kind with
  | .array _ e => (P.info? e).isSome
  | .struct fs => fs.all fun x => (P.info? x.2).isSome
  | _ => true) &&
  (match i.flat with
  | none => true
  | some ks => (match flatL P 12 t with
    | some ks' => listEq lkEq ks' ks && ks.length == i.size
    | none => false))

theorem tiChk_ok {t : TypeId} {i : TI} (h : tiChk P t i = true) : TIok P t i := by
  unfold tiChk at h
  simp only [Bool.and_eq_true] at h
  obtain ⟨⟨⟨⟨h1, h2⟩, h3⟩, h4⟩, h5⟩ := h
  refine ⟨?_, kindChk_ok h2, by simpa using h3, ?_, fun ks hk => ?_⟩
  · split at h1
    · rename_i x hx
      simp only [Bool.and_eq_true, beq_iff_eq] at h1
      obtain ⟨⟨e1, e2⟩, h1⟩ := h1
      split at h1
      · rename_i z hz
        split at h1
        · rename_i v hv
          exact ⟨x, hx, e1, e2, z, hz, by rw [hv, V.same_eq _ _ h1]⟩
        · cases h1
      · cases h1
    · cases h1
  · cases hk : i.kind <;> rw [hk] at h4
    all_goals first
      | trivial
      | exact h4
      | (rw [List.all_eq_true] at h4; exact fun x hx => h4 x hx)
  · rw [hk] at h5
    simp only at h5
    split at h5
    · rename_i ks' hks
      simp only [Bool.and_eq_true, beq_iff_eq] at h5
      have : ks' = ks := listEq_eq (fun x y hxy => by cases x <;> cases y <;> first | rfl | (simp [lkEq] at hxy)) h5.1
      rw [hks, this]
      exact ⟨rfl, h5.2⟩
    · cases h5

def methChk (P : Program) (t : TypeId) (n : String) (f : FuncId) : Bool :=
  match P.info? t with
  | some x => match x.methods.find? (·.name == n) with
    | some m => m.path.size == 0 && (match m.func with | some (g, b) => g == f && b | none => false) && (match P.underlying t with | some (.pointer _) => true | _ => false)
    | none => false
  | none => false

theorem methChk_ok {t : TypeId} {n : String} {f : FuncId} (h : methChk P t n f = true) : ∃ x m e, P.info? t = some x ∧ x.methods.find? (·.name == n) = some m ∧ m.path = #[] ∧ m.func = some (f, true) ∧ P.underlying t = some (.pointer e) := by
  unfold methChk at h
  split at h
  · rename_i x hx
    split at h
    · rename_i m hm
      simp only [Bool.and_eq_true, beq_iff_eq] at h
      obtain ⟨⟨h1, h2⟩, h3⟩ := h
      split at h2
      · rename_i g b hg
        simp only [Bool.and_eq_true, beq_iff_eq] at h2
        obtain ⟨rfl, rfl⟩ := h2
        split at h3
        · rename_i e he
          exact ⟨x, m, e, hx, hm, Array.eq_empty_of_size_eq_zero h1, hg, he⟩
        · cases h3
      · cases h2
    · cases h
  · cases h

/-- an environment of tables -/
structure Tabs where
  ti : Tr TI
  fn : Tr Func
  plan : Tr (Tr Plan)
  cert : Tr (Tr PCert)
  meth : Tr (List (String × FuncId))
  keep : Tr Unit

def findM (n : String) : List (String × FuncId) → Option FuncId
  | [] => none
  | (m, f) :: l => if m = n then some f else findM n l

theorem findM_mem {n : String} {f : FuncId} : ∀ {l : List (String × FuncId)}, findM n l = some f → (n, f) ∈ l
  | [], h => by simp [findM] at h
  | (m, g) :: l, h => by
    simp only [findM] at h
    split at h
    · rename_i e; cases h; subst e; exact List.mem_cons_self
    · exact List.mem_cons_of_mem _ (findM_mem h)

def Tabs.env (t : Tabs) : Env where
  ti x := t.ti.get? x
  fn f := t.fn.get? f
  mode f := match t.keep.get? f with | some _ => .keep | none => .trim
  plan f r := match t.plan.get? f with | some p => p.get? r | none => none
  meth x n := match t.meth.get? x with | some l => findM n l | none => none

def Tabs.certs (t : Tabs) (f : FuncId) (r : Nat) : Option PCert := match t.cert.get? f with | some p => p.get? r | none => none

theorem Tabs.envOk {t : Tabs} (h1 : t.ti.allB (tiChk P) = true) (h2 : t.fn.All fun k f => P.funcs[k]? = some f) (h3 : t.fn.allB (fun _ f => !(f.name == "runtime.NumGoroutine")) = true) : EnvOk P t.env :=
  ⟨fun x i hx => tiChk_ok (Tr.allB.get h1 hx), fun f x hx => ⟨Tr.All.get h2 hx, by simpa using Tr.allB.get h3 hx⟩⟩

theorem Tabs.methOk {t : Tabs} (h : t.meth.allB (fun x l => l.all fun p => methChk P x p.1 p.2) = true) : methOk P t.env := by
  intro x n f hf
  have hf : (match t.meth.get? x with | some l => findM n l | none => none) = some f := hf
  split at hf
  · rename_i l hl
    have := Tr.allB.get h hl
    rw [List.all_eq_true] at this
    exact methChk_ok (this _ (findM_mem hf))
  · cases hf

theorem Tabs.plansOk {t : Tabs} (hE : EnvOk P t.env) (hm : Go.AM.methOk P t.env) (h : t.fn.allB (fun k f => match f.body with | some c => plansChk t.env t.certs k c | none => true) = true) : ∀ f fn c, t.env.fn f = some fn → fn.body = some c → PlansOk P t.env f c := by
  intro f fn c hf hc
  have := Tr.allB.get h (show t.fn.get? f = some fn from hf)
  rw [hc] at this
  exact plansChk_ok hE hm c this

/-- known results -/
def memoT : List (List V × V) → List V → Option V
  | [], _ => none
  | (a, r) :: l, args => if V.sameL args a then some r else memoT l args

theorem memoT_mem {args : List V} {u : V} : ∀ {l : List (List V × V)}, memoT l args = some u → ∃ a, (a, u) ∈ l ∧ args = a
  | [], h => by simp [memoT] at h
  | (a, r) :: l, h => by
    simp only [memoT] at h
    split at h
    · rename_i e; cases h; exact ⟨a, List.mem_cons_self, V.sameL_eq _ _ e⟩
    · obtain ⟨b, h1, h2⟩ := memoT_mem h
      exact ⟨b, List.mem_cons_of_mem _ h1, h2⟩

theorem PrimOk.memo (hE : EnvOk P E) (hm : methOk P E) (hpl : ∀ f fn c, E.fn f = some fn → fn.body = some c → PlansOk P E f c) {pr : Prims} (hp : PrimOk P pr (Good P E)) {f0 : FuncId} {m : List (List V × V)}
    (h : ∀ a r, (a, r) ∈ m → (V.pureL a = true ∧ V.pure r = true) ∧ ∃ n, callN E pr n (.fn f0 a) [] = some (r, [])) :
    PrimOk P (fun f => if f = f0 then some (fun args h => (memoT m args).map (·, h)) else pr f) (Good P E) :=
  PrimOk.morePure hE hm hpl hp fun args u hu => by
    obtain ⟨a, h1, rfl⟩ := memoT_mem hu
    obtain ⟨h2, h3⟩ := h _ _ h1
    exact ⟨h2.1, h2.2, h3⟩

/-! ### known results in known heaps -/

def sameE : List (V × V × Nat) → List (V × V × Nat) → Bool
  | [], [] => true
  | (a, b, n) :: l, (a', b', n') :: l' => V.same a a' && V.same b b' && n == n' && sameE l l'
  | _, _ => false

theorem sameE_eq : ∀ {l m : List (V × V × Nat)}, sameE l m = true → l = m
  | [], [], _ => rfl
  | [], _ :: _, h => by simp [sameE] at h
  | _ :: _, [], h => by simp [sameE] at h
  | (a, b, n) :: l, (a', b', n') :: m, h => by
    simp only [sameE, Bool.and_eq_true, beq_iff_eq] at h
    obtain ⟨⟨⟨h1, h2⟩, h3⟩, h4⟩ := h
    rw [V.same_eq _ _ h1, V.same_eq _ _ h2, h3, sameE_eq h4]

def Ob.same : Ob → Ob → Bool
  | .cells a, .cells b => V.sameL a b
  | .list T v l, .list T' v' l' => T == T' && v == v' && V.sameL l l'
  | .map es c, .map es' c' => c == c' && sameE es es'
  | .siter s p, .siter s' p' => s == s' && p == p'
  | .miter m a l b, .miter m' a' l' b' => m == m' && a == a' && l == l' && b == b'
  | .dead, .dead => true
  | _, _ => false

theorem Ob.same_eq {a b : Ob} (h : Ob.same a b = true) : a = b := by
  cases a <;> cases b <;> simp only [Ob.same, Bool.and_eq_true, beq_iff_eq] at h <;> first
    | (cases h; done)
    | rfl
    | (rw [V.sameL_eq _ _ h]; done)
    | (rw [h.1.1, h.1.2, V.sameL_eq _ _ h.2]; done)
    | (rw [h.1, sameE_eq h.2]; done)
    | (rw [h.1, h.2]; done)
    | (rw [h.1.1.1, h.1.1.2, h.1.2, h.2]; done)

def sameH : Heap → Heap → Bool
  | [], [] => true
  | a :: l, b :: m => Ob.same a b && sameH l m
  | _, _ => false

theorem sameH_eq : ∀ {l m : Heap}, sameH l m = true → l = m
  | [], [], _ => rfl
  | [], _ :: _, h => by simp [sameH] at h
  | _ :: _, [], h => by simp [sameH] at h
  | a :: l, b :: m, h => by
    simp only [sameH, Bool.and_eq_true] at h
    rw [Ob.same_eq h.1, sameH_eq h.2]

/-- known results: arguments, heap, result, heap -/
abbrev Known := List V × Heap × V × Heap

def memoH : List Known → List V → Heap → Option (V × Heap)
  | [], _, _ => none
  | (a, g, r, g') :: l, args, h => if V.sameL args a && sameH h g then some (r, g') else memoH l args h

theorem memoH_mem {args : List V} {h h' : Heap} {u : V} : ∀ {l : List Known}, memoH l args h = some (u, h') → (args, h, u, h') ∈ l
  | [], hm => by simp [memoH] at hm
  | (a, g, r, g') :: l, hm => by
    simp only [memoH] at hm
    split at hm
    · rename_i e
      simp only [Bool.and_eq_true] at e
      cases hm
      rw [V.sameL_eq _ _ e.1, sameH_eq e.2]
      exact List.mem_cons_self
    · exact List.mem_cons_of_mem _ (memoH_mem hm)

theorem PrimOk.memoH (hE : EnvOk P E) (hm : methOk P E) (hpl : ∀ f fn c, E.fn f = some fn → fn.body = some c → PlansOk P E f c) {pr : Prims} (hp : PrimOk P pr (Good P E)) {f0 : FuncId} {m : List Known}
    (h : ∀ a g r g', (a, g, r, g') ∈ m → ∃ n, callN E pr n (.fn f0 a) g = some (r, g')) :
    PrimOk P (fun f => if f = f0 then some (Go.AM.memoH m) else pr f) (Good P E) :=
  PrimOk.more hE hm hpl hp fun args h0 u h' hu => h _ _ _ _ (memoH_mem hu)

/-- bytes -/
def us : List Nat → List V
  | [] => []
  | n :: l => .int .u8 (Int.ofNat n) :: us l

end Go.AM
