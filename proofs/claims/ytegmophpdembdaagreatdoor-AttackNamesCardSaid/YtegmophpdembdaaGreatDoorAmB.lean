/- The abstract machine: operations, first part: each one is what the model does. -/
import Derived.Test.YtegmophpdembdaaGreatDoorAmA
import Derived.Laws.Entries
import Derived.Laws.MakeOwn
import Derived.Great.BuildSlice
/- AM: the operations that touch no memory, and loads and stores. -/
namespace Go.AM

def kindOk (P : Program) (t : TypeId) : TK → Prop
  | .bool => P.underlying t = some .bool
  | .int k => P.underlying t = some (.int k)
  | .str => P.underlying t = some .string
  | .ptr e => P.underlying t = some (.pointer e)
  | .slice e => P.underlying t = some (.slice e)
  | .array n e => P.underlying t = some (.array n e)
  | .map k e => P.underlying t = some (.map k e)
  | .struct fs => ∃ fields : Array Field, P.underlying t = some (.struct fields) ∧ fields.toList.map (fun f => (f.offset, f.type)) = fs
  | .func => ∃ ps rs v, P.underlying t = some (.func ps rs v)
  | .iface => ∃ ms, P.underlying t = some (.interface ms)
  | .other => ∃ d, P.underlying t = some d ∧ (match d with | .struct _ | .array _ _ | .interface _ => False | _ => True)

/-- the leaves of a struct's fields, one behind the other -/
def flatFs (P : Program) (fl : TypeId → Option (List LK)) : List Field → Nat → Option (List LK)
  | [], _ => some []
  | f :: fs, o =>
    if f.name ≠ "_" ∧ f.offset = o then
      match fl f.type with
      | some ks => if ks.length = P.cellsOf f.type then (flatFs P fl fs (o + ks.length)).map (ks ++ ·) else none
      | none => none
    else none

/-- the leaves of a type that is built of ints, bools and strings alone -/
def flatL (P : Program) : Nat → TypeId → Option (List LK)
  | 0, _ => none
  | m + 1, t =>
    match P.underlying t with
    | some .bool => some [.bool]
    | some (.int _) => some [.int]
    | some .string => some [.str]
    | some (.array n e) => match flatL P m e with
      | some ks => if ks.length = P.cellsOf e then some (List.replicate n ks).flatten else none
      | none => none
    | some (.struct fs) => if P.stoodInHeld t then none else flatFs P (flatL P m) fs.toList 0
    | _ => none

structure TIok (P : Program) (t : TypeId) (i : TI) : Prop where
  info : ∃ x, P.info? t = some x ∧ x.size = i.size ∧ x.bytes = i.bytes ∧ ∃ z, x.zero = some z ∧ ofValue z = some i.zero
  kind : kindOk P t i.kind
  zlen : i.zero.cells.length = i.size
  parts : match i.kind with
    | .array _ e => (P.info? e).isSome = true
    | .struct fs => ∀ x ∈ fs, (P.info? x.2).isSome = true
    | _ => True
  flat : ∀ ks, i.flat = some ks → flatL P 12 t = some ks ∧ ks.length = i.size

/-- the cells of a type -/
abbrev szOf (P : Program) : TypeId → Nat := P.cellsOf

structure EnvOk (P : Program) (E : Env) : Prop where
  ti : ∀ t i, E.ti t = some i → TIok P t i
  fn : ∀ f x, E.fn f = some x → P.funcs[f]? = some x ∧ (x.name == "runtime.NumGoroutine") = false

section
variable {P : Program} {σ : Gh} {w : World}

theorem TIok.size {t : TypeId} {i : TI} (h : TIok P t i) : P.cellsOf t = i.size := by
  obtain ⟨x, h1, h2, _⟩ := h.info
  simp [Program.cellsOf, h1, h2]

theorem TIok.run_sizeOf {t : TypeId} {i : TI} (h : TIok P t i) (w : World) : (sizeOf t).run P w = .ok i.size w := by
  obtain ⟨x, h1, h2, _⟩ := h.info
  simp [sizeOf, typeInfo, h1, h2]

theorem TIok.run_typeInfo {t : TypeId} {i : TI} (h : TIok P t i) : ∃ x, (∀ w : World, (typeInfo t).run P w = .ok x w) ∧ x.size = i.size ∧ x.bytes = i.bytes ∧ ∃ z, x.zero = some z ∧ ofValue z = some i.zero := by
  obtain ⟨x, h1, h2⟩ := h.info
  exact ⟨x, fun w => by simp [typeInfo, h1], h2⟩

theorem TIok.run_zero {t : TypeId} {i : TI} (h : TIok P t i) : ∃ z, ofValue z = some i.zero ∧ ∀ w : World, (zeroValue t).run P w = .ok z w := by
  obtain ⟨x, h1, h2, h3, z, h4, h5⟩ := h.info
  exact ⟨z, h5, fun w => by simp [zeroValue, typeInfo, h1, h4]⟩

theorem TIok.und {t : TypeId} {i : TI} (h : TIok P t i) : ∃ d, P.underlying t = some d := by
  have := h.kind
  cases hk : i.kind <;> simp only [hk, kindOk] at this
  all_goals first
    | exact ⟨_, this⟩
    | (obtain ⟨_, h, _⟩ := this; exact ⟨_, h⟩)
    | (obtain ⟨_, _, _, h⟩ := this; exact ⟨_, h⟩)
    | (obtain ⟨_, h⟩ := this; exact ⟨_, h⟩)

theorem TIok.run_isAgg {t : TypeId} {i : TI} (h : TIok P t i) (w : World) : (isAgg t).run P w = .ok i.kind.isAgg w := by
  have := h.kind
  cases hk : i.kind <;> simp only [hk, kindOk] at this
  all_goals first
    | (simp [isAgg, run_underlying this, TK.isAgg]; done)
    | (obtain ⟨x, h, _⟩ := this; simp [isAgg, run_underlying h, TK.isAgg]; done)
    | (obtain ⟨_, _, _, h⟩ := this; simp [isAgg, run_underlying h, TK.isAgg]; done)
    | (obtain ⟨_, h⟩ := this; simp [isAgg, run_underlying h, TK.isAgg]; done)
    | (obtain ⟨d, h, hd⟩ := this; cases d <;> simp_all [isAgg, run_underlying h, TK.isAgg]; done)

mutual
theorem ofValue_rel (sz : TypeId → Nat) (σ : Gh) : ∀ (v : Value) (u : V), ofValue v = some u → Rel sz σ u v
  | .bool b, u, h => by simp [ofValue] at h; subst h; exact .bool b
  | .int k n, u, h => by simp [ofValue] at h; subst h; exact .int k n
  | .string s, u, h => by simp [ofValue] at h; subst h; exact .str s
  | .pointer none, u, h => by simp [ofValue] at h; subst h; exact .nilptr
  | .slice none 0 0, u, h => by simp [ofValue] at h; subst h; exact .nilslice 0
  | .map none, u, h => by simp [ofValue] at h; subst h; exact .nilmap
  | .nilFunc, u, h => by simp [ofValue] at h; subst h; exact .nilFunc
  | .nilIface, u, h => by simp [ofValue] at h; subst h; exact .nilIface
  | .agg ⟨cs⟩, u, h => by
    simp only [ofValue, Option.map_eq_some_iff] at h
    obtain ⟨us, hu, rfl⟩ := h
    have := ofValues_rel sz σ cs us hu
    exact .agg us ⟨cs⟩ this.1 this.2
  | .tuple ⟨cs⟩, u, h => by
    simp only [ofValue, Option.map_eq_some_iff] at h
    obtain ⟨us, hu, rfl⟩ := h
    have := ofValues_rel sz σ cs us hu
    exact .tuple us ⟨cs⟩ this.1 this.2
  | .pointer (some _), u, h => by simp [ofValue] at h
  | .slice (some _) _ _, u, h => by simp [ofValue] at h
  | .slice none (_ + 1) _, u, h => by simp [ofValue] at h
  | .slice none 0 (_ + 1), u, h => by simp [ofValue] at h
  | .map (some _), u, h => by simp [ofValue] at h
  | .float _ _, u, h => by simp [ofValue] at h
  | .complex _ _ _, u, h => by simp [ofValue] at h
  | .chan _, u, h => by simp [ofValue] at h
  | .func _ _ _, u, h => by simp [ofValue] at h
  | .iface _ _, u, h => by simp [ofValue] at h
theorem ofValues_rel (sz : TypeId → Nat) (σ : Gh) : ∀ (vs : List Value) (us : List V), ofValues vs = some us → RelA sz σ us ⟨vs⟩
  | [], us, h => by simp [ofValues] at h; subst h; exact RelA.nil sz σ
  | v :: l, us, h => by
    simp only [ofValues] at h
    split at h
    · rename_i x xs hx hxs
      cases h
      have h1 := ofValue_rel sz σ v x hx
      have h2 := ofValues_rel sz σ l xs hxs
      refine ⟨by have := h2.1; simp at this ⊢; exact this, fun i p q hp hq => ?_⟩
      cases i with
      | zero => simp at hp hq; subst hp hq; exact h1
      | succ i => simp at hp hq; exact h2.2 i p q hp (by simpa using hq)
    · cases h
end

theorem undef_rel (sz : TypeId → Nat) (σ : Gh) : Rel sz σ undefV undef := .tuple [] #[] rfl (fun i u v h => by simp at h)

theorem evalV_rel {sz : TypeId → Nat} {σ : Gh} {T : List V} {a : Act} (r : RelA sz σ T a.tmps) {o : Operand} {u : V} (h : evalV T o = some u) : Rel sz σ u (a.eval o) := by
  cases o with
  | tmp t =>
    simp only [evalV, Option.some.injEq] at h
    simp only [Act.eval]
    rw [getT_eq, List.getD_eq_getElem?_getD] at h
    cases ht : T[t]? with
    | some x =>
      rw [ht] at h; simp at h; subst h
      obtain ⟨v, hv, hr⟩ := r.get ht
      simp [Array.getD_eq_getD_getElem?, hv]; exact hr
    | none =>
      rw [ht] at h; simp at h; subst h
      have : a.tmps[t]? = none := by
        rw [Array.getElem?_eq_none_iff, r.1]; exact List.getElem?_eq_none_iff.1 ht
      simp [Array.getD_eq_getD_getElem?, this]; exact undef_rel sz σ
  | const v => exact ofValue_rel sz σ v u h
  | global g => simp [evalV] at h
  | func f => simp [evalV] at h; subst h; exact .func _ [] [] #[] #[] (by simp) rfl rfl (fun i u v h => by simp at h) (fun i u v h => by simp at h)

theorem evalVs_rel {sz : TypeId → Nat} {σ : Gh} {T : List V} {a : Act} (r : RelA sz σ T a.tmps) : ∀ {os : List Operand} {us : List V}, evalVs T os = some us → RelA sz σ us ((os.map a.eval).toArray)
  | [], us, h => by simp [evalVs] at h; subst h; exact RelA.nil sz σ
  | o :: l, us, h => by
    simp only [evalVs] at h
    split at h
    · rename_i x xs hx hxs
      cases h
      have h1 := evalV_rel r hx
      have h2 := evalVs_rel r hxs
      refine ⟨by have := h2.1; simp at this ⊢; exact this, fun i p q hp hq => ?_⟩
      cases i with
      | zero => simp at hp hq; subst hp hq; exact h1
      | succ i => simp at hp hq; exact h2.2 i p q hp (by simpa using hq)
    · cases h

/-! ### cells of values -/

theorem Rel.one {sz : TypeId → Nat} {σ : Gh} {u : V} {v : Value} (r : Rel sz σ u v) : u.one = v.oneCell' := by cases r <;> rfl

theorem RelA.single {sz : TypeId → Nat} {σ : Gh} {u : V} {v : Value} (r : Rel sz σ u v) : RelA sz σ [u] #[v] := by
  have := (RelA.nil sz σ).push r
  simpa using this

theorem Rel.cells {sz : TypeId → Nat} {σ : Gh} {u : V} {v : Value} (r : Rel sz σ u v) : RelA sz σ u.cells v.cells := by
  by_cases h : ∃ a, u = .agg a
  · obtain ⟨a, rfl⟩ := h
    cases r with
    | agg _ x h1 h2 => exact ⟨h1, h2⟩
  · have e1 : u.cells = [u] := by cases u <;> first | rfl | exact absurd ⟨_, rfl⟩ h
    have e2 : v.cells = #[v] := by cases r <;> first | rfl | exact absurd ⟨_, rfl⟩ h
    rw [e1, e2]; exact RelA.single r

theorem RelA.extract {sz : TypeId → Nat} {σ : Gh} {a : List V} {x : Array Value} (r : RelA sz σ a x) (o n : Nat) (h : o + n ≤ a.length) : RelA sz σ ((a.drop o).take n) (x.extract o (o + n)) := by
  refine ⟨by have := r.1; simp; omega, fun i p q hp hq => ?_⟩
  have hi : i < n := by
    rcases Nat.lt_or_ge i n with h' | h'
    · exact h'
    · rw [List.getElem?_take, if_neg (by omega)] at hp; cases hp
  rw [List.getElem?_take, if_pos hi, List.getElem?_drop] at hp
  have hs : o + i < x.size := by have := r.1; omega
  rw [Array.getElem?_eq_getElem (by simp; omega)] at hq
  simp at hq
  exact r.2 (o + i) p q hp (by rw [Array.getElem?_eq_getElem hs, hq])

/-! ### loads -/

theorem partV_rel {P : Program} {σ : Gh} {t : TypeId} {i : TI} (ht : TIok P t i) {w : World} {c : List V} {arr : Array Value} {b o off : Nat} {T : TypeId} {fr : Nat × Nat} {u : V}
    (hb : w.heap[b]? = some (.cells arr T fr)) (hc : ∀ k x, c[k]? = some x → ∃ v, arr[o + k]? = some v ∧ Rel (szOf P) σ x v) (h : partV i c off = some u) :
    ∃ v, (loadVar t ⟨b, o + off, none⟩).run P w = .ok v w ∧ Rel (szOf P) σ u v := by
  unfold partV at h
  by_cases ha : i.kind.isAgg = true
  · rw [if_pos ha] at h
    split at h
    · cases h
    rename_i h0
    simp only [takeAt, Option.map_eq_some_iff] at h
    obtain ⟨cs, hcs, rfl⟩ := h
    split at hcs
    · rename_i hlen
      cases hcs
      have hsz : o + off + i.size ≤ arr.size := by
        have := hc (off + i.size - 1) c[off + i.size - 1] (List.getElem?_eq_getElem (by omega))
        obtain ⟨v, hv, _⟩ := this
        have := (Array.getElem?_eq_some_iff.1 hv).1
        omega
      refine ⟨.agg (arr.extract (o + off) (o + off + i.size)), ?_, .agg _ _ (by simp; omega) fun k x v hx hv => ?_⟩
      · simp [loadVar, ht.run_isAgg, ha, ht.run_sizeOf, run_loadCells_am P hb hsz]
      · have hi : k < i.size := by
          rcases Nat.lt_or_ge k i.size with h' | h'
          · exact h'
          · rw [List.getElem?_take, if_neg (by omega)] at hx; cases hx
        rw [List.getElem?_take, if_pos hi, List.getElem?_drop] at hx
        obtain ⟨v', hv', hr⟩ := hc _ x hx
        rw [Array.getElem?_eq_getElem (by simp; omega)] at hv
        simp at hv
        have : arr[o + (off + k)]? = some v := by rw [← hv, ← Nat.add_assoc]; exact Array.getElem?_eq_getElem _
        rw [this] at hv'; cases hv'; exact hr
    · cases hcs
  · rw [if_neg ha] at h
    obtain ⟨v, hv, hr⟩ := hc off u h
    refine ⟨v, ?_, hr⟩
    have ha' : i.kind.isAgg = false := by simpa using ha
    simp [loadVar, ht.run_isAgg, ha', cell?_of hb, hv]

/-- A load. -/
theorem loadV_rel {P : Program} {σ : Gh} {t : TypeId} {i : TI} (ht : TIok P t i) {w : World} {h : Heap} (inv : Inv (szOf P) σ w h) {p : V} {pv : Value} (rp : Rel (szOf P) σ p pv) {u : V}
    (hl : loadV h i p = some u) : ∃ v, (Instr.loadAt t pv).run P w = .ok v w ∧ Rel (szOf P) σ u v := by
  cases rp with
  | ptr g off hg hv =>
    simp only [loadV] at hl
    split at hl
    · rename_i c hgc
      obtain ⟨_, arr, T, fr, h1, h2, h3, h4⟩ := inv.ob g _ hgc
      obtain ⟨v, q1, q2⟩ := partV_rel (o := 0) ht h1 (fun k x hx => by rw [Nat.zero_add]; exact h3.get hx) hl
      exact ⟨v, by simpa [Instr.loadAt, Instr.sureAddr] using q1, q2⟩
    · cases hl
  | el cells off b o arr val hF h1 h2 =>
    simp only [loadV] at hl
    obtain ⟨T, fr, hb⟩ := inv.fro b arr hF
    obtain ⟨v, q1, q2⟩ := partV_rel (o := o) ht hb (fun k x hx => ⟨val k, (h1 k x hx).1, h2 k x hx⟩) hl
    exact ⟨v, by simpa [Instr.loadAt, Instr.sureAddr] using q1, q2⟩
  | lst g ver T idx off a hg h0 hv ha =>
    simp only [loadV] at hl
    split at hl
    · rename_i T' ver' l hgl
      split at hl
      · rename_i e
        obtain ⟨rfl, rfl⟩ := e
        obtain ⟨e1, _, _, _, arr, T', fr, h4, h5, h6, h7⟩ := inv.ob g _ hgl
        obtain rfl := ha e1.symm
        simp only [Option.bind_eq_some_iff] at hl
        obtain ⟨x, hx, hl⟩ := hl
        obtain ⟨p1, p2, p3⟩ := h7 idx x hx
        obtain ⟨v, q1, q2⟩ := partV_rel (o := σ.base g + idx * szOf P T) ht h4 (fun k y hy => by
          obtain ⟨v, a, b⟩ := p3 k y hy
          exact ⟨v, by rw [Nat.add_assoc]; exact a, b⟩) hl
        exact ⟨v, by simpa [Instr.loadAt, Instr.sureAddr] using q1, q2⟩
      · cases hl
    · cases hl
  | _ => simp [loadV] at hl

theorem list_lt {α : Type} {l : List α} {i : Nat} {x : α} (h : l[i]? = some x) : i < l.length := (List.getElem?_eq_some_iff.1 h).1

/-- An object changes in its block. -/
theorem Post.inplace {sz : TypeId → Nat} {σ : Gh} {h : Heap} {w w' : World} (inv : Inv sz σ w h) {g : Nat} {old o : Ob} (hg : h[g]? = some old) (hold : old ≠ .dead) (ho : o ≠ .dead)
    (sb : SameBut w w' (σ.phi g)) (hob : RelOb sz σ w' g o) : Post sz σ h w σ (h.set g o) w' := by
  have al : alive h g := ⟨old, hg, fun e => hold e⟩
  have hl := list_lt hg
  refine Post.change inv (Le.refl σ) g o (by simp [inv.len]) (by simp [hl]) ho (fun x hx hxl => ?_) (fun _ _ _ => rfl) rfl (.inl ⟨al, rfl⟩) (fun b _ hb => sb.oth b hb) (by rw [sb.size]; exact Nat.le_refl _)
    (by rw [sb.size]; exact (inv.live g al).2) hob sb.os
  exact ⟨by simpa using hxl, by rw [List.getElem?_set_ne (Ne.symm hx)]⟩

/-- cells behind a store -/
theorem splice_rel {sz : TypeId → Nat} {σ : Gh} {c n : List V} {arr arr' : Array Value} {vs : List Value} {o off : Nat} (hn : RelA sz σ n vs.toArray) (hlen : off + n.length ≤ c.length)
    (hc : ∀ (k : Nat) (x : V), c[k]? = some x → ∃ v, arr[o + k]? = some v ∧ Rel sz σ x v)
    (ha : ∀ k : Nat, arr'[k]? = if o + off ≤ k ∧ k < o + off + vs.length then vs[k - (o + off)]? else arr[k]?) :
    ∀ (k : Nat) (x : V), (spliceAt c off n)[k]? = some x → ∃ v, arr'[o + k]? = some v ∧ Rel sz σ x v := by
  intro k x hx
  have hl : vs.length = n.length := by simpa using hn.1
  unfold spliceAt at hx
  rw [ha]
  by_cases h1 : k < off
  · rw [List.append_assoc, List.getElem?_append_left (by simp; omega), List.getElem?_take, if_pos h1] at hx
    rw [if_neg (by omega)]
    exact hc k x hx
  · by_cases h2 : k < off + n.length
    · rw [List.getElem?_append_left (by simp; omega), List.getElem?_append_right (by simp; omega)] at hx
      rw [if_pos (by omega)]
      simp at hx
      have e : min off c.length = off := by omega
      rw [e] at hx
      obtain ⟨v, hv, hr⟩ := hn.get hx
      refine ⟨v, ?_, hr⟩
      rw [show o + k - (o + off) = k - off by omega]
      simpa using hv
    · rw [List.getElem?_append_right (by simp; omega), List.getElem?_drop] at hx
      rw [if_neg (by omega)]
      simp at hx
      rw [show off + n.length + (k - (min off c.length + n.length)) = k by omega] at hx
      exact hc k x hx

theorem splice_len {c n : List V} {off : Nat} (h : off + n.length ≤ c.length) : (spliceAt c off n).length = c.length := by
  simp [spliceAt]; omega

theorem splice_one {c n : List V} {off : Nat} (hc : c.all V.one = true) (hn : n.all V.one = true) : (spliceAt c off n).all V.one = true := by
  rw [List.all_eq_true] at *
  intro x hx
  simp only [spliceAt, List.mem_append] at hx
  rcases hx with (hx | hx) | hx
  · exact hc x (List.mem_of_mem_take hx)
  · exact hn x hx
  · exact hc x (List.mem_of_mem_drop hx)

theorem one_cells {sz : TypeId → Nat} {σ : Gh} {a : List V} {x : Array Value} (r : RelA sz σ a x) (h : a.all V.one = true) : ∀ v ∈ x.toList, v.oneCell' = true := by
  intro v hv
  obtain ⟨i, hi⟩ := List.getElem?_of_mem hv
  have hi' : x[i]? = some v := by simpa using hi
  have hlt : i < a.length := by rw [← r.1]; exact (Array.getElem?_eq_some_iff.1 hi').1
  have := r.2 i a[i] v (List.getElem?_eq_getElem hlt) hi'
  rw [← this.one]
  exact List.all_eq_true.1 h _ (List.getElem_mem hlt)

theorem run_storeAt {P : Program} {t : TypeId} {i : TI} (ht : TIok P t i) {w : World} {b o : Nat} {arr : Array Value} {T : TypeId} {fr : Nat × Nat} {v : Value} (hb : w.heap[b]? = some (.cells arr T fr)) (hl : noLock arr fr)
    (hs : v.cells.size = i.size) (ho : o + i.size ≤ arr.size) (h1 : ∀ x ∈ v.cells.toList, x.oneCell' = true) :
    ∃ w' arr', (Instr.storeAt t (.pointer (some ⟨b, o, none⟩)) v).run P w = .ok () w' ∧ w'.heap[b]? = some (.cells arr' T fr) ∧ SameBut w w' b ∧ arr'.size = arr.size ∧
      ∀ k, arr'[k]? = if o ≤ k ∧ k < o + v.cells.toList.length then v.cells.toList[k - o]? else arr[k]? := by
  obtain ⟨w', arr', p1, p2, p3, p4, p5⟩ := run_storeCells_am P b o v.cells.toList 0 w arr T fr hb hl (by simp; omega) h1
  refine ⟨w', arr', ?_, p2, p3, p4, fun k => by simpa using p5 k⟩
  simp [Instr.storeAt, Instr.sureAddr, storeVar, ht.run_sizeOf, hs, p1]

theorem reshape_cells {old y : V} {c : List V} (h : reshape old c = some y) (h1 : c.all V.one = true) : y.cells = c := by
  unfold reshape at h
  split at h
  · cases h; rfl
  · cases h
    simp at h1
    cases y <;> first | rfl | simp [V.one] at h1
  · cases h

/-- A store. -/
theorem storeV_rel {P : Program} {σ : Gh} {t : TypeId} {i : TI} (ht : TIok P t i) {w : World} {h : Heap} (inv : Inv (szOf P) σ w h) {p u : V} {pv v : Value} (rp : Rel (szOf P) σ p pv) (rv : Rel (szOf P) σ u v) {h' : Heap}
    (hs : storeV h i p u = some h') : ∃ w', (Instr.storeAt t pv v).run P w = .ok () w' ∧ Post (szOf P) σ h w σ h' w' := by
  unfold storeV at hs
  split at hs
  · cases hs
  rename_i hc
  simp only [Bool.or_eq_true, decide_eq_true_eq, not_or, Bool.not_eq_true, Bool.not_eq_false', ne_eq, Decidable.not_not, bne_iff_ne] at hc
  obtain ⟨⟨hsz, hone⟩, hpos⟩ := hc
  have hone' : u.cells.all V.one = true := by simpa using hone
  have rc := rv.cells
  have hcs : v.cells.size = i.size := by rw [rc.1]; exact hsz
  have h1 := one_cells rc hone'
  cases rp with
  | ptr g off hg hv =>
    simp only at hs
    split at hs
    · rename_i c hgc
      split at hs
      · rename_i hle
        cases hs
        obtain ⟨e0, arr, T, fr, b1, b2, b3, b4⟩ := inv.ob g _ hgc
        obtain ⟨w', arr', p1, p2, p3, p4, p5⟩ := run_storeAt (o := off) ht b1 b2 hcs (by rw [b3.1]; exact hle) h1
        refine ⟨w', p1, Post.inplace inv hgc (by simp) (by simp) p3 ⟨e0, arr', T, fr, p2, fun k hk => b2 k (by rw [← p4]; exact hk), ⟨?_, fun k x y hx hy => ?_⟩, splice_one b4 hone'⟩⟩
        · rw [p4, b3.1, splice_len (by omega)]
        · obtain ⟨v', q1, q2⟩ := splice_rel (o := 0) (off := off) (n := u.cells) (vs := v.cells.toList) (by simpa using rc) (by omega) (fun k x hx => by rw [Nat.zero_add]; exact b3.get hx) (by simpa using p5) k x hx
          rw [Nat.zero_add] at q1
          rw [hy] at q1; cases q1; exact q2
      · cases hs
    · cases hs
  | lst g ver T idx off a hg h0 hv ha =>
    simp only at hs
    split at hs
    · rename_i T' ver' l hgl
      split at hs
      · rename_i e
        obtain ⟨rfl, rfl⟩ := e
        split at hs
        · rename_i x hx
          split at hs
          · rename_i hle
            simp only [Option.map_eq_some_iff] at hs
            obtain ⟨y, hy, rfl⟩ := hs
            obtain ⟨e1, e2, e3, e4, arr, T', fr, b4, b5, b6, b7⟩ := inv.ob g _ hgl
            obtain rfl := ha e1.symm
            obtain ⟨x1, x2, x3⟩ := b7 idx x hx
            have hidx := list_lt hx
            have hfit : σ.base g + idx * szOf P T + szOf P T ≤ arr.size := by
              have : (idx + 1) * szOf P T ≤ σ.cap g * szOf P T := Nat.mul_le_mul_right _ (by omega)
              rw [Nat.add_mul, Nat.one_mul] at this
              omega
            have hy' : y.cells = spliceAt x.cells off u.cells := by
              exact reshape_cells hy (splice_one (off := off) x2 hone')
            obtain ⟨w', arr', p1, p2, p3, p4, p5⟩ := run_storeAt (o := σ.base g + idx * szOf P T + off) ht b4 b5 hcs (by omega) h1
            refine ⟨w', p1, Post.inplace inv hgl (by simp) (by simp) p3 ⟨e1, e2, e3, by simpa using e4, arr', T', fr, p2, fun k hk => b5 k (by rw [← p4]; exact hk), by rw [p4]; exact b6, fun k z hz => ?_⟩⟩
            by_cases hk : k = idx
            · subst hk
              rw [List.getElem?_set_self hidx] at hz
              cases hz
              refine ⟨by rw [hy', splice_len (by omega)]; exact x1, by rw [hy']; exact splice_one x2 hone', fun j q hq => ?_⟩
              rw [hy'] at hq
              have := splice_rel (o := σ.base g + k * szOf P T) (off := off) (n := u.cells) (vs := v.cells.toList) (by simpa using rc) (by omega) (fun k' x' hx' => by
                obtain ⟨v', a, b⟩ := x3 k' x' hx'
                exact ⟨v', by rw [Nat.add_assoc]; exact a, b⟩) p5 j q hq
              rw [Nat.add_assoc] at this; exact this
            · rw [List.getElem?_set_ne (Ne.symm hk)] at hz
              obtain ⟨z1, z2, z3⟩ := b7 k z hz
              refine ⟨z1, z2, fun j q hq => ?_⟩
              obtain ⟨v', a, b⟩ := z3 j q hq
              refine ⟨v', ?_, b⟩
              have hj : j < szOf P T := by rw [← z1]; exact list_lt hq
              rw [p5, if_neg]
              · exact a
              · have hlen : v.cells.toList.length = i.size := by simpa using hcs
                rw [hlen]
                rcases Nat.lt_or_ge k idx with hlt | hge
                · have : (k + 1) * szOf P T ≤ idx * szOf P T := Nat.mul_le_mul_right _ (by omega)
                  rw [Nat.add_mul, Nat.one_mul] at this
                  omega
                · have : (idx + 1) * szOf P T ≤ k * szOf P T := Nat.mul_le_mul_right _ (by omega)
                  rw [Nat.add_mul, Nat.one_mul] at this
                  omega
          · cases hs
        · cases hs
      · cases hs
    · cases hs
  | _ => simp at hs

end
end Go.AM

/- AM: operations, one by one. -/
namespace Go.AM
variable {P : Program} {E : Env} {σ : Gh} {w : World} {h h' : Heap} {T : List V} {a : Act} {u : V}

theorem map_h {x : Option V} {h : Heap} {u : V} {h' : Heap} (e : x.map (·, h) = some (u, h')) : x = some u ∧ h = h' := by
  cases x with
  | none => cases e
  | some y => simp at e; exact ⟨by rw [e.1], e.2⟩

/-- An operation's end: a value, or none. -/
def OpDone (P : Program) (σ : Gh) (h : Heap) (w : World) (s : Sem Next) (u : V) (h' : Heap) : Prop :=
  ∃ τ w', Post (szOf P) σ h w τ h' w' ∧ ((∃ v, s.run P w = .ok (.value v) w' ∧ Rel (szOf P) τ u v) ∨ (s.run P w = .ok .skip w' ∧ u = undefV))

/-- an operation that changes nothing -/
def PureDone (P : Program) (σ : Gh) (h : Heap) (w : World) (s : Sem Next) (u : V) (h' : Heap) : Prop :=
  h' = h ∧ ∃ v, s.run P w = .ok (.value v) w ∧ Rel (szOf P) σ u v

theorem PureDone.pureV (_inv : Inv (szOf P) σ w h) {s : Sem Next} {v : Value} (hs : s.run P w = .ok (.value v) w) (r : Rel (szOf P) σ u v) : PureDone P σ h w s u h :=
  ⟨rfl, v, hs, r⟩

theorem PureDone.done (inv : Inv (szOf P) σ w h) {s : Sem Next} (d : PureDone P σ h w s u h') : OpDone P σ h w s u h' := by
  obtain ⟨rfl, v, p, q⟩ := d
  exact ⟨σ, w, Post.refl inv, .inl ⟨v, p, q⟩⟩

theorem OpDone.pureV (inv : Inv (szOf P) σ w h) {s : Sem Next} {v : Value} (hs : s.run P w = .ok (.value v) w) (r : Rel (szOf P) σ u v) : OpDone P σ h w s u h :=
  ⟨σ, w, Post.refl inv, .inl ⟨v, hs, r⟩⟩

/-- a ghost that knows a new object at k -/
structure Knows (P : Program) (σ σ' : Gh) (k b ver cap : Nat) : Prop where
  rel : ∀ x y, Rel (szOf P) σ x y → Rel (szOf P) σ' x y
  n : k < σ'.n
  phi : σ'.phi k = b
  base : σ'.base k = 0
  cap : σ'.cap k = cap
  ver : σ'.ver k = ver

def verOf : Ob → Nat
  | .list _ v _ => v
  | _ => 0

theorem Knows.add {b ver cap : Nat} : Knows P σ (σ.add b ver cap) σ.n b ver cap :=
  ⟨fun _ _ r => r.mono (σ.le_add _ _ _), by simp [Gh.add], by simp [Gh.add], by simp [Gh.add], by simp [Gh.add], by simp [Gh.add]⟩

def capOf : Value → Nat
  | .slice _ _ c => c
  | _ => 0

/-- an operation that makes one object (k: its number) -/
def AllocDone (P : Program) (σ : Gh) (k : Nat) (w : World) (s : Sem Next) (u : V) (ob : Ob) : Prop :=
  ∃ o' w' v, ob ≠ .dead ∧ s.run P w = .ok (.value v) w' ∧ w'.heap = w.heap.push o' ∧ (w'.os = w.os ∧ w'.output = w.output ∧ w'.tape = w.tape) ∧
    ∀ (σ' : Gh) (w'' : World), Knows P σ σ' k w.heap.size (verOf ob) (capOf v) → w''.heap[w.heap.size]? = some o' → RelOb (szOf P) σ' w'' k ob ∧ Rel (szOf P) σ' u v

/-- a world that differs in nothing that counts -/
theorem Post.ofHeap {sz : TypeId → Nat} {τ : Gh} {w1 w2 : World} (p : Post sz σ h w τ h' w1) (e0 : w2.heap = w1.heap) (eo : w2.os = w1.os ∧ w2.output = w1.output ∧ w2.tape = w1.tape) : Post sz σ h w τ h' w2 := by
  refine ⟨p.le, ⟨p.inv.len, fun g o hg => ?_, fun b arr hb => by rw [e0]; exact p.inv.fro b arr hb, fun g ag => by rw [e0]; exact p.inv.live g ag, p.inv.inj⟩, ⟨by rw [e0]; exact p.wst.size, fun b hb hn => by rw [e0]; exact p.wst.keep b hb hn, p.wst.own, p.wst.fro, eo.1.trans p.wst.os.1, eo.2.1.trans p.wst.os.2.1, eo.2.2.trans p.wst.os.2.2⟩⟩
  have := p.inv.ob g o hg
  exact RelOb.mono (Le.refl τ) (by rw [← p.inv.len]; exact list_lt hg) rfl (fun _ => by rw [e0]) this

theorem AllocDone.done (inv : Inv (szOf P) σ w h) {s : Sem Next} {ob : Ob} (d : AllocDone P σ h.length w s u ob) : OpDone P σ h w s u (h ++ [ob]) := by
  obtain ⟨o', w', v, hd, hs, hh, ho, key⟩ := d
  have hk : h.length = σ.n := inv.len
  rw [hk] at key
  obtain ⟨k1, k2⟩ := key (σ.add w.heap.size (verOf ob) (capOf v)) (w.alloc o') Knows.add (alloc_new w o')
  exact ⟨_, w', (Post.push inv ob o' (verOf ob) (capOf v) hd k1).ofHeap (by rw [hh]; rfl) ho, .inl ⟨v, hs, k2⟩⟩

theorem RelA.up {sz : TypeId → Nat} {σ' : Gh} {a : List V} {x : Array Value} (hr : ∀ x y, Rel sz σ x y → Rel sz σ' x y) (r : RelA sz σ a x) : RelA sz σ' a x :=
  ⟨r.1, fun i u v h1 h2 => hr _ _ (r.2 i u v h1 h2)⟩

theorem AllocDone.cells {s : Sem Next} {k : Nat} {t : TypeId} {c : List V} {arr : Array Value} (hs : s.run P w = .ok (.value (.pointer (some ⟨w.heap.size, 0, none⟩))) (w.alloc (.cells arr t)))
    (r : RelA (szOf P) σ c arr) (h1 : c.all V.one = true) : AllocDone P σ k w s (.ptr k 0) (.cells c) := by
  refine ⟨.cells arr t, w.alloc (.cells arr t), _, by simp, hs, rfl, ⟨rfl, rfl, rfl⟩, fun σ' w'' kn hw => ⟨⟨kn.ver, arr, t, (0, 0), by rw [kn.phi]; exact hw, fun i _ h => by omega, r.up kn.rel, h1⟩, ?_⟩⟩
  have : Rel (szOf P) σ' (.ptr k 0) (.pointer (some ⟨σ'.phi k, 0, none⟩)) := .ptr _ _ kn.n kn.ver
  rw [kn.phi] at this
  exact this

/-- a new block of cells -/
theorem OpDone.cells (inv : Inv (szOf P) σ w h) {s : Sem Next} {t : TypeId} {c : List V} {arr : Array Value} (hs : s.run P w = .ok (.value (.pointer (some ⟨w.heap.size, 0, none⟩))) (w.alloc (.cells arr t)))
    (r : RelA (szOf P) σ c arr) (h1 : c.all V.one = true) : OpDone P σ h w s (.ptr h.length 0) (h ++ [.cells c]) := by
  refine ⟨_, _, Post.push inv (.cells c) (.cells arr t) 0 0 (by simp) (relOb_cells_new (ver := 0) rfl rfl r h1), .inl ⟨_, hs, ?_⟩⟩
  have : Rel (szOf P) (σ.add w.heap.size 0 0) (.ptr σ.n 0) (.pointer (some ⟨(σ.add w.heap.size 0 0).phi σ.n, 0, none⟩)) := .ptr _ _ (by simp [Gh.add]) (by simp [Gh.add])
  rw [inv.len]
  simpa [Gh.add] using this

section
variable (hE : EnvOk P E) (inv : Inv (szOf P) σ w h) (r : RelA (szOf P) σ T a.tmps)
include hE inv r

theorem op_move {o : Oper} {x : Operand} (ho : o.op = .move x ∨ o.op = .assign x) (hv : opV E T h o.op = some (u, h')) : PureDone P σ h w (execOp a.eval o) u h' := by
  have _ := hE
  have e : evalV T x = some u ∧ h = h' := by
    rcases ho with ho | ho <;> rw [ho] at hv <;> simp only [opV] at hv <;> exact map_h hv
  obtain ⟨e, rfl⟩ := e
  refine PureDone.pureV inv (v := a.eval x) ?_ (evalV_rel r e)
  rcases ho with ho | ho <;> simp [execOp, ho]

theorem op_pick {o : Oper} {c x y : Operand} (ho : o.op = .pick c x y) (hv : opV E T h o.op = some (u, h')) : PureDone P σ h w (execOp a.eval o) u h' := by
  have _ := hE
  rw [ho] at hv
  simp only [opV] at hv
  split at hv
  · rename_i t ht
    obtain ⟨e, rfl⟩ := map_h hv
    have hc := evalV_rel r ht
    have hc' : a.eval c = .bool t := by generalize a.eval c = v at hc; cases hc; rfl
    have he := evalV_rel r e
    refine PureDone.pureV inv (v := a.eval (if t then x else y)) ?_ he
    cases t <;> simp [execOp, ho, hc', asBool]
  · cases hv

theorem op_load {o : Oper} {t : TypeId} {x : Operand} (ho : o.op = .load t x) (hv : opV E T h o.op = some (u, h')) : PureDone P σ h w (execOp a.eval o) u h' := by
  rw [ho] at hv
  simp only [opV] at hv
  split at hv
  · rename_i i p hi hp
    obtain ⟨hl, rfl⟩ := map_h hv
    obtain ⟨v, q1, q2⟩ := loadV_rel (hE.ti t i hi) inv (evalV_rel r hp) hl
    exact PureDone.pureV inv (v := v) (by simp [execOp, ho, q1]) q2
  · cases hv

theorem op_store {o : Oper} {t : TypeId} {x y : Operand} (ho : o.op = .store t x y) (hv : opV E T h o.op = some (u, h')) : OpDone P σ h w (execOp a.eval o) u h' := by
  rw [ho] at hv
  simp only [opV] at hv
  split at hv
  · rename_i i p v hi hp hx
    simp at hv
    obtain ⟨hs, rfl⟩ := hv
    obtain ⟨w', q1, q2⟩ := storeV_rel (hE.ti t i hi) inv (evalV_rel r hp) (evalV_rel r hx) hs
    exact ⟨σ, w', q2, .inr ⟨by simp [execOp, ho, q1], rfl⟩⟩
  · cases hv

theorem op_extract {o : Oper} {x : Operand} {n : Nat} (ho : o.op = .extract x n) (hv : opV E T h o.op = some (u, h')) : PureDone P σ h w (execOp a.eval o) u h' := by
  have _ := hE
  rw [ho] at hv
  simp only [opV] at hv
  split at hv
  · rename_i vs he
    obtain ⟨hn, rfl⟩ := map_h hv
    have hr := evalV_rel r he
    generalize hax : a.eval x = v at hr
    cases hr with
    | tuple _ y h1 h2 =>
      have hra : RelA (szOf P) σ vs y := ⟨h1, h2⟩
      obtain ⟨z, hz, rz⟩ := RelA.get hra hn
      exact PureDone.pureV inv (v := z) (by simp [execOp, ho, hax, Instr.extract, hz]) rz
  · cases hv

theorem op_makeInterface {o : Oper} {x : Operand} {t : TypeId} (ho : o.op = .makeInterface t x) (hv : opV E T h o.op = some (u, h')) : PureDone P σ h w (execOp a.eval o) u h' := by
  rw [ho] at hv
  simp only [opV] at hv
  split at hv
  · rename_i i v hi he
    have ht := hE.ti t i hi
    have hk := ht.kind
    split at hv
    · cases hv
    · rename_i hne
      simp at hv
      obtain ⟨rfl, rfl⟩ := hv
      refine PureDone.pureV inv (v := .iface t (a.eval x)) ?_ (.iface _ _ _ (evalV_rel r he))
      have key : ∃ d, P.underlying t = some d ∧ ∀ ms, d ≠ .interface ms := by
        cases hkk : i.kind <;> simp only [hkk, kindOk] at hk
        all_goals first
          | (exact absurd hkk (by simpa using hne))
          | (obtain ⟨d, hk, hd⟩ := hk; exact ⟨d, hk, fun ms e => by subst e; exact hd⟩)
          | (refine ⟨_, hk, ?_⟩; simp; done)
          | (obtain ⟨_, hk, _⟩ := hk; refine ⟨_, hk, ?_⟩; simp; done)
          | (obtain ⟨_, _, _, hk⟩ := hk; refine ⟨_, hk, ?_⟩; simp; done)
      obtain ⟨d, hd, hdn⟩ := key
      have hrun := run_underlying hd w
      cases d <;> first | exact absurd rfl (hdn _) | simp [execOp, ho, Instr.makeInterface, hrun]
  · cases hv

theorem op_makeFunc {o : Oper} {fn : Fn} {x y : Array Operand} (ho : o.op = .makeFunc fn x y) (hv : opV E T h o.op = some (u, h')) : PureDone P σ h w (execOp a.eval o) u h' := by
  have _ := hE
  rw [ho] at hv
  simp only [opV] at hv
  split at hv
  · rename_i as bs h1 h2
    have r1 := evalVs_rel r h1
    have r2 := evalVs_rel r h2
    have key : u = .func fn as bs ∧ h' = h ∧ ∀ l, fn ≠ .yield l := by
      split at hv <;> simp_all
    obtain ⟨rfl, rfl, hne⟩ := key
    refine PureDone.pureV inv (v := .func fn (x.map a.eval) (y.map a.eval)) (by simp [execOp, ho, Instr.makeFunc]) ?_
    have e1 : x.map a.eval = (x.toList.map a.eval).toArray := (by rw [List.map_toArray])
    have e2 : y.map a.eval = (y.toList.map a.eval).toArray := (by rw [List.map_toArray])
    rw [e1, e2]
    exact .func fn as bs _ _ hne r1.1 r2.1 r1.2 r2.2
  · cases hv

theorem op_unOp {o : Oper} {op : UnOp} {t : TypeId} {x : Operand} (ho : o.op = .unOp op t x) (hv : opV E T h o.op = some (u, h')) : PureDone P σ h w (execOp a.eval o) u h' := by
  have _ := hE
  rw [ho] at hv
  simp only [opV] at hv
  split at hv
  · rename_i v he
    obtain ⟨hu, rfl⟩ := map_h hv
    have hr := evalV_rel r he
    generalize hax : a.eval x = y at hr
    cases hr <;> simp only [unV] at hu <;> try (cases hu; done)
    · split at hu
      · rename_i e
        cases hu
        exact PureDone.pureV inv (v := .bool _) (by simp [execOp, ho, hax, Op.unary, e]) (.bool _)
      · cases hu
    · cases op <;> simp only at hu <;> try (cases hu; done)
      · cases hu
        exact PureDone.pureV inv (v := .int _ _) (by simp [execOp, ho, hax, Op.unary, Op.intArith]) (.int _ _)
      · cases hu
        exact PureDone.pureV inv (v := .int _ _) (by simp [execOp, ho, hax, Op.unary, Op.intBits]) (.int _ _)
  · cases hv

end

section
variable (hE : EnvOk P E) (r : RelA (szOf P) σ T a.tmps)
include hE r

theorem op_alloc {o : Oper} {t : TypeId} (ho : o.op = .alloc t) (hv : opV E T h o.op = some (u, h')) : ∃ ob, h' = h ++ [ob] ∧ AllocDone P σ h.length w (execOp a.eval o) u ob := by
  have _ := r
  rw [ho] at hv
  simp only [opV] at hv
  split at hv
  · rename_i i hi
    split at hv
    · rename_i h1
      simp at hv
      obtain ⟨rfl, rfl⟩ := hv
      have ht := hE.ti t i hi
      obtain ⟨z, hz, hrun⟩ := ht.run_zero
      refine ⟨_, rfl, AllocDone.cells (t := t) (arr := z.cells) ?_ (ofValue_rel _ _ _ _ hz).cells h1⟩
      simp [execOp, ho, Instr.alloc, hrun, newVar, newRow, World.alloc_eq]
    · cases hv
  · cases hv

theorem op_box {o : Oper} {t : TypeId} {x : Operand} (ho : o.op = .box t x) (hv : opV E T h o.op = some (u, h')) : ∃ ob, h' = h ++ [ob] ∧ AllocDone P σ h.length w (execOp a.eval o) u ob := by
  have _ := hE
  rw [ho] at hv
  simp only [opV] at hv
  split at hv
  · rename_i v he
    split at hv
    · rename_i h1
      simp at hv
      obtain ⟨rfl, rfl⟩ := hv
      refine ⟨_, rfl, AllocDone.cells (t := t) (arr := (a.eval x).cells) ?_ (evalV_rel r he).cells h1⟩
      simp [execOp, ho, Instr.box, newVar, newRow, World.alloc_eq]
    · cases hv
  · cases hv

theorem op_makeMap {o : Oper} {t : TypeId} {x : Option Operand} (ho : o.op = .makeMap t x) (hv : opV E T h o.op = some (u, h')) : ∃ ob, h' = h ++ [ob] ∧ AllocDone P σ h.length w (execOp a.eval o) u ob := by
  rw [ho] at hv
  have key : u = .map (some h.length) ∧ h' = h ++ [.map [] 0] ∧ (Instr.makeMap t (x.map a.eval)).run P w = .ok (.map (some w.heap.size)) (w.alloc (.map #[] 0)) := by
    cases x with
    | none =>
      simp [opV] at hv
      exact ⟨hv.1.symm, hv.2.symm, by simp [Instr.makeMap, World.alloc_eq]⟩
    | some y =>
      simp only [opV] at hv
      split at hv
      · rename_i i k n hi he
        have hr := evalV_rel r he
        generalize hax : a.eval y = z at hr
        cases hr
        split at hv
        · rename_i hk
          have ht := (hE.ti t i hi).kind
          rw [hk] at ht
          simp at hv
          exact ⟨hv.1.symm, hv.2.symm, by simp [Instr.makeMap, run_underlying ht, hax, asInt, asIntOf, World.alloc_eq]⟩
        · cases hv
      · cases hv
  obtain ⟨rfl, rfl, hrun⟩ := key
  refine ⟨_, rfl, .map #[] 0, w.alloc (.map #[] 0), .map (some w.heap.size), by simp, by simp [execOp, ho, hrun], rfl, ⟨rfl, rfl, rfl⟩, fun σ' w'' kn hw => ⟨⟨kn.ver, #[], by rw [kn.phi]; exact hw, rfl, fun i e e' he => by simp at he⟩, ?_⟩⟩
  have : Rel (szOf P) σ' (.map (some h.length)) (.map (some (σ'.phi h.length))) := .map _ kn.n kn.ver
  rw [kn.phi] at this
  exact this

end
end Go.AM

/- AM: operations, one by one (2): addresses, fields, indexes. -/
namespace Go.AM
variable {P : Program} {E : Env} {σ : Gh} {w : World} {h h' : Heap} {T : List V} {a : Act} {u : V}

/-- What is known of a method: a pointer's own. -/
def methOk (P : Program) (E : Env) : Prop := ∀ t n f, E.meth t n = some f → ∃ x m e, P.info? t = some x ∧ x.methods.find? (·.name == n) = some m ∧ m.path = #[] ∧ m.func = some (f, true) ∧ P.underlying t = some (.pointer e)

theorem run_method (hm : methOk P E) {t : TypeId} {n : String} {f : FuncId} (he : E.meth t n = some f) (v : Value) (w : World) (k : Nat) : (method (k + 1) t v n).run P w = .ok (f, v) w := by
  obtain ⟨x, m, e, h1, h2, h3, h4, h5⟩ := hm t n f he
  simp [method, typeInfo, h1, h2, h3, h4, follow, receiverAt, run_underlying h5, Place.get]

theorem run_nilAhead (hm : methOk P E) {t : TypeId} {n : String} {f : FuncId} (he : E.meth t n = some f) (v : Value) (w : World) (k : Nat) : (nilAhead (k + 1) t v n).run P w = .ok (some false) w := by
  obtain ⟨x, m, e, h1, h2, h3, h4, h5⟩ := hm t n f he
  simp [nilAhead, typeInfo, h1, h2, h3, h4, followBlind]

theorem part_rel {t : TypeId} {i : TI} (ht : TIok P t i) {c : List V} {arr : Array Value} {off : Nat} (hc : RelA (szOf P) σ c arr) (h : partV i c off = some u) (w : World) :
    ∃ v, (part t arr off).run P w = .ok v w ∧ Rel (szOf P) σ u v := by
  unfold partV at h
  by_cases ha : i.kind.isAgg = true
  · rw [if_pos ha] at h
    split at h
    · cases h
    simp only [takeAt, Option.map_eq_some_iff] at h
    obtain ⟨cs, hcs, rfl⟩ := h
    split at hcs
    · rename_i hle
      cases hcs
      have hx := hc.extract off i.size hle
      exact ⟨.agg (arr.extract off (off + i.size)), by simp [part, ht.run_isAgg, ha, ht.run_sizeOf], .agg _ _ hx.1 hx.2⟩
    · cases hcs
  · rw [if_neg ha] at h
    have ha' : i.kind.isAgg = false := by simpa using ha
    obtain ⟨v, hv, hr⟩ := hc.get h
    exact ⟨v, by simp [part, ht.run_isAgg, ha', hv], hr⟩

theorem field_of {fields : Array Field} {fs : List (Nat × TypeId)} (h : fields.toList.map (fun f => (f.offset, f.type)) = fs) {n off : Nat} {t : TypeId} (hn : fs[n]? = some (off, t)) :
    ∃ f, fields[n]? = some f ∧ f.offset = off ∧ f.type = t := by
  rw [← h, List.getElem?_map, Option.map_eq_some_iff] at hn
  obtain ⟨f, h1, h2⟩ := hn
  simp at h2
  exact ⟨f, by simpa using h1, h2.1, h2.2⟩

/-- an address, further on -/
theorem addr_add {sz : TypeId → Nat} {σ : Gh} {p : V} {pv : Value} (r : Rel sz σ p pv) {n : Nat} {q : V} (hq : shiftV p n = some q) : ∃ ad, pv = .pointer (some ad) ∧ Rel sz σ q (.pointer (some (ad.add n))) := by
  cases r with
  | ptr g off hg hv => simp [shiftV] at hq; exact ⟨_, rfl, by rw [← hq, add_none]; exact .ptr g _ hg hv⟩
  | el cells off b o arr val hF h1 h2 => simp [shiftV] at hq; exact ⟨_, rfl, by rw [← hq, add_none, Nat.add_assoc]; exact .el cells _ b o arr val hF h1 h2⟩
  | lst g ver T idx off ad hg h0 hv ha => simp [shiftV] at hq; exact ⟨_, rfl, by rw [← hq]; exact .lst g ver T idx _ _ hg h0 hv fun e => by rw [ha e, add_none, Nat.add_assoc]⟩
  | _ => simp [shiftV] at hq

theorem bytesOf_get {s : ByteArray} {n b : Nat} (h : (bytesOf s)[n]? = some b) : ∃ x : UInt8, s[n]? = some x ∧ x.toNat = b := by
  simp only [bytesOf, List.getElem?_map, Option.map_eq_some_iff] at h
  obtain ⟨x, h1, h2⟩ := h
  refine ⟨x, ?_, h2⟩
  have hlt : n < s.data.size := by simpa using (List.getElem?_eq_some_iff.1 h1).1
  have hlt' : n < s.size := hlt
  rw [getElem?_pos s n hlt']
  have : s.data.toList[n]? = some s.data[n] := by rw [Array.getElem?_toList]; exact Array.getElem?_eq_getElem hlt
  rw [this] at h1
  exact h1

section
variable (hE : EnvOk P E) (inv : Inv (szOf P) σ w h) (r : RelA (szOf P) σ T a.tmps)
include hE inv r

theorem op_nilCheck (hm : methOk P E) {o : Oper} {x : Operand} (ho : o.op = .nilCheck x) (hv : opV E T h o.op = some (u, h')) : PureDone P σ h w (execOp a.eval o) u h' := by
  have _ := hE
  rw [ho] at hv
  simp only [opV] at hv
  have hr : ∀ y, evalV T x = some y → Rel (szOf P) σ y (a.eval x) := fun y hy => evalV_rel r hy
  split at hv
  all_goals rename_i he
  all_goals try (cases hv; done)
  case h_8 =>
    split at hv
    · rename_i hmm
      simp at hv
      obtain ⟨rfl, rfl⟩ := hv
      have h1 := hr _ he
      refine PureDone.pureV inv (v := a.eval x) ?_ h1
      generalize hax : a.eval x = v at h1
      obtain ⟨f, hf⟩ := Option.isSome_iff_exists.1 hmm
      cases h1 with
      | func fn as bs xs ys hne s1 s2 r1 r2 =>
        obtain ⟨v0, hv0, rv0⟩ := RelA.get (⟨s1, r1⟩ : RelA (szOf P) σ _ xs) (i := 0) rfl
        cases rv0 with
        | iface t' u' v' rr =>
          have := run_nilAhead hm hf v' w (P.types.size + 99)
          have e : P.types.size + Made.depth = P.types.size + 99 + 1 := rfl
          simp [execOp, ho, hax, hv0, e, this]
    · cases hv
  all_goals
    simp at hv
    obtain ⟨rfl, rfl⟩ := hv
    have h1 := hr _ he
    refine PureDone.pureV inv (v := a.eval x) ?_ h1
    generalize hax : a.eval x = v at h1
    cases h1 <;> simp [execOp, ho, hax]

theorem op_fieldAddr {o : Oper} {s : TypeId} {x : Operand} {n : Nat} (ho : o.op = .fieldAddr s x n) (hv : opV E T h o.op = some (u, h')) : PureDone P σ h w (execOp a.eval o) u h' := by
  rw [ho] at hv
  simp only [opV] at hv
  split at hv
  · rename_i i p hi hp
    split at hv
    · rename_i fs hk
      split at hv
      · rename_i off t hn
        split at hv
        · rename_i j hj
          split at hv
          · cases hv
          rename_i h0
          have ht := (hE.ti s i hi).kind
          rw [hk] at ht
          obtain ⟨fields, hu, hf⟩ := ht
          obtain ⟨f, f1, f2, f3⟩ := field_of hf hn
          obtain ⟨ku, rfl⟩ := map_h hv
          obtain ⟨ad, had, rad⟩ := addr_add (evalV_rel r hp) ku
          refine PureDone.pureV inv (v := .pointer (some (ad.add off))) ?_ rad
          have hsz := (hE.ti t j hj).run_sizeOf w
          rw [← f3] at hsz
          simp [execOp, ho, Instr.fieldAt, run_underlying hu, f1, had, Instr.sureAddr, fieldPlace, hsz, h0, f2]
        · cases hv
      · cases hv
    · cases hv
  · cases hv

theorem op_field {o : Oper} {t : TypeId} {x : Operand} {n : Nat} (ho : o.op = .field t x n) (hv : opV E T h o.op = some (u, h')) : PureDone P σ h w (execOp a.eval o) u h' := by
  rw [ho] at hv
  simp only [opV] at hv
  split at hv
  · rename_i i c hi hp
    split at hv
    · rename_i fs hk
      split at hv
      · rename_i off t' hn
        simp only [Option.bind_eq_some_iff] at hv
        obtain ⟨j, hj, hv⟩ := hv
        obtain ⟨hu, rfl⟩ := map_h hv
        have ht := (hE.ti t i hi).kind
        rw [hk] at ht
        obtain ⟨fields, hun, hf⟩ := ht
        obtain ⟨f, f1, f2, f3⟩ := field_of hf hn
        have hr := evalV_rel r hp
        generalize hax : a.eval x = v at hr
        cases hr with
        | agg _ arr s1 s2 =>
          obtain ⟨z, q1, q2⟩ := part_rel (hE.ti t' j hj) (⟨s1, s2⟩ : RelA (szOf P) σ c arr) hu w
          refine PureDone.pureV inv (v := z) ?_ q2
          rw [← f3, ← f2] at q1
          simp [execOp, ho, Instr.field, run_underlying hun, f1, hax, asAgg, q1]
      · cases hv
    · cases hv
  · cases hv

theorem op_index {o : Oper} {t : TypeId} {x y : Operand} (ho : o.op = .index t x y) (hv : opV E T h o.op = some (u, h')) : PureDone P σ h w (execOp a.eval o) u h' := by
  rw [ho] at hv
  simp only [opV] at hv
  split at hv
  · rename_i i v k n hi hp hy
    split at hv
    · cases hv
    rename_i hn
    have hy' := evalV_rel r hy
    generalize hay : a.eval y = yv at hy'
    cases hy'
    have hr := evalV_rel r hp
    generalize hax : a.eval x = xv at hr
    have ht := (hE.ti t i hi).kind
    split at hv
    · rename_i len e c hk
      split at hv
      · cases hv
      rename_i hlt
      simp only [Option.bind_eq_some_iff] at hv
      obtain ⟨j, hj, hv⟩ := hv
      obtain ⟨hu, rfl⟩ := map_h hv
      rw [hk] at ht
      cases hr with
      | agg _ arr s1 s2 =>
        obtain ⟨z, q1, q2⟩ := part_rel (hE.ti e j hj) (⟨s1, s2⟩ : RelA (szOf P) σ c arr) hu w
        refine PureDone.pureV inv (v := z) ?_ q2
        have h1 : 0 ≤ n ∧ n < (len : Int) := by omega
        have hsz := (hE.ti e j hj).run_sizeOf w
        simp [execOp, ho, hax, hay, Instr.index, run_underlying ht, asIntOf, h1, hsz, q1]
    · rename_i s hk
      simp only [Option.map_eq_some_iff] at hv
      obtain ⟨b, hb, e⟩ := hv
      cases e
      rw [hk] at ht
      cases hr with
      | str bs =>
        obtain ⟨x, hx, rfl⟩ := bytesOf_get hb
        refine PureDone.pureV inv (v := .int .u8 x.toNat) ?_ (.int _ _)
        have h0 : 0 ≤ n := by omega
        simp [execOp, ho, hax, hay, Instr.index, run_underlying ht, asIntOf, h0, hx]
    · cases hv
  · cases hv

theorem op_indexAddr {o : Oper} {t : TypeId} {x y : Operand} (ho : o.op = .indexAddr t x y) (hv : opV E T h o.op = some (u, h')) : PureDone P σ h w (execOp a.eval o) u h' := by
  rw [ho] at hv
  simp only [opV] at hv
  split at hv
  · rename_i i p k n hi hp hy
    split at hv
    · cases hv
    rename_i hn
    have hy' := evalV_rel r hy
    generalize hay : a.eval y = yv at hy'
    cases hy'
    have hr := evalV_rel r hp
    generalize hax : a.eval x = xv at hr
    have ht := (hE.ti t i hi).kind
    split at hv
    · rename_i len e hk
      rw [hk] at ht
      split at hv
      · rename_i j hj
        split at hv
        · cases hv
        rename_i hlt
        obtain ⟨hu, rfl⟩ := map_h hv
        obtain ⟨ad, rfl, rad⟩ := addr_add hr hu
        refine PureDone.pureV inv (v := _) ?_ rad
        have hsz := (hE.ti e j hj).run_sizeOf w
        have h1 : 0 ≤ n ∧ n < (len : Int) := by omega
        simp [execOp, ho, hax, hay, Instr.indexAt, run_underlying ht, asIntOf, Instr.sureAddr, h1, hsz]
      · cases hv
    · rename_i e hk
      rw [hk] at ht
      split at hv
      · cases hv
      rename_i hj
      obtain ⟨j, hj⟩ := Option.isSome_iff_exists.1 (by simpa [Option.isSome_iff_ne_none] using hj : (E.ti e).isSome = true)
      have hsz := (hE.ti e j hj).run_sizeOf w
      have hsz2 := (hE.ti e j hj).size
      have run : ∀ (ad : Addr) (len cap : Nat), n.toNat < len → (execOp a.eval o).run P w = .ok (.value (.pointer (some (ad.add (n.toNat * j.size))))) w ∨ xv ≠ .slice (some ad) len cap := fun ad len cap hlt => by
        by_cases hx : xv = .slice (some ad) len cap
        · left
          have h1 : 0 ≤ n ∧ n < (len : Int) := by omega
          simp [execOp, ho, hax, hx, hay, Instr.indexAt, run_underlying ht, asIntOf, h1, hsz]
        · exact .inr hx
      split at hv
      · rename_i k' T' l
        split at hv
        · rename_i hT
          subst hT
          simp only [Option.map_eq_some_iff] at hv
          obtain ⟨z, hz, hv⟩ := hv
          cases hv
          cases hr with
          | nilslice => simp at hz
          | slice _ _ _ b o' cap arr val q1 q2 q3 q4 q5 =>
            have hlt := list_lt hz
            obtain ⟨s1, s2, s3, s4⟩ := q4 _ z hz
            rcases run ⟨b, o', none⟩ l.length cap hlt with hrun | hne
            · refine PureDone.pureV inv hrun ?_
              rw [add_none]
              have hone : ∀ (j : Nat) (y : V), z.cells[j]? = some y → y.one = true := fun j y hy => List.all_eq_true.1 s3 y (List.mem_of_getElem? hy)
              have := Rel.el (sz := szOf P) (σ := σ) z.cells 0 b (o' + n.toNat * j.size) arr (val n.toNat) s1 (fun i x hx => ⟨?_, hone i x hx⟩) (fun i x hx => q5 _ z hz i x hx)
              · simpa using this
              · rw [← hsz2, Nat.add_assoc]; exact s4 i (by rw [← s2]; exact list_lt hx)
            · exact absurd rfl hne
        · cases hv
      · rename_i g ver T' off len clip
        split at hv
        · rename_i hT
          obtain ⟨rfl, hlt⟩ := hT
          simp at hv
          obtain ⟨rfl, rfl⟩ := hv
          cases hr with
          | mslice _ _ _ _ _ _ ad cap g1 g2 g3 g4 g5 =>
            rcases run ad len cap hlt with hrun | hne
            · refine PureDone.pureV inv hrun (.lst g ver T' _ 0 _ g1 g2 g3 fun e => ?_)
              have := (g5 e).1 (by omega)
              rw [this, add_none, ← hsz2]
              have hs : szOf P T' = P.cellsOf T' := rfl
              rw [hs, Nat.add_mul]
              congr 1
              omega
            · exact absurd rfl hne
        · cases hv
      · rename_i g T' off len cap
        split at hv
        · rename_i hT
          obtain ⟨rfl, hlt⟩ := hT
          simp at hv
          obtain ⟨rfl, rfl⟩ := hv
          cases hr with
          | cslice _ _ _ _ _ ad g1 g2 g3 g4 g5 =>
            rcases run ad len cap hlt with hrun | hne
            · refine PureDone.pureV inv hrun ?_
              rw [g5 (by omega), add_none, ← hsz2]
              have e1 : szOf P T' = 1 := g3
              have e2 : P.cellsOf T' = 1 := g3
              rw [e2, Nat.mul_one]
              exact .ptr g _ g1 g2
            · exact absurd rfl hne
        · cases hv
      · cases hv
    · cases hv
  · cases hv

end
end Go.AM

/- AM: slices: reading elements, append. -/
namespace Go.AM
variable {P : Program} {E : Env} {σ : Gh} {w : World} {h h' : Heap} {T : List V} {a : Act} {u : V}

/-- elements, laid flat -/
def RelF (sz : TypeId → Nat) (σ : Gh) (n : Nat) (l : List V) (ys : Array Value) : Prop :=
  ys.size = l.length * n ∧ ∀ (i : Nat) (x : V), l[i]? = some x → x.cells.length = n ∧ x.cells.all V.one = true ∧ ∀ (j : Nat) (y : V), x.cells[j]? = some y → ∃ v, ys[i * n + j]? = some v ∧ Rel sz σ y v

theorem RelF.mono {sz : TypeId → Nat} {σ τ : Gh} (le : Le σ τ) {n : Nat} {l : List V} {ys : Array Value} (r : RelF sz σ n l ys) : RelF sz τ n l ys :=
  ⟨r.1, fun i x hx => let ⟨p, q, s⟩ := r.2 i x hx; ⟨p, q, fun j y hy => let ⟨v, a, b⟩ := s j y hy; ⟨v, a, b.mono le⟩⟩⟩

theorem RelF.nil (sz : TypeId → Nat) (σ : Gh) (n : Nat) : RelF sz σ n [] #[] := ⟨by simp, fun i x h => by simp at h⟩

theorem RelF.append {sz : TypeId → Nat} {σ : Gh} {n : Nat} {l m : List V} {ys zs : Array Value} (r : RelF sz σ n l ys) (s : RelF sz σ n m zs) : RelF sz σ n (l ++ m) (ys ++ zs) := by
  refine ⟨by simp [r.1, s.1, Nat.add_mul], fun i x hx => ?_⟩
  rw [List.getElem?_append] at hx
  split at hx
  · rename_i hi
    obtain ⟨p, q, t⟩ := r.2 i x hx
    refine ⟨p, q, fun j y hy => ?_⟩
    obtain ⟨v, a, b⟩ := t j y hy
    refine ⟨v, ?_, b⟩
    rw [Array.getElem?_append_left]
    · exact a
    · exact (Array.getElem?_eq_some_iff.1 a).1
  · rename_i hi
    obtain ⟨p, q, t⟩ := s.2 _ x hx
    refine ⟨p, q, fun j y hy => ?_⟩
    obtain ⟨v, a, b⟩ := t j y hy
    refine ⟨v, ?_, b⟩
    have e : i * n + j - ys.size = (i - l.length) * n + j := by
      rw [r.1, Nat.sub_mul]
      have : l.length * n ≤ i * n := Nat.mul_le_mul_right _ (by omega)
      omega
    rw [Array.getElem?_append_right, e]
    · exact a
    · rw [r.1]
      have : l.length * n ≤ i * n := Nat.mul_le_mul_right _ (by omega)
      omega

/-- Where a slice's elements lie. -/
def Reads (sz : TypeId → Nat) (σ : Gh) (w : World) (n : Nat) (base : Option Addr) (l : List V) : Prop :=
  l = [] ∨ ∃ b o arr T fr, base = some ⟨b, o, none⟩ ∧ w.heap[b]? = some (.cells arr T fr) ∧ o + l.length * n ≤ arr.size ∧
    ∀ (i : Nat) (x : V), l[i]? = some x → x.cells.length = n ∧ x.cells.all V.one = true ∧ ∀ (j : Nat) (y : V), x.cells[j]? = some y → ∃ v, arr[o + (i * n + j)]? = some v ∧ Rel sz σ y v

theorem last_le {α : Type} {arr : Array α} {o n m : Nat} (h : ∀ i, i < m → ∀ j, j < n → ∃ v, arr[o + (i * n + j)]? = some v) (hm : 0 < m) (hn : 0 < n) : o + m * n ≤ arr.size := by
  obtain ⟨v, hv⟩ := h (m - 1) (by omega) (n - 1) (by omega)
  have := (Array.getElem?_eq_some_iff.1 hv).1
  have e : m * n = (m - 1) * n + n := by
    obtain ⟨k, rfl⟩ : ∃ k, m = k + 1 := ⟨m - 1, by omega⟩
    simp [Nat.add_mul]
  omega

theorem elems_rel (inv : Inv (szOf P) σ w h) {x : V} {v : Value} (r : Rel (szOf P) σ x v) {l : List V} {T : TypeId} (he : elemsV h x = some l) (hT : sliceT x = some T) (hpos : 0 < szOf P T) :
    ∃ base cap, v = .slice base l.length cap ∧ Reads (szOf P) σ w (szOf P T) base l := by
  cases r with
  | nilslice T' =>
    simp [elemsV] at he; subst he
    exact ⟨none, 0, rfl, .inl rfl⟩
  | slice k T' l' b o cap arr val q1 q2 q3 q4 q5 =>
    simp [elemsV] at he; subst he
    simp [sliceT] at hT; subst hT
    refine ⟨_, cap, rfl, ?_⟩
    cases l' with
    | nil => exact .inl rfl
    | cons z zs =>
      right
      obtain ⟨hF, _⟩ := q4 0 z rfl
      obtain ⟨T', fr, hb⟩ := inv.fro b arr hF
      refine ⟨b, o, arr, T', fr, rfl, hb, last_le (fun i hi j hj => ?_) (by simp) hpos, fun i x hx => ?_⟩
      · have hx := List.getElem?_eq_getElem hi
        exact ⟨val i j, (q4 i _ hx).2.2.2 j hj⟩
      · obtain ⟨_, s2, s3, s4⟩ := q4 i x hx
        exact ⟨s2, s3, fun j y hy => ⟨val i j, s4 j (by rw [← s2]; exact list_lt hy), q5 i x hx j y hy⟩⟩
  | mslice g ver T' off len clip ad cap g1 g2 g3 g4 g5 =>
    simp only [sliceT, Option.some.injEq] at hT
    subst hT
    simp only [elemsV] at he
    split at he
    · rename_i T'' ver' l' hg
      split at he
      · rename_i hc
        obtain ⟨rfl, rfl, hle⟩ := hc
        cases he
        obtain ⟨e1, e2, e3, e4, arr, Te, fr, b1, b2, b3, b4⟩ := inv.ob g _ hg
        have hlen : ((l'.drop off).take len).length = len := by simp; omega
        refine ⟨some ad, cap, by rw [hlen], ?_⟩
        rcases Nat.eq_zero_or_pos len with h0 | h0
        · left; rw [h0]; simp
        · right
          obtain ⟨p1, p2, p3⟩ := g5 e1.symm
          refine ⟨_, _, arr, Te, fr, congrArg some (p1 (by omega)), b1, ?_, fun i x hx => ?_⟩
          · rw [hlen]
            have : (off + len) * szOf P T' ≤ σ.cap g * szOf P T' := Nat.mul_le_mul_right _ (by omega)
            rw [Nat.add_mul] at this
            omega
          · rw [List.getElem?_take] at hx
            split at hx
            · rw [List.getElem?_drop] at hx
              obtain ⟨s1, s2, s3⟩ := b4 _ x hx
              refine ⟨s1, s2, fun j y hy => ?_⟩
              obtain ⟨v, q, q'⟩ := s3 j y hy
              refine ⟨v, ?_, q'⟩
              rw [← q]
              congr 1
              rw [Nat.add_mul]; omega
            · cases hx
      · cases he
    · cases he
  | cslice g T' off len cap ad g1 g2 g3 g4 g5 =>
    simp only [sliceT, Option.some.injEq] at hT
    subst hT
    simp only [elemsV] at he
    split at he
    · rename_i c hg
      simp only [takeAt] at he
      split at he
      · rename_i hle
        cases he
        obtain ⟨e0, arr, T', fr, b1, b2, b3, b4⟩ := inv.ob g _ hg
        have hlen : ((c.drop off).take len).length = len := by simp; omega
        refine ⟨some ad, cap, by rw [hlen], ?_⟩
        rcases Nat.eq_zero_or_pos len with h0 | h0
        · left; rw [h0]; simp
        · right
          refine ⟨_, _, arr, T', fr, congrArg some (g5 (by omega)), b1, ?_, fun i x hx => ?_⟩
          · rw [hlen, g3, b3.1]; omega
          · rw [List.getElem?_take] at hx
            split at hx
            · rw [List.getElem?_drop] at hx
              have ho : x.one = true := List.all_eq_true.1 b4 x (List.mem_of_getElem? hx)
              have hc : x.cells = [x] := by cases x <;> first | rfl | simp [V.one] at ho
              rw [g3, hc]
              refine ⟨rfl, by simpa using ho, fun j y hy => ?_⟩
              have hj : j = 0 := by have := list_lt hy; simp at this; omega
              subst hj
              simp at hy; subst hy
              obtain ⟨v, q, q'⟩ := b3.get hx
              exact ⟨v, by simpa using q, q'⟩
            · cases hx
      · cases he
    · cases he
  | _ => simp [sliceT] at hT

theorem firstCells_run {n : Nat} {base : Option Addr} {l : List V} (rd : Reads (szOf P) σ w n base l) (k cap m : Nat) (hm : m ≤ l.length) (hb : l = [] → base = none ∨ ∃ ad, base = some ad) :
    ∃ ys, (Builtin.firstCells n m (.slice base k cap)).run P w = .ok ys w ∧ RelF (szOf P) σ n (l.take m) ys := by
  rcases rd with rfl | ⟨b, o, arr, T, fr, rfl, h1, h2, h3⟩
  · have : m = 0 := by simpa using hm
    subst this
    rcases hb rfl with rfl | ⟨ad, rfl⟩
    · exact ⟨#[], by simp [Builtin.firstCells], by simpa using RelF.nil (szOf P) σ n⟩
    · exact ⟨#[], by simp [Builtin.firstCells, loadCells, loadCellsFrom], by simpa using RelF.nil (szOf P) σ n⟩
  · have hle : m * n ≤ l.length * n := Nat.mul_le_mul_right _ hm
    refine ⟨arr.extract o (o + m * n), by simp [Builtin.firstCells, run_loadCells_am P h1 (show o + m * n ≤ arr.size by omega)], ?_, fun i x hx => ?_⟩
    · have : (l.take m).length = m := by simp; omega
      rw [this]; simp; omega
    · rw [List.getElem?_take] at hx
      split at hx
      · rename_i hi
        obtain ⟨p, q, s⟩ := h3 i x hx
        refine ⟨p, q, fun j y hy => ?_⟩
        obtain ⟨v, a, b⟩ := s j y hy
        have hj : j < n := by rw [← p]; exact list_lt hy
        have : (i + 1) * n ≤ m * n := Nat.mul_le_mul_right _ (by omega)
        rw [Nat.add_mul, Nat.one_mul] at this
        refine ⟨v, ?_, b⟩
        rw [Array.getElem?_eq_getElem (by simp; omega), Array.getElem_extract]
        rw [Array.getElem?_eq_getElem (by omega)] at a
        exact a
      · cases hx

/-! ### append, as the machine does it -/

theorem growBy_le (n c : Nat) : Builtin.growBy n 4 c ≤ 3 * c + 1200 := by
  simp only [Builtin.growBy]
  repeat' split
  all_goals omega

theorem nextcap_le {need c b : Nat} (h : c < need) (hb : need * b ≤ 2 ^ 44) : Builtin.nextslicecap need c * b ≤ 2 ^ 48 := by
  have hcb : c * b ≤ need * b := Nat.mul_le_mul_right _ (by omega)
  unfold Builtin.nextslicecap
  split
  · omega
  · split
    · have : 2 * c * b = 2 * (c * b) := Nat.mul_assoc 2 c b
      omega
    · have h1 := growBy_le need c
      have h2 : Builtin.growBy need 4 c * b ≤ (3 * c + 1200) * b := Nat.mul_le_mul_right _ h1
      have h3 : (3 * c + 1200) * b = 3 * (c * b) + 1200 * b := by rw [Nat.add_mul, Nat.mul_assoc]
      have h4 : 257 * b ≤ need * b := Nat.mul_le_mul_right _ (by omega)
      omega

theorem lenOf_run (x : Value) (n : Nat) (h : (∃ b c, x = .slice b n c) ∨ ∃ s : ByteArray, x = .string s ∧ s.size = n) (w : World) : (Builtin.lenOf x).run P w = .ok n w := by
  rcases h with ⟨b, c, rfl⟩ | ⟨s, rfl, rfl⟩ <;> simp [Builtin.lenOf]

/-- what is asked of the types at an append -/
structure AppT (P : Program) (ts : Array TypeId) (e : TypeId) (j : TI) : Prop where
  t0 : ∃ t, ts[0]? = some t ∧ P.underlying t = some (.slice e)
  t1 : ∃ t d, ts[1]? = some t ∧ P.underlying t = some d ∧ ∀ k, d ≠ .int k
  ti : TIok P e j

theorem run_append_place {ts : Array TypeId} {ty e : TypeId} {j : TI} (hT : AppT P ts e j) {x : Value} {m sLen sCap : Nat} {base : Option Addr} {ys : Array Value} (hlen : ∀ w, (Builtin.lenOf x).run P w = .ok m w)
    (hys : (Builtin.firstCells j.size m x).run P w = .ok ys w) (hroom : sLen + m ≤ sCap) {b o : Nat} {arr : Array Value} {Te : TypeId} {fr : Nat × Nat}
    (hb : ys.size = 0 ∨ base = some ⟨b, o, none⟩) (hw : w.heap[b]? = some (.cells arr Te fr)) (hl : noLock arr fr) (hfit : o + sLen * j.size + ys.size ≤ arr.size) (h1 : ∀ v ∈ ys.toList, v.oneCell' = true) :
    ∃ w' arr', (Builtin.append_ ts ty #[.slice base sLen sCap, x]).run P w = .ok (.slice base (sLen + m) sCap) w' ∧ w'.heap[b]? = some (.cells arr' Te fr) ∧ SameBut w w' b ∧ arr'.size = arr.size ∧
      ∀ k, arr'[k]? = if o + sLen * j.size ≤ k ∧ k < o + sLen * j.size + ys.size then ys[k - (o + sLen * j.size)]? else arr[k]? := by
  obtain ⟨t0, ht0, hu0⟩ := hT.t0
  obtain ⟨t1, d1, ht1, hu1, hd1⟩ := hT.t1
  have hz : (match d1 with | .int _ => true | _ => false) = false := by cases d1 <;> first | rfl | exact absurd rfl (hd1 _)
  rcases hb with h0 | rfl
  · have hy0 : ys.toList = [] := by
      have : ys.toList.length = 0 := by simpa using h0
      exact List.length_eq_zero_iff.1 this
    refine ⟨w, arr, ?_, hw, SameBut.refl _ _, rfl, fun k => by rw [if_neg (by omega)]⟩
    cases base with
    | none => simp [Builtin.append_, ht0, ht1, run_underlying hu0, run_underlying hu1, hT.ti.run_sizeOf, hz, hlen, hroom, hys]
    | some ad => simp [Builtin.append_, ht0, ht1, run_underlying hu0, run_underlying hu1, hT.ti.run_sizeOf, hz, hlen, hroom, hys, hy0, storeCells]
  · obtain ⟨w', arr', p1, p2, p3, p4, p5⟩ := run_storeCells_am P b (o + sLen * j.size) ys.toList 0 w arr Te fr hw hl (by simpa using hfit) h1
    refine ⟨w', arr', ?_, p2, p3, p4, fun k => by simpa using p5 k⟩
    simp [Builtin.append_, ht0, ht1, run_underlying hu0, run_underlying hu1, hT.ti.run_sizeOf, hz, hlen, hroom, hys, add_none, p1]

theorem zero_size {t : TypeId} {i : TI} (ht : TIok P t i) {z : Value} (hz : ofValue z = some i.zero) : z.cells.size = i.size := by
  rw [← ht.zlen]; exact (ofValue_rel (szOf P) ⟨0, id, id, id, id, fun _ => none, fun _ _ _ => True⟩ z i.zero hz).cells.1

theorem run_append_grow {ts : Array TypeId} {ty e : TypeId} {j : TI} (hT : AppT P ts e j) {x : Value} {m sLen sCap : Nat} {base : Option Addr} {xs ys : Array Value} (hlen : ∀ w, (Builtin.lenOf x).run P w = .ok m w)
    (hys : ∀ w' : World, w'.heap = w.heap → (Builtin.firstCells j.size m x).run P w' = .ok ys w') (hxs : ∀ w' : World, w'.heap = w.heap → (Builtin.firstCells j.size sLen (.slice base sLen sCap)).run P w' = .ok xs w')
    (hroom : ¬ sLen + m ≤ sCap) (hbytes : 0 < j.bytes) (hmax : (sLen + m) * j.bytes ≤ 2 ^ 44) :
    ∃ (cap : Nat) (rest : Array Value) (w0 : World), (Builtin.append_ ts ty #[.slice base sLen sCap, x]).run P w = .ok (.slice (some ⟨w.heap.size, 0, none⟩) (sLen + m) cap) (w0.alloc (.cells (xs ++ ys ++ rest) e)) ∧ w0.heap = w.heap ∧
      (w0.os = w.os ∧ w0.output = w.output ∧ w0.tape = w.tape) ∧ sLen + m ≤ cap ∧ rest.size = (cap - (sLen + m)) * j.size := by
  obtain ⟨t0, ht0, hu0⟩ := hT.t0
  obtain ⟨t1, d1, ht1, hu1, hd1⟩ := hT.t1
  have hz : (match d1 with | .int _ => true | _ => false) = false := by cases d1 <;> first | rfl | exact absurd rfl (hd1 _)
  obtain ⟨ti, hti, hts, htb, z, hz1, hz2⟩ := hT.ti.run_typeInfo
  have hzero : ∀ w : World, (zeroValue e).run P w = .ok z w := fun w => by simp [zeroValue, hti, hz1]
  have hmx : ¬ (9223372036854775807 < (sLen : Int) + (m : Int) ∧ j.bytes = 0) := by omega
  have hcap := nextcap_le (c := sCap) (by omega) hmax
  refine ⟨(sLen + m) + (w.tape w.drawn (.appendCap (sLen + m) sCap e)) % (2 ^ 63 - (sLen + m)), Builtin.zeroCells z.cells ((sLen + m) + (w.tape w.drawn (.appendCap (sLen + m) sCap e)) % (2 ^ 63 - (sLen + m)) - (sLen + m)), w.drew, ?_, rfl, ⟨rfl, rfl, rfl⟩, by omega, ?_⟩
  · have hx' := hxs w.drew rfl
    have hy' := hys w.drew rfl
    simp [Builtin.append_, ht0, ht1, run_underlying hu0, run_underlying hu1, hT.ti.run_sizeOf, hz, hlen, hroom, hti, htb, hmx, Nat.not_lt.2 hcap, Question.forced, Question.cut, hx', hy', hzero, newRow, World.alloc_eq]
  · simp [Builtin.zeroCells, zero_size hT.ti hz2]

end Go.AM

/- AM: append. -/
namespace Go.AM
variable {P : Program} {E : Env} {σ : Gh} {w : World} {h h' : Heap} {T : List V} {a : Act} {u : V}

theorem Inv.congr {sz : TypeId → Nat} (inv : Inv sz σ w h) {w0 : World} (e : w0.heap = w.heap) : Inv sz σ w0 h := by
  refine ⟨inv.len, fun g o hg => ?_, fun b arr hb => by rw [e]; exact inv.fro b arr hb, fun g ag => by rw [e]; exact inv.live g ag, inv.inj⟩
  exact RelOb.mono (Le.refl σ) (by rw [← inv.len]; exact list_lt hg) rfl (fun _ => by rw [e]) (inv.ob g o hg)

theorem Post.same {sz : TypeId → Nat} (inv : Inv sz σ w h) {w0 : World} (e : w0.heap = w.heap) (eo : w0.os = w.os ∧ w0.output = w.output ∧ w0.tape = w.tape) : Post sz σ h w σ h w0 :=
  ⟨Le.refl σ, inv.congr e, ⟨by rw [e]; exact Nat.le_refl _, fun _ _ _ => by rw [e], fun _ _ h => h, fun _ _ _ h => .inl h, eo⟩⟩

theorem Reads.congr {sz : TypeId → Nat} {n : Nat} {base : Option Addr} {l : List V} (r : Reads sz σ w n base l) {w0 : World} (e : w0.heap = w.heap) : Reads sz σ w0 n base l := by
  unfold Reads at *
  rw [e]; exact r

/-- a list object moves: a new version -/
def Gh.move (σ : Gh) (g b base cap : Nat) : Gh :=
  { σ with phi := upd σ.phi g b, base := upd σ.base g base, cap := upd σ.cap g cap, ver := upd σ.ver g (σ.ver g + 1) }

theorem Gh.le_move (σ : Gh) {g : Nat} (b base cap : Nat) (h0 : 0 < σ.ver g) : Le σ (σ.move g b base cap) := by
  refine ⟨Nat.le_refl _, fun x hx => ?_, fun _ _ h => h, rfl⟩
  by_cases e : x = g
  · subst e
    simp only [Gh.move, upd_same]
    exact ⟨by omega, fun h => by omega, fun h => by omega⟩
  · simp only [Gh.move, upd_ne _ e]
    exact ⟨Nat.le_refl _, id, fun _ => by simp⟩

/-- what a list of cells says as a list object -/
def ListOf (sz : TypeId → Nat) (σ : Gh) (T : TypeId) (l : List V) (arr : Array Value) (o : Nat) : Prop :=
  ∀ (i : Nat) (x : V), l[i]? = some x → x.cells.length = sz T ∧ x.cells.all V.one = true ∧ ∀ (j : Nat) (y : V), x.cells[j]? = some y → ∃ v, arr[o + (i * sz T + j)]? = some v ∧ Rel sz σ y v

theorem RelF.listOf {sz : TypeId → Nat} {T : TypeId} {l : List V} {ys rest : Array Value} (r : RelF sz σ (sz T) l ys) : ListOf sz σ T l (ys ++ rest) 0 := by
  intro i x hx
  obtain ⟨p, q, s⟩ := r.2 i x hx
  refine ⟨p, q, fun j y hy => ?_⟩
  obtain ⟨v, a, b⟩ := s j y hy
  exact ⟨v, by rw [Nat.zero_add, Array.getElem?_append_left (Array.getElem?_eq_some_iff.1 a).1]; exact a, b⟩

theorem ListOf.mono {sz : TypeId → Nat} {σ τ : Gh} (le : Le σ τ) {T : TypeId} {l : List V} {arr : Array Value} {o : Nat} (r : ListOf sz σ T l arr o) : ListOf sz τ T l arr o :=
  fun i x hx => let ⟨p, q, s⟩ := r i x hx; ⟨p, q, fun j y hy => let ⟨v, a, b⟩ := s j y hy; ⟨v, a, b.mono le⟩⟩

/-- a new list object behind a world of the same heap -/
theorem Post.newList (inv : Inv (szOf P) σ w h) {w0 : World} (e0 : w0.heap = w.heap) (eo : w0.os = w.os ∧ w0.output = w.output ∧ w0.tape = w.tape) {e : TypeId} {l : List V} {ys rest : Array Value} {cap : Nat} (te : TypeId) (fr : Nat × Nat)
    (hfr : noLock (ys ++ rest) fr) (hpos : 0 < szOf P e) (r : RelF (szOf P) σ (szOf P e) l ys) (hcap : l.length ≤ cap) (hrest : rest.size = (cap - l.length) * szOf P e) :
    Post (szOf P) σ h w (σ.add w.heap.size 1 cap) (h ++ [.list e 1 l]) (w0.alloc (.cells (ys ++ rest) te fr)) ∧
      Rel (szOf P) (σ.add w.heap.size 1 cap) (.mslice h.length 1 e 0 l.length none) (.slice (some ⟨w.heap.size, 0, none⟩) l.length cap) := by
  have inv0 := inv.congr e0
  refine ⟨(Post.same inv e0 eo).trans ?_, ?_⟩
  · have hs : w.heap.size = w0.heap.size := by rw [e0]
    rw [hs]
    refine Post.push inv0 (.list e 1 l) _ 1 cap (by simp) ⟨by simp [Gh.add], by omega, hpos, by simpa [Gh.add] using hcap, ys ++ rest, te, fr, ?_, hfr, ?_, ?_⟩
    · simp only [Gh.add, upd_same]; exact alloc_new w0 _
    · simp only [Gh.add, upd_same, Array.size_append, r.1, hrest, Nat.zero_add]
      rw [← Nat.add_mul]
      apply Nat.le_of_eq
      congr 1; omega
    · have := (r.listOf (rest := rest)).mono (σ.le_add w0.heap.size 1 cap)
      simpa [Gh.add, ListOf] using this
  · refine .mslice _ _ _ _ _ _ _ _ (by rw [inv.len]; simp [Gh.add]) (by omega) (by rw [inv.len]; simp [Gh.add]) hcap (fun _ => ?_) rfl
    rw [inv.len]
    simp [Gh.add]

theorem RelF.up {σ' : Gh} {n : Nat} {l : List V} {ys : Array Value} (hr : ∀ x y, Rel (szOf P) σ x y → Rel (szOf P) σ' x y) (r : RelF (szOf P) σ n l ys) : RelF (szOf P) σ' n l ys :=
  ⟨r.1, fun i x hx => let ⟨p, q, s⟩ := r.2 i x hx; ⟨p, q, fun j y hy => let ⟨v, a, b⟩ := s j y hy; ⟨v, a, hr _ _ b⟩⟩⟩

theorem AllocDone.newList {s : Sem Next} {k : Nat} {w0 : World} (e0 : w0.heap = w.heap) (eo : w0.os = w.os ∧ w0.output = w.output ∧ w0.tape = w.tape) {e : TypeId} {l : List V} {ys rest : Array Value} {cap : Nat} (te : TypeId) (fr : Nat × Nat)
    (hfr : noLock (ys ++ rest) fr) (hpos : 0 < szOf P e) (r : RelF (szOf P) σ (szOf P e) l ys) (hcap : l.length ≤ cap) (hrest : rest.size = (cap - l.length) * szOf P e)
    (hs : s.run P w = .ok (.value (.slice (some ⟨w.heap.size, 0, none⟩) l.length cap)) (w0.alloc (.cells (ys ++ rest) te fr))) : AllocDone P σ k w s (.mslice k 1 e 0 l.length none) (.list e 1 l) := by
  refine ⟨.cells (ys ++ rest) te fr, _, _, by simp, hs, by rw [← e0]; rfl, eo, fun σ' w'' kn hw => ⟨⟨kn.ver, by omega, hpos, by rw [kn.cap]; exact hcap, ys ++ rest, te, fr, by rw [kn.phi]; exact hw, hfr, ?_, ?_⟩, ?_⟩⟩
  · have e1 : capOf (Value.slice (some { block := w.heap.size, off := 0 }) l.length cap) = cap := rfl
    rw [kn.base, kn.cap, e1, Array.size_append, r.1, hrest, Nat.zero_add, ← Nat.add_mul]
    apply Nat.le_of_eq
    congr 1; omega
  · have := (r.up kn.rel).listOf (rest := rest)
    rw [kn.base]
    exact this
  · refine .mslice _ _ _ _ _ _ _ _ kn.n (by omega) (by rw [kn.ver]; exact Nat.le_refl _) hcap (fun _ => ?_) rfl
    rw [kn.phi, kn.base, kn.cap]
    simp [capOf]

theorem run_append_nil {ts : Array TypeId} {ty e : TypeId} {j : TI} (hT : AppT P ts e j) {x : Value} {sLen sCap : Nat} {base : Option Addr} (hlen : ∀ w, (Builtin.lenOf x).run P w = .ok 0 w)
    (hys : (Builtin.firstCells j.size 0 x).run P w = .ok #[] w) (hroom : sLen ≤ sCap) : (Builtin.append_ ts ty #[.slice base sLen sCap, x]).run P w = .ok (.slice base sLen sCap) w := by
  obtain ⟨t0, ht0, hu0⟩ := hT.t0
  obtain ⟨t1, d1, ht1, hu1, hd1⟩ := hT.t1
  have hz : (match d1 with | .int _ => true | _ => false) = false := by cases d1 <;> first | rfl | exact absurd rfl (hd1 _)
  cases base with
  | none => simp [Builtin.append_, ht0, ht1, run_underlying hu0, run_underlying hu1, hT.ti.run_sizeOf, hz, hlen, hroom, hys]
  | some ad => simp [Builtin.append_, ht0, ht1, run_underlying hu0, run_underlying hu1, hT.ti.run_sizeOf, hz, hlen, hroom, hys, storeCells]

theorem RelF.one_all {sz : TypeId → Nat} {n : Nat} {l : List V} {ys : Array Value} (r : RelF sz σ n l ys) (hn : 0 < n) : ∀ v ∈ ys.toList, v.oneCell' = true := by
  intro v hv
  obtain ⟨k, hk⟩ := List.getElem?_of_mem hv
  have hk' : ys[k]? = some v := by simpa using hk
  have hlt : k < l.length * n := by rw [← r.1]; exact (Array.getElem?_eq_some_iff.1 hk').1
  have hi : k / n < l.length := (Nat.div_lt_iff_lt_mul hn).2 hlt
  obtain ⟨p, q, s⟩ := r.2 (k / n) _ (List.getElem?_eq_getElem hi)
  have hj : k % n < (l[k / n]).cells.length := by rw [p]; exact Nat.mod_lt _ hn
  obtain ⟨v', h1, h2⟩ := s (k % n) _ (List.getElem?_eq_getElem hj)
  rw [Nat.mul_comm, Nat.div_add_mod, hk'] at h1
  cases h1
  rw [← h2.one]
  exact List.all_eq_true.1 q _ (List.getElem_mem hj)

/-- the source of an append -/
structure Src (P : Program) (σ : Gh) (w : World) (n : Nat) (xs : List V) (xv : Value) : Prop where
  len : ∀ w, (Builtin.lenOf xv).run P w = .ok xs.length w
  get : ∃ ys, (∀ w' : World, w'.heap = w.heap → (Builtin.firstCells n xs.length xv).run P w' = .ok ys w') ∧ RelF (szOf P) σ n xs ys

/-- elements of a row, some of them new -/
theorem listOf_splice {sz : TypeId → Nat} {T : TypeId} {l xs : List V} {ys arr arr' : Array Value} {o p : Nat} (hl : ListOf sz σ T l arr o) (r : RelF sz σ (sz T) xs ys)
    (ha : ∀ k : Nat, arr'[k]? = if o + p * sz T ≤ k ∧ k < o + p * sz T + ys.size then ys[k - (o + p * sz T)]? else arr[k]?) {m : List V}
    (hm : ∀ i : Nat, m[i]? = if p ≤ i ∧ i < p + xs.length then xs[i - p]? else if i < l.length then l[i]? else none) : ListOf sz σ T m arr' o := by
  intro i x hx
  rw [hm] at hx
  split at hx
  · rename_i hi
    obtain ⟨q1, q2, q3⟩ := r.2 _ x hx
    refine ⟨q1, q2, fun j y hy => ?_⟩
    obtain ⟨v, a, b⟩ := q3 j y hy
    have hj : j < sz T := by rw [← q1]; exact list_lt hy
    have hlt := (Array.getElem?_eq_some_iff.1 a).1
    have e : i * sz T = p * sz T + (i - p) * sz T := by rw [← Nat.add_mul]; congr 1; omega
    refine ⟨v, ?_, b⟩
    rw [ha, if_pos (by omega), ← a]
    congr 1; omega
  · rename_i hi
    split at hx
    · obtain ⟨q1, q2, q3⟩ := hl i x hx
      refine ⟨q1, q2, fun j y hy => ?_⟩
      obtain ⟨v, a, b⟩ := q3 j y hy
      have hj : j < sz T := by rw [← q1]; exact list_lt hy
      refine ⟨v, ?_, b⟩
      rw [ha, if_neg]
      · exact a
      · rw [r.1]
        rcases Nat.lt_or_ge i p with hlt | hge
        · have : (i + 1) * sz T ≤ p * sz T := Nat.mul_le_mul_right _ (by omega)
          rw [Nat.add_mul, Nat.one_mul] at this
          omega
        · have : (p + xs.length) * sz T ≤ i * sz T := Nat.mul_le_mul_right _ (by omega)
          rw [Nat.add_mul] at this
          omega
    · cases hx

theorem splice_get {l xs : List V} {p : Nat} (hp : p + xs.length ≤ l.length) (i : Nat) :
    (l.take p ++ xs ++ l.drop (p + xs.length))[i]? = if p ≤ i ∧ i < p + xs.length then xs[i - p]? else if i < l.length then l[i]? else none := by
  have h1 : (l.take p).length = p := by simp; omega
  rw [List.append_assoc, List.getElem?_append, h1]
  split
  · rename_i hi
    rw [if_neg (by omega), if_pos (by omega), List.getElem?_take, if_pos hi]
  · rename_i hi
    rw [List.getElem?_append]
    split
    · rw [if_pos (by omega)]
    · rw [if_neg (by omega), List.getElem?_drop]
      have e : p + xs.length + (i - p - xs.length) = i := by omega
      rw [e]
      split
      · rfl
      · rw [List.getElem?_eq_none (by omega)]

end Go.AM

/- AM: append, joined. -/
namespace Go.AM
variable {P : Program} {E : Env} {σ : Gh} {w : World} {h h' : Heap} {T : List V} {a : Act} {u : V}

/-- A value at the end of a run. -/
def ValDone (P : Program) (σ : Gh) (h : Heap) (w : World) (s : Sem Value) (u : V) (h' : Heap) : Prop :=
  ∃ τ w' v, s.run P w = .ok v w' ∧ Post (szOf P) σ h w τ h' w' ∧ Rel (szOf P) τ u v

/-- the growing append, at a slice whose elements are known -/
theorem append_grow (inv : Inv (szOf P) σ w h) {ts : Array TypeId} {ty e : TypeId} {j : TI} (hT : AppT P ts e j) {xv : Value} {xs l : List V} {base : Option Addr} {sCap : Nat} (src : Src P σ w j.size xs xv)
    (rd : Reads (szOf P) σ w j.size base l) (hpos : 0 < j.size) (hbytes : 0 < j.bytes) (hmax : (l.length + xs.length) * j.bytes ≤ 2 ^ 44) (hroom : ¬ l.length + xs.length ≤ sCap) :
    ValDone P σ h w (Builtin.append_ ts ty #[.slice base l.length sCap, xv]) (.mslice h.length 1 e 0 (l.length + xs.length) none) (h ++ [.list e 1 (l ++ xs)]) := by
  obtain ⟨ys, hys, ry⟩ := src.get
  have hb : l = [] → base = none ∨ ∃ ad, base = some ad := fun _ => by cases base <;> simp
  obtain ⟨zs, hz0, rz⟩ := firstCells_run rd l.length sCap l.length (Nat.le_refl _) hb
  rw [List.take_length] at rz
  have hzs : ∀ w' : World, w'.heap = w.heap → (Builtin.firstCells j.size l.length (.slice base l.length sCap)).run P w' = .ok zs w' := fun w' e => by
    obtain ⟨zs', h1, h2⟩ := firstCells_run (rd.congr e) l.length sCap l.length (Nat.le_refl _) hb
    rcases rd with rfl | ⟨b, o, arr, Te, fr, rfl, q1, q2, q3⟩
    · rcases hb rfl with rfl | ⟨ad, rfl⟩
      · simp [Builtin.firstCells] at hz0 ⊢; exact hz0
      · simp [Builtin.firstCells, loadCells, loadCellsFrom] at hz0 ⊢; exact hz0
    · have e1 := run_loadCells_am P (w := w) (b := b) (o := o) (n := l.length * j.size) q1 q2
      have e2 := run_loadCells_am P (w := w') (b := b) (o := o) (n := l.length * j.size) (by rw [e]; exact q1) q2
      simp only [Builtin.firstCells] at hz0 ⊢
      rw [e1] at hz0; cases hz0; exact e2
  obtain ⟨cap, rest, w0, hrun, e0, eo, hcap, hrest⟩ := run_append_grow (ty := ty) hT src.len hys hzs hroom hbytes hmax
  have hsz := hT.ti.size
  have hsz' : szOf P e = j.size := hsz
  have rr : RelF (szOf P) σ (szOf P e) (l ++ xs) (zs ++ ys) := by rw [hsz']; exact rz.append ry
  obtain ⟨p1, p2⟩ := Post.newList inv e0 eo (rest := rest) (cap := cap) e (0, 0) (fun i _ h => by omega) (by rw [hsz']; exact hpos) rr (by simpa using hcap) (by rw [hsz']; simpa using hrest)
  rw [List.length_append] at p2
  exact ⟨_, _, _, hrun, p1, p2⟩

theorem appendV_rel (inv : Inv (szOf P) σ w h) {ts : Array TypeId} {ty e : TypeId} {j : TI} (hT : AppT P ts e j) (hpos : 0 < j.size) (hbytes : 0 < j.bytes) {s : V} {sv xv : Value} {xs : List V} (rs : Rel (szOf P) σ s sv)
    (src : Src P σ w j.size xs xv) (happ : appendV h e s xs j.bytes = some (u, h')) : ValDone P σ h w (Builtin.append_ ts ty #[sv, xv]) u h' := by
  have hsz' : szOf P e = j.size := hT.ti.size
  have nilcase : ∀ {base : Option Addr} {sLen sCap : Nat}, xs = [] → sLen ≤ sCap → (Builtin.append_ ts ty #[.slice base sLen sCap, xv]).run P w = .ok (.slice base sLen sCap) w := fun {base sLen sCap} hx hle => by
    subst hx
    obtain ⟨ys, hys, ry⟩ := src.get
    have : ys = #[] := by
      have := ry.1; simp at this; exact this
    subst this
    exact run_append_nil hT src.len (hys w rfl) hle
  cases rs with
  | nilslice T' =>
    simp only [appendV] at happ
    split at happ
    · rename_i hx
      cases happ
      exact ⟨σ, w, _, nilcase (by simpa using hx) (by omega), Post.refl inv, .nilslice _⟩
    · rename_i hx
      split at happ
      · cases happ
      rename_i hc
      split at happ
      · cases happ
      cases happ
      have hne : 0 < xs.length := by
        rcases Nat.eq_zero_or_pos xs.length with h0 | h0
        · exact absurd (by simpa using h0) hx
        · exact h0
      have hb : (([] : List V).length + xs.length) * j.bytes ≤ 2 ^ 44 := by
        simp only [Bool.or_eq_true, decide_eq_true_eq, not_or, Nat.not_lt] at hc
        exact hc.2
      have := append_grow (h := h) (ty := ty) (l := []) (sCap := 0) (base := none) inv hT src (.inl rfl) hpos hbytes hb (by simp only [List.length_nil]; omega)
      simpa using this
  | slice k T' l b o cap arr val q1 q2 q3 q4 q5 =>
    simp only [appendV] at happ
    split at happ
    · rename_i hx
      cases happ
      exact ⟨σ, w, _, nilcase (by simpa using hx) q3, Post.refl inv, .slice k T' l b o cap arr val q1 q2 q3 q4 q5⟩
    · rename_i hx
      split at happ
      · cases happ
      rename_i hc
      split at happ
      · cases happ
      rename_i hT'
      cases happ
      have hne : 0 < xs.length := by
        rcases Nat.eq_zero_or_pos xs.length with h0 | h0
        · exact absurd (by simpa using h0) hx
        · exact h0
      simp only [Bool.or_eq_true, decide_eq_true_eq, not_or, Nat.not_lt] at hc
      have hk : k = .clip := by
        cases k with
        | nil => exact absurd rfl q1
        | free => exact absurd rfl hc.1
        | clip => rfl
      have hcap := q2 hk
      have hTe : l = [] ∨ T' = e := by
        rcases Decidable.em (T' = e) with h1 | h1
        · exact .inr h1
        · left
          simp [h1] at hT'
          exact hT'
      have rs : Rel (szOf P) σ (.slice k T' l) (.slice (some ⟨b, o, none⟩) l.length cap) := .slice k T' l b o cap arr val q1 q2 q3 q4 q5
      have rd : Reads (szOf P) σ w j.size (some ⟨b, o, none⟩) l := by
        rcases hTe with rfl | rfl
        · exact .inl rfl
        · obtain ⟨base, cap', e1, e2⟩ := elems_rel inv rs (l := l) (T := T') rfl rfl (by rw [hsz']; exact hpos)
          cases e1
          rw [← hsz']; exact e2
      have := append_grow (h := h) (ty := ty) (l := l) (sCap := cap) inv hT src rd hpos hbytes hc.2 (by omega)
      simpa using this
  | mslice g ver T' off len clip ad cap g1 g2 g3 g4 g5 g6 =>
    simp only [appendV] at happ
    split at happ
    · rename_i T'' ver' l hg
      split at happ
      · cases happ
      rename_i hc
      simp only [Bool.or_eq_true, decide_eq_true_eq, not_or, Nat.not_lt, bne_iff_ne, ne_eq, Decidable.not_not] at hc
      obtain ⟨⟨⟨⟨rfl, rfl⟩, rfl⟩, hle⟩, hmax⟩ := hc
      have rs : Rel (szOf P) σ (.mslice g ver T'' off len clip) (.slice (some ad) len cap) := .mslice g ver T'' off len clip ad cap g1 g2 g3 g4 g5 g6
      split at happ
      · rename_i hx
        cases happ
        exact ⟨σ, w, _, nilcase (by simpa using hx) g4, Post.refl inv, rs⟩
      rename_i hx
      have hne : 0 < xs.length := by
        rcases Nat.eq_zero_or_pos xs.length with h0 | h0
        · exact absurd (by simpa using h0) hx
        · exact h0
      have hob := inv.ob g _ hg
      obtain ⟨e1, e2, e3, e4, arr, Te, fr, b1, b2, b3, b4⟩ := hob
      obtain ⟨p1, p2, p3⟩ := g5 e1.symm
      have hlen : ((l.drop off).take len).length = len := by simp; omega
      obtain ⟨base', cap', f1, rd⟩ := elems_rel inv rs (l := (l.drop off).take len) (T := T'') (by simp [elemsV, hg, hle]) rfl e3
      rw [hlen] at f1
      cases f1
      rw [hsz'] at rd
      obtain ⟨ys, hys, ry⟩ := src.get
      have ry' : RelF (szOf P) σ (szOf P T'') xs ys := by rw [hsz']; exact ry
      -- in place, within the row
      have place : ∀ (hroom : len + xs.length ≤ cap), ∃ w' arr', (Builtin.append_ ts ty #[.slice (some ad) len cap, xv]).run P w = .ok (.slice (some ad) (len + xs.length) cap) w' ∧ w'.heap[σ.phi g]? = some (.cells arr' Te fr) ∧
          SameBut w w' (σ.phi g) ∧ arr'.size = arr.size ∧ (∀ k : Nat, arr'[k]? = if σ.base g + (off + len) * szOf P T'' ≤ k ∧ k < σ.base g + (off + len) * szOf P T'' + ys.size then ys[k - (σ.base g + (off + len) * szOf P T'')]? else arr[k]?) := fun hroom => by
        have had := p1 (by omega)
        have hoc : off + cap ≤ σ.cap g := by
          cases clip with
          | none => have := p2 rfl; omega
          | some c => have := (p3 c rfl); omega
        have hm : (off + len + xs.length) * szOf P T'' ≤ σ.cap g * szOf P T'' := Nat.mul_le_mul_right _ (by omega)
        have e5 : σ.base g + off * szOf P T'' + len * j.size = σ.base g + (off + len) * szOf P T'' := by rw [← hsz', Nat.add_mul]; omega
        obtain ⟨w', arr', r1, r2, r3, r4, r5⟩ := run_append_place (ty := ty) hT (sLen := len) (sCap := cap) (base := some ad) src.len (hys w rfl) hroom (b := σ.phi g) (o := σ.base g + off * szOf P T'') (.inr (congrArg some had)) b1 b2
          (by rw [e5, ry'.1]; rw [Nat.add_mul] at hm; omega) (ry'.one_all (by rw [hsz']; exact hpos))
        rw [e5] at r5
        exact ⟨w', arr', r1, r2, r3, r4, r5⟩
      -- the row again, with new elements within it
      have within : ∀ (hroom : len + xs.length ≤ cap) (hin : off + len + xs.length ≤ l.length), ValDone P σ h w (Builtin.append_ ts ty #[.slice (some ad) len cap, xv]) (.mslice g ver T'' off (len + xs.length) clip)
          (h.set g (.list T'' ver (l.take (off + len) ++ xs ++ l.drop (off + len + xs.length)))) := fun hroom hin => by
        obtain ⟨w', arr', r1, r2, r3, r4, r5⟩ := place hroom
        refine ⟨σ, w', _, r1, Post.inplace inv hg (by simp) (by simp) r3 ⟨e1, e2, e3, ?_, arr', Te, fr, r2, fun k hk => b2 k (by rw [← r4]; exact hk), by rw [r4]; exact b3, ?_⟩, .mslice g ver T'' off _ clip ad cap g1 g2 g3 hroom g5 g6⟩
        · have : (l.take (off + len) ++ xs ++ l.drop (off + len + xs.length)).length = l.length := by simp; omega
          rw [this]; exact e4
        · exact listOf_splice (p := off + len) b4 ry' r5 (splice_get hin)
      split at happ
      · rename_i c
        obtain ⟨pc1, pc2⟩ := p3 c rfl
        split at happ
        · rename_i hfit
          split at happ
          · rename_i hknown
            cases happ
            exact within (by omega) (by omega)
          · cases happ
        · rename_i hfit
          cases happ
          have := append_grow (h := h) (ty := ty) (l := (l.drop off).take len) (sCap := cap) (base := some ad) inv hT src rd hpos hbytes (by rw [hlen]; exact hmax) (by rw [hlen]; omega)
          rw [hlen] at this
          exact this
      · have hcap := p2 rfl
        split at happ
        · rename_i hin
          cases happ
          exact within (by omega) hin
        · rename_i hin
          cases happ
          have al : alive h g := ⟨_, hg, fun e => by cases e⟩
          have hlg := list_lt hg
          rcases Nat.lt_or_ge cap (len + xs.length) with hgrow | hroom
          · -- a new block
            have hzs : ∃ zs, (∀ w' : World, w'.heap = w.heap → (Builtin.firstCells j.size len (.slice (some ad) len cap)).run P w' = .ok zs w') ∧ RelF (szOf P) σ j.size ((l.drop off).take len) zs := by
              rcases rd with hnil | ⟨b, o, arr2, Te2, fr2, hb, q1, q2, q3⟩
              · have h0 : len = 0 := by rw [← hlen, hnil]; rfl
                subst h0
                exact ⟨#[], fun w' _ => by simp [Builtin.firstCells, loadCells, loadCellsFrom], by rw [hnil]; exact RelF.nil _ _ _⟩
              · have rd' : Reads (szOf P) σ w j.size (some ad) ((l.drop off).take len) := .inr ⟨b, o, arr2, Te2, fr2, hb, q1, q2, q3⟩
                obtain ⟨zs, z1, z2⟩ := firstCells_run rd' len cap len (by rw [hlen]; exact Nat.le_refl _) (fun _ => .inr ⟨ad, rfl⟩)
                rw [List.take_of_length_le (by rw [hlen]; exact Nat.le_refl _)] at z2
                refine ⟨zs, fun w' e => ?_, z2⟩
                cases hb
                rw [hlen] at q2
                have e1 := run_loadCells_am P (w := w) (b := b) (o := o) (n := len * j.size) q1 q2
                have e2 := run_loadCells_am P (w := w') (b := b) (o := o) (n := len * j.size) (by rw [e]; exact q1) q2
                simp only [Builtin.firstCells] at z1 ⊢
                rw [e1] at z1; cases z1; exact e2
            obtain ⟨zs, hzs, rz⟩ := hzs
            obtain ⟨ncap, rest, w0, hrun, e0, eo, hncap, hrest⟩ := run_append_grow (ty := ty) hT src.len hys hzs (by omega) hbytes hmax
            have rr : RelF (szOf P) σ (szOf P T'') ((l.drop off).take len ++ xs) (zs ++ ys) := by rw [hsz']; exact rz.append ry
            have hs0 : w0.heap.size = w.heap.size := by rw [e0]
            have le := σ.le_move (g := g) w.heap.size 0 ncap (by omega)
            refine ⟨σ.move g w.heap.size 0 ncap, _, _, hrun, Post.change inv le g (.list T'' (ver + 1) ((l.drop off).take len ++ xs)) (by simp [Gh.move, inv.len]) (by simp [hlg]) (by simp) (fun x hx hxl => ⟨by simpa using hxl, List.getElem?_set_ne (Ne.symm hx)⟩)
              (fun x hx _ => by simp [Gh.move, upd_ne _ hx]) rfl (.inr (by simp [Gh.move])) (fun b hb _ => by rw [alloc_old _ _ (by rw [hs0]; exact hb), e0]) (by rw [alloc_size, hs0]; omega) (by rw [alloc_size, hs0]; simp [Gh.move]) ?_ eo, ?_⟩
            · refine ⟨by simp [Gh.move, e1], by omega, e3, by simp [Gh.move]; omega, zs ++ ys ++ rest, T'', (0, 0), ?_, fun i _ h => by omega, ?_, ?_⟩
              · simp only [Gh.move, upd_same]; rw [← hs0]; exact alloc_new w0 _
              · simp only [Gh.move, upd_same, Array.size_append, Nat.zero_add]
                have := rr.1
                rw [Array.size_append] at this
                rw [this, hrest, hsz', List.length_append, hlen, ← Nat.add_mul]
                apply Nat.le_of_eq; congr 1; omega
              · have := (rr.listOf (rest := rest)).mono le
                simpa [Gh.move, ListOf] using this
            · refine .mslice _ _ _ _ _ _ _ _ g1 (by omega) (by simp [Gh.move, e1]) hncap (fun _ => ?_) rfl
              simp [Gh.move]
          · -- in the block's own room
            obtain ⟨w', arr', r1, r2, r3, r4, r5⟩ := place hroom
            have le := σ.le_move (g := g) (σ.phi g) (σ.base g + off * szOf P T'') cap (by omega)
            refine ⟨σ.move g (σ.phi g) (σ.base g + off * szOf P T'') cap, w', _, r1, Post.change inv le g (.list T'' (ver + 1) ((l.drop off).take len ++ xs)) (by simp [Gh.move, inv.len]) (by simp [hlg]) (by simp) (fun x hx hxl => ⟨by simpa using hxl, List.getElem?_set_ne (Ne.symm hx)⟩)
              (fun x hx _ => by simp [Gh.move, upd_ne _ hx]) rfl (.inl ⟨al, by simp [Gh.move]⟩) (fun b hb hne => r3.oth b (by simpa [Gh.move] using hne)) (by rw [r3.size]; exact Nat.le_refl _) (by rw [r3.size]; simpa [Gh.move] using (inv.live g al).2) ?_ r3.os, ?_⟩
            · refine ⟨by simp [Gh.move, e1], by omega, e3, by simp [Gh.move]; omega, arr', Te, fr, by simpa [Gh.move] using r2, fun k hk => b2 k (by rw [← r4]; exact hk), ?_, ?_⟩
              · simp only [Gh.move, upd_same]
                rw [r4]
                have : (off + cap) * szOf P T'' = σ.cap g * szOf P T'' := by rw [hcap]
                rw [Nat.add_mul] at this
                omega
              · have hbase : ListOf (szOf P) σ T'' ((l.drop off).take len) arr (σ.base g + off * szOf P T'') := fun i x hx => by
                  rw [List.getElem?_take] at hx
                  split at hx
                  · rw [List.getElem?_drop] at hx
                    obtain ⟨s1, s2, s3⟩ := b4 _ x hx
                    refine ⟨s1, s2, fun j y hy => ?_⟩
                    obtain ⟨v, q, q'⟩ := s3 j y hy
                    refine ⟨v, ?_, q'⟩
                    rw [← q]; congr 1
                    rw [Nat.add_mul]; omega
                  · cases hx
                have e5 : σ.base g + (off + len) * szOf P T'' = σ.base g + off * szOf P T'' + len * szOf P T'' := by rw [Nat.add_mul]; omega
                rw [e5] at r5
                have := (listOf_splice (p := len) hbase ry' r5 (m := (l.drop off).take len ++ xs) (fun i => ?_)).mono le
                · simpa [Gh.move, ListOf] using this
                · rw [List.getElem?_append, hlen]
                  by_cases c1 : i < len
                  · rw [if_pos c1, if_neg (by omega), if_pos c1]
                  · rw [if_neg c1]
                    by_cases c2 : i < len + xs.length
                    · rw [if_pos ⟨by omega, c2⟩]
                    · rw [if_neg (by omega), if_neg c1, List.getElem?_eq_none (by omega)]
            · refine .mslice _ _ _ _ _ _ _ _ g1 (by omega) (by simp [Gh.move, e1]) hroom (fun _ => ?_) g6
              refine ⟨fun _ => ?_, fun _ => by simp [Gh.move], fun c hc => by cases hc⟩
              rw [p1 (by omega)]
              simp [Gh.move]
    · cases happ
  | _ => simp [appendV] at happ

end Go.AM

/- AM: slicing, conversions, make, copy. -/
namespace Go.AM
variable {P : Program} {E : Env} {σ : Gh} {w : World} {h h' : Heap} {T : List V} {a : Act} {u : V}

/-! ### bounds -/

theorem run_bound {k : IntKind} {n : Int} {y : Nat} {code : BoundsCode} (h0 : 0 ≤ n) (h1 : n ≤ y) (w : World) : (Instr.sliceBound (.int k n) y code).run P w = .ok n.toNat w := by
  simp [Instr.sliceBound, asIntOf, h0, h1]

/-- an optional bound, evaluated -/
def RelO (sz : TypeId → Nat) (σ : Gh) (x : Option V) (y : Option Value) : Prop :=
  match x, y with
  | none, none => True
  | some u, some v => Rel sz σ u v
  | _, _ => False

theorem boundV_int {x : V} {d most n : Nat} (h : boundV (some x) d most = some n) : ∃ k i, x = .int k i ∧ 0 ≤ i ∧ i ≤ most ∧ i.toNat = n := by
  cases x <;> simp only [boundV] at h <;> try (cases h; done)
  rename_i k i
  split at h
  · rename_i hc
    cases h
    exact ⟨k, i, rfl, hc.1, hc.2, rfl⟩
  · cases h

theorem relO_int {sz : TypeId → Nat} {x : Option V} {y : Option Value} (r : RelO sz σ x y) {d most n : Nat} (h : boundV x d most = some n) :
    (x = none ∧ y = none ∧ n = d) ∨ ∃ k i, y = some (.int k i) ∧ 0 ≤ i ∧ i ≤ most ∧ i.toNat = n := by
  cases x with
  | none =>
    cases y with
    | none => simp [boundV] at h; exact .inl ⟨rfl, rfl, h.symm⟩
    | some v => exact r.elim
  | some u =>
    obtain ⟨k, i, rfl, h0, h1, h2⟩ := boundV_int h
    cases y with
    | none => exact r.elim
    | some v => cases r; exact .inr ⟨k, i, rfl, h0, h1, h2⟩

/-- no third index -/
theorem run_bounds2 {isS : Bool} {len cap : Nat} {lo hi : Option V} {lov hiv : Option Value} (rlo : RelO (szOf P) σ lo lov) (rhi : RelO (szOf P) σ hi hiv) {room b a' : Nat} (hr : room ≤ cap)
    (hb : boundV hi len room = some b) (ha : boundV lo 0 b = some a') (w : World) : (Instr.sliceBounds isS len cap lov hiv none).run P w = .ok (a', b, cap) w := by
  rcases relO_int rhi hb with ⟨_, rfl, rfl⟩ | ⟨k, i, rfl, p1, p2, rfl⟩ <;> rcases relO_int rlo ha with ⟨_, rfl, rfl⟩ | ⟨k', i', rfl, q1, q2, rfl⟩
  · simp [Instr.sliceBounds]
  · simp [Instr.sliceBounds, run_bound q1 q2]
  · simp [Instr.sliceBounds, run_bound p1 (show i ≤ (cap : Int) by omega)]
  · simp [Instr.sliceBounds, run_bound p1 (show i ≤ (cap : Int) by omega), run_bound q1 q2]

/-- with a third index -/
theorem run_bounds3 {isS : Bool} {len cap : Nat} {lo : Option V} {hi mx : V} {lov : Option Value} {hiv mxv : Value} (rlo : RelO (szOf P) σ lo lov) (rhi : Rel (szOf P) σ hi hiv) (rmx : Rel (szOf P) σ mx mxv) {d room room' b a' c : Nat}
    (hr : room' ≤ cap) (hb : boundV (some hi) d room = some b) (ha : boundV lo 0 b = some a') (hc : boundV (some mx) 0 room' = some c) (hbc : b ≤ c) (w : World) :
    (Instr.sliceBounds isS len cap lov (some hiv) (some mxv)).run P w = .ok (a', b, c) w := by
  obtain ⟨k, i, rfl, p1, p2, rfl⟩ := boundV_int hb
  obtain ⟨k2, i2, rfl, r1, r2, rfl⟩ := boundV_int hc
  cases rhi
  cases rmx
  have e2 : i ≤ (i2.toNat : Int) := by omega
  rcases relO_int rlo ha with ⟨_, rfl, rfl⟩ | ⟨k', i', rfl, q1, q2, rfl⟩
  · simp [Instr.sliceBounds, run_bound r1 (show i2 ≤ (cap : Int) by omega), run_bound p1 e2]
  · simp [Instr.sliceBounds, run_bound r1 (show i2 ≤ (cap : Int) by omega), run_bound p1 e2, run_bound q1 q2]

theorem bytesOf_extract (s : ByteArray) (a b : Nat) : bytesOf (s.extract a b) = ((bytesOf s).drop a).take (b - a) := by
  simp [bytesOf, ByteArray.data_extract, List.map_take, List.map_drop]

theorem bytesOf_len (s : ByteArray) : (bytesOf s).length = s.size := by
  simp [bytesOf]

theorem mslice_cut {g ver T off : Nat} {clip : Option Nat} {ad : Addr} {cap : Nat} (g6 : ad.spot = none) (g1 : g < σ.n) (g2 : 0 < ver) (g3 : ver ≤ σ.ver g)
    (g5 : ver = σ.ver g → (0 < cap → ad = ⟨σ.phi g, σ.base g + off * szOf P T, none⟩) ∧ (clip = none → off + cap = σ.cap g) ∧ ∀ c, clip = some c → cap = c ∧ off + c ≤ σ.cap g) (a' b c : Nat) (clip' : Option Nat)
    (hab : a' ≤ b) (hbc : b ≤ c) (hc : c ≤ cap) (hclip : (clip' = none ∧ clip = none ∧ c = cap) ∨ clip' = some (c - a')) (hcapg : ver = σ.ver g → off + c ≤ σ.cap g) :
    Rel (szOf P) σ (.mslice g ver T (off + a') (b - a') clip') (.slice (some (if c = a' then ad else ad.add (a' * szOf P T))) (b - a') (c - a')) := by
  refine .mslice g ver T _ _ _ _ _ g1 g2 g3 (by omega) (fun e => ?_) (by split <;> first | exact g6 | (obtain ⟨x, y, z⟩ := ad; simp at g6; subst g6; rw [add_none]))
  obtain ⟨p1, p2, p3⟩ := g5 e
  refine ⟨fun h0 => ?_, fun hn => ?_, fun c' hc' => ?_⟩
  · rw [if_neg (by omega), p1 (by omega), add_none, Nat.add_assoc, ← Nat.add_mul]
  · rcases hclip with ⟨_, h2, h3⟩ | h4
    · have := p2 h2; omega
    · rw [hn] at h4; cases h4
  · rcases hclip with ⟨h1, _, _⟩ | h4
    · rw [h1] at hc'; cases hc'
    · rw [h4] at hc'; cases hc'
      have := hcapg e
      omega

theorem sliceV_rel (hE : EnvOk P E) (inv : Inv (szOf P) σ w h) {t : TypeId} {x : V} {xv : Value} {lo hi mx : Option V} {lov hiv mxv : Option Value} (rx : Rel (szOf P) σ x xv) (rlo : RelO (szOf P) σ lo lov) (rhi : RelO (szOf P) σ hi hiv)
    (rmx : RelO (szOf P) σ mx mxv) (hs : sliceV E h t x lo hi mx = some u) : ∃ v, (Instr.sliceAt t xv lov hiv mxv).run P w = .ok v w ∧ Rel (szOf P) σ u v := by
  unfold sliceV at hs
  split at hs
  · cases hs
  rename_i i hi'
  have ht := (hE.ti t i hi').kind
  have rx0 := rx
  split at hs
  · -- a string
    rename_i s hk
    rw [hk] at ht
    split at hs
    · cases hs
    rename_i hmx
    have : mx = none ∧ mxv = none := by
      cases mx with
      | none => cases mxv with
        | none => exact ⟨rfl, rfl⟩
        | some _ => exact rmx.elim
      | some _ => simp at hmx
    obtain ⟨rfl, rfl⟩ := this
    split at hs
    · rename_i b hb
      split at hs
      · rename_i a' ha
        cases hs
        cases rx with
        | str bs =>
          rw [bytesOf_len] at hb
          refine ⟨.string (bs.extract a' b), ?_, by rw [← bytesOf_extract]; exact .str _⟩
          simp [Instr.sliceAt, Instr.slice, run_underlying ht, run_bounds2 rlo rhi (Nat.le_refl _) hb ha]
      · cases hs
    · cases hs
  · -- a slice that stays
    rename_i e k T l hk
    rw [hk] at ht
    split at hs
    · cases hs
    rename_i hc
    simp only [Bool.or_eq_true, not_or, Bool.and_eq_true, not_and] at hc
    obtain ⟨j, hj⟩ := Option.isSome_iff_exists.1 (by simpa [Option.isSome_iff_ne_none] using hc.1 : (E.ti e).isSome = true)
    have hsz := (hE.ti e j hj).run_sizeOf
    have hsz2 : szOf P e = j.size := (hE.ti e j hj).size
    have hT : T = e ∨ l = [] := by
      rcases Decidable.em (T = e) with h1 | h1
      · exact .inl h1
      · right; have := hc.2 (by simpa using h1); simpa using this
    split at hs
    · rename_i b hb
      split at hs
      · rename_i a' ha
        have hble : b ≤ l.length := by
          cases hi with
          | none => simp [boundV] at hb; omega
          | some y => obtain ⟨_, _, _, _, _, _⟩ := boundV_int hb; omega
        have hale : a' ≤ b := by
          cases lo with
          | none => simp [boundV] at ha; omega
          | some y => obtain ⟨_, _, _, _, _, _⟩ := boundV_int ha; omega
        have hlen : ((l.drop a').take (b - a')).length = b - a' := by simp; omega
        -- what is cut out of the row
        have cut : ∀ (b0 o0 cap : Nat) (arr : Array Value) (val : Nat → Nat → Value) (m : Nat) (k' : SK), b ≤ m → k' ≠ .nil → (k' = .clip → m = b) →
            (∀ (i : Nat) (x : V), l[i]? = some x → σ.F b0 = some arr ∧ x.cells.length = szOf P T ∧ x.cells.all V.one = true ∧ ∀ j < szOf P T, arr[o0 + (i * szOf P T + j)]? = some (val i j)) →
            (∀ (i : Nat) (x : V), l[i]? = some x → ∀ (j : Nat) (y : V), x.cells[j]? = some y → Rel (szOf P) σ y (val i j)) →
            Rel (szOf P) σ (.slice k' T ((l.drop a').take (b - a'))) (.slice (some (if m = a' then ⟨b0, o0, none⟩ else (⟨b0, o0, none⟩ : Addr).add (a' * j.size))) (b - a') (m - a')) := fun b0 o0 cap arr val m k' hbm hk' hclip q4 q5 => by
          have e1 : ∃ o1, (if m = a' then (⟨b0, o0, none⟩ : Addr) else (⟨b0, o0, none⟩ : Addr).add (a' * j.size)) = ⟨b0, o1, none⟩ ∧ (a' < b → o1 = o0 + a' * j.size) := by
            by_cases e : m = a'
            · exact ⟨o0, by rw [if_pos e], fun _ => by omega⟩
            · exact ⟨o0 + a' * j.size, by rw [if_neg e, add_none], fun _ => rfl⟩
          obtain ⟨o1, e1, e2⟩ := e1
          rw [e1]
          have get : ∀ (i : Nat) (x : V), ((l.drop a').take (b - a'))[i]? = some x → i < b - a' ∧ l[a' + i]? = some x := fun i x hx => by
            rw [List.getElem?_take] at hx
            split at hx
            · rw [List.getElem?_drop] at hx; exact ⟨‹_›, hx⟩
            · cases hx
          have R := Rel.slice (sz := szOf P) (σ := σ) k' T ((l.drop a').take (b - a')) b0 o1 (m - a') arr (fun i j => val (a' + i) j) hk' (fun e => by rw [hlen]; have := hclip e; omega) (by rw [hlen]; omega) (fun i x hx => ?_) (fun i x hx => ?_)
          · rw [hlen] at R; exact R
          · obtain ⟨g1, g2⟩ := get i x hx
            obtain ⟨s1, s2, s3, s4⟩ := q4 _ x g2
            refine ⟨s1, s2, s3, fun jj hjj => ?_⟩
            have hTe : T = e := by
              rcases hT with h1 | h1
              · exact h1
              · rw [h1] at g2; simp at g2
            have := s4 jj hjj
            rw [e2 (by omega), ← hsz2, ← hTe, ← this]
            congr 1
            rw [Nat.add_mul]; omega
          · obtain ⟨g1, g2⟩ := get i x hx
            exact q5 _ x g2
        split at hs
        · cases hs
          have : mxv = none := by
            cases mxv with
            | none => rfl
            | some _ => exact rmx.elim
          subst this
          cases rx with
          | nilslice =>
            have hb0 : b = 0 := by simpa using hble
            have ha0 : a' = 0 := by omega
            subst hb0 ha0
            refine ⟨.slice none 0 0, ?_, by simpa using Rel.nilslice (sz := szOf P) (σ := σ) T⟩
            have := run_bounds2 (isS := true) (len := 0) (cap := 0) rlo rhi (Nat.le_refl _) hb ha w
            simp [Instr.sliceAt, Instr.slice, run_underlying ht, this, hsz]
          | slice _ _ _ b0 o0 cap arr val q1 q2 q3 q4 q5 =>
            refine ⟨_, ?_, cut b0 o0 cap arr val cap _ (by omega) ?_ ?_ q4 q5⟩
            · have := run_bounds2 (isS := true) rlo rhi q3 hb ha w
              simp [Instr.sliceAt, Instr.slice, run_underlying ht, this, hsz]
              by_cases e : cap = a' <;> simp [e]
            · split
              · simp
              · simp [q1]
            · intro hk'
              split at hk'
              · rename_i hh; rw [q2 hh.1, hh.2]
              · simp [q1] at hk'
        · rename_i m
          split at hs
          · rename_i hm
            cases hs
            obtain ⟨hm1, hm2⟩ := hm
            obtain ⟨hi0, rfl⟩ := Option.isSome_iff_exists.1 hm1
            cases hiv with
            | none => exact rhi.elim
            | some hiv =>
            cases mxv with
            | none => exact rmx.elim
            | some mxv =>
            cases rx with
            | nilslice =>
              have hb0 : b = 0 := by simpa using hble
              have ha0 : a' = 0 := by omega
              subst hb0 ha0
              refine ⟨.slice none 0 0, ?_, by simpa using Rel.nilslice (sz := szOf P) (σ := σ) T⟩
              have := run_bounds3 (isS := true) (len := 0) (cap := 0) rlo rhi rmx (Nat.le_refl _) hb ha hm2 (Nat.le_refl _) w
              simp [Instr.sliceAt, Instr.slice, run_underlying ht, this, hsz]
            | slice _ _ _ b0 o0 cap arr val q1 q2 q3 q4 q5 =>
              refine ⟨_, ?_, cut b0 o0 cap arr val b _ (Nat.le_refl _) ?_ (fun _ => rfl) q4 q5⟩
              · have := run_bounds3 (isS := true) (len := l.length) rlo rhi rmx q3 hb ha hm2 (Nat.le_refl _) w
                simp [Instr.sliceAt, Instr.slice, run_underlying ht, this, hsz]
                by_cases e : b = a' <;> simp [e]
              · rw [if_neg q1]; simp
          · cases hs
      · cases hs
    · cases hs
  · -- a slice of a list
    rename_i e g ver T off len clip hk
    rw [hk] at ht
    split at hs
    · cases hs
    rename_i hc
    simp only [Bool.or_eq_true, not_or, decide_eq_true_eq, ne_eq, Decidable.not_not] at hc
    obtain ⟨hc, rfl⟩ := hc
    obtain ⟨j, hj⟩ := Option.isSome_iff_exists.1 (by simpa [Option.isSome_iff_ne_none] using hc : (E.ti T).isSome = true)
    have hsz := (hE.ti T j hj).run_sizeOf
    have hsz2 : szOf P T = j.size := (hE.ti T j hj).size
    split at hs
    · rename_i T' ver' l hg
      split at hs
      · cases hs
      rename_i hc2
      simp only [Bool.or_eq_true, not_or, decide_eq_true_eq, ne_eq, Decidable.not_not, Nat.not_lt] at hc2
      obtain ⟨⟨rfl, rfl⟩, hle⟩ := hc2
      cases rx with
      | mslice _ _ _ _ _ _ ad cap g1 g2 g3 g4 g5 g6 =>
        obtain ⟨e1, e2, e3, e4, _⟩ := inv.ob g _ hg
        obtain ⟨p1, p2, p3⟩ := g5 e1.symm
        have hroom : roomOf clip (l.length - off) ≤ cap := by
          cases clip with
          | none => have := p2 rfl; simp only [roomOf]; omega
          | some c => have := (p3 c rfl).1; simp only [roomOf]; omega
        have hcapg : off + cap ≤ σ.cap g := by
          cases clip with
          | none => have := p2 rfl; omega
          | some c => have := p3 c rfl; omega
        split at hs
        · rename_i b hb
          split at hs
          · rename_i a' ha
            have hble : b ≤ cap := by
              cases hi with
              | none => simp [boundV] at hb; omega
              | some y => obtain ⟨_, _, _, _, _, _⟩ := boundV_int hb; omega
            have hale : a' ≤ b := by
              cases lo with
              | none => simp [boundV] at ha; omega
              | some y => obtain ⟨_, _, _, _, _, _⟩ := boundV_int ha; omega
            split at hs
            · cases hs
              have : mxv = none := by
                cases mxv with
                | none => rfl
                | some _ => exact rmx.elim
              subst this
              refine ⟨_, ?_, mslice_cut g6 g1 g2 g3 g5 a' b cap _ hale hble (Nat.le_refl _) ?_ (fun _ => hcapg)⟩
              · have := run_bounds2 (isS := true) rlo rhi hroom hb ha w
                simp [Instr.sliceAt, Instr.slice, run_underlying ht, this, hsz, hsz2]
                by_cases e : cap = a' <;> simp [e]
              · cases clip with
                | none => exact .inl ⟨rfl, rfl, rfl⟩
                | some c => right; have := (p3 c rfl).1; simp [this]
            · rename_i m
              split at hs
              · rename_i c hcc
                split at hs
                · rename_i hm
                  cases hs
                  obtain ⟨hm1, hm2⟩ := hm
                  obtain ⟨hi0, rfl⟩ := Option.isSome_iff_exists.1 hm1
                  cases hiv with
                  | none => exact rhi.elim
                  | some hiv =>
                  cases mxv with
                  | none => exact rmx.elim
                  | some mxv =>
                  have hcle : c ≤ cap := by obtain ⟨_, _, _, _, _, _⟩ := boundV_int hcc; omega
                  refine ⟨_, ?_, mslice_cut g6 g1 g2 g3 g5 a' b c _ hale hm2 hcle (.inr rfl) (fun _ => by omega)⟩
                  have := run_bounds3 (isS := true) (len := len) rlo rhi rmx hroom hb ha hcc hm2 w
                  simp [Instr.sliceAt, Instr.slice, run_underlying ht, this, hsz, hsz2]
                  by_cases e : c = a' <;> simp [e]
                · cases hs
              · cases hs
          · cases hs
        · cases hs
    · cases hs
  · -- an array's
    rename_i n e g o hk
    rw [hk] at ht
    split at hs
    · rename_i j hj
      split at hs
      · cases hs
      rename_i hc
      simp only [Bool.or_eq_true, not_or, decide_eq_true_eq, ne_eq, Decidable.not_not] at hc
      have hsz := (hE.ti e j hj).run_sizeOf
      have hsz2 : szOf P e = 1 := by rw [← hc.1]; exact (hE.ti e j hj).size
      cases rx with
      | ptr _ _ hg hv =>
        have mk : ∀ (a' b c : Nat), b ≤ c → a' ≤ b → Rel (szOf P) σ (.cslice g e (o + a') (b - a') (c - a')) (.slice (some (if c = a' then ⟨σ.phi g, o, none⟩ else (⟨σ.phi g, o, none⟩ : Addr).add (a' * j.size))) (b - a') (c - a')) := fun a' b c h1 h2 => by
          refine .cslice g e _ _ _ _ hg hv hsz2 (by omega) fun h0 => ?_
          rw [if_neg (by omega), add_none, hc.1, Nat.mul_one]
        split at hs
        · rename_i b hb
          split at hs
          · rename_i a' ha
            have hble : b ≤ n := by
              cases hi with
              | none => simp [boundV] at hb; omega
              | some y => obtain ⟨_, _, _, _, _, _⟩ := boundV_int hb; omega
            have hale : a' ≤ b := by
              cases lo with
              | none => simp [boundV] at ha; omega
              | some y => obtain ⟨_, _, _, _, _, _⟩ := boundV_int ha; omega
            split at hs
            · cases hs
              have : mxv = none := by
                cases mxv with
                | none => rfl
                | some _ => exact rmx.elim
              subst this
              refine ⟨_, ?_, mk a' b n hble hale⟩
              have := run_bounds2 (isS := false) rlo rhi (Nat.le_refl n) hb ha w
              simp [Instr.sliceAt, run_underlying ht, Instr.sureAddr, this, hsz]
            · rename_i m
              split at hs
              · rename_i c hcc
                split at hs
                · rename_i hm
                  cases hs
                  obtain ⟨hm1, hm2⟩ := hm
                  obtain ⟨hi0, rfl⟩ := Option.isSome_iff_exists.1 hm1
                  cases hiv with
                  | none => exact rhi.elim
                  | some hiv =>
                  cases mxv with
                  | none => exact rmx.elim
                  | some mxv =>
                  refine ⟨_, ?_, mk a' b c hm2 hale⟩
                  have := run_bounds3 (isS := false) (len := n) rlo rhi rmx (Nat.le_refl n) hb ha hcc hm2 w
                  simp [Instr.sliceAt, run_underlying ht, Instr.sureAddr, this, hsz]
                · cases hs
              · cases hs
          · cases hs
        · cases hs
    · cases hs
  · cases hs

end Go.AM

/- AM: slicing as an operation, conversions, make, literals. -/
namespace Go.AM
variable {P : Program} {E : Env} {σ : Gh} {w : World} {h h' : Heap} {T : List V} {a : Act} {u : V}

/-! ### bytes and strings -/

theorem bytesIn_cons {v : V} {l : List V} {bs : List Nat} (h : bytesIn (v :: l) = some bs) : ∃ n r, v = .int .u8 n ∧ bytesIn l = some r ∧ bs = (UInt8.ofNat n.toNat).toNat :: r := by
  unfold bytesIn at h
  split at h
  · rename_i heq; cases heq
  · rename_i n l' heq
    cases heq
    simp only [Option.map_eq_some_iff] at h
    obtain ⟨r, hr, rfl⟩ := h
    exact ⟨n, r, rfl, hr, rfl⟩
  · cases h

theorem push_bytes (s : ByteArray) (b : UInt8) : bytesOf (s.push b) = bytesOf s ++ [b.toNat] := by
  simp [bytesOf]

theorem run_toString (P : Program) (w : World) (f : Value → ByteArray → Sem (ForInStep ByteArray)) (hf : ∀ n r, (f (.int .u8 n) r).run P w = .ok (.yield (r.push (UInt8.ofNat n.toNat))) w) :
    ∀ (l : List V) (vs : List Value) (bs : List Nat) (s : ByteArray), RelA (szOf P) σ l vs.toArray → bytesIn l = some bs →
    ∃ s' : ByteArray, (forIn vs s f : Sem ByteArray).run P w = .ok s' w ∧ bytesOf s' = bytesOf s ++ bs
  | [], vs, bs, s, r, h => by
    have : vs = [] := by have := r.1; simp at this; exact this
    subst this
    simp [bytesIn] at h; subst h
    exact ⟨s, by simp, by simp⟩
  | v :: l, vs, bs, s, r, h => by
    cases vs with
    | nil => have := r.1; simp at this
    | cons x vs =>
      have h0 := r.2 0 v x rfl (by simp)
      have hr : RelA (szOf P) σ l vs.toArray := ⟨by have := r.1; simpa using this, fun i p q hp hq => r.2 (i + 1) p q (by simpa using hp) (by simpa using hq)⟩
      obtain ⟨n, bs', rfl, hb, rfl⟩ := bytesIn_cons h
      cases h0
      obtain ⟨s', q1, q2⟩ := run_toString P w f hf l vs bs' (s.push (UInt8.ofNat n.toNat)) hr hb
      exact ⟨s', by simp [hf, q1], by rw [q2, push_bytes]; simp⟩

theorem run_bytesToString {ad : Addr} {len cap : Nat} {arr : Array Value} {l : List V} {bs : List Nat} (hload : (loadCells ad len).run P w = .ok arr w) (r : RelA (szOf P) σ l arr) (hb : bytesIn l = some bs) :
    ∃ s' : ByteArray, (Conv.bytesToString (.slice (some ad) len cap)).run P w = .ok (.string s') w ∧ bytesOf s' = bs := by
  simp only [Conv.bytesToString, Sem.run_bind, hload, Result.andThen_ok]
  rw [← Array.forIn_toList]
  have key : ∀ f : Value → ByteArray → Sem (ForInStep ByteArray), (∀ n r, (f (.int .u8 n) r).run P w = .ok (.yield (r.push (UInt8.ofNat n.toNat))) w) →
      ∃ s' : ByteArray, ((forIn arr.toList ByteArray.empty f : Sem ByteArray).run P w).andThen (fun a w' => (pure (Value.string a) : Sem Value).run P w') = .ok (.string s') w ∧ bytesOf s' = bs := fun f hf => by
    obtain ⟨s', s1, s2⟩ := run_toString P w f hf l arr.toList bs .empty (by simpa using r) hb
    exact ⟨s', by rw [s1]; rfl, by simpa [bytesOf] using s2⟩
  exact key _ (fun n r => by simp)

theorem bytesOut_relF {s : ByteArray} {sz : TypeId → Nat} (n : Nat) (hn : n = 1) : RelF sz σ n (bytesOut (bytesOf s)) (s.data.map fun b => .int .u8 b.toNat) := by
  subst hn
  refine ⟨by simp [bytesOut, bytesOf], fun i x hx => ?_⟩
  simp only [bytesOut, bytesOf, List.map_map, List.getElem?_map, Option.map_eq_some_iff] at hx
  obtain ⟨b, hb, rfl⟩ := hx
  refine ⟨rfl, rfl, fun j y hy => ?_⟩
  have hj : j = 0 := by have := list_lt hy; simp [V.cells] at this; omega
  subst hj
  simp [V.cells] at hy; subst hy
  refine ⟨.int .u8 b.toNat, ?_, .int _ _⟩
  have hb' : s.data[i]? = some b := by simpa using hb
  simp [hb']

theorem relF_one {sz : TypeId → Nat} {l : List V} {ys : Array Value} (r : RelF sz σ 1 l ys) (h1 : ∀ x ∈ l, x.one = true) : RelA sz σ l ys := by
  refine ⟨by simpa using r.1, fun i u v hu hv => ?_⟩
  obtain ⟨p, q, s⟩ := r.2 i u hu
  have hc : u.cells = [u] := by have := h1 u (List.mem_of_getElem? hu); cases u <;> first | rfl | simp [V.one] at this
  obtain ⟨v', a, b⟩ := s 0 u (by rw [hc]; rfl)
  simp at a
  rw [hv] at a; cases a; exact b

theorem bytesIn_one : ∀ {l : List V} {bs : List Nat}, bytesIn l = some bs → ∀ x ∈ l, x.one = true
  | [], _, _, x, hx => by cases hx
  | v :: l, bs, h, x, hx => by
    obtain ⟨n, r, rfl, hr, rfl⟩ := bytesIn_cons h
    rcases List.mem_cons.1 hx with rfl | hx
    · rfl
    · exact bytesIn_one hr x hx

theorem freeze_new (w : World) (arr : Array Value) (e : TypeId) : (w.alloc (.cells arr e)).freeze ⟨w.heap.size, arr.size, none⟩ 1 = w.alloc (.cells arr e (arr.size, arr.size + 1)) := by
  unfold World.freeze World.alloc
  rw [if_neg (by decide)]
  congr 1
  apply Array.ext_getElem?
  intro i
  rw [Array.getElem?_modify, Array.getElem?_push, Array.getElem?_push]
  by_cases e1 : w.heap.size = i
  · subst e1; simp
  · rw [if_neg e1, if_neg (Ne.symm e1), if_neg (Ne.symm e1)]

theorem run_markStringish {b o : Nat} {sp : Option Nat} {arr : Array Value} {Te : TypeId} {fr : Nat × Nat} (hb : w.heap[b]? = some (.cells arr Te fr)) : (markStringish ⟨b, o, sp⟩).run P w = .ok () (w.freeze ⟨b, arr.size, none⟩ 1) := by
  simp only [markStringish, Sem.run_bind, run_shape, World.shape?, hb, Result.andThen_ok]
  simp

theorem run_stringToBytes (P : Program) (w : World) (e : TypeId) (s : ByteArray) (cap : Nat) (hc : cap = s.size + w.tape w.drawn (.appendCap s.size 0 e) % (2 ^ 63 - s.size)) (arr : Array Value)
    (ha : arr = (s.data.map fun (c : UInt8) => Value.int .u8 c.toNat) ++ Array.replicate (cap - s.size) (Value.int .u8 0)) :
    (Conv.stringToBytes e s).run P w = .ok (.slice (some ⟨w.heap.size, 0, none⟩) s.size cap) (w.drew.alloc (.cells arr e (arr.size, arr.size + 1))) := by
  have h1 : (choose (.appendCap s.size 0 e)).run P w = .ok cap w.drew := by
    rw [run_choose, hc]; simp [Question.forced, Question.cut, World.drew_eq]
  have h2 : (newRow e arr).run P w.drew = .ok ⟨w.heap.size, 0, none⟩ (w.drew.alloc (.cells arr e)) := by
    rfl
  have hs : w.drew.heap.size = w.heap.size := rfl
  have h3 : (markStringish ⟨w.heap.size, 0, none⟩).run P (w.drew.alloc (.cells arr e)) = .ok () (w.drew.alloc (.cells arr e (arr.size, arr.size + 1))) := by
    rw [← hs, run_markStringish (alloc_new w.drew _), freeze_new]
  simp only [Conv.stringToBytes, Sem.run_bind, h1, Result.andThen_ok]
  rw [← ha, h2]
  simp only [Result.andThen_ok, h3]
  rfl

theorem slice_empty {sz : TypeId → Nat} {x : V} {v : Value} (r : Rel sz σ x v) (he : elemsV h x = some []) (inv : Inv sz σ w h) : ∃ base cap, v = .slice base 0 cap := by
  cases r with
  | nilslice T' => exact ⟨none, 0, rfl⟩
  | slice k T' l' b o cap arr val q1 q2 q3 q4 q5 => simp [elemsV] at he; subst he; exact ⟨_, cap, rfl⟩
  | mslice g ver T' off len clip ad cap g1 g2 g3 g4 g5 =>
    simp only [elemsV] at he
    split at he
    · split at he
      · rename_i hc
        cases he' : len with
        | zero => exact ⟨_, _, rfl⟩
        | succ n =>
          simp at he
          omega
      · cases he
    · cases he
  | cslice g T' off len cap ad g1 g2 g3 g4 g5 =>
    simp only [elemsV] at he
    split at he
    · simp only [takeAt] at he
      split at he
      · cases he' : len with
        | zero => exact ⟨_, _, rfl⟩
        | succ n =>
          simp at he
          omega
      · cases he
    · cases he
  | _ => simp [elemsV] at he

section
variable (hE : EnvOk P E) (inv : Inv (szOf P) σ w h) (r : RelA (szOf P) σ T a.tmps)
include hE inv r

noncomputable def evO (T : List V) (o : Option Operand) : Option (Option V) := match o with | none => some none | some o => (evalV T o).map some

omit hE inv in
theorem evO_rel {o : Option Operand} {x : Option V} (h : evO T o = some x) : RelO (szOf P) σ x (o.map a.eval) := by
  cases o with
  | none => simp [evO] at h; subst h; trivial
  | some y =>
    simp only [evO, Option.map_eq_some_iff] at h
    obtain ⟨z, hz, rfl⟩ := h
    exact evalV_rel r hz

theorem op_slice {o : Oper} {t : TypeId} {x : Operand} {lo hi mx : Option Operand} (ho : o.op = .slice t x lo hi mx) (hv : opV E T h o.op = some (u, h')) : PureDone P σ h w (execOp a.eval o) u h' := by
  rw [ho] at hv
  have hv' : (match evalV T x, evO T lo, evO T hi, evO T mx with
    | some v, some a, some b, some c => (sliceV E h t v a b c).map (·, h)
    | _, _, _, _ => none) = some (u, h') := hv
  split at hv'
  · rename_i v lo' hi' mx' e1 e2 e3 e4
    obtain ⟨hs, rfl⟩ := map_h hv'
    obtain ⟨z, q1, q2⟩ := sliceV_rel hE inv (evalV_rel r e1) (evO_rel r e2) (evO_rel r e3) (evO_rel r e4) hs
    exact PureDone.pureV inv (v := z) (by simp [execOp, ho, q1]) q2
  · cases hv'

theorem op_convert {o : Oper} {s d : TypeId} {x : Operand} (ho : o.op = .convert s d x) (hv : opV E T h o.op = some (u, h')) : PureDone P σ h w (execOp a.eval o) u h' ∨ ∃ ob, h' = h ++ [ob] ∧ AllocDone P σ h.length w (execOp a.eval o) u ob := by
  rw [ho] at hv
  simp only [opV] at hv
  split at hv
  · rename_i v he
    have rv := evalV_rel r he
    generalize hax : a.eval x = xv at rv
    unfold convV at hv
    split at hv
    · rename_i si di hsi hdi
      obtain ⟨sd, hsd⟩ := (hE.ti s si hsi).und
      have hsk := (hE.ti s si hsi).kind
      have hdk := (hE.ti d di hdi).kind
      split at hv
      · rename_i k k' n hk
        rw [hk] at hdk
        cases hv
        cases rv
        exact .inl <| PureDone.pureV inv (v := .int k (k.wrap n)) (by simp [execOp, ho, hax, convert, run_underlying hsd, run_underlying hdk, Conv.intToInt]) (.int _ _)
      · rename_i s' hk
        rw [hk] at hdk
        cases hv
        cases rv with
        | str bs => exact .inl <| PureDone.pureV inv (v := .string bs) (by simp [execOp, ho, hax, convert, run_underlying hsd, run_underlying hdk]) (.str _)
      · rename_i e bs hk
        rw [hk] at hdk
        split at hv
        · rename_i ie hie
          split at hv
          · rename_i hke
            have hiek := (hE.ti e ie hie).kind
            rw [hke] at hiek
            cases rv with
            | str b =>
              split at hv
              · rename_i hone
                cases hv
                have hse : szOf P e = 1 := by rw [← hone]; exact (hE.ti e ie hie).size
                have hrf := bytesOut_relF (s := b) (sz := szOf P) (σ := σ) (szOf P e) hse
                have hl : (bytesOut (bytesOf b)).length = b.size := by simp [bytesOut, bytesOf_len]
                have hcap : b.size ≤ b.size + w.tape w.drawn (.appendCap b.size 0 e) % (2 ^ 63 - b.size) := by omega
                have mk := AllocDone.newList (s := execOp a.eval o) (k := h.length) (w := w) (σ := σ) (w0 := w.drew) rfl ⟨rfl, rfl, rfl⟩ (l := bytesOut (bytesOf b)) (ys := b.data.map fun (c : UInt8) => Value.int .u8 c.toNat) (rest := Array.replicate (b.size + w.tape w.drawn (.appendCap b.size 0 e) % (2 ^ 63 - b.size) - b.size) (Value.int .u8 0))
                  (cap := b.size + w.tape w.drawn (.appendCap b.size 0 e) % (2 ^ 63 - b.size)) e
                  (((b.data.map fun (c : UInt8) => Value.int .u8 c.toNat) ++ Array.replicate (b.size + w.tape w.drawn (.appendCap b.size 0 e) % (2 ^ 63 - b.size) - b.size) (Value.int .u8 0)).size, ((b.data.map fun (c : UInt8) => Value.int .u8 c.toNat) ++ Array.replicate (b.size + w.tape w.drawn (.appendCap b.size 0 e) % (2 ^ 63 - b.size) - b.size) (Value.int .u8 0)).size + 1)
                  (fun i hi hc => by omega) (by omega) hrf (by rw [hl]; exact hcap) (by rw [hl, hse, Nat.mul_one]; simp)
                rw [hl] at mk
                have e2 : (bytesOf b).length = b.size := bytesOf_len b
                rw [e2]
                refine .inr ⟨_, rfl, mk ?_⟩
                have hr := run_stringToBytes P w e b _ rfl _ rfl
                have hx : (execOp a.eval o).run P w = ((Conv.stringToBytes e b).run P w).andThen (fun v w' => .ok (.value v) w') := by
                  simp [execOp, ho, hax, convert, run_underlying hsd, run_underlying hdk, run_underlying hiek]
                rw [hx, hr, Result.andThen_ok]
              · cases hv
          · cases hv
        · cases hv
      · rename_i x' hk hx'
        rw [hk] at hdk
        split at hv
        · rename_i e hsk'
          rw [hsk'] at hsk
          split at hv
          · rename_i ie hie
            split at hv
            · rename_i hke
              have hiek := (hE.ti e ie hie).kind
              rw [hke] at hiek
              split at hv
              · rename_i l Tx hl hTx
                split at hv
                · rename_i hc
                  obtain ⟨hone, hTe⟩ := hc
                  simp only [Option.map_eq_some_iff] at hv
                  obtain ⟨bs, hbs, hv⟩ := hv
                  cases hv
                  have hse : szOf P e = 1 := by rw [← hone]; exact (hE.ti e ie hie).size
                  have key : ∃ s : ByteArray, (Conv.bytesToString xv).run P w = .ok (.string s) w ∧ bytesOf s = bs ∧ ∃ b l c, xv = .slice b l c := by
                    rcases Decidable.em (l = []) with rfl | hne
                    · simp [bytesIn] at hbs
                      subst hbs
                      obtain ⟨base, cap, rfl⟩ := slice_empty rv hl inv
                      refine ⟨.empty, ?_, rfl, base, 0, cap, rfl⟩
                      cases base <;> simp [Conv.bytesToString, loadCells, loadCellsFrom]
                    · have hT : Tx = e := by
                        rcases hTe with h1 | h1
                        · exact h1
                        · exact absurd (by simpa using h1) hne
                      subst hT
                      obtain ⟨base, cap, rfl, rd⟩ := elems_rel inv rv hl hTx (by omega)
                      rcases rd with h0 | ⟨b, o, arr, Te, fr, rfl, b1, b2, b3⟩
                      · exact absurd h0 hne
                      · have rd' : Reads (szOf P) σ w 1 (some ⟨b, o, none⟩) l := .inr ⟨b, o, arr, Te, fr, rfl, b1, by rw [← hse]; exact b2, by rw [← hse]; exact b3⟩
                        rw [hse, Nat.mul_one] at b2
                        have hload := run_loadCells_am P b1 b2
                        obtain ⟨ys, y1, y2⟩ := firstCells_run rd' l.length cap l.length (Nat.le_refl _) (fun h => absurd h hne)
                        simp only [Builtin.firstCells, Nat.mul_one] at y1
                        rw [hload] at y1
                        cases y1
                        rw [List.take_length] at y2
                        have ra := relF_one y2 (bytesIn_one hbs)
                        obtain ⟨s', s1, s2⟩ := run_bytesToString (cap := cap) hload ra hbs
                        exact ⟨s', s1, s2, _, _, _, rfl⟩
                  obtain ⟨s, k1, k2, b, l', c, k3⟩ := key
                  refine .inl <| PureDone.pureV inv (v := .string s) ?_ (by rw [← k2]; exact .str s)
                  subst k3
                  cases b <;> simp [execOp, ho, hax, convert, run_underlying hsk, run_underlying hdk, run_underlying hiek, k1]
                · cases hv
              · cases hv
            · cases hv
          · cases hv
        · cases hv
      · cases hv
    · cases hv
  · cases hv

end
end Go.AM

/- AM: make, literals. -/
namespace Go.AM
variable {P : Program} {E : Env} {σ : Gh} {w : World} {h h' : Heap} {T : List V} {a : Act} {u : V}

theorem setFold (off : Nat) : ∀ (vs : List Value) (j0 : Nat) (cs : Array Value) (k : Nat),
    ((vs.zipIdx j0).foldl (fun (cs : Array Value) (x : Value × Nat) => cs.setIfInBounds (off + x.2) x.1) cs)[k]? = if off + j0 ≤ k ∧ k < off + j0 + vs.length ∧ k < cs.size then vs[k - (off + j0)]? else cs[k]?
  | [], j0, cs, k => by
    rw [if_neg (by simp; omega)]; simp
  | v :: vs, j0, cs, k => by
    simp only [List.zipIdx_cons, List.foldl_cons]
    rw [setFold off vs (j0 + 1) (cs.setIfInBounds (off + j0) v) k]
    simp only [Array.size_setIfInBounds, List.length_cons]
    by_cases e : k = off + j0
    · subst e
      rw [if_neg (by omega)]
      by_cases h : off + j0 < cs.size
      · rw [if_pos (by omega)]
        simp [h]
      · rw [if_neg (by omega)]
        rw [Array.getElem?_eq_none (by simp; omega), Array.getElem?_eq_none (by omega)]
    · by_cases h : off + (j0 + 1) ≤ k ∧ k < off + (j0 + 1) + vs.length ∧ k < cs.size
      · rw [if_pos h, if_pos (by omega)]
        have : k - (off + j0) = (k - (off + (j0 + 1))) + 1 := by omega
        rw [this, List.getElem?_cons_succ]
      · rw [if_neg h, if_neg (by omega), Array.getElem?_setIfInBounds_ne (by omega)]

theorem setFold_size (off : Nat) : ∀ (vs : List Value) (j0 : Nat) (cs : Array Value), ((vs.zipIdx j0).foldl (fun (cs : Array Value) (x : Value × Nat) => cs.setIfInBounds (off + x.2) x.1) cs).size = cs.size
  | [], j0, cs => rfl
  | v :: vs, j0, cs => by
    simp only [List.zipIdx_cons, List.foldl_cons]
    rw [setFold_size off vs (j0 + 1)]
    simp

/-- the cells of one part, laid -/
def laid (off : Nat) (v : Value) (cs : Array Value) : Array Value := v.cells.zipIdx.foldl (fun cs (x : Value × Nat) => cs.setIfInBounds (off + x.2) x.1) cs

theorem laid_get (off : Nat) (v : Value) (cs : Array Value) (hf : off + v.cells.size ≤ cs.size) (k : Nat) : (laid off v cs)[k]? = if off ≤ k ∧ k < off + v.cells.size then v.cells[k - off]? else cs[k]? := by
  unfold laid
  rw [← Array.foldl_toList, Array.toList_zipIdx, setFold]
  simp only [Nat.add_zero, Array.length_toList, Array.getElem?_toList]
  by_cases h : off ≤ k ∧ k < off + v.cells.size
  · rw [if_pos h, if_pos (by omega)]
  · rw [if_neg h, if_neg (by omega)]

theorem laid_size (off : Nat) (v : Value) (cs : Array Value) : (laid off v cs).size = cs.size := by
  unfold laid
  rw [← Array.foldl_toList, Array.toList_zipIdx, setFold_size]

theorem fill_cons (place : Nat → Option (Nat × Nat)) (cs : Array Value) (i : Nat) (v : Value) (rest : List (Nat × Value)) {off size : Nat} (hp : place i = some (off, size)) (hs : v.cells.size = size) (hf : off + v.cells.size ≤ cs.size) :
    Instr.fill place cs ((i, v) :: rest) = Instr.fill place (laid off v cs) rest := by
  rw [Instr.fill]
  simp only [hp]
  rw [if_neg]
  · rfl
  · simp only [Bool.or_eq_true, decide_eq_true_eq, ne_eq, not_or, Decidable.not_not]
    exact ⟨hs, by omega⟩

/-- parts of a literal, one by one -/
def RelP (sz : TypeId → Nat) (σ : Gh) : List (Nat × V) → List (Nat × Value) → Prop
  | [], [] => True
  | (i, u) :: l, (j, v) :: m => i = j ∧ Rel sz σ u v ∧ RelP sz σ l m
  | _, _ => False

theorem partsV_rel (r : RelA (szOf P) σ T a.tmps) : ∀ {l : List (Nat × Operand)} {ps : List (Nat × V)}, partsV T l = some ps → RelP (szOf P) σ ps (l.map fun x => (x.1, a.eval x.2))
  | [], ps, h => by simp [partsV] at h; subst h; trivial
  | (i, o) :: l, ps, h => by
    simp only [partsV] at h
    split at h
    · rename_i v rest hv hr
      cases h
      exact ⟨rfl, evalV_rel r hv, partsV_rel r hr⟩
    · cases h

theorem fill_rel (placeV place : Nat → Option (Nat × Nat)) (hpl : ∀ i x, placeV i = some x → place i = some x) : ∀ (ps : List (Nat × V)) (qs : List (Nat × Value)) (c c' : List V) (arr : Array Value), RelP (szOf P) σ ps qs →
    RelA (szOf P) σ c arr → fillV placeV c ps = some c' → ∃ arr', Instr.fill place arr qs = some arr' ∧ RelA (szOf P) σ c' arr'
  | [], [], c, c', arr, _, r, h => by simp [fillV] at h; subst h; exact ⟨arr, rfl, r⟩
  | [], _ :: _, _, _, _, hp, _, _ => hp.elim
  | _ :: _, [], _, _, _, hp, _, _ => hp.elim
  | (i, u) :: ps, (j, v) :: qs, c, c', arr, hp, r, h => by
    obtain ⟨rfl, rv, hp'⟩ := hp
    simp only [fillV] at h
    split at h
    · cases h
    · rename_i off size hpi
      split at h
      · cases h
      rename_i hc
      simp only [Bool.or_eq_true, decide_eq_true_eq, bne_iff_ne, ne_eq, not_or, Decidable.not_not, Nat.not_lt] at hc
      have rc := rv.cells
      have h1 : v.cells.size = size := by rw [rc.1]; exact hc.1
      have h2 : off + v.cells.size ≤ arr.size := by rw [rc.1, r.1]; exact hc.2
      rw [fill_cons place arr i v qs (hpl i _ hpi) h1 h2]
      refine fill_rel placeV place hpl ps qs _ c' _ hp' ⟨?_, fun k x y hx hy => ?_⟩ h
      · rw [laid_size, splice_len hc.2, r.1]
      · obtain ⟨v', q1, q2⟩ := splice_rel (o := 0) (off := off) (n := u.cells) (vs := v.cells.toList) (arr := arr) (arr' := laid off v arr) (by simpa using rc) hc.2 (fun k x hx => by rw [Nat.zero_add]; exact r.get hx)
          (fun k => by rw [laid_get _ _ _ h2]; simp) k x hx
        rw [Nat.zero_add, hy] at q1
        cases q1; exact q2

/-- elements of a slice literal -/
theorem fill_list (size : Nat) (hpos : 0 < size) : ∀ (ps : List (Nat × V)) (qs : List (Nat × Value)) (l l' : List V) (arr : Array Value), RelP (szOf P) σ ps qs →
    RelF (szOf P) σ size l arr → setAll size l ps = some l' → ∃ arr', Instr.fill (fun i => some (i * size, size)) arr qs = some arr' ∧ RelF (szOf P) σ size l' arr' ∧ l'.length = l.length
  | [], [], l, l', arr, _, r, h => by simp [setAll] at h; subst h; exact ⟨arr, rfl, r, rfl⟩
  | [], _ :: _, _, _, _, hp, _, _ => hp.elim
  | _ :: _, [], _, _, _, hp, _, _ => hp.elim
  | (i, u) :: ps, (j, v) :: qs, l, l', arr, hp, r, h => by
    obtain ⟨rfl, rv, hp'⟩ := hp
    simp only [setAll] at h
    split at h
    · rename_i hc
      simp only [Bool.and_eq_true, decide_eq_true_eq, beq_iff_eq] at hc
      obtain ⟨⟨hi, hs⟩, hone⟩ := hc
      have rc := rv.cells
      have h1 : v.cells.size = size := by rw [rc.1]; exact hs
      have hm : (i + 1) * size ≤ l.length * size := Nat.mul_le_mul_right _ hi
      rw [Nat.add_mul, Nat.one_mul] at hm
      have h2 : i * size + v.cells.size ≤ arr.size := by rw [h1, r.1]; exact hm
      rw [fill_cons _ arr i v qs rfl h1 h2]
      have hr : RelF (szOf P) σ size (l.set i u) (laid (i * size) v arr) := by
        refine ⟨by rw [laid_size, r.1, List.length_set], fun k x hx => ?_⟩
        by_cases e : k = i
        · subst e
          rw [List.getElem?_set_self hi] at hx
          cases hx
          refine ⟨hs, hone, fun j y hy => ?_⟩
          obtain ⟨v', a1, a2⟩ := rc.get hy
          have hj : j < size := by rw [← hs]; exact list_lt hy
          exact ⟨v', by rw [laid_get _ _ _ h2, if_pos (by omega), Nat.add_sub_cancel_left]; exact a1, a2⟩
        · rw [List.getElem?_set_ne (Ne.symm e)] at hx
          obtain ⟨p1, p2, p3⟩ := r.2 k x hx
          refine ⟨p1, p2, fun j y hy => ?_⟩
          obtain ⟨v', a1, a2⟩ := p3 j y hy
          have hj : j < size := by rw [← p1]; exact list_lt hy
          refine ⟨v', ?_, a2⟩
          rw [laid_get _ _ _ h2, if_neg]
          · exact a1
          · rw [h1]
            rcases Nat.lt_or_ge k i with hlt | hge
            · have : (k + 1) * size ≤ i * size := Nat.mul_le_mul_right _ (by omega)
              rw [Nat.add_mul, Nat.one_mul] at this; omega
            · have : (i + 1) * size ≤ k * size := Nat.mul_le_mul_right _ (by omega)
              rw [Nat.add_mul, Nat.one_mul] at this; omega
      obtain ⟨arr', q1, q2, q3⟩ := fill_list size hpos ps qs (l.set i u) l' (laid (i * size) v arr) hp' hr h
      exact ⟨arr', q1, q2, by simpa using q3⟩
    · cases h

theorem made_relF {t : TypeId} {i : TI} (ht : TIok P t i) {z : Value} (hz : ofValue z = some i.zero) (hone : i.zero.cells.all V.one = true) (hpos : 0 < i.size) (n : Nat) : RelF (szOf P) σ i.size (List.replicate n i.zero) (madeCells z.cells (n * i.size)) := by
  have rc := (ofValue_rel (szOf P) σ z i.zero hz).cells
  have hzs := zero_size ht hz
  refine ⟨by simp [size_madeCells], fun k x hx => ?_⟩
  rw [List.getElem?_replicate] at hx
  split at hx
  · rename_i hk
    cases hx
    refine ⟨ht.zlen, hone, fun j y hy => ?_⟩
    obtain ⟨v, a1, a2⟩ := rc.get hy
    have hj : j < i.size := by rw [← ht.zlen]; exact list_lt hy
    have hm : (k + 1) * i.size ≤ n * i.size := Nat.mul_le_mul_right _ hk
    rw [Nat.add_mul, Nat.one_mul] at hm
    refine ⟨v, ?_, a2⟩
    have e1 : (k * i.size + j) % z.cells.size = j := by rw [hzs, Nat.mul_comm, Nat.mul_add_mod]; exact Nat.mod_eq_of_lt hj
    have e2 : k * i.size + j < n * i.size := by omega
    simp only [madeCells, Array.getElem?_map, Array.getElem?_range, e2, if_true, Option.map_some, e1, Option.some.injEq]
    obtain ⟨h1, h2⟩ := Array.getElem?_eq_some_iff.1 a1
    rw [getElem!_pos z.cells j h1, h2]
  · cases hx

section
variable (hE : EnvOk P E) (inv : Inv (szOf P) σ w h) (r : RelA (szOf P) σ T a.tmps)
include hE inv r

theorem op_build {o : Oper} {t : TypeId} {ps : Array (Nat × Operand)} (ho : o.op = .build t ps) (hv : opV E T h o.op = some (u, h')) : PureDone P σ h w (execOp a.eval o) u h' := by
  rw [ho] at hv
  simp only [opV] at hv
  split at hv
  · rename_i i qs hi hq
    split at hv
    · rename_i hagg
      simp only [Option.map_eq_some_iff] at hv
      obtain ⟨c, hc, e⟩ := hv
      cases e
      have ht := hE.ti t i hi
      have rp := partsV_rel r hq
      obtain ⟨inf, hinf, hsz, hbt, z, hz1, hz2⟩ := ht.info
      have rz := (ofValue_rel (szOf P) σ z i.zero hz2).cells
      have hkind := ht.kind
      have hparts := ht.parts
      have key : ∃ arr', P.built t (ps.toList.map fun x => (x.1, a.eval x.2)) = some arr' ∧ RelA (szOf P) σ c arr' := by
        cases hk : i.kind <;> simp only [hk, TK.isAgg] at hagg <;> try (cases hagg; done)
        · rename_i n e
          rw [hk] at hkind hparts hc
          obtain ⟨ie, hie⟩ := Option.isSome_iff_exists.1 hparts
          obtain ⟨arr', q1, q2⟩ := fill_rel (P := P) (placeOf E (.array n e)) (fun i => some (i * ie.size, ie.size)) (fun k x hx => by
            simp only [placeOf, Option.map_eq_some_iff] at hx
            obtain ⟨j, hj, rfl⟩ := hx
            obtain ⟨x', hx', hs', _⟩ := (hE.ti e j hj).info
            rw [hie] at hx'; cases hx'
            rw [hs']) qs _ _ _ z.cells rp rz hc
          exact ⟨arr', by simp [Program.built, hinf, kindOk] at hkind ⊢; simp [hkind, hz1, hie, q1], q2⟩
        · rename_i fs
          rw [hk] at hkind hparts hc
          obtain ⟨fields, hu, hf⟩ := hkind
          have hpl : ∃ places, fields.toList.mapM (fun f => (P.info? f.type).map fun i => (f.offset, i.size)) = some places ∧ ∀ (k : Nat) (f : Field), fields.toList[k]? = some f → ∃ i, P.info? f.type = some i ∧ places[k]? = some (f.offset, i.size) := by
            have hall : ∀ f ∈ fields.toList, (P.info? f.type).isSome = true := fun f hfm => hparts (f.offset, f.type) (by rw [← hf]; exact List.mem_map.2 ⟨f, hfm, rfl⟩)
            revert hall
            generalize fields.toList = fl
            intro hall
            induction fl with
            | nil => exact ⟨[], rfl, fun k f hk => by simp at hk⟩
            | cons f fl ih =>
              obtain ⟨i1, hi1⟩ := Option.isSome_iff_exists.1 (hall f List.mem_cons_self)
              obtain ⟨pl, hp1, hp2⟩ := ih (fun g hg => hall g (List.mem_cons_of_mem _ hg))
              refine ⟨(f.offset, i1.size) :: pl, by simp [List.mapM_cons, hi1, hp1], fun k g hg => ?_⟩
              cases k with
              | zero => simp at hg; subst hg; exact ⟨i1, hi1, rfl⟩
              | succ k => simp at hg; obtain ⟨i', q1, q2⟩ := hp2 k g hg; exact ⟨i', q1, by simpa using q2⟩
          obtain ⟨places, hp1, hp2⟩ := hpl
          obtain ⟨arr', q1, q2⟩ := fill_rel (P := P) (placeOf E (.struct fs)) (places.toArray[·]?) (fun k x hx => by
            simp only [placeOf, Option.bind_eq_some_iff, Option.map_eq_some_iff] at hx
            obtain ⟨⟨off, t'⟩, hn, j, hj, rfl⟩ := hx
            obtain ⟨f, f1, f2, f3⟩ := field_of hf hn
            obtain ⟨i', h1, h2⟩ := hp2 k f (by simpa using f1)
            obtain ⟨x', hx', hs', _⟩ := (hE.ti t' j hj).info
            rw [f3, hx'] at h1; cases h1
            simp [h2, f2, hs']) qs _ _ _ z.cells rp rz hc
          simp only [List.getElem?_toArray] at q1
          exact ⟨arr', by simp [Program.built, hinf, hu, hz1, hp1, q1], q2⟩
      obtain ⟨arr', q1, q2⟩ := key
      refine PureDone.pureV inv (v := .agg arr') ?_ (.agg _ _ q2.1 q2.2)
      have hrun := run_build (P := P) w t (ps.map fun x => (x.1, a.eval x.2)) arr' (by simpa using q1)
      simp [execOp, ho, hrun]
    · cases hv
  · cases hv

end

section
variable (hE : EnvOk P E) (r : RelA (szOf P) σ T a.tmps)
include hE r

theorem op_makeSlice {o : Oper} {t : TypeId} {x y : Operand} (ho : o.op = .makeSlice t x y) (hv : opV E T h o.op = some (u, h')) : ∃ ob, h' = h ++ [ob] ∧ AllocDone P σ h.length w (execOp a.eval o) u ob := by
  rw [ho] at hv
  simp only [opV] at hv
  split at hv
  · rename_i i k n k' m hi hx hy
    split at hv
    · rename_i e hk
      split at hv
      · rename_i j hj
        split at hv
        · rename_i hc
          simp only [Bool.and_eq_true, decide_eq_true_eq, beq_iff_eq] at hc
          obtain ⟨⟨⟨⟨⟨⟨rfl, h0⟩, hb⟩, hm⟩, hs⟩, hby⟩, hone⟩ := hc
          have htk := (hE.ti t i hi).kind
          rw [hk] at htk
          have ht := hE.ti e j hj
          cases hv
          have rx := evalV_rel r hx
          have ry := evalV_rel r hy
          generalize hax : a.eval x = xv at rx
          generalize hay : a.eval y = yv at ry
          cases rx
          cases ry
          obtain ⟨inf, hinf, hsz, hbt, z, hz1, hz2⟩ := ht.info
          have hrun := run_make (P := P) w t e inf z htk hinf hz1 k k' n n h0 (Int.le_refl _) (by rw [hbt, Int.mul_comm]; omega) (by omega)
          rw [hsz] at hrun
          have hse : szOf P e = j.size := ht.size
          have rf := made_relF (σ := σ) ht hz2 hone hs n.toNat
          have mk := AllocDone.newList (s := execOp a.eval o) (k := h.length) (w := w) (w0 := w) rfl ⟨rfl, rfl, rfl⟩ (l := List.replicate n.toNat j.zero) (ys := madeCells z.cells (n.toNat * j.size)) (rest := #[]) (cap := n.toNat) e (0, 0) (fun i _ h => by omega) (by rw [hse]; exact hs) (by rw [hse]; exact rf) (by simp) (by simp)
          rw [List.length_replicate] at mk
          refine ⟨_, rfl, mk ?_⟩
          simp [execOp, ho, hax, hay, hrun]
        · cases hv
      · cases hv
    · cases hv
  · cases hv

theorem op_buildSlice {o : Oper} {t : TypeId} {len : Nat} {ps : Array (Nat × Operand)} (ho : o.op = .buildSlice t len ps) (hv : opV E T h o.op = some (u, h')) : ∃ ob, h' = h ++ [ob] ∧ AllocDone P σ h.length w (execOp a.eval o) u ob := by
  rw [ho] at hv
  simp only [opV] at hv
  split at hv
  · rename_i i qs hi hq
    split at hv
    · rename_i e hk
      split at hv
      · rename_i j hj
        split at hv
        · rename_i hc
          simp only [Bool.and_eq_true, decide_eq_true_eq] at hc
          obtain ⟨⟨⟨hc1, hc2⟩, hpos⟩, hone⟩ := hc
          simp only [Option.map_eq_some_iff] at hv
          obtain ⟨l, hl, e'⟩ := hv
          cases e'
          have htk := (hE.ti t i hi).kind
          rw [hk] at htk
          have ht := hE.ti e j hj
          obtain ⟨inf, hinf, hsz, hbt, z, hz1, hz2⟩ := ht.info
          have rp := partsV_rel r hq
          have rf := made_relF (σ := σ) ht hz2 hone hpos len
          obtain ⟨arr', q1, q2, q3⟩ := fill_list j.size hpos qs _ _ l _ rp rf hl
          rw [List.length_replicate] at q3
          have hse : szOf P e = j.size := ht.size
          have mk := AllocDone.newList (s := execOp a.eval o) (k := h.length) (w := w) (w0 := w) rfl ⟨rfl, rfl, rfl⟩ (l := l) (ys := arr') (rest := #[]) (cap := len) e (0, 0) (fun i _ h => by omega) (by rw [hse]; exact hpos) (by rw [hse]; exact q2) (by omega) (by rw [q3, Nat.sub_self, Nat.zero_mul]; rfl)
          rw [q3] at mk
          refine ⟨_, rfl, mk ?_⟩
          rcases Nat.eq_zero_or_pos len with h0 | h0
          · subst h0
            have hemp : arr' = #[] := by
              have := q2.1; rw [q3, Nat.zero_mul] at this
              exact Array.eq_empty_of_size_eq_zero this
            have hm0 : madeCells z.cells (0 * j.size) = #[] := Array.eq_empty_of_size_eq_zero (by rw [size_madeCells, Nat.zero_mul])
            have hr0 : Array.range 0 = #[] := rfl
            have hq1 : Instr.fill (fun i => some (i * inf.size, inf.size)) #[] (ps.toList.map fun x => (x.1, a.eval x.2)) = some #[] := by
              rw [hsz]; rw [hemp, hm0] at q1; exact q1
            simp [execOp, ho, Instr.buildSlice, run_underlying htk, sizeOf, typeInfo, hinf, hq1, hemp, newRow, hr0, World.alloc_eq]
          · have hrun := run_buildSlice (P := P) w t e len (ps.map fun x => (x.1, a.eval x.2)) arr' inf z htk hinf hz1 (by rw [hsz]; omega) (by rw [hsz]; exact Nat.ne_of_gt (Nat.mul_pos h0 hpos)) (by rw [hsz]; simpa [madeCells] using q1)
            simp [execOp, ho, hrun]
        · cases hv
      · cases hv
    · cases hv
  · cases hv

end
end Go.AM
