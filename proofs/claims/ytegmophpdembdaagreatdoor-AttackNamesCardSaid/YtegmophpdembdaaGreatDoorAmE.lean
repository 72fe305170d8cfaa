/- The abstract machine: regions that draw an order: every schedule comes to what the plan comes to. -/
import Derived.Test.YtegmophpdembdaaGreatDoorAmD
import Derived.Orders
/- AM: operations that change nothing, read only, make one object. -/
namespace Go.AM
variable {P : Program} {E : Env} {σ : Gh} {w : World} {h h' : Heap} {T T' : List V} {a : Act} {u : V}

inductive Cls | pure | read | alloc | eff
  deriving DecidableEq

def clsOp (E : Env) : Op → Cls
  | .move _ | .assign _ | .pick _ _ _ | .build _ _ | .nilCheck _ | .binOp _ _ _ _ _ | .unOp _ _ _ | .makeInterface _ _ | .makeFunc _ _ _ | .fieldAddr _ _ _ | .field _ _ _
  | .indexAddr _ _ _ | .index _ _ _ | .extract _ _ => .pure
  | .load _ _ | .lookup _ _ _ _ | .entry _ | .slice _ _ _ _ _ => .read
  | .alloc _ | .box _ _ | .buildSlice _ _ _ | .makeMap _ _ | .makeSlice _ _ _ => .alloc
  | .convert _ d _ => match E.ti d with
    | some i => match i.kind with
      | .int _ => .pure
      | .slice _ => .alloc
      | .str => .read
      | _ => .eff
    | none => .eff
  | .call ⟨.builtin .len, _, _⟩ | .call ⟨.builtin .cap, _, _⟩ => .read
  | .call ⟨.builtin .min, _, _⟩ | .call ⟨.builtin .max, _, _⟩ => .pure
  | _ => .eff

/-! ### operands -/

theorem evalVs_congr : ∀ (l : List Operand), (∀ x ∈ l, evalV T x = evalV T' x) → evalVs T l = evalVs T' l
  | [], _ => rfl
  | x :: l, h => by simp only [evalVs]; rw [h x List.mem_cons_self, evalVs_congr l fun y hy => h y (List.mem_cons_of_mem _ hy)]

theorem partsV_congr : ∀ (l : List (Nat × Operand)), (∀ x ∈ l.map (·.2), evalV T x = evalV T' x) → partsV T l = partsV T' l
  | [], _ => rfl
  | (i, x) :: l, h => by simp only [partsV]; rw [h x (by simp), partsV_congr l fun y hy => h y (by simp at hy ⊢; exact .inr hy)]

theorem opV_congr {op : Op} (hc : ∀ x ∈ op.operands, evalV T x = evalV T' x) : opV E T h op = opV E T' h op := by
  cases op with
  | call c =>
    obtain ⟨f, args, ts⟩ := c
    cases f with
    | builtin b => simp only [opV]; rw [evalVs_congr args.toList fun x hx => hc x (by simp [Op.operands, Call.operands] at hx ⊢; exact hx)]
    | value f => simp [opV]
    | invoke f n => simp [opV]
  | build t ps => simp only [opV]; rw [partsV_congr ps.toList fun x hx => hc x (by simpa [Op.operands] using hx)]
  | buildSlice t n ps => simp only [opV]; rw [partsV_congr ps.toList fun x hx => hc x (by simpa [Op.operands] using hx)]
  | makeFunc fn x y =>
    simp only [opV]
    rw [evalVs_congr x.toList fun z hz => hc z (by simp [Op.operands] at hz ⊢; exact .inl hz), evalVs_congr y.toList fun z hz => hc z (by simp [Op.operands] at hz ⊢; exact .inr hz)]
  | makeMap t r => cases r <;> simp_all [Op.operands, opV]
  | slice t x lo hi mx => cases lo <;> cases hi <;> cases mx <;> simp_all [Op.operands, opV]
  | pick c x y =>
    simp only [Op.operands] at hc
    simp only [opV]
    rw [hc c (by simp)]
    split
    · rename_i t _; cases t <;> simp [hc x (by simp), hc y (by simp)]
    · rfl
  | _ => simp_all [Op.operands, opV]

theorem callV_congr {op : Op} (hc : ∀ x ∈ op.operands, evalV T x = evalV T' x) : callV E T op = callV E T' op := by
  cases op with
  | call c =>
    obtain ⟨f, args, ts⟩ := c
    have ha := evalVs_congr (T := T) (T' := T') args.toList fun x hx => hc x (by simp [Op.operands, Call.operands] at hx ⊢; exact .inr hx)
    cases f with
    | builtin b => simp [callV]
    | value f => simp only [callV]; rw [ha, hc f (by simp [Op.operands, Call.operands])]
    | invoke f n => simp only [callV]; rw [ha, hc f (by simp [Op.operands, Call.operands])]
  | _ => rfl

/-! ### what reads only -/

/-- all that is alive in h is in h' -/
def Sub (h h' : Heap) : Prop := ∀ (g : Nat) (o : Ob), h[g]? = some o → (∀ _ : o = .dead, False) → h'[g]? = some o

theorem loadV_sub (s : Sub h h') {i : TI} {p : V} (hl : loadV h i p = some u) : loadV h' i p = some u := by
  unfold loadV at hl ⊢
  split at hl
  · split at hl
    · rename_i c hc; rw [s _ _ hc (by simp)]; exact hl
    · cases hl
  · exact hl
  · split at hl
    · rename_i c hc; rw [s _ _ hc (by simp)]; exact hl
    · cases hl
  · cases hl

theorem elemsV_sub (s : Sub h h') {v : V} {l : List V} (hl : elemsV h v = some l) : elemsV h' v = some l := by
  unfold elemsV at hl ⊢
  split at hl
  · exact hl
  · split at hl
    · rename_i c hc; rw [s _ _ hc (by simp)]; exact hl
    · cases hl
  · split at hl
    · rename_i c hc; rw [s _ _ hc (by simp)]; exact hl
    · cases hl
  · cases hl

theorem lookupV_sub (s : Sub h h') {t : TypeId} {m k : V} {ok : Bool} (hl : lookupV E h t m k ok = some u) : lookupV E h' t m k ok = some u := by
  unfold lookupV at hl ⊢
  split at hl
  · rename_i i hi
    split at hl
    · rename_i kt et hk
      split at hl
      · rename_i ik ie hik hie
        split at hl
        · cases hl
        · rename_i hok
          simp only [hok, if_false]
          simp only [] at hl ⊢
          split at hl
          · exact hl
          · split at hl
            · rename_i es c hc; rw [s _ _ hc (by simp)]; exact hl
            · cases hl
          · cases hl
      · cases hl
    · cases hl
  · cases hl

theorem entryAgainV_sub (s : Sub h h') {m : V} (hl : entryAgainV h m = some u) : entryAgainV h' m = some u := by
  unfold entryAgainV at hl ⊢
  split at hl
  · split at hl
    · rename_i hc
      rw [s _ _ hc (by simp)]
      simp only []
      split at hl
      · rename_i h1 h2
        rw [h1, s _ _ h2 (by simp)]
        exact hl
      · cases hl
    · cases hl
  · cases hl

theorem sliceV_sub (s : Sub h h') {t : TypeId} {x : V} {lo hi mx : Option V} (hl : sliceV E h t x lo hi mx = some u) : sliceV E h' t x lo hi mx = some u := by
  unfold sliceV at hl ⊢
  split at hl
  · cases hl
  · rename_i i hi'
    split at hl
    · exact hl
    · exact hl
    · split at hl
      · cases hl
      · rename_i hn
        rw [if_neg hn]
        split at hl
        · rename_i hc; rw [s _ _ hc (by simp)]; exact hl
        · cases hl
    · exact hl
    · cases hl

theorem convV_read (s : Sub h h') {src dst : TypeId} {x : V} {h1 : Heap} (hk : ∃ i, E.ti dst = some i ∧ i.kind = .str) (hl : convV E h src dst x = some (u, h1)) : h1 = h ∧ convV E h' src dst x = some (u, h') := by
  obtain ⟨i, hi, hk⟩ := hk
  unfold convV at hl ⊢
  rw [hi] at hl ⊢
  split at hl
  · rename_i si di hs hd
    cases hd
    simp only [hk] at hl ⊢
    split at hl
    · rename_i e; cases e
    · cases hl; exact ⟨rfl, rfl⟩
    · rename_i e; cases e
    · split at hl
      · rename_i e he
        split at hl
        · rename_i ie hie
          split at hl
          · rename_i hu
            split at hl
            · rename_i l Tx h1 h2
              rw [elemsV_sub s h1]
              split at hl
              · rename_i hc
                simp only [Option.map_eq_some_iff, Prod.mk.injEq] at hl
                obtain ⟨b, hb, rfl, rfl⟩ := hl
                refine ⟨rfl, ?_⟩
                simp only [h2]
                rw [if_pos hc, hb]; rfl
              · cases hl
            · cases hl
          · cases hl
        · cases hl
      · cases hl
    · cases hl
  · cases hl

theorem convV_pure {src dst : TypeId} {x : V} {h1 : Heap} {k : IntKind} (hk : ∃ i, E.ti dst = some i ∧ i.kind = .int k) (hl : convV E h src dst x = some (u, h1)) : h1 = h ∧ convV E h' src dst x = some (u, h') := by
  obtain ⟨i, hi, hk⟩ := hk
  unfold convV at hl ⊢
  rw [hi] at hl ⊢
  split at hl
  · rename_i si di hs hd
    cases hd
    simp only [hk] at hl ⊢
    split at hl <;> first | contradiction | (cases hl; done) | (cases hl; exact ⟨rfl, rfl⟩)
  · cases hl

theorem map_h2 {x : Option V} {h h2 : Heap} {u : V} {h' : Heap} (e : x.map (·, h) = some (u, h')) : h' = h ∧ x.map (·, h2) = some (u, h2) := by
  obtain ⟨rfl, rfl⟩ := map_h e
  exact ⟨rfl, rfl⟩

theorem opV_pure {op : Op} (hc : clsOp E op = .pure) (hv : opV E T h op = some (u, h')) (h2 : Heap) : h' = h ∧ opV E T h2 op = some (u, h2) := by
  cases op with
  | move x => simp only [opV] at hv ⊢; exact map_h2 hv
  | assign x => simp only [opV] at hv ⊢; exact map_h2 hv
  | pick c x y => simp only [opV] at hv ⊢; split at hv <;> first | exact map_h2 hv | cases hv
  | build t ps =>
    simp only [opV] at hv ⊢
    split at hv
    · split at hv
      · rename_i hk
        simp only [Option.map_eq_some_iff, Prod.mk.injEq] at hv
        obtain ⟨c, hc', rfl, rfl⟩ := hv
        exact ⟨rfl, by simp [hk, hc']⟩
      · cases hv
    · cases hv
  | nilCheck x =>
    simp only [opV] at hv ⊢
    split at hv <;> first
      | (cases hv; done)
      | (cases hv; exact ⟨rfl, rfl⟩)
      | (split at hv <;> first | (cases hv; done) | (cases hv; rename_i hh; exact ⟨rfl, by simp [hh]⟩))
  | binOp op t x y yt =>
    simp only [opV] at hv ⊢
    split at hv
    · split at hv <;> first | exact map_h2 hv | cases hv
    · cases hv
  | unOp op t x => simp only [opV] at hv ⊢; split at hv <;> first | exact map_h2 hv | cases hv
  | makeInterface t x =>
    simp only [opV] at hv ⊢
    split at hv
    · split at hv <;> first | (cases hv; done) | (cases hv; exact ⟨rfl, rfl⟩)
    · cases hv
  | makeFunc fn x y =>
    simp only [opV] at hv ⊢
    split at hv
    · split at hv <;> first | (cases hv; done) | (cases hv; exact ⟨rfl, rfl⟩)
    · cases hv
  | fieldAddr s x n =>
    simp only [opV] at hv ⊢
    split at hv
    · split at hv
      · split at hv
        · split at hv
          · split at hv
            · cases hv
            · rename_i hz; rw [if_neg hz]; exact map_h2 hv
          · cases hv
        · cases hv
      · cases hv
    · cases hv
  | field t x n =>
    simp only [opV] at hv ⊢
    split at hv
    · split at hv
      · split at hv
        · simp only [Option.bind_eq_some_iff] at hv
          obtain ⟨j, hj, hv⟩ := hv
          rw [hj]
          exact map_h2 hv
        · cases hv
      · cases hv
    · cases hv
  | indexAddr t x y =>
    simp only [opV] at hv ⊢
    split at hv
    · split at hv
      · cases hv
      · rename_i hn
        rw [if_neg hn]
        split at hv
        · split at hv
          · split at hv
            · cases hv
            · rename_i hz; rw [if_neg hz]; exact map_h2 hv
          · cases hv
        · split at hv
          · cases hv
          · rename_i hz
            rw [if_neg hz]
            split at hv
            · split at hv
              · rename_i e
                rw [if_pos e]
                simp only [Option.map_eq_some_iff, Prod.mk.injEq] at hv
                obtain ⟨y, hy, rfl, rfl⟩ := hv
                exact ⟨rfl, by rw [hy]; rfl⟩
              · cases hv
            · split at hv
              · rename_i e; rw [if_pos e]; cases hv; exact ⟨rfl, rfl⟩
              · cases hv
            · split at hv
              · rename_i e; rw [if_pos e]; cases hv; exact ⟨rfl, rfl⟩
              · cases hv
            · cases hv
        · cases hv
    · cases hv
  | index t x y =>
    simp only [opV] at hv ⊢
    split at hv
    · split at hv
      · cases hv
      · rename_i hn
        rw [if_neg hn]
        split at hv
        · split at hv
          · cases hv
          · rename_i hz
            rw [if_neg hz]
            simp only [Option.bind_eq_some_iff] at hv
            obtain ⟨j, hj, hv⟩ := hv
            rw [hj]
            exact map_h2 hv
        · simp only [Option.map_eq_some_iff, Prod.mk.injEq] at hv
          obtain ⟨y, hy, rfl, rfl⟩ := hv
          exact ⟨rfl, by rw [hy]; rfl⟩
        · cases hv
    · cases hv
  | extract x n => simp only [opV] at hv ⊢; split at hv <;> first | exact map_h2 hv | cases hv
  | convert s d x =>
    simp only [clsOp] at hc
    split at hc
    · rename_i i hi
      split at hc
      · rename_i k hk
        simp only [opV] at hv ⊢
        split at hv
        · exact convV_pure ⟨i, hi, hk⟩ hv
        · cases hv
      all_goals cases hc
    · cases hc
  | call c =>
    obtain ⟨f, args, ts⟩ := c
    cases f with
    | builtin b =>
      simp only [opV] at hv ⊢
      split at hv
      · cases b <;> simp only [clsOp] at hc <;> first | (cases hc; done) | (simp only [builtinV] at hv ⊢; exact map_h2 hv)
      · cases hv
    | value f => simp [opV] at hv
    | invoke f n => simp [opV] at hv
  | makeMap t r => simp [clsOp] at hc
  | _ => simp [clsOp] at hc

theorem opV_read {op : Op} (hc : clsOp E op = .read) (hv : opV E T h op = some (u, h')) {h2 : Heap} (s : Sub h h2) : h' = h ∧ opV E T h2 op = some (u, h2) := by
  cases op with
  | load t x =>
    simp only [opV] at hv ⊢
    split at hv
    · obtain ⟨e, rfl⟩ := map_h hv
      exact ⟨rfl, by rw [loadV_sub s e]; rfl⟩
    · cases hv
  | lookup t x y ok =>
    simp only [opV] at hv ⊢
    split at hv
    · obtain ⟨e, rfl⟩ := map_h hv
      exact ⟨rfl, by rw [lookupV_sub s e]; rfl⟩
    · cases hv
  | entry x =>
    simp only [opV] at hv ⊢
    split at hv
    · obtain ⟨e, rfl⟩ := map_h hv
      exact ⟨rfl, by rw [entryAgainV_sub s e]; rfl⟩
    · cases hv
  | slice t x lo hi mx =>
    simp only [opV] at hv ⊢
    split at hv
    · rename_i v a' b c h1 h3 h4 h5
      obtain ⟨e, rfl⟩ := map_h hv
      refine ⟨rfl, ?_⟩
      rw [sliceV_sub s e]; rfl
    · cases hv
  | convert sr d x =>
    simp only [clsOp] at hc
    split at hc
    · rename_i i hi
      split at hc
      · cases hc
      · cases hc
      · rename_i hk
        simp only [opV] at hv ⊢
        split at hv
        · exact convV_read s ⟨i, hi, hk⟩ hv
        · cases hv
      · cases hc
    · cases hc
  | call c =>
    obtain ⟨f, args, ts⟩ := c
    cases f with
    | builtin b =>
      simp only [opV] at hv ⊢
      split at hv
      · rename_i vs he
        cases b with
        | len =>
          obtain ⟨x, rfl⟩ : ∃ x, vs = [x] := by
            unfold builtinV at hv; split at hv <;> simp_all
          simp only [builtinV] at hv ⊢
          split at hv
          · split at hv
            all_goals first
              | (cases hv; done)
              | (cases hv; exact ⟨rfl, rfl⟩)
              | skip
            · split at hv
              · rename_i hc'; rw [s _ _ hc' (by simp)]; cases hv; exact ⟨rfl, rfl⟩
              · cases hv
            · split at hv
              · split at hv <;> first | (cases hv; done) | (cases hv; exact ⟨rfl, rfl⟩)
              · cases hv
          · cases hv
        | cap =>
          obtain ⟨x, rfl⟩ : ∃ x, vs = [x] := by
            unfold builtinV at hv; split at hv <;> simp_all
          unfold builtinV at hv ⊢
          split at hv <;> first | (cases hv; done) | skip
          all_goals simp_all
          all_goals (split at hv <;> first | (cases hv; done) | skip)
          all_goals (split at hv <;> first | (cases hv; done) | (cases hv; simp_all))
        | _ => simp [clsOp] at hc
      · cases hv
    | value f => simp [opV] at hv
    | invoke f n => simp [opV] at hv
  | makeMap t r => simp [clsOp] at hc
  | _ => simp [clsOp] at hc

/-! ### in the model -/

theorem op_pureDone (hE : EnvOk P E) (hm : methOk P E) (inv : Inv (szOf P) σ w h) (r : RelA (szOf P) σ T a.tmps) {o : Oper} (hc : clsOp E o.op = .pure ∨ clsOp E o.op = .read) (hv : opV E T h o.op = some (u, h')) : PureDone P σ h w (execOp a.eval o) u h' := by
  cases ho : o.op with
  | move x => exact op_move hE inv r (.inl ho) hv
  | assign x => exact op_move hE inv r (.inr ho) hv
  | pick => exact op_pick hE inv r ho hv
  | build => exact op_build hE inv r ho hv
  | load => exact op_load hE inv r ho hv
  | nilCheck => exact op_nilCheck hE inv r hm ho hv
  | binOp => exact op_binOp hE inv r ho hv
  | unOp => exact op_unOp hE inv r ho hv
  | makeInterface => exact op_makeInterface hE inv r ho hv
  | makeFunc => exact op_makeFunc hE inv r ho hv
  | slice => exact op_slice hE inv r ho hv
  | fieldAddr => exact op_fieldAddr hE inv r ho hv
  | field => exact op_field hE inv r ho hv
  | indexAddr => exact op_indexAddr hE inv r ho hv
  | index => exact op_index hE inv r ho hv
  | lookup => exact op_lookup hE inv r ho hv
  | entry => exact op_entry hE inv r ho hv
  | extract => exact op_extract hE inv r ho hv
  | convert s d x =>
    rcases op_convert hE inv r ho hv with hd | ⟨ob, e, hd⟩
    · exact hd
    · exfalso
      have : h' = h := by
        rcases hc with hc | hc
        · exact (opV_pure hc hv h).1
        · exact (opV_read hc hv (fun _ _ p _ => p)).1
      rw [this] at e
      have := congrArg List.length e
      simp at this
  | call c =>
    obtain ⟨f, args, ts⟩ := c
    cases f with
    | builtin b =>
      rw [ho] at hv hc
      simp only [opV] at hv
      split at hv
      · rename_i vs he
        cases b with
        | len => obtain ⟨x, rfl⟩ : ∃ x, vs = [x] := by
                  unfold builtinV at hv; split at hv <;> simp_all
                 exact op_len hE inv r ho he hv
        | cap => obtain ⟨x, rfl⟩ : ∃ x, vs = [x] := by
                  unfold builtinV at hv; split at hv <;> simp_all
                 exact op_cap hE inv r ho he hv
        | min => exact op_minmax (big := false) hE inv r ho he (by simpa [builtinV] using hv)
        | max => exact op_minmax (big := true) hE inv r ho he (by simpa [builtinV] using hv)
        | _ => simp [clsOp] at hc
      · cases hv
    | value f => rw [ho] at hv; simp [opV] at hv
    | invoke f n => rw [ho] at hv; simp [opV] at hv
  | makeMap t r => rw [ho] at hc; simp [clsOp] at hc
  | _ => rw [ho] at hc; simp [clsOp] at hc

theorem op_convert_alloc (hE : EnvOk P E) (r : RelA (szOf P) σ T a.tmps) {o : Oper} {s d : TypeId} {x : Operand} (ho : o.op = .convert s d x) (hc : clsOp E (.convert s d x) = .alloc) (hv : opV E T h o.op = some (u, h')) :
    ∃ ob, h' = h ++ [ob] ∧ AllocDone P σ h.length w (execOp a.eval o) u ob := by
  rw [ho] at hv
  simp only [opV] at hv
  split at hv
  · rename_i v he
    have rv := evalV_rel r he
    generalize hax : a.eval x = xv at rv
    unfold convV at hv
    split at hv
    · rename_i si di hsi hdi
      simp only [clsOp, hdi] at hc
      obtain ⟨sd, hsd⟩ := (hE.ti s si hsi).und
      have hdk := (hE.ti d di hdi).kind
      split at hc
      · cases hc
      · rename_i e' hk'
        simp only [hk'] at hv
        split at hv
        · rename_i e; cases e
        · rename_i e; cases e
        · rename_i e bs hk
          cases hk
          rw [hk'] at hdk
          split at hv
          · rename_i ie hie
            split at hv
            · rename_i hke
              have hiek := (hE.ti e' ie hie).kind
              rw [hke] at hiek
              cases rv with
              | str b =>
                split at hv
                · rename_i hone
                  cases hv
                  have hse : szOf P e' = 1 := by rw [← hone]; exact (hE.ti e' ie hie).size
                  have hrf := bytesOut_relF (s := b) (sz := szOf P) (σ := σ) (szOf P e') hse
                  have hl : (bytesOut (bytesOf b)).length = b.size := by simp [bytesOut, bytesOf_len]
                  have hcap : b.size ≤ b.size + w.tape w.drawn (.appendCap b.size 0 e') % (2 ^ 63 - b.size) := by omega
                  have mk := AllocDone.newList (s := execOp a.eval o) (k := h.length) (w := w) (σ := σ) (w0 := w.drew) rfl ⟨rfl, rfl, rfl⟩ (l := bytesOut (bytesOf b)) (ys := b.data.map fun (c : UInt8) => Value.int .u8 c.toNat) (rest := Array.replicate (b.size + w.tape w.drawn (.appendCap b.size 0 e') % (2 ^ 63 - b.size) - b.size) (Value.int .u8 0))
                    (cap := b.size + w.tape w.drawn (.appendCap b.size 0 e') % (2 ^ 63 - b.size)) e'
                    (((b.data.map fun (c : UInt8) => Value.int .u8 c.toNat) ++ Array.replicate (b.size + w.tape w.drawn (.appendCap b.size 0 e') % (2 ^ 63 - b.size) - b.size) (Value.int .u8 0)).size, ((b.data.map fun (c : UInt8) => Value.int .u8 c.toNat) ++ Array.replicate (b.size + w.tape w.drawn (.appendCap b.size 0 e') % (2 ^ 63 - b.size) - b.size) (Value.int .u8 0)).size + 1)
                    (fun i hi hc => by omega) (by omega) hrf (by rw [hl]; exact hcap) (by rw [hl, hse, Nat.mul_one]; simp)
                  rw [hl] at mk
                  have e2 : (bytesOf b).length = b.size := bytesOf_len b
                  rw [e2]
                  refine ⟨_, rfl, mk ?_⟩
                  have hr := run_stringToBytes P w e' b _ rfl _ rfl
                  have hx : (execOp a.eval o).run P w = ((Conv.stringToBytes e' b).run P w).andThen (fun v w' => .ok (.value v) w') := by
                    simp [execOp, ho, hax, convert, run_underlying hsd, run_underlying hdk, run_underlying hiek]
                  rw [hx, hr, Result.andThen_ok]
                · cases hv
            · cases hv
          · cases hv
        · contradiction
        · cases hv
      · cases hc
      · cases hc
    · cases hv
  · cases hv

theorem op_allocDone (hE : EnvOk P E) (r : RelA (szOf P) σ T a.tmps) {o : Oper} (hc : clsOp E o.op = .alloc) (hv : opV E T h o.op = some (u, h')) : ∃ ob, h' = h ++ [ob] ∧ AllocDone P σ h.length w (execOp a.eval o) u ob := by
  cases ho : o.op with
  | alloc => exact op_alloc hE r ho hv
  | box => exact op_box hE r ho hv
  | buildSlice => exact op_buildSlice hE r ho hv
  | makeMap => exact op_makeMap hE r ho hv
  | makeSlice => exact op_makeSlice hE r ho hv
  | convert s d x => exact op_convert_alloc hE r ho (by rw [ho] at hc; exact hc) hv
  | call c =>
    obtain ⟨f, args, ts⟩ := c
    rw [ho] at hc
    cases f with
    | builtin b => cases b <;> simp [clsOp] at hc
    | value f => simp [clsOp] at hc
    | invoke f n => simp [clsOp] at hc
  | _ => rw [ho] at hc; simp [clsOp] at hc

end Go.AM

/- AM: regions that draw: plans, schedules, runs. -/
namespace Go.AM
variable {P : Program} {E : Env} {σ : Gh} {w : World} {h h' : Heap} {T T' : List V} {a : Act} {u : V}

/-! ### schedules -/

theorem binds_of_any {md : Region.Mode} {e : Edge} (h : Region.binds .any e = true) : Region.binds md e = true := by
  unfold Region.binds at *
  split at h <;> first | rfl | (simp at h)

/-- each entry is ready when it comes -/
inductive Sched (md : Region.Mode) (ops : Array Oper) : Array Bool → List Nat → Prop
  | nil (ls : Array Bool) : Region.ready md ops ls = [] → Sched md ops ls []
  | cons (ls : Array Bool) (i : Nat) (l : List Nat) : i ∈ Region.ready md ops ls → Sched md ops (ls.setIfInBounds i true) l → Sched md ops ls (i :: l)

/-- how many are not listed yet -/
def unl (ls : Array Bool) : Nat → Nat
  | 0 => 0
  | n + 1 => unl ls n + if ls.getD n true then 0 else 1

theorem getD_set_same {ls : Array Bool} {i : Nat} (d : Bool) (h : i < ls.size) : (ls.setIfInBounds i true).getD i d = true := by
  simp [Array.getD, h]

theorem getD_any {ls : Array Bool} {i : Nat} (d d' : Bool) (h : i < ls.size) : ls.getD i d = ls.getD i d' := by
  simp [Array.getD, h]

theorem unl_set_ge {ls : Array Bool} {i : Nat} : ∀ n, n ≤ i → unl (ls.setIfInBounds i true) n = unl ls n
  | 0, _ => rfl
  | n + 1, h => by
    simp only [unl]
    rw [unl_set_ge n (by omega), getD_set_ne true (by omega)]

theorem unl_set {ls : Array Bool} {i : Nat} (hs : i < ls.size) (hu : ls.getD i true = false) : ∀ n, i < n → unl (ls.setIfInBounds i true) n + 1 = unl ls n
  | 0, h => by omega
  | n + 1, h => by
    simp only [unl]
    by_cases e : n = i
    · subst e
      rw [unl_set_ge n (Nat.le_refl _), getD_set_same true hs, hu]
      simp
    · have := unl_set hs hu n (by omega)
      rw [getD_set_ne true (by omega)]
      omega

theorem unl_pos {ls : Array Bool} {i : Nat} (hu : ls.getD i true = false) : ∀ n, i < n → 0 < unl ls n
  | 0, h => by omega
  | n + 1, h => by
    simp only [unl]
    by_cases e : n = i
    · subst e; rw [hu]; simp
    · have := unl_pos hu n (by omega); omega

theorem sched_go {md : Region.Mode} {ops : Array Oper} : ∀ (fuel t : Nat) (ls : Array Bool), ls.size = ops.size → unl ls ops.size ≤ fuel → Sched md ops ls (Region.linearise.go md ops fuel t ls []) := by
  intro fuel
  induction fuel with
  | zero =>
    intro t ls hs hu
    simp only [Region.linearise.go, List.reverse_nil]
    refine .nil _ ?_
    rw [List.eq_nil_iff_forall_not_mem]
    intro i hi
    obtain ⟨h2, o, ho, _⟩ := mem_ready.1 hi
    have h1 := (Array.getElem?_eq_some_iff.1 ho).1
    have := unl_pos h2 ops.size h1
    omega
  | succ fuel ih =>
    intro t ls hs hu
    simp only [Region.linearise.go]
    change Sched md ops ls (match (Region.ready md ops ls)[t % (Region.ready md ops ls).length]? with
      | some i => Region.linearise.go md ops fuel (t / (Region.ready md ops ls).length) (ls.setIfInBounds i true) [i]
      | none => [].reverse)
    cases hi : (Region.ready md ops ls)[t % (Region.ready md ops ls).length]? with
    | none =>
      have hnil : Region.ready md ops ls = [] := by
        cases hr : Region.ready md ops ls with
        | nil => rfl
        | cons x xs =>
          rw [hr] at hi
          have hlt : t % (x :: xs).length < (x :: xs).length := Nat.mod_lt _ (by simp)
          simp at hi
          simp at hlt
          omega
      exact .nil _ hnil
    | some i =>
      simp only []
      rw [linearise_go_acc, List.reverse_singleton, List.singleton_append]
      have hm := List.mem_of_getElem? hi
      obtain ⟨h2, o, ho, _⟩ := mem_ready.1 hm
      have h1 := (Array.getElem?_eq_some_iff.1 ho).1
      have := unl_set (by rw [hs]; exact h1) h2 ops.size h1
      exact .cons _ _ _ hm (ih _ _ (by simpa using hs) (by omega))

theorem unl_le (ls : Array Bool) : ∀ n, unl ls n ≤ n
  | 0 => Nat.le_refl _
  | n + 1 => by simp only [unl]; have := unl_le ls n; split <;> omega

theorem schedule_sched (mixed : Bool) (ops : Array Oper) (t : Nat) : ∃ md, Sched md ops (Array.replicate ops.size false) (Region.schedule mixed ops t) ∧ (md = .any ∨ Region.departs ops = true) := by
  unfold Region.schedule
  split
  · exact ⟨.any, sched_go _ _ _ (by simp) (unl_le _ _), .inl rfl⟩
  · rename_i hd
    refine ⟨_, sched_go _ _ _ (by simp) (unl_le _ _), .inr ?_⟩
    simp at hd
    exact hd.2

/-! ### plans -/

def clAt (E : Env) (ops : Array Oper) (i : Nat) : Cls := ((ops[i]?).map fun o => clsOp E o.op).getD .pure
def dstAt (ops : Array Oper) (i : Nat) : Option Tmp := (ops[i]?).bind (·.dst)
def looksOf (ops : Array Oper) (i : Nat) : List Tmp := ((ops[i]?).map fun o => o.looksAt ops).getD []
def afterOf (ops : Array Oper) (i : Nat) : List Edge := ((ops[i]?).map fun o => o.after.toList).getD []

/-- A plan fits a region. pos: the place in the plan; anc: what surely comes first; rank: an order for each mode. -/
structure PlanOk (E : Env) (ops : Array Oper) (p : Plan) (pos : Nat → Nat) (anc : Nat → Nat → Prop) (rank : Region.Mode → Nat → Nat) : Prop where
  len : p.order.length = ops.size
  at' : ∀ i, i < ops.size → p.order[pos i]? = some i
  ord : ∀ q i, p.order[q]? = some i → i < ops.size ∧ pos i = q
  ancs : ∀ i j, i < ops.size → anc i j → ∃ e ∈ afterOf ops i, Region.binds .any e = true ∧ (e.on = j ∨ anc e.on j)
  edge : ∀ md, md = .any ∨ Region.departs ops = true → ∀ i e, i < ops.size → e ∈ afterOf ops i → Region.binds md e = true → e.on < ops.size ∧ rank md e.on < rank md i
  epos : ∀ i e, i < ops.size → e ∈ afterOf ops i → Region.binds .any e = true → e.on < ops.size ∧ pos e.on < pos i
  dst : ∀ i j d, i < ops.size → j < ops.size → dstAt ops i = some d → dstAt ops j = some d → i = j
  looks : ∀ i j t, i < ops.size → j < ops.size → t ∈ looksOf ops i → dstAt ops j = some t → anc i j ∨ i = j ∨ anc j i
  eff : ∀ i j, i < ops.size → j < ops.size → clAt E ops i = .eff → clAt E ops j = .eff ∨ clAt E ops j = .alloc → pos j < pos i → anc i j
  alc : ∀ i j k, i < ops.size → j < ops.size → k < ops.size → clAt E ops j = .alloc → clAt E ops k = .eff → anc i j → pos k < pos j → anc i k
  own : ∀ i j, i < ops.size → j < ops.size → clAt E ops i = .read → clAt E ops j = .alloc → pos j < pos i → (∀ k, k < ops.size → clAt E ops k = .eff → pos j < pos k → pos k < pos i → False) → anc i j
  win : ∀ i q, i < ops.size → clAt E ops i = .read → q = 0 ∨ (∃ k, k < ops.size ∧ clAt E ops k = .eff ∧ pos k + 1 = q) →
    (q ≤ pos i ∧ (∀ k, k < ops.size → clAt E ops k = .eff → q ≤ pos k → pos k < pos i → False)) ∨ (∃ k, k < ops.size ∧ clAt E ops k = .eff ∧ pos k < q ∧ anc k i) ∨ (∃ k, k < ops.size ∧ clAt E ops k = .eff ∧ q ≤ pos k ∧ anc i k) ∨ ((i, q) ∈ p.wins ∧ ∀ j t, j < ops.size → t ∈ looksOf ops i → dstAt ops j = some t → anc i j)

theorem PlanOk.anc_pos {ops : Array Oper} {p : Plan} {pos : Nat → Nat} {anc : Nat → Nat → Prop} {rank : Region.Mode → Nat → Nat} (ok : PlanOk E ops p pos anc rank) : ∀ (m i j : Nat), pos i < m → i < ops.size → anc i j → pos j < pos i ∧ j < ops.size
  | 0, i, j, h, _, _ => by omega
  | m + 1, i, j, h, hi, ha => by
    obtain ⟨e, h1, h2, h3⟩ := ok.ancs i j hi ha
    obtain ⟨q1, q2⟩ := ok.epos i e hi h1 h2
    rcases h3 with rfl | h3
    · exact ⟨q2, q1⟩
    · obtain ⟨r1, r2⟩ := ok.anc_pos m e.on j (by omega) q1 h3
      exact ⟨by omega, r2⟩

/-! ### the plan's run -/

theorem stepV_put {R : Rec} {ops : List Oper} {s s1 : St} {o : Oper} (hs : stepV E R ops s o = some s1) : ∃ u, s1.T = putV s.T o.dst u := by
  unfold stepV at hs
  split at hs
  · split at hs
    · split at hs
      · split at hs
        · cases hs; exact ⟨_, rfl⟩
        · cases hs
      · cases hs
    · split at hs
      · cases hs; exact ⟨_, rfl⟩
      · cases hs
  · cases hs; exact ⟨_, rfl⟩

theorem putV_length (T : List V) (d : Option Tmp) (v : V) : (putV T d v).length = T.length := by
  cases d <;> simp [putV, setT_eq]

theorem putV_ne {T : List V} {d : Option Tmp} {v : V} {t : Nat} (h : d ≠ some t) : (putV T d v)[t]? = T[t]? := by
  cases d with
  | none => rfl
  | some d =>
    have : d ≠ t := fun e => h (by rw [e])
    simp [putV, setT_eq, List.getElem?_set_ne this]

theorem putV_at {T : List V} {d : Nat} {v u : V} (h : (putV T (some d) v)[d]? = some u) : u = v := by
  simp only [putV, setT_eq] at h
  rw [List.getElem?_set_self'] at h
  cases hT : T[d]? with
  | none => rw [hT] at h; cases h
  | some x => rw [hT] at h; cases h; rfl

theorem runPlan_trace {R : Rec} {ops : List Oper} : ∀ (l : List Nat) (s : St) (hs : List Heap) (s' : St) (hs' : List Heap), runPlan E R ops l s hs = some (s', hs') →
    ∃ st : Nat → St, st 0 = s ∧ st l.length = s' ∧ (∀ p i, l[p]? = some i → ∃ o, ops[i]? = some o ∧ stepV E R ops (st p) o = some (st (p + 1))) ∧ hs' = ((List.range l.length).map fun p => (st (p + 1)).h).reverse ++ hs
  | [], s, hs, s', hs', hr => by
    simp only [runPlan] at hr
    cases hr
    exact ⟨fun _ => s, rfl, rfl, fun p i hp => by simp at hp, by simp⟩
  | n :: l, s, hs, s', hs', hr => by
    simp only [runPlan] at hr
    split at hr
    · rename_i o ho
      split at hr
      · rename_i s1 h1
        obtain ⟨st, e1, e2, e3, e4⟩ := runPlan_trace l s1 (s1.h :: hs) s' hs' hr
        refine ⟨fun p => match p with | 0 => s | p + 1 => st p, rfl, e2, fun p i hp => ?_, ?_⟩
        · cases p with
          | zero => simp at hp; subst hp; exact ⟨o, ho, by show stepV E R ops s o = some (st 0); rw [e1]; exact h1⟩
          | succ p => exact e3 p i (by simpa using hp)
        · rw [e4]
          simp only [List.length_cons, List.range_succ_eq_map, List.map_cons, List.reverse_cons, List.append_assoc, List.singleton_append, List.map_map]
          rw [e1]
          rfl
      · cases hr
    · cases hr

mutual
theorem V.same_eq : ∀ (u v : V), V.same u v = true → u = v
  | .bool a, v, h => by cases v <;> simp_all [V.same]
  | .int k a, v, h => by cases v <;> simp_all [V.same]
  | .str a, v, h => by cases v <;> simp_all [V.same]
  | .nilptr, v, h => by cases v <;> simp_all [V.same]
  | .ptr g o, v, h => by cases v <;> simp_all [V.same]
  | .el c o, v, h => by
    cases v <;> simp only [V.same, Bool.and_eq_true, beq_iff_eq] at h <;> first | (cases h; done) | (rw [V.sameL_eq _ _ h.1, h.2])
  | .lst _ _ _ _ _, v, h => by cases v <;> simp_all [V.same]
  | .slice k T l, v, h => by
    cases v <;> simp only [V.same, Bool.and_eq_true, beq_iff_eq] at h <;> first | (cases h; done) | (rw [h.1.1, h.1.2, V.sameL_eq _ _ h.2])
  | .mslice _ _ _ _ _ _, v, h => by cases v <;> simp_all [V.same]
  | .cslice _ _ _ _ _, v, h => by cases v <;> simp_all [V.same]
  | .map a, v, h => by cases v <;> simp_all [V.same]
  | .func f a b, v, h => by
    cases v <;> simp only [V.same, Bool.and_eq_true, beq_iff_eq] at h <;> first | (cases h; done) | (rw [h.1.1, V.sameL_eq _ _ h.1.2, V.sameL_eq _ _ h.2])
  | .yield g, v, h => by cases v <;> simp_all [V.same]
  | .nilFunc, v, h => by cases v <;> simp_all [V.same]
  | .iface t x, v, h => by
    cases v <;> simp only [V.same, Bool.and_eq_true, beq_iff_eq] at h <;> first | (cases h; done) | (rw [h.1, V.same_eq _ _ h.2])
  | .nilIface, v, h => by cases v <;> simp_all [V.same]
  | .agg c, v, h => by
    cases v <;> simp only [V.same] at h <;> first | (cases h; done) | (rw [V.sameL_eq _ _ h])
  | .tuple c, v, h => by
    cases v <;> simp only [V.same] at h <;> first | (cases h; done) | (rw [V.sameL_eq _ _ h])
theorem V.sameL_eq : ∀ (u v : List V), V.sameL u v = true → u = v
  | [], [], _ => rfl
  | [], _ :: _, h => by simp [V.sameL] at h
  | _ :: _, [], h => by simp [V.sameL] at h
  | x :: l, y :: m, h => by
    simp only [V.sameL, Bool.and_eq_true] at h
    rw [V.same_eq x y h.1, V.sameL_eq l m h.2]
end

theorem looksV_mem {T : List V} {hs : List Heap} {ops : List Oper} : ∀ {l : List (Nat × Nat)} {n p : Nat}, looksV E T hs ops l = true → (n, p) ∈ l → ∃ o hp, ops[n]? = some o ∧ hs[p]? = some hp ∧
    (wantedV ops T o = true → ∃ v h1, opV E T hp o.op = some (v, h1) ∧ ∀ d x, o.dst = some d → T[d]? = some x → v = x)
  | [], _, _, _, hm => by cases hm
  | (n', p') :: l, n, p, hl, hm => by
    simp only [looksV, Bool.and_eq_true] at hl
    rcases List.mem_cons.1 hm with e | hm
    · cases e
      have h1 := hl.1
      split at h1
      · rename_i o hp ho hh
        refine ⟨o, hp, ho, hh, fun hw => ?_⟩
        rw [if_pos hw] at h1
        split at h1
        · rename_i v h2 hv
          refine ⟨v, h2, hv, fun d x hd hx => ?_⟩
          rw [hd] at h1
          simp only [hx] at h1
          exact V.same_eq _ _ h1
        · cases h1
      · cases h1
    · exact looksV_mem hl.2 hm

theorem opV_alloc {op : Op} (hc : clsOp E op = .alloc) (hv : opV E T h op = some (u, h')) : ∃ ob, h' = h ++ [ob] := by
  cases op with
  | alloc t =>
    simp only [opV] at hv
    split at hv
    · split at hv
      · cases hv; exact ⟨_, rfl⟩
      · cases hv
    · cases hv
  | box t x =>
    simp only [opV] at hv
    split at hv
    · split at hv
      · cases hv; exact ⟨_, rfl⟩
      · cases hv
    · cases hv
  | buildSlice t n ps =>
    simp only [opV] at hv
    split at hv
    · split at hv
      · split at hv
        · split at hv
          · simp only [Option.map_eq_some_iff, Prod.mk.injEq] at hv
            obtain ⟨l, _, _, rfl⟩ := hv
            exact ⟨_, rfl⟩
          · cases hv
        · cases hv
      · cases hv
    · cases hv
  | makeMap t r =>
    cases r with
    | none => simp only [opV] at hv; cases hv; exact ⟨_, rfl⟩
    | some r =>
      simp only [opV] at hv
      split at hv
      · split at hv
        · cases hv; exact ⟨_, rfl⟩
        · cases hv
      · cases hv
  | makeSlice t x y =>
    simp only [opV] at hv
    split at hv
    · split at hv
      · split at hv
        · split at hv
          · cases hv; exact ⟨_, rfl⟩
          · cases hv
        · cases hv
      · cases hv
    · cases hv
  | convert s d x =>
    simp only [clsOp] at hc
    split at hc
    · rename_i i hi
      split at hc
      · cases hc
      · rename_i e hk
        simp only [opV] at hv
        split at hv
        · unfold convV at hv
          rw [hi] at hv
          split at hv
          · rename_i si di hs hd
            cases hd
            simp only [hk] at hv
            split at hv
            · contradiction
            · contradiction
            · split at hv
              · split at hv
                · split at hv
                  · cases hv; exact ⟨_, rfl⟩
                  · cases hv
                · cases hv
              · cases hv
            · contradiction
            · cases hv
          · cases hv
        · cases hv
      · cases hc
      · cases hc
    · cases hc
  | call c =>
    obtain ⟨f, args, ts⟩ := c
    cases f with
    | builtin b => cases b <;> simp [clsOp] at hc
    | value f => simp [clsOp] at hc
    | invoke f n => simp [clsOp] at hc
  | _ => simp [clsOp] at hc

end Go.AM

/- AM: regions that draw: what a state of the model says in the midst of one. -/
namespace Go.AM
variable {P : Program} {E : Env} {w : World} {a : Act}

/-! ### mixed rows -/
section
open Classical

noncomputable def mixL (D : Nat → Prop) (x y : List V) : List V := (List.range x.length).map fun t => if D t then y.getD t undefV else x.getD t undefV
noncomputable def mixA (D : Nat → Prop) (x y : Array Value) : Array Value := ((List.range x.size).map fun t => if D t then y.getD t undef else x.getD t undef).toArray

theorem mixL_pos {D : Nat → Prop} {x y : List V} (hl : y.length = x.length) {t : Nat} (h : D t) : (mixL D x y)[t]? = y[t]? := by
  simp only [mixL, List.getElem?_map, List.getElem?_range']
  rcases Nat.lt_or_ge t x.length with h' | h'
  · rw [List.getElem?_range h', Option.map_some, if_pos h, List.getD_eq_getElem?_getD, List.getElem?_eq_getElem (by omega)]; rfl
  · rw [List.getElem?_eq_none (by simpa using h'), List.getElem?_eq_none (by omega)]; rfl

theorem mixL_neg {D : Nat → Prop} {x y : List V} {t : Nat} (h : ¬ D t) : (mixL D x y)[t]? = x[t]? := by
  simp only [mixL, List.getElem?_map]
  rcases Nat.lt_or_ge t x.length with h' | h'
  · rw [List.getElem?_range h', Option.map_some, if_neg h, List.getD_eq_getElem?_getD, List.getElem?_eq_getElem (by omega)]; rfl
  · rw [List.getElem?_eq_none (by simpa using h'), List.getElem?_eq_none (by omega)]; rfl

theorem mixL_length (D : Nat → Prop) (x y : List V) : (mixL D x y).length = x.length := by simp [mixL]

theorem mixA_pos {D : Nat → Prop} {x y : Array Value} (hl : y.size = x.size) {t : Nat} (h : D t) : (mixA D x y)[t]? = y[t]? := by
  simp only [mixA, List.getElem?_toArray, List.getElem?_map]
  rcases Nat.lt_or_ge t x.size with h' | h'
  · rw [List.getElem?_range h', Option.map_some, if_pos h, Array.getElem?_eq_getElem (by omega)]; simp [Array.getD, show t < y.size by omega]
  · rw [List.getElem?_eq_none (by simpa using h'), Array.getElem?_eq_none (by omega)]; rfl

theorem mixA_neg {D : Nat → Prop} {x y : Array Value} {t : Nat} (h : ¬ D t) : (mixA D x y)[t]? = x[t]? := by
  simp only [mixA, List.getElem?_toArray, List.getElem?_map]
  rcases Nat.lt_or_ge t x.size with h' | h'
  · rw [List.getElem?_range h', Option.map_some, if_neg h, Array.getElem?_eq_getElem h']; simp [Array.getD, h']
  · rw [List.getElem?_eq_none (by simpa using h'), Array.getElem?_eq_none h']; rfl

theorem mixA_size (D : Nat → Prop) (x y : Array Value) : (mixA D x y).size = x.size := by simp [mixA]

/-! ### heaps without some objects -/

noncomputable def killH (D : Nat → Prop) (h : Heap) : Heap := h.mapIdx fun g o => if D g then .dead else o

theorem killH_get (D : Nat → Prop) (h : Heap) (g : Nat) : (killH D h)[g]? = (h[g]?).map fun o => if D g then .dead else o := by simp [killH]

theorem killH_length (D : Nat → Prop) (h : Heap) : (killH D h).length = h.length := by simp [killH]

theorem killH_none {D : Nat → Prop} {h : Heap} (hD : ∀ g, g < h.length → ¬ D g) : killH D h = h := by
  apply List.ext_getElem?
  intro g
  rw [killH_get]
  cases hg : h[g]? with
  | none => rfl
  | some o => simp [hD g (list_lt hg)]

theorem killH_alive {D : Nat → Prop} {h : Heap} {g : Nat} : alive (killH D h) g ↔ ¬ D g ∧ alive h g := by
  unfold alive
  rw [killH_get]
  constructor
  · rintro ⟨o, ho, hd⟩
    cases hg : h[g]? with
    | none => rw [hg] at ho; cases ho
    | some o' =>
      rw [hg] at ho
      simp only [Option.map_some, Option.some.injEq] at ho
      by_cases hD : D g
      · rw [if_pos hD] at ho; exact (hd ho.symm).elim
      · rw [if_neg hD] at ho; exact ⟨hD, o', rfl, fun e => hd (ho.symm.trans e)⟩
  · rintro ⟨hD, o, ho, hd⟩
    exact ⟨o, by rw [ho, Option.map_some, if_neg hD], hd⟩

theorem killH_set {D D' : Nat → Prop} {h : Heap} {g : Nat} {ob : Ob} (hg : h[g]? = some ob) (hD : D g) (hD' : ∀ x, D' x ↔ D x ∧ x ≠ g) : killH D' h = (killH D h).set g ob := by
  apply List.ext_getElem?
  intro x
  rw [killH_get, List.getElem?_set]
  by_cases e : g = x
  · subst e
    have hn : ¬ D' g := fun hx => ((hD' g).1 hx).2 rfl
    have := list_lt hg
    rw [hg, Option.map_some, if_neg hn, if_pos rfl, if_pos (by rw [killH_length]; exact this)]
  · rw [if_neg e, killH_get]
    have : D' x ↔ D x := ⟨fun hx => ((hD' x).1 hx).1, fun hx => (hD' x).2 ⟨hx, fun e' => e e'.symm⟩⟩
    simp only [this]

end

/-- ghosts that differ in nothing but where some objects lie -/
structure Choice (D : Nat → Prop) (σ σ' : Gh) : Prop where
  n : σ'.n = σ.n
  ver : σ'.ver = σ.ver
  F : σ'.F = σ.F
  good : σ'.good = σ.good
  oth : ∀ g, ¬ D g → σ'.phi g = σ.phi g ∧ σ'.base g = σ.base g ∧ σ'.cap g = σ.cap g

theorem Choice.refl (D : Nat → Prop) (σ : Gh) : Choice D σ σ := ⟨rfl, rfl, rfl, rfl, fun _ _ => ⟨rfl, rfl, rfl⟩⟩

theorem Choice.trans {D D' : Nat → Prop} {a b c : Gh} (p : Choice D a b) (q : Choice D' b c) (h : ∀ g, D' g → D g) : Choice D a c :=
  ⟨q.n.trans p.n, q.ver.trans p.ver, q.F.trans p.F, q.good.trans p.good, fun g hg => by
    obtain ⟨a1, a2, a3⟩ := p.oth g hg
    obtain ⟨b1, b2, b3⟩ := q.oth g (fun hd => hg (h g hd))
    exact ⟨b1.trans a1, b2.trans a2, b3.trans a3⟩⟩

/-- an object that lay in the model already is known from now on -/
theorem Post.adopt {sz : TypeId → Nat} {σ0 τ : Gh} {h0 H : Heap} {w0 : World} (p : Post sz σ0 h0 w0 τ H w) {g : Nat} {ob : Ob} (hg : H[g]? = some .dead) (hF : τ.F (τ.phi g) = none) (hlt : τ.phi g < w.heap.size)
    (hnew : w0.heap.size ≤ τ.phi g) (hno : ∀ x, alive H x → τ.phi x ≠ τ.phi g) (hob : RelOb sz τ w g ob) : Post sz σ0 h0 w0 τ (H.set g ob) w := by
  have hgl := list_lt hg
  have al : ∀ x, alive (H.set g ob) x → x = g ∨ (x ≠ g ∧ alive H x) := fun x ⟨o, ho, hd⟩ => by
    by_cases e : g = x
    · exact .inl e.symm
    · rw [List.getElem?_set_ne e] at ho
      exact .inr ⟨fun e' => e e'.symm, o, ho, hd⟩
  refine ⟨p.le, ⟨by rw [List.length_set]; exact p.inv.len, fun x o hx => ?_, p.inv.fro, fun x ax => ?_, fun x y ax ay e => ?_⟩, ⟨p.wst.size, p.wst.keep, fun b hb ⟨x, ax, ex⟩ => ?_, p.wst.fro, p.wst.os⟩⟩
  · by_cases e : g = x
    · subst e
      rw [List.getElem?_set_self hgl] at hx
      cases hx; exact hob
    · rw [List.getElem?_set_ne e] at hx
      exact p.inv.ob x o hx
  · rcases al x ax with rfl | ⟨_, ax⟩
    · exact ⟨hF, hlt⟩
    · exact p.inv.live x ax
  · rcases al x ax with hx | ⟨hx, ax'⟩
    · rcases al y ay with hy | ⟨hy, ay'⟩
      · rw [hx, hy]
      · exact (hno y ay' (by rw [← e, hx])).elim
    · rcases al y ay with hy | ⟨hy, ay'⟩
      · exact (hno x ax' (by rw [e, hy])).elim
      · exact p.inv.inj x y ax' ay' e
  · rcases al x ax with rfl | ⟨_, ax⟩
    · omega
    · exact p.wst.own b hb ⟨x, ax, ex⟩

/-- slots for objects to come -/
theorem Post.slots {sz : TypeId → Nat} {σ0 τ τ' : Gh} {h0 H H' : Heap} {w0 : World} (p : Post sz σ0 h0 w0 τ H w) (le : Le τ τ') (hv : ∀ g, g < τ.n → τ'.ver g = τ.ver g) (hF : τ'.F = τ.F) (hlen : H'.length = τ'.n)
    (hold : ∀ g, g < H.length → H'[g]? = H[g]?) (hnew : ∀ g o, H.length ≤ g → H'[g]? = some o → o = .dead) : Post sz σ0 h0 w0 τ' H' w := by
  have hn := p.inv.len
  have al : ∀ x, alive H' x → x < τ.n ∧ alive H x := fun x ⟨o, ho, hd⟩ => by
    rcases Nat.lt_or_ge x H.length with h | h
    · exact ⟨by omega, o, by rw [← hold x h]; exact ho, hd⟩
    · exact (hd (hnew x o h ho)).elim
  have hphi : ∀ x, x < τ.n → τ'.phi x = τ.phi x := fun x hx => ((le.ver x hx).2.2 (hv x hx)).1
  refine ⟨p.le.trans le, ⟨hlen, fun g o hg => ?_, fun b arr hb => p.inv.fro b arr (hF ▸ hb), fun g ag => ?_, fun x y ax ay e => ?_⟩, ⟨p.wst.size, p.wst.keep, fun b hb ⟨x, ax, ex⟩ => ?_, fun b arr hb hf => p.wst.fro b arr hb (hF ▸ hf), p.wst.os⟩⟩
  · rcases Nat.lt_or_ge g H.length with h | h
    · rw [hold g h] at hg
      exact RelOb.mono le (by omega) (hv g (by omega)) (fun _ => rfl) (p.inv.ob g o hg)
    · rw [hnew g o h hg]; trivial
  · obtain ⟨q1, q2⟩ := al g ag
    rw [hphi g q1, hF]
    exact p.inv.live g q2
  · obtain ⟨q1, q2⟩ := al x ax
    obtain ⟨q3, q4⟩ := al y ay
    rw [hphi x q1, hphi y q3] at e
    exact p.inv.inj x y q2 q4 e
  · obtain ⟨q1, q2⟩ := al x ax
    exact p.wst.own b hb ⟨x, q2, (hphi x q1).symm.trans ex⟩

theorem act_put_ne {a : Act} {d : Option Tmp} {v : Value} {t : Nat} (h : d ≠ some t) : (a.put d v).tmps[t]? = a.tmps[t]? := by
  cases d with
  | none => rfl
  | some d =>
    have : d ≠ t := fun e => h (by rw [e])
    simp [Act.put, Array.getElem?_setIfInBounds_ne this]

theorem act_put_at {a : Act} {d : Nat} {v v' : Value} (h : (a.put (some d) v).tmps[d]? = some v') : v' = v := by
  simp only [Act.put] at h
  rw [Array.getElem?_setIfInBounds] at h
  simp only [if_true] at h
  split at h
  · cases h; rfl
  · cases h

theorem act_put_size (a : Act) (d : Option Tmp) (v : Value) : (a.put d v).tmps.size = a.tmps.size := by
  cases d <;> simp [Act.put]

theorem act_put_defers (a : Act) (d : Option Tmp) (v : Value) : (a.put d v).defers = a.defers := by
  cases d <;> rfl

/-! ### a run of a plan -/

/-- the plan's run, and the region's begin in the model -/
structure Run (P : Program) (E : Env) (R : Rec) (ops : Array Oper) (p : Plan) (pos : Nat → Nat) (anc : Nat → Nat → Prop) (rank : Region.Mode → Nat → Nat) (st : Nat → St) (σ0 : Gh) (w0 : World) (a0 : Act) : Prop where
  ok : PlanOk E ops p pos anc rank
  step : ∀ q i, p.order[q]? = some i → ∃ o, ops[i]? = some o ∧ stepV E R ops.toList (st q) o = some (st (q + 1))
  look : ∀ i q, (i, q) ∈ p.wins → ∃ o hp, ops[i]? = some o ∧ (q ≤ ops.size → hp = (st q).h) ∧
    (wantedV ops.toList (st ops.size).T o = true → ∃ v h1, opV E (st ops.size).T hp o.op = some (v, h1) ∧ ∀ d x, o.dst = some d → (st ops.size).T[d]? = some x → v = x)
  inv : Inv (szOf P) σ0 w0 (st 0).h
  rel : RelA (szOf P) σ0 (st 0).T a0.tmps

section
variable {R : Rec} {ops : Array Oper} {p : Plan} {pos : Nat → Nat} {anc : Nat → Nat → Prop} {rank : Region.Mode → Nat → Nat} {st : Nat → St} {σ0 : Gh} {w0 : World} {a0 : Act}
variable (hr : Run P E R ops p pos anc rank st σ0 w0 a0)
include hr

theorem Run.at_lt {i q : Nat} (h : p.order[q]? = some i) : q < ops.size ∧ i < ops.size ∧ pos i = q := by
  obtain ⟨h1, h2⟩ := hr.ok.ord q i h
  exact ⟨by rw [← hr.ok.len]; exact list_lt h, h1, h2⟩

theorem Run.dst_of {i : Nat} {o : Oper} (ho : ops[i]? = some o) : dstAt ops i = o.dst := by
  have _ := hr
  simp [dstAt, ho]
theorem Run.cl_of {i : Nat} {o : Oper} (ho : ops[i]? = some o) : clAt E ops i = clsOp E o.op := by
  have _ := hr
  simp [clAt, ho]
theorem Run.looks_of {i : Nat} {o : Oper} (ho : ops[i]? = some o) : looksOf ops i = o.looksAt ops := by
  have _ := hr
  simp [looksOf, ho]

theorem Run.tlen : ∀ q, q ≤ ops.size → (st q).T.length = (st 0).T.length
  | 0, _ => rfl
  | q + 1, h => by
    have hq : p.order[q]? = some (p.order[q]'(by rw [hr.ok.len]; omega)) := List.getElem?_eq_getElem _
    obtain ⟨o, ho, hs⟩ := hr.step q _ hq
    obtain ⟨u, hu⟩ := stepV_put hs
    rw [hu, putV_length]
    exact Run.tlen q (by omega)

/-- a row's cell that is no operation's of these -/
theorem Run.tsame (t : Nat) {q : Nat} : ∀ m, q + m ≤ ops.size → (∀ x i, q ≤ x → x < q + m → p.order[x]? = some i → dstAt ops i ≠ some t) → (st (q + m)).T[t]? = (st q).T[t]?
  | 0, _, _ => rfl
  | m + 1, h, hd => by
    have hq : p.order[q + m]? = some (p.order[q + m]'(by rw [hr.ok.len]; omega)) := List.getElem?_eq_getElem _
    obtain ⟨o, ho, hs⟩ := hr.step (q + m) _ hq
    obtain ⟨u, hu⟩ := stepV_put hs
    have hne := hd (q + m) _ (by omega) (by omega) hq
    rw [hr.dst_of ho] at hne
    rw [show q + (m + 1) = q + m + 1 from rfl, hu, putV_ne hne]
    exact Run.tsame t m (by omega) fun x i h1 h2 h3 => hd x i h1 (by omega) h3

theorem Run.tdone {i : Nat} {t q : Nat} (hi : i < ops.size) (hd : dstAt ops i = some t) (hq : pos i < q) (hn : q ≤ ops.size) : (st q).T[t]? = (st ops.size).T[t]? := by
  have := Run.tsame hr t (q := q) (ops.size - q) (by omega) (fun x j h1 h2 h3 hj => by
    obtain ⟨_, p2, p3⟩ := hr.at_lt h3
    have := hr.ok.dst i j t hi p2 hd hj
    subst this
    omega)
  rw [show q + (ops.size - q) = ops.size by omega] at this
  exact this.symm

theorem Run.tinit {t q : Nat} (hn : q ≤ ops.size) (h : ∀ i, i < ops.size → pos i < q → dstAt ops i ≠ some t) : (st q).T[t]? = (st 0).T[t]? := by
  have := Run.tsame hr t (q := 0) q (by omega) (fun x j h1 h2 h3 => by
    obtain ⟨_, p2, p3⟩ := hr.at_lt h3
    exact h j p2 (by omega))
  simpa using this

/-- at this place of the plan an object is made -/
def Sl (E : Env) (ops : Array Oper) (p : Plan) (st : Nat → St) (q : Nat) (ob : Ob) : Prop := ∃ i, p.order[q]? = some i ∧ clAt E ops i = .alloc ∧ (st (q + 1)).h = (st q).h ++ [ob]

theorem Run.grow {q i : Nat} (h : p.order[q]? = some i) (hc : clAt E ops i ≠ .eff) : (st (q + 1)).h = (st q).h ∨ ∃ ob, Sl E ops p st q ob := by
  obtain ⟨o, ho, hs⟩ := hr.step q i h
  have hcl := hr.cl_of ho
  rw [hcl] at hc
  unfold stepV at hs
  split at hs
  · split at hs
    · rename_i hcall
      exfalso
      revert hc hcall
      cases o.op with
      | call c => obtain ⟨f, args, ts⟩ := c; cases f <;> simp [isCall, clsOp]
      | _ => simp [isCall]
    · split at hs
      · rename_i u h1 hop
        simp only [Option.some.injEq] at hs
        rw [← hs]
        cases hk : clsOp E o.op with
        | pure => exact .inl (opV_pure hk hop []).1
        | read => exact .inl (opV_read hk hop (fun _ _ x _ => x)).1
        | alloc =>
          obtain ⟨ob, e⟩ := opV_alloc hk hop
          exact .inr ⟨ob, i, h, hcl.trans hk, by rw [← hs]; exact e⟩
        | eff => exact (hc hk).elim
      · cases hs
  · simp only [Option.some.injEq] at hs
    rw [← hs]
    exact .inl rfl

theorem Run.pref {q : Nat} : ∀ m, q + m ≤ ops.size → (∀ x i, q ≤ x → x < q + m → p.order[x]? = some i → clAt E ops i ≠ .eff) → ∃ l, (st (q + m)).h = (st q).h ++ l
  | 0, _, _ => ⟨[], by simp⟩
  | m + 1, h, hd => by
    obtain ⟨l, hl⟩ := Run.pref m (by omega) fun x i h1 h2 h3 => hd x i h1 (by omega) h3
    have hq : p.order[q + m]? = some (p.order[q + m]'(by rw [hr.ok.len]; omega)) := List.getElem?_eq_getElem _
    rcases hr.grow hq (hd (q + m) _ (by omega) (by omega) hq) with e | ⟨ob, i, _, _, e⟩
    · exact ⟨l, by rw [show q + (m + 1) = q + m + 1 from rfl, e, hl]⟩
    · exact ⟨l ++ [ob], by rw [show q + (m + 1) = q + m + 1 from rfl, e, hl, List.append_assoc]⟩

theorem Run.pre {q x y : Nat} (h1 : q ≤ x) (h2 : x ≤ y) {r : Nat} (h3 : y ≤ r) (hrn : r ≤ ops.size) (mid : ∀ x i, q ≤ x → x < r → p.order[x]? = some i → clAt E ops i ≠ .eff) : ∃ l, (st y).h = (st x).h ++ l := by
  have := hr.pref (q := x) (y - x) (by omega) fun z i a b c => mid z i (by omega) (by omega) c
  rwa [show x + (y - x) = y by omega] at this

/-- what is new in a stage are its objects -/
theorem Run.slots {q : Nat} : ∀ m, q + m ≤ ops.size → (∀ x i, q ≤ x → x < q + m → p.order[x]? = some i → clAt E ops i ≠ .eff) → ∀ g, (st q).h.length ≤ g → g < (st (q + m)).h.length → ∃ x ob, Sl E ops p st x ob ∧ q ≤ x ∧ x < q + m ∧ g = (st x).h.length
  | 0, _, _, g, h1, h2 => by simp at h2; omega
  | m + 1, h, hd, g, h1, h2 => by
    have ih := Run.slots m (by omega) (fun x i h1 h2 h3 => hd x i h1 (by omega) h3) g h1
    have hq : p.order[q + m]? = some (p.order[q + m]'(by rw [hr.ok.len]; omega)) := List.getElem?_eq_getElem _
    rcases hr.grow hq (hd (q + m) _ (by omega) (by omega) hq) with e | ⟨ob, hs⟩
    · rw [show q + (m + 1) = q + m + 1 from rfl, e] at h2
      obtain ⟨x, ob, p1, p2, p3, p4⟩ := ih h2
      exact ⟨x, ob, p1, p2, by omega, p4⟩
    · obtain ⟨i, hi, hc, e⟩ := hs
      rw [show q + (m + 1) = q + m + 1 from rfl, e, List.length_append, List.length_singleton] at h2
      rcases Nat.lt_or_ge g (st (q + m)).h.length with hlt | hge
      · obtain ⟨x, ob, p1, p2, p3, p4⟩ := ih hlt
        exact ⟨x, ob, p1, p2, by omega, p4⟩
      · exact ⟨q + m, ob, ⟨i, hi, hc, e⟩, by omega, by omega, by omega⟩

end
end Go.AM

/- AM: regions that draw: any schedule comes to what the plan comes to. -/
namespace Go.AM
variable {P : Program} {E : Env} {w : World} {a : Act}
variable {R : Rec} {ops : Array Oper} {p : Plan} {pos : Nat → Nat} {anc : Nat → Nat → Prop} {rank : Region.Mode → Nat → Nat} {st : Nat → St} {σ0 : Gh} {w0 : World} {a0 : Act}

/-- objects of the stage that are not there yet -/
def Dead (E : Env) (ops : Array Oper) (p : Plan) (st : Nat → St) (q r : Nat) (M : Nat → Prop) (g : Nat) : Prop := ∃ x ob, Sl E ops p st x ob ∧ q ≤ x ∧ x < r ∧ ¬ M x ∧ g = (st x).h.length

/-- a temporary that is written, and known -/
def Don (E : Env) (ops : Array Oper) (p : Plan) (st : Nat → St) (S M : Nat → Prop) (t : Nat) : Prop := ∃ x i, p.order[x]? = some i ∧ S i ∧ dstAt ops i = some t ∧ ∀ ob, Sl E ops p st x ob → M x

/-- an object that was made too early: it waits for its place -/
def Cert (P : Program) (ops : Array Oper) (st : Nat → St) (w0 : World) (D : Nat → Prop) (H : Heap) (σ : Gh) (w : World) (a : Act) (x i : Nat) (ob : Ob) (b : Nat) : Prop :=
  ∃ o' v, w.heap[b]? = some o' ∧ w0.heap.size ≤ b ∧ (∀ g, alive H g → σ.phi g ≠ b) ∧ σ.F b = none ∧ ob ≠ .dead ∧ (∀ d v', dstAt ops i = some d → a.tmps[d]? = some v' → v' = v) ∧
    ∀ σ1, Choice D σ σ1 → ∀ σ' w'', Knows P σ1 σ' (st x).h.length b (verOf ob) (capOf v) → w''.heap[b]? = some o' → RelOb (szOf P) σ' w'' (st x).h.length ob ∧ ∀ d u, dstAt ops i = some d → (st ops.size).T[d]? = some u → Rel (szOf P) σ' u v

/-- what a state of the model says: S: the operations done; q, r: the stage (the effects ahead of q are done, the next is at r); M: the objects that are known; bO: where the others lie -/
structure Mid (P : Program) (E : Env) (ops : Array Oper) (p : Plan) (pos : Nat → Nat) (anc : Nat → Nat → Prop) (st : Nat → St) (σ0 : Gh) (w0 : World) (a0 : Act) (S : Nat → Prop) (q r : Nat) (M : Nat → Prop) (bO : Nat → Nat) (σ : Gh) (w : World) (a : Act) : Prop where
  qr : q ≤ r ∧ r ≤ ops.size
  start : q = 0 ∨ ∃ k, k < ops.size ∧ clAt E ops k = .eff ∧ pos k + 1 = q
  mid : ∀ x i, q ≤ x → x < r → p.order[x]? = some i → clAt E ops i ≠ .eff
  stop : r = ops.size ∨ ∃ k, p.order[r]? = some k ∧ clAt E ops k = .eff
  clo : ∀ i j, S i → anc i j → S j
  lt : ∀ i, S i → i < ops.size
  eff : ∀ k, k < ops.size → clAt E ops k = .eff → (S k ↔ pos k < q)
  mS : ∀ x ob i, Sl E ops p st x ob → p.order[x]? = some i → M x → S i
  mlt : ∀ x, M x → x < r
  mq : ∀ x ob, Sl E ops p st x ob → x < q → M x
  vr : ∀ x ob, Sl E ops p st x ob → q ≤ x → x < r → σ.ver (st x).h.length = verOf ob
  post : ∀ σ', Choice (Dead E ops p st q r M) σ σ' → Post (szOf P) σ0 (st 0).h w0 σ' (killH (Dead E ops p st q r M) (st r).h) w
  tmp : ∀ σ', Choice (Dead E ops p st q r M) σ σ' → ∀ t, Don E ops p st S M t → ∀ u v, (st ops.size).T[t]? = some u → a.tmps[t]? = some v → Rel (szOf P) σ' u v
  size : a.tmps.size = a0.tmps.size
  keep : ∀ t, (∀ i, S i → dstAt ops i ≠ some t) → a.tmps[t]? = a0.tmps[t]?
  dfs : a.defers = a0.defers
  pend : ∀ x ob i, Sl E ops p st x ob → p.order[x]? = some i → S i → ¬ M x → Cert P ops st w0 (Dead E ops p st q r M) (killH (Dead E ops p st q r M) (st r).h) σ w a x i ob (bO x)
  inj : ∀ x x' ob ob' i i', Sl E ops p st x ob → Sl E ops p st x' ob' → p.order[x]? = some i → p.order[x']? = some i' → S i → S i' → ¬ M x → ¬ M x' → bO x = bO x' → x = x'

def Steady (E : Env) (ops : Array Oper) (p : Plan) (st : Nat → St) (S M : Nat → Prop) (r : Nat) : Prop := ∀ x ob i, Sl E ops p st x ob → p.order[x]? = some i → x < r → S i → M x

theorem Sl.fun {x : Nat} {ob ob' : Ob} (h1 : Sl E ops p st x ob) (h2 : Sl E ops p st x ob') : ob = ob' := by
  obtain ⟨_, _, _, e1⟩ := h1
  obtain ⟨_, _, _, e2⟩ := h2
  rw [e1] at e2
  have := List.append_cancel_left e2
  simpa using this

section
variable (hr : Run P E R ops p pos anc rank st σ0 w0 a0)
include hr

theorem gid_inj {q r : Nat} (hrn : r ≤ ops.size) (mid : ∀ x i, q ≤ x → x < r → p.order[x]? = some i → clAt E ops i ≠ .eff) {x y : Nat} {ob ob' : Ob} (sx : Sl E ops p st x ob) (sy : Sl E ops p st y ob') (h1 : q ≤ x) (h2 : x < r) (h3 : q ≤ y) (h4 : y < r)
    (e : (st x).h.length = (st y).h.length) : x = y := by
  have key : ∀ (x y : Nat) (ob : Ob), Sl E ops p st x ob → q ≤ x → x < y → y < r → (st x).h.length < (st y).h.length := fun x y ob ⟨_, _, _, e⟩ a b c => by
    obtain ⟨l, hl⟩ := hr.pre (q := q) (x := x + 1) (y := y) (by omega) (by omega) (r := r) (by omega) hrn mid
    rw [hl, e]; simp
  rcases Nat.lt_trichotomy x y with h | h | h
  · have := key x y ob sx h1 h h4; omega
  · exact h
  · have := key y x ob' sy h3 h h2; omega

theorem Mid.adopt {S : Nat → Prop} {q r : Nat} {M : Nat → Prop} {bO : Nat → Nat} {σ : Gh} (I : Mid P E ops p pos anc st σ0 w0 a0 S q r M bO σ w a) {x i : Nat} {ob : Ob} (sl : Sl E ops p st x ob) (hi : p.order[x]? = some i) (hS : S i) (hM : ¬ M x) (h1 : q ≤ x) (h2 : x < r) :
    ∃ σ2, Mid P E ops p pos anc st σ0 w0 a0 S q r (fun y => M y ∨ y = x) bO σ2 w a := by
  obtain ⟨o', v, c1, c2, c3, c4, c5, c6, c7⟩ := I.pend x ob i sl hi hS hM
  let g := (st x).h.length
  let D := Dead E ops p st q r M
  let M' : Nat → Prop := fun y => M y ∨ y = x
  let D' := Dead E ops p st q r M'
  have hDg : D g := ⟨x, ob, sl, h1, h2, hM, rfl⟩
  have hD' : ∀ y, D' y ↔ D y ∧ y ≠ g := fun y => by
    constructor
    · rintro ⟨z, ob', s1, s2, s3, s4, s5⟩
      refine ⟨⟨z, ob', s1, s2, s3, fun hm => s4 (.inl hm), s5⟩, fun e => s4 (.inr ?_)⟩
      exact gid_inj hr I.qr.2 I.mid s1 sl s2 s3 h1 h2 (s5.symm.trans e)
    · rintro ⟨⟨z, ob', s1, s2, s3, s4, s5⟩, hne⟩
      refine ⟨z, ob', s1, s2, s3, fun hm => hm.elim s4 fun e => ?_, s5⟩
      subst e; exact hne s5
  let σ2 : Gh := { σ with phi := upd σ.phi g (bO x), base := upd σ.base g 0, cap := upd σ.cap g (capOf v) }
  have ch2 : Choice D σ σ2 := ⟨rfl, rfl, rfl, rfl, fun y hy => by
    have : y ≠ g := fun e => hy (e ▸ hDg)
    simp only [σ2, upd_ne _ this, and_self]⟩
  have chs : ∀ σ', Choice D' σ2 σ' → Choice D σ σ' := fun σ' c => ch2.trans c fun y hy => ((hD' y).1 hy).1
  have hget : (st r).h[g]? = some ob := by
    obtain ⟨_, _, _, e⟩ := sl
    obtain ⟨l, hl⟩ := hr.pre (q := q) (x := x + 1) (y := r) (by omega) (by omega) (r := r) (Nat.le_refl _) I.qr.2 I.mid
    rw [hl, e, List.append_assoc]
    show ((st x).h ++ ([ob] ++ l))[(st x).h.length]? = some ob
    simp
  have hkill : killH D' (st r).h = (killH D (st r).h).set g ob := killH_set hget hDg hD'
  have hdead : (killH D (st r).h)[g]? = some .dead := by rw [killH_get, hget, Option.map_some, if_pos hDg]
  have hnDg : ¬ D' g := fun hx => ((hD' g).1 hx).2 rfl
  have al' : ∀ y, alive (killH D' (st r).h) y → y = g ∨ alive (killH D (st r).h) y := fun y hy => by
    rw [killH_alive] at hy ⊢
    by_cases e : y = g
    · exact .inl e
    · exact .inr ⟨fun hd => hy.1 ((hD' y).2 ⟨hd, e⟩), hy.2⟩
  have key : ∀ σ', Choice D' σ2 σ' → RelOb (szOf P) σ' w g ob ∧ (∀ d u, dstAt ops i = some d → (st ops.size).T[d]? = some u → Rel (szOf P) σ' u v) ∧ σ'.phi g = bO x := fun σ' c => by
    obtain ⟨e1, e2, e3⟩ := c.oth g hnDg
    simp only [σ2, upd_same] at e1 e2 e3
    have pc := I.post σ' (chs σ' c)
    have hn : g < σ'.n := by rw [← pc.inv.len, killH_length]; exact list_lt hget
    have hv : σ'.ver g = verOf ob := by rw [(chs σ' c).ver]; exact I.vr x ob sl h1 h2
    obtain ⟨k1, k2⟩ := c7 σ' (chs σ' c) σ' w ⟨fun _ _ hxy => hxy, hn, e1, e2, e3, hv⟩ c1
    exact ⟨k1, k2, e1⟩
  refine ⟨σ2, I.qr, I.start, I.mid, I.stop, I.clo, I.lt, I.eff, fun y ob' j s1 s2 hm => ?_, fun y hm => ?_, fun y ob' s1 s2 => .inl (I.mq y ob' s1 s2), fun y ob' s1 s2 s3 => I.vr y ob' s1 s2 s3, fun σ' c => ?_, fun σ' c t hd u v' hu hv => ?_, I.size, I.keep, I.dfs, fun y ob' j s1 s2 s3 s4 => ?_, fun y y' ob1 ob2 j j' s1 s2 s3 s4 s5 s6 s7 s8 s9 => I.inj y y' ob1 ob2 j j' s1 s2 s3 s4 s5 s6 (fun h => s7 (.inl h)) (fun h => s8 (.inl h)) s9⟩
  · rcases hm with hm | rfl
    · exact I.mS y ob' j s1 s2 hm
    · rw [hi] at s2; cases s2; exact hS
  · rcases hm with hm | rfl
    · exact I.mlt y hm
    · exact h2
  · have pc := I.post σ' (chs σ' c)
    obtain ⟨k1, _, k3⟩ := key σ' c
    show Post (szOf P) σ0 (st 0).h w0 σ' (killH D' (st r).h) w
    rw [hkill]
    refine pc.adopt hdead (by rw [k3, (chs σ' c).F]; exact c4) (by rw [k3]; exact heap_lt c1) (by rw [k3]; exact c2) (fun y hy => ?_) k1
    rw [k3]
    have hnd := (killH_alive.1 hy).1
    rw [((chs σ' c).oth y hnd).1]
    exact c3 y hy
  · obtain ⟨y, j, d1, d2, d3, d4⟩ := hd
    by_cases e : y = x
    · subst e
      rw [hi] at d1; cases d1
      rw [c6 t v' d3 hv]
      exact (key σ' c).2.1 t u d3 hu
    · exact I.tmp σ' (chs σ' c) t ⟨y, j, d1, d2, d3, fun ob' s => (d4 ob' s).resolve_right e⟩ u v' hu hv
  · have hny : y ≠ x := fun e => s4 (.inr e)
    have hnm : ¬ M y := fun h => s4 (.inl h)
    obtain ⟨o2, v2, b1, b2, b3, b4, b5, b6, b7⟩ := I.pend y ob' j s1 s2 s3 hnm
    refine ⟨o2, v2, b1, b2, fun z hz => ?_, b4, b5, b6, fun σ1 c => b7 σ1 (chs σ1 c)⟩
    by_cases e : z = g
    · subst e
      simp only [σ2, upd_same]
      exact fun he => hny (I.inj y x ob' ob j i s1 sl s2 hi s3 hS hnm hM he.symm)
    · rcases al' z hz with e' | hz'
      · exact (e e').elim
      · simp only [σ2, upd_ne _ e]
        exact b3 z hz'

/-- all that is ready to be known -/
theorem Mid.adoptAll {S : Nat → Prop} {q r : Nat} {bO : Nat → Nat} : ∀ (m : Nat) {M : Nat → Prop} {σ : Gh}, Mid P E ops p pos anc st σ0 w0 a0 S q r M bO σ w a → ∃ M' σ', Mid P E ops p pos anc st σ0 w0 a0 S q r M' bO σ' w a ∧ (∀ y, M y → M' y) ∧ ∀ x ob i, Sl E ops p st x ob → p.order[x]? = some i → x < m → x < r → S i → M' x
  | 0, M, σ, I => ⟨M, σ, I, fun _ h => h, fun x ob i _ _ h => by omega⟩
  | m + 1, M, σ, I => by
    obtain ⟨M1, σ1, I1, h1, h2⟩ := Mid.adoptAll m I
    by_cases hc : ∃ ob i, Sl E ops p st m ob ∧ p.order[m]? = some i ∧ m < r ∧ S i ∧ ¬ M1 m
    · obtain ⟨ob, i, s1, s2, s3, s4, s5⟩ := hc
      have hq : q ≤ m := by
        rcases Nat.lt_or_ge m q with h | h
        · exact (s5 (I1.mq m ob s1 h)).elim
        · exact h
      obtain ⟨σ2, I2⟩ := I1.adopt hr s1 s2 s4 s5 hq s3
      refine ⟨_, σ2, I2, fun y hy => .inl (h1 y hy), fun x ob' j t1 t2 t3 t4 t5 => ?_⟩
      by_cases e : x = m
      · exact .inr e
      · exact .inl (h2 x ob' j t1 t2 (by omega) t4 t5)
    · refine ⟨M1, σ1, I1, h1, fun x ob' j t1 t2 t3 t4 t5 => ?_⟩
      by_cases e : x = m
      · subst e
        by_cases hm : M1 x
        · exact hm
        · exact (hc ⟨ob', j, t1, t2, t4, t5, hm⟩).elim
      · exact h2 x ob' j t1 t2 (by omega) t4 t5

theorem next_eff (q : Nat) : ∀ m, q + m = ops.size → ∃ r, q ≤ r ∧ r ≤ ops.size ∧ (∀ x i, q ≤ x → x < r → p.order[x]? = some i → clAt E ops i ≠ .eff) ∧ (r = ops.size ∨ ∃ k, p.order[r]? = some k ∧ clAt E ops k = .eff)
  | 0, h => ⟨q, Nat.le_refl _, by omega, fun x i h1 h2 => by omega, .inl (by omega)⟩
  | m + 1, h => by
    have hq : p.order[q]? = some (p.order[q]'(by rw [hr.ok.len]; omega)) := List.getElem?_eq_getElem _
    by_cases hc : clAt E ops (p.order[q]'(by rw [hr.ok.len]; omega)) = .eff
    · exact ⟨q, Nat.le_refl _, by omega, fun x i h1 h2 => by omega, .inr ⟨_, hq, hc⟩⟩
    · obtain ⟨r, h1, h2, h3, h4⟩ := next_eff (q + 1) m (by omega)
      refine ⟨r, by omega, h2, fun x i a b c => ?_, h4⟩
      by_cases e : x = q
      · subst e; rw [hq] at c; cases c; exact hc
      · exact h3 x i (by omega) b c

/-- a stage begins -/
theorem Mid.stage {S : Nat → Prop} {q : Nat} {bO : Nat → Nat} {τ : Gh} (hq : q ≤ ops.size) (start : q = 0 ∨ ∃ k, k < ops.size ∧ clAt E ops k = .eff ∧ pos k + 1 = q) (clo : ∀ i j, S i → anc i j → S j) (lt : ∀ i, S i → i < ops.size)
    (eff : ∀ k, k < ops.size → clAt E ops k = .eff → (S k ↔ pos k < q)) (mS : ∀ x ob i, Sl E ops p st x ob → p.order[x]? = some i → x < q → S i) (post : Post (szOf P) σ0 (st 0).h w0 τ (st q).h w)
    (tmp : ∀ t, Don E ops p st S (· < q) t → ∀ u v, (st ops.size).T[t]? = some u → a.tmps[t]? = some v → Rel (szOf P) τ u v) (size : a.tmps.size = a0.tmps.size) (keep : ∀ t, (∀ i, S i → dstAt ops i ≠ some t) → a.tmps[t]? = a0.tmps[t]?)
    (dfs : a.defers = a0.defers) (pend : ∀ x ob i, Sl E ops p st x ob → p.order[x]? = some i → S i → ¬ x < q → Cert P ops st w0 (fun _ => False) (st q).h τ w a x i ob (bO x))
    (inj : ∀ x x' ob ob' i i', Sl E ops p st x ob → Sl E ops p st x' ob' → p.order[x]? = some i → p.order[x']? = some i' → S i → S i' → ¬ x < q → ¬ x' < q → bO x = bO x' → x = x') :
    ∃ r M σ, Mid P E ops p pos anc st σ0 w0 a0 S q r M bO σ w a ∧ Steady E ops p st S M r := by
  obtain ⟨r, r1, r2, r3, r4⟩ := next_eff hr q (ops.size - q) (by omega)
  have hlen := post.inv.len
  let σ : Gh := { τ with n := (st r).h.length, ver := fun g => if g < τ.n then τ.ver g else ((st r).h[g]?.map verOf).getD 0 }
  let D := Dead E ops p st q r (· < q)
  obtain ⟨l, hl⟩ := hr.pre (q := q) (x := q) (y := r) (Nat.le_refl _) r1 (r := r) (Nat.le_refl _) r2 r3
  have hDge : ∀ g, D g → τ.n ≤ g := fun g ⟨x, ob, s1, s2, s3, s4, s5⟩ => by
    obtain ⟨l', hl'⟩ := hr.pre (q := q) (x := q) (y := x) (Nat.le_refl _) s2 (r := r) (by omega) r2 r3
    rw [s5, hl', ← hlen]; simp
  have hDall : ∀ g, τ.n ≤ g → g < (st r).h.length → D g := fun g h1 h2 => by
    obtain ⟨x, ob, s1, s2, s3, s4⟩ := hr.slots (q := q) (r - q) (by omega) (fun x i a b c => r3 x i a (by omega) c) g (by rw [hlen]; exact h1) (by rw [show q + (r - q) = r by omega]; exact h2)
    exact ⟨x, ob, s1, s2, by omega, by omega, s4⟩
  have le : ∀ σ', Choice D σ σ' → Le τ σ' := fun σ' c => by
    refine ⟨?_, fun g hg => ?_, fun b arr hb => by rw [c.F]; exact hb, c.good⟩
    · rw [c.n]; show τ.n ≤ (st r).h.length; rw [hl, ← hlen]; simp
    · obtain ⟨e1, e2, e3⟩ := c.oth g fun hd => by have := hDge g hd; omega
      have ev : σ'.ver g = τ.ver g := by rw [c.ver]; show (if g < τ.n then _ else _) = _; rw [if_pos hg]
      exact ⟨Nat.le_of_eq ev.symm, fun h => ev.trans h, fun _ => ⟨e1, e2, e3⟩⟩
  have I : Mid P E ops p pos anc st σ0 w0 a0 S q r (· < q) bO σ w a := by
    refine ⟨⟨r1, r2⟩, start, r3, r4, clo, lt, eff, fun x ob i s1 s2 h => mS x ob i s1 s2 h, fun x h => by omega, fun x ob _ h => h, fun x ob s1 s2 s3 => ?_, fun σ' c => ?_, fun σ' c t hd u v hu hv => (tmp t hd u v hu hv).mono (le σ' c), size, keep, dfs, fun x ob i s1 s2 s3 s4 => ?_, inj⟩
    · obtain ⟨i, e1, e2, e⟩ := s1
      obtain ⟨l', hl'⟩ := hr.pre (q := q) (x := x + 1) (y := r) (by omega) (by omega) (r := r) (Nat.le_refl _) r2 r3
      have hget : (st r).h[(st x).h.length]? = some ob := by rw [hl', e, List.append_assoc]; simp
      have := hDge (st x).h.length ⟨x, ob, ⟨i, e1, e2, e⟩, s2, s3, by omega, rfl⟩
      show (if (st x).h.length < τ.n then _ else _) = _
      rw [if_neg (by omega), hget]; rfl
    · refine post.slots (le σ' c) (fun g hg => ?_) c.F ?_ (fun g hg => ?_) (fun g o hg ho => ?_)
      · rw [c.ver]; show (if g < τ.n then _ else _) = _; rw [if_pos hg]
      · rw [killH_length, c.n]
      · rw [killH_get, hl, List.getElem?_append_left hg]
        cases hx : (st q).h[g]? with
        | none => rfl
        | some o =>
          have : ¬ D g := fun hd => by have := hDge g hd; omega
          rw [Option.map_some, if_neg this]
      · rw [killH_get] at ho
        cases hx : (st r).h[g]? with
        | none => rw [hx] at ho; cases ho
        | some o' =>
          rw [hx, Option.map_some, if_pos (hDall g (by omega) (list_lt hx))] at ho
          cases ho; rfl
    · obtain ⟨o', v, c1, c2, c3, c4, c5, c6, c7⟩ := pend x ob i s1 s2 s3 s4
      refine ⟨o', v, c1, c2, fun g hg => ?_, c4, c5, c6, fun σ1 cc σ' w'' kn hw => ?_⟩
      · obtain ⟨g1, g2⟩ := killH_alive.1 hg
        have hlt : g < τ.n := by
          rcases Nat.lt_or_ge g τ.n with h | h
          · exact h
          · exact (g1 (hDall g h (alive_lt g2))).elim
        refine c3 g ?_
        obtain ⟨o, ho, hd⟩ := g2
        rw [hl, List.getElem?_append_left (by omega)] at ho
        exact ⟨o, ho, hd⟩
      · exact c7 τ (Choice.refl _ _) σ' w'' ⟨fun y z hyz => kn.rel y z (hyz.mono (le σ1 cc)), kn.n, kn.phi, kn.base, kn.cap, kn.ver⟩ hw
  obtain ⟨M', σ', I', _, hst⟩ := I.adoptAll hr r
  exact ⟨r, M', σ', I', fun x ob i s1 s2 s3 s4 => hst x ob i s1 s2 s3 s3 s4⟩

end
end Go.AM

/- AM: regions that draw: one operation more. -/
namespace Go.AM
variable {P : Program} {E : Env} {σ : Gh} {w : World} {a a2 : Act} {T T' : List V} {h : Heap}

/-! ### operations depend on what they look at only -/

section
variable {ops : Array Oper} {o : Oper}

theorem mem_looks {x : Operand} {t : Tmp} (hx : x ∈ o.op.operands) (e : x = .tmp t) : t ∈ o.looksAt ops := by
  subst e
  exact List.mem_append_left _ (List.mem_filterMap.2 ⟨.tmp t, by simpa using hx, rfl⟩)

theorem same_evalV (hs : ∀ t ∈ o.looksAt ops, T[t]? = T'[t]?) {x : Operand} (hx : x ∈ o.op.operands) : evalV T x = evalV T' x := by
  cases x with
  | tmp t => simp only [evalV, getT_eq, List.getD_eq_getElem?_getD]; rw [hs t (mem_looks hx rfl)]
  | _ => rfl

theorem same_opV (hs : ∀ t ∈ o.looksAt ops, T[t]? = T'[t]?) : opV E T h o.op = opV E T' h o.op := opV_congr fun _ hx => same_evalV hs hx
theorem same_callV (hs : ∀ t ∈ o.looksAt ops, T[t]? = T'[t]?) : callV E T o.op = callV E T' o.op := callV_congr fun _ hx => same_evalV hs hx

theorem same_wantedV (hs : ∀ t ∈ o.looksAt ops, T[t]? = T'[t]?) : wantedV ops.toList T o = wantedV ops.toList T' o := by
  unfold wantedV
  cases hg : o.guard with
  | none => rfl
  | some gw =>
    obtain ⟨g, want⟩ := gw
    simp only [yieldedV, Array.getElem?_toList]
    cases hd : (ops[g]?).bind (·.dst) with
    | none => rfl
    | some t =>
      have : t ∈ o.looksAt ops := by simp [Oper.looksAt, hg, hd]
      simp only [Option.bind_some, hs t this]

theorem same_eval (hs : ∀ t ∈ o.looksAt ops, a.tmps[t]? = a2.tmps[t]?) {x : Operand} (hx : x ∈ o.op.operands) : a.eval x = a2.eval x := by
  cases x with
  | tmp t => simp [Act.eval, hs t (mem_looks hx rfl)]
  | _ => rfl

theorem same_execOp (hs : ∀ t ∈ o.looksAt ops, a.tmps[t]? = a2.tmps[t]?) (hn : ∀ cs b, o.op ≠ .select cs b) : execOp a.eval o = execOp a2.eval o := execOp_congr o hn fun _ hx => same_eval hs hx

theorem same_wanted (hs : ∀ t ∈ o.looksAt ops, a.tmps[t]? = a2.tmps[t]?) : Region.wanted o (yielded ops a.tmps) = Region.wanted o (yielded ops a2.tmps) := by
  unfold Region.wanted
  cases hg : o.guard with
  | none => rfl
  | some gw =>
    obtain ⟨g, want⟩ := gw
    simp only [yielded]
    cases hd : (ops[g]?).bind (·.dst) with
    | none => rfl
    | some t =>
      have : t ∈ o.looksAt ops := by simp [Oper.looksAt, hg, hd]
      simp only [Option.bind_some, hs t this]

/-- stepV, from another row of temporaries -/
theorem same_stepV {R : Rec} (hs : ∀ t ∈ o.looksAt ops, T[t]? = T'[t]?) {s1 : St} (h1 : stepV E R ops.toList ⟨T, h⟩ o = some s1) : ∃ u, s1.T = putV T o.dst u ∧ stepV E R ops.toList ⟨T', h⟩ o = some ⟨putV T' o.dst u, s1.h⟩ := by
  unfold stepV at h1 ⊢
  simp only [← same_wantedV (T := T) (T' := T') hs, ← same_callV (T := T) (T' := T') hs, ← same_opV (T := T) (T' := T') hs] at h1 ⊢
  split at h1
  · rename_i hw
    rw [if_pos hw]
    split at h1
    · rename_i hc
      rw [if_pos hc]
      split at h1
      · rename_i t ht
        split at h1
        · rename_i v h' hv; cases h1; exact ⟨v, rfl, by simp only [hv]⟩
        · cases h1
      · cases h1
    · rename_i hc
      rw [if_neg hc]
      split at h1
      · rename_i v h' hv; cases h1; exact ⟨v, rfl, rfl⟩
      · cases h1
  · rename_i hw
    rw [if_neg hw]
    cases h1; exact ⟨_, rfl, rfl⟩

theorem step_value {i : Nat} (hi : ops[i]? = some o) (hw : Region.wanted o (yielded ops a.tmps) = true) (hn : ∀ c, o.op ≠ .defer c) {v : Value} {w' : World} (hr : (execOp a.eval o).run P w = .ok (.value v) w') (b : Frame) (rest : List Nat) (k : List Item) (cs : List Frame) :
    Steps P (lone (b.atR a (.inRegion ops (i :: rest) :: k)) cs w) (lone (b.atR (a.put o.dst v) (.inRegion ops rest :: k)) cs w') := by
  have hdst : (ops[i]?).bind (·.dst) = o.dst := by rw [hi]; rfl
  refine Steps.one ?_
  rw [← hdst, ← Frame.finish_atR]
  apply step_lone_go
  rw [stepGR_op hi hw, Oper.semAt_eq _ _ _ hn]
  simp [stepG.apply, Sem.runT_eq, hr]

theorem oper_sound2 (hE : EnvOk P E) (hm : methOk P E) {G : FuncId → Code → Code → Prop} {R : Rec} (hR : CallOk P G R.call) {i : Nat} (hi : ops[i]? = some o) {s s' : St} (hG : σ.good = G) (inv : Inv (szOf P) σ w s.h) (r : RelA (szOf P) σ s.T a2.tmps)
    (hsm : ∀ t ∈ o.looksAt ops, a.tmps[t]? = a2.tmps[t]?) (hs : stepV E R ops.toList s o = some s') : ∃ τ w' v u, s'.T = putV s.T o.dst u ∧ Rel (szOf P) τ u v ∧ Post (szOf P) σ s.h w τ s'.h w' ∧
      ∀ (b : Frame) (rest : List Nat) (k : List Item) (cs : List Frame), Steps P (lone (b.atR a (.inRegion ops (i :: rest) :: k)) cs w) (lone (b.atR (a.put o.dst v) (.inRegion ops rest :: k)) cs w') := by
  unfold stepV at hs
  rw [wanted_rel r, ← same_wanted hsm] at hs
  have hdst : (ops[i]?).bind (·.dst) = o.dst := by rw [hi]; rfl
  split at hs
  · rename_i hw
    split at hs
    · rename_i hcall
      split at hs
      · rename_i t ht
        split at hs
        · rename_i u h1 hc
          cases hs
          have hx := same_execOp (o := o) hsm (fun cs b e => by rw [e] at hcall; simp [isCall] at hcall)
          obtain ⟨vs, q1, q2⟩ := callV_rel (w := w) hE hm r ht
          obtain ⟨nx, fr, n1, n2, τ, w', v, p1, p2, p3⟩ := hR t s.h u h1 hc σ w vs hG inv q1
          refine ⟨τ, w', v, u, rfl, p2, p1, fun b rest k cs => ?_⟩
          have hsem : o.semAt b.roundOf a.eval = execOp a2.eval o := (Oper.semAt_eq _ _ _ (fun c e => by rw [e] at hcall; simp [isCall] at hcall)).trans hx
          have hstep : step P (lone (b.atR a (.inRegion ops (i :: rest) :: k)) cs w) = .next (lone fr (b.atR a (.inRegion ops (i :: rest) :: k) :: cs) w) := by
            apply step_lone_go
            rw [stepGR_op hi hw, hsem]
            cases nx <;> simp only [Entering] at n2 <;> obtain ⟨_, rfl⟩ := n2 <;> simp [stepG.apply, Sem.runT_eq, q2, n1, Frame.atR]
          refine Steps.head hstep (Steps.trans (p3 _ cs) ?_)
          rw [Frame.finish_atR, hdst]
          exact Steps.refl _ _
        · cases hs
      · cases hs
    · rename_i hcall
      split at hs
      · rename_i u h1 hop
        cases hs
        have hx := same_execOp (o := o) hsm (fun cs b e => by rw [e] at hop; simp [opV] at hop)
        obtain ⟨τ, w', p1, hd⟩ := op_sound hE hm inv r hop
        have hsem : ∀ b : Frame, o.semAt b.roundOf a.eval = execOp a2.eval o := fun b => (Oper.semAt_eq _ _ _ (fun c e => by rw [e] at hop; simp [opV] at hop)).trans hx
        rcases hd with ⟨v, e1, e2⟩ | ⟨e1, e2⟩
        · refine ⟨τ, w', v, u, rfl, e2, p1, fun b rest k cs => Steps.one ?_⟩
          rw [← hdst, ← Frame.finish_atR]
          apply step_lone_go
          rw [stepGR_op hi hw, hsem]
          simp [stepG.apply, Sem.runT_eq, e1]
        · subst e2
          refine ⟨τ, w', undef, undefV, rfl, undef_rel _ _, p1, fun b rest k cs => Steps.one ?_⟩
          rw [← hdst, ← Frame.finish_atR]
          apply step_lone_go
          rw [stepGR_op hi hw, hsem]
          simp [stepG.apply, Sem.runT_eq, e1]
      · cases hs
  · rename_i hw
    cases hs
    refine ⟨σ, w, undef, undefV, rfl, undef_rel _ _, Post.refl inv, fun b rest k cs => Steps.one ?_⟩
    rw [← hdst]
    exact stepR_op_skip (by rw [hi]; simpa using hw)

end

variable {R : Rec} {ops : Array Oper} {p : Plan} {pos : Nat → Nat} {anc : Nat → Nat → Prop} {rank : Region.Mode → Nat → Nat} {st : Nat → St} {σ0 : Gh} {w0 : World} {a0 : Act}

section
variable (hr : Run P E R ops p pos anc rank st σ0 w0 a0)
variable {S : Nat → Prop} {q r : Nat} {M : Nat → Prop} {bO : Nat → Nat}
variable (I : Mid P E ops p pos anc st σ0 w0 a0 S q r M bO σ w a)
include hr I

/-- an operation that may be next, with its place -/
theorem Mid.early (hst : Steady E ops p st S M r) {i j t : Nat} (hi : i < ops.size) (hS : ∀ j, anc i j → S j) (hj : anc i j) (hd : dstAt ops j = some t) : Don E ops p st S M t := by
  obtain ⟨h1, h2⟩ := hr.ok.anc_pos (pos i + 1) i j (by omega) hi hj
  have hat := hr.ok.at' j h2
  refine ⟨pos j, j, hat, hS j hj, hd, fun ob sl => hst (pos j) ob j sl hat ?_ (hS j hj)⟩
  rcases Nat.lt_or_ge (pos j) r with h | h
  · exact h
  · exfalso
    have hlt := (hr.at_lt hat).1
    rcases I.stop with e | ⟨k, hk, hc⟩
    · omega
    · obtain ⟨_, k2, k3⟩ := hr.at_lt hk
      obtain ⟨j', e1, e2, _⟩ := sl
      rw [hat] at e1; cases e1
      have hne : pos j ≠ r := fun e => by
        rw [e, hk] at hat; cases hat
        rw [hc] at e2; cases e2
      have := (I.eff k k2 hc).1 (hS k (hr.ok.alc i j k hi h2 k2 e2 hc hj (by omega)))
      have := I.qr.1
      omega

/-- the row of temporaries that is known -/
noncomputable def Mid.row (_ : Run P E R ops p pos anc rank st σ0 w0 a0) (_ : Mid P E ops p pos anc st σ0 w0 a0 S q r M bO σ w a) : List V := mixL (Don E ops p st S M) (st 0).T (st ops.size).T
noncomputable def Mid.act (_ : Run P E R ops p pos anc rank st σ0 w0 a0) (_ : Mid P E ops p pos anc st σ0 w0 a0 S q r M bO σ w a) : Act := { a with tmps := mixA (Don E ops p st S M) a0.tmps a.tmps }

theorem Mid.rowRel {σ' : Gh} (c : Choice (Dead E ops p st q r M) σ σ') : RelA (szOf P) σ' (Mid.row hr I) (Mid.act hr I).tmps := by
  refine ⟨by simp [Mid.row, Mid.act, mixL_length, mixA_size, hr.rel.1], fun t u v hu hv => ?_⟩
  simp only [Mid.row, Mid.act] at hu hv
  by_cases hd : Don E ops p st S M t
  · rw [mixL_pos (hr.tlen _ (Nat.le_refl _)) hd] at hu
    rw [mixA_pos I.size hd] at hv
    exact I.tmp σ' c t hd u v hu hv
  · rw [mixL_neg hd] at hu
    rw [mixA_neg hd] at hv
    exact (hr.rel.2 t u v hu hv).mono (I.post σ' c).le

theorem Mid.sees (hst : Steady E ops p st S M r) {i : Nat} {o : Oper} (ho : ops[i]? = some o) (hi : i < ops.size) (hS : ∀ j, anc i j → S j) (hni : ¬ S i) {t : Nat} (ht : t ∈ o.looksAt ops) :
    (Mid.row hr I)[t]? = (st (pos i)).T[t]? ∧ a.tmps[t]? = (Mid.act hr I).tmps[t]? := by
  have hat := hr.ok.at' i hi
  have hpn := (hr.at_lt hat).1
  simp only [Mid.row, Mid.act]
  have old : (∀ j, j < ops.size → dstAt ops j = some t → ¬ S j ∧ pos i ≤ pos j) → (mixL (Don E ops p st S M) (st 0).T (st ops.size).T)[t]? = (st (pos i)).T[t]? ∧ a.tmps[t]? = (mixA (Don E ops p st S M) a0.tmps a.tmps)[t]? := fun hno => by
    have hnd : ¬ Don E ops p st S M t := fun ⟨x, j, d1, d2, d3, _⟩ => (hno j (I.lt j d2) d3).1 d2
    rw [mixL_neg hnd, mixA_neg hnd, hr.tinit (q := pos i) (by omega) fun j h h2 h3 => by have := (hno j h h3).2; omega]
    exact ⟨rfl, I.keep t fun j hj hd => (hno j (I.lt j hj) hd).1 hj⟩
  by_cases hj : ∃ j, j < ops.size ∧ dstAt ops j = some t
  · obtain ⟨j, hj, hd⟩ := hj
    rcases hr.ok.looks i j t hi hj (by rw [hr.looks_of ho]; exact ht) hd with ha | hb
    · have hdon := I.early hr hst hi hS ha hd
      have hlt := (hr.ok.anc_pos (pos i + 1) i j (by omega) hi ha).1
      rw [mixL_pos (hr.tlen _ (Nat.le_refl _)) hdon, mixA_pos I.size hdon, hr.tdone hj hd hlt (by omega)]
      exact ⟨rfl, rfl⟩
    · refine old fun j' hj' hd' => ?_
      have := hr.ok.dst j j' t hj hj' hd hd'
      subst this
      rcases hb with rfl | hb
      · exact ⟨hni, Nat.le_refl _⟩
      · have := (hr.ok.anc_pos (pos j + 1) j i (by omega) hj hb).1
        exact ⟨fun h => hni (I.clo j i h hb), by omega⟩
  · exact old fun j h1 h2 => (hj ⟨j, h1, h2⟩).elim

theorem Mid.stays {i : Nat} (hi : i < ops.size) (hall : ∀ j t, j < ops.size → t ∈ looksOf ops i → dstAt ops j = some t → anc i j) {o : Oper} (ho : ops[i]? = some o) {t : Nat} (ht : t ∈ o.looksAt ops) : (st (pos i)).T[t]? = (st ops.size).T[t]? := by
  have _ := I
  have hat := hr.ok.at' i hi
  have hpn := (hr.at_lt hat).1
  have ht : t ∈ looksOf ops i := by rw [hr.looks_of ho]; exact ht
  by_cases hj : ∃ j, j < ops.size ∧ dstAt ops j = some t
  · obtain ⟨j, hj, hd⟩ := hj
    have hlt := (hr.ok.anc_pos (pos i + 1) i j (by omega) hi (hall j t hj ht hd)).1
    exact hr.tdone hj hd hlt (by omega)
  · have hno : ∀ j, j < ops.size → dstAt ops j ≠ some t := fun j h1 h2 => hj ⟨j, h1, h2⟩
    rw [hr.tinit (q := pos i) (by omega) fun j h _ => hno j h, hr.tinit (q := ops.size) (Nat.le_refl _) fun j h _ => hno j h]

/-- an operation more, no object -/
theorem Mid.plain {x i : Nat} (hx : p.order[x]? = some i) (hS : ∀ j, anc i j → S j) (hni : ¬ S i) (hc : clAt E ops i ≠ .eff) (hsl : ∀ ob, ¬ Sl E ops p st x ob) {v : Value}
    (hv : ∀ σ', Choice (Dead E ops p st q r M) σ σ' → ∀ d u, dstAt ops i = some d → (st ops.size).T[d]? = some u → Rel (szOf P) σ' u v) :
    Mid P E ops p pos anc st σ0 w0 a0 (fun j => S j ∨ j = i) q r M bO σ w (a.put (dstAt ops i) v) := by
  obtain ⟨_, hi, hpos⟩ := hr.at_lt hx
  have hdne : ∀ j t, S j → dstAt ops j = some t → dstAt ops i ≠ some t := fun j t hj hd e => hni (by rw [hr.ok.dst i j t hi (I.lt j hj) e hd]; exact hj)
  refine ⟨I.qr, I.start, I.mid, I.stop, fun j k hj ha => ?_, fun j hj => ?_, fun k hk hck => ?_, fun y ob j s1 s2 hm => .inl (I.mS y ob j s1 s2 hm), I.mlt, I.mq, I.vr, I.post, fun σ' c t hd u v' hu hv' => ?_, by rw [act_put_size]; exact I.size, fun t ht => ?_, by rw [act_put_defers]; exact I.dfs, fun y ob j s1 s2 s3 s4 => ?_, fun y y' ob ob' j j' s1 s2 s3 s4 s5 s6 => ?_⟩
  · rcases hj with hj | rfl
    · exact .inl (I.clo j k hj ha)
    · exact .inl (hS k ha)
  · rcases hj with hj | rfl
    · exact I.lt j hj
    · exact hi
  · rw [← I.eff k hk hck]
    exact ⟨fun h => h.resolve_right fun e => hc (by rw [← e]; exact hck), .inl⟩
  · obtain ⟨y, j, d1, d2, d3, d4⟩ := hd
    rcases d2 with d2 | rfl
    · rw [act_put_ne (hdne j t d2 d3)] at hv'
      exact I.tmp σ' c t ⟨y, j, d1, d2, d3, d4⟩ u v' hu hv'
    · rw [d3] at hv'
      rw [act_put_at hv']
      exact hv σ' c t u d3 hu
  · rw [act_put_ne (ht i (.inr rfl))]
    exact I.keep t fun j hj => ht j (.inl hj)
  · rcases s3 with s3 | rfl
    · obtain ⟨o', v', c1, c2, c3, c4, c5, c6, c7⟩ := I.pend y ob j s1 s2 s3 s4
      refine ⟨o', v', c1, c2, c3, c4, c5, fun d v'' hd hv'' => ?_, c7⟩
      rw [act_put_ne (hdne j d s3 hd)] at hv''
      exact c6 d v'' hd hv''
    · have : y = x := by rw [← (hr.at_lt s2).2.2, hpos]
      subst this
      exact (hsl ob s1).elim
  · have aux : ∀ y ob j, Sl E ops p st y ob → p.order[y]? = some j → (S j ∨ j = i) → S j := fun y ob j s1 s2 s3 => by
      rcases s3 with s3 | rfl
      · exact s3
      · have : y = x := by rw [← (hr.at_lt s2).2.2, hpos]
        subst this
        exact (hsl ob s1).elim
    exact I.inj y y' ob ob' j j' s1 s2 s3 s4 (aux y ob j s1 s3 s5) (aux y' ob' j' s2 s4 s6)

theorem Steady.plain (hst : Steady E ops p st S M r) {x i : Nat} (hx : p.order[x]? = some i) (hsl : ∀ ob, ¬ Sl E ops p st x ob) : Steady E ops p st (fun j => S j ∨ j = i) M r := fun y ob j s1 s2 s3 s4 => by
  have _ := I
  rcases s4 with s4 | rfl
  · exact hst y ob j s1 s2 s3 s4
  · have : y = x := by rw [← (hr.at_lt s2).2.2, (hr.at_lt hx).2.2]
    subst this
    exact (hsl ob s1).elim

/-- an object more -/
theorem Mid.alloc {x i : Nat} {ob : Ob} (hx : p.order[x]? = some i) (hS : ∀ j, anc i j → S j) (hni : ¬ S i) (sl : Sl E ops p st x ob) (hob : ob ≠ .dead) {o' : Obj} {v : Value} {w' : World} (hheap : w'.heap = w.heap.push o') (hos : w'.os = w.os ∧ w'.output = w.output ∧ w'.tape = w.tape)
    (hv : ∀ σ1, Choice (Dead E ops p st q r M) σ σ1 → ∀ σ' w'', Knows P σ1 σ' (st x).h.length w.heap.size (verOf ob) (capOf v) → w''.heap[w.heap.size]? = some o' → RelOb (szOf P) σ' w'' (st x).h.length ob ∧ ∀ d u, dstAt ops i = some d → (st ops.size).T[d]? = some u → Rel (szOf P) σ' u v) :
    ∃ bO', Mid P E ops p pos anc st σ0 w0 a0 (fun j => S j ∨ j = i) q r M bO' σ w' (a.put (dstAt ops i) v) ∧ ¬ M x := by
  obtain ⟨_, hi, hpos⟩ := hr.at_lt hx
  have hMx : ¬ M x := fun h => hni (I.mS x ob i sl hx h)
  have hc : clAt E ops i ≠ .eff := by
    obtain ⟨j, e1, e2, _⟩ := sl
    rw [hx] at e1; cases e1; rw [e2]; simp
  have hdne : ∀ j t, S j → dstAt ops j = some t → dstAt ops i ≠ some t := fun j t hj hd e => hni (by rw [hr.ok.dst i j t hi (I.lt j hj) e hd]; exact hj)
  have hold : ∀ b, b < w.heap.size → w'.heap[b]? = w.heap[b]? := fun b hb => by rw [hheap, Array.getElem?_push, if_neg (by omega)]
  have hnew : w'.heap[w.heap.size]? = some o' := by rw [hheap]; exact Array.getElem?_push_size
  have post : ∀ σ', Choice (Dead E ops p st q r M) σ σ' → Post (szOf P) σ0 (st 0).h w0 σ' (killH (Dead E ops p st q r M) (st r).h) w' := fun σ' c => by
    have pc := I.post σ' c
    exact pc.trans ((Post.extra pc.inv o').ofHeap (by rw [hheap]; rfl) hos)
  have hp0 := I.post σ (Choice.refl _ _)
  have hblt : ∀ y ob' j, Sl E ops p st y ob' → p.order[y]? = some j → S j → ¬ M y → bO y < w.heap.size := fun y ob' j s1 s2 s3 s4 => by
    obtain ⟨_, _, c1, _⟩ := I.pend y ob' j s1 s2 s3 s4
    exact heap_lt c1
  have hyx : ∀ y j, p.order[y]? = some j → j = i → y = x := fun y j h e => by rw [← (hr.at_lt h).2.2, e, hpos]
  refine ⟨fun y => if y = x then w.heap.size else bO y, ⟨I.qr, I.start, I.mid, I.stop, fun j k hj ha => ?_, fun j hj => ?_, fun k hk hck => ?_, fun y ob j s1 s2 hm => .inl (I.mS y ob j s1 s2 hm), I.mlt, I.mq, I.vr, post, fun σ' c t hd u v' hu hv' => ?_, by rw [act_put_size]; exact I.size, fun t ht => ?_, by rw [act_put_defers]; exact I.dfs, fun y ob' j s1 s2 s3 s4 => ?_, fun y y' ob1 ob2 j j' s1 s2 s3 s4 s5 s6 s7 s8 s9 => ?_⟩, hMx⟩
  · rcases hj with hj | rfl
    · exact .inl (I.clo j k hj ha)
    · exact .inl (hS k ha)
  · rcases hj with hj | rfl
    · exact I.lt j hj
    · exact hi
  · rw [← I.eff k hk hck]
    exact ⟨fun h => h.resolve_right fun e => hc (by rw [← e]; exact hck), .inl⟩
  · obtain ⟨y, j, d1, d2, d3, d4⟩ := hd
    rcases d2 with d2 | rfl
    · rw [act_put_ne (hdne j t d2 d3)] at hv'
      exact I.tmp σ' c t ⟨y, j, d1, d2, d3, d4⟩ u v' hu hv'
    · have := hyx y j d1 rfl
      subst this
      exact (hMx (d4 ob sl)).elim
  · rw [act_put_ne (ht i (.inr rfl))]
    exact I.keep t fun j hj => ht j (.inl hj)
  · by_cases e : y = x
    · subst e
      rw [hx] at s2; cases s2
      cases Sl.fun s1 sl
      simp only [if_true]
      refine ⟨o', v, hnew, hp0.wst.size, fun g hg e => ?_, ?_, hob, fun d v' hd hv' => ?_, hv⟩
      · have := (hp0.inv.live g hg).2; omega
      · cases hF : σ.F w.heap.size with
        | none => rfl
        | some arr =>
          obtain ⟨T, fr, hh⟩ := hp0.inv.fro _ _ hF
          have := heap_lt hh; omega
      · rw [hd] at hv'; exact act_put_at hv'
    · have s3' : S j := s3.resolve_right fun e' => e (hyx y j s2 e')
      obtain ⟨o2, v', c1, c2, c3, c4, c5, c6, c7⟩ := I.pend y ob' j s1 s2 s3' s4
      rw [if_neg e]
      refine ⟨o2, v', by rw [hold _ (heap_lt c1)]; exact c1, c2, c3, c4, c5, fun d v'' hd hv'' => ?_, c7⟩
      rw [act_put_ne (hdne j d s3' hd)] at hv''
      exact c6 d v'' hd hv''
  · by_cases e : y = x
    · by_cases e' : y' = x
      · rw [e, e']
      · have t1 := s6.resolve_right fun h => e' (hyx y' j' s4 h)
        have := hblt y' ob2 j' s2 s4 t1 s8
        rw [if_pos e, if_neg e'] at s9; omega
    · have t0 := s5.resolve_right fun h => e (hyx y j s3 h)
      by_cases e' : y' = x
      · have := hblt y ob1 j s1 s3 t0 s7
        rw [if_neg e, if_pos e'] at s9; omega
      · have t1 := s6.resolve_right fun h => e' (hyx y' j' s4 h)
        rw [if_neg e, if_neg e'] at s9
        exact I.inj y y' ob1 ob2 j j' s1 s2 s3 s4 t0 t1 s7 s8 s9

end
end Go.AM

/- AM: regions that draw: DrawOk. -/
namespace Go.AM
variable {P : Program} {E : Env} {σ : Gh} {w : World} {a a2 : Act} {h : Heap}
variable {R : Rec} {ops : Array Oper} {p : Plan} {pos : Nat → Nat} {anc : Nat → Nat → Prop} {rank : Region.Mode → Nat → Nat} {st : Nat → St} {σ0 : Gh} {w0 : World} {a0 : Act}

theorem Choice.le {D : Nat → Prop} {σ' : Gh} (c : Choice D σ σ') (hD : ∀ g, g < σ.n → ¬ D g) : Le σ σ' :=
  ⟨Nat.le_of_eq c.n.symm, fun g hg => by
    obtain ⟨e1, e2, e3⟩ := c.oth g (hD g hg)
    rw [c.ver]
    exact ⟨Nat.le_refl _, id, fun _ => ⟨e1, e2, e3⟩⟩, fun b arr hb => by rw [c.F]; exact hb, c.good⟩

section
variable (hr : Run P E R ops p pos anc rank st σ0 w0 a0)
variable {S : Nat → Prop} {q r : Nat} {M : Nat → Prop} {bO : Nat → Nat}
variable (I : Mid P E ops p pos anc st σ0 w0 a0 S q r M bO σ w a) (hst : Steady E ops p st S M r)
include hr I hst

theorem Mid.effect (hE : EnvOk P E) (hm : methOk P E) {G : FuncId → Code → Code → Prop} (hR : CallOk P G R.call) (hG : σ0.good = G) {i : Nat} {o : Oper} (ho : ops[i]? = some o) (hi : i < ops.size) (hS : ∀ j, anc i j → S j) (hni : ¬ S i) (hc : clAt E ops i = .eff) :
    ∃ q' r' M' bO' σ' w' a', Mid P E ops p pos anc st σ0 w0 a0 (fun j => S j ∨ j = i) q' r' M' bO' σ' w' a' ∧ Steady E ops p st (fun j => S j ∨ j = i) M' r' ∧
      ∀ (b : Frame) (rest : List Nat) (k : List Item) (cs : List Frame), Steps P (lone (b.atR a (.inRegion ops (i :: rest) :: k)) cs w) (lone (b.atR a' (.inRegion ops rest :: k)) cs w') := by
  have hat := hr.ok.at' i hi
  have hpn := (hr.at_lt hat).1
  have hqr := I.qr
  have hq : q ≤ pos i := by
    rcases Nat.lt_or_ge (pos i) q with hlt | hge
    · exact (hni ((I.eff i hi hc).2 hlt)).elim
    · exact hge
  have hr1 : r ≤ pos i := by
    rcases Nat.lt_or_ge (pos i) r with hlt | hge
    · exact (I.mid (pos i) i hq hlt hat hc).elim
    · exact hge
  have hr2 : pos i = r := by
    rcases I.stop with e | ⟨k, hk, hck⟩
    · omega
    · obtain ⟨_, k2, k3⟩ := hr.at_lt hk
      rcases Nat.lt_or_ge r (pos i) with hlt | hge
      · have := (I.eff k k2 hck).1 (hS k (hr.ok.eff i k hi k2 hc (.inl hck) (by omega)))
        omega
      · omega
  have hall : ∀ x ob j, Sl E ops p st x ob → p.order[x]? = some j → x < r → S j := fun x ob j sl hj hx => by
    obtain ⟨_, j2, j3⟩ := hr.at_lt hj
    obtain ⟨j', e1, e2, _⟩ := sl
    rw [hj] at e1; cases e1
    exact hS j (hr.ok.eff i j hi j2 hc (.inr e2) (by omega))
  have hnD : ∀ g, ¬ Dead E ops p st q r M g := fun g ⟨x, ob, s1, s2, s3, s4, s5⟩ => by
    obtain ⟨j, e1, e2, e3⟩ := s1
    exact s4 (hst x ob j ⟨j, e1, e2, e3⟩ e1 s3 (hall x ob j ⟨j, e1, e2, e3⟩ e1 s3))
  have hH : killH (Dead E ops p st q r M) (st r).h = (st r).h := killH_none fun g _ => hnD g
  have hp0 := I.post σ (Choice.refl _ _)
  rw [hH] at hp0
  have hrow := Mid.rowRel hr I (Choice.refl _ _)
  obtain ⟨o', ho', hs⟩ := hr.step (pos i) i hat
  rw [ho] at ho'; cases ho'
  rw [hr2] at hs
  have hsee := fun t (ht : t ∈ o.looksAt ops) => Mid.sees hr I hst ho hi hS hni ht
  rw [hr2] at hsee
  obtain ⟨u, hu, hs2⟩ := same_stepV (T := (st r).T) (T' := Mid.row hr I) (h := (st r).h) (fun t ht => (hsee t ht).1.symm) hs
  obtain ⟨τ, w', v, u', hu', hrel, hpo, hsteps⟩ := oper_sound2 (a2 := Mid.act hr I) (s := ⟨Mid.row hr I, (st r).h⟩) hE hm hR ho (hp0.le.good.trans hG) hp0.inv hrow (fun t ht => (hsee t ht).2) hs2
  have hdst := hr.dst_of ho
  have hdne : ∀ j t, S j → dstAt ops j = some t → dstAt ops i ≠ some t := fun j t hj hd e => hni (by rw [hr.ok.dst i j t hi (I.lt j hj) e hd]; exact hj)
  have hown : ∀ b, (∀ g, alive (st r).h g → σ.phi g ≠ b) → ¬ Owned σ (st r).h b := fun b hb ⟨g, ag, eg⟩ => hb g ag eg
  have hval : ∀ d x, dstAt ops i = some d → (st ops.size).T[d]? = some x → Rel (szOf P) τ x v := fun d x hd hx => by
    rw [← hr.tdone hi hd (q := r + 1) (by omega) (by omega), hu] at hx
    rw [hdst] at hd
    rw [hd] at hx hu'
    have hxu := putV_at hx
    subst hxu
    have hlt : d < (st r).T.length := by have := list_lt hx; rwa [putV_length] at this
    have hlt' : d < (Mid.row hr I).length := by
      rw [hr.tlen r (by omega)] at hlt
      simpa [Mid.row, mixL_length] using hlt
    have e1 : (putV (Mid.row hr I) (some d) x)[d]? = some x := by simp [putV, setT_eq, hlt']
    have hu'' : putV (Mid.row hr I) (some d) x = putV (Mid.row hr I) (some d) u' := by
      have := hu'
      simpa [hd] using this
    rw [hu''] at e1
    rw [putV_at e1]
    exact hrel
  have eqr : ∀ y j, p.order[y]? = some j → S j → y ≠ r := fun y j hy hj e => by
    subst e
    rw [← hr2, hat] at hy; cases hy
    exact hni hj
  have main : ∃ r' M' σ', Mid P E ops p pos anc st σ0 w0 a0 (fun j => S j ∨ j = i) (r + 1) r' M' bO σ' w' (a.put (dstAt ops i) v) ∧ Steady E ops p st (fun j => S j ∨ j = i) M' r' := by
    refine Mid.stage hr (τ := τ) (by omega) (.inr ⟨i, hi, hc, by omega⟩) (fun j k hj ha => ?_) (fun j hj => ?_) (fun k hk hck => ?_) (fun x ob j s1 s2 s3 => ?_) (hp0.trans hpo) (fun t hd x y hx hy => ?_) (by rw [act_put_size]; exact I.size) (fun t ht => ?_) (by rw [act_put_defers]; exact I.dfs) (fun x ob j s1 s2 s3 s4 => ?_) (fun x x' ob ob' j j' s1 s2 s3 s4 s5 s6 s7 s8 s9 => ?_)
    · rcases hj with hj | rfl
      · exact .inl (I.clo j k hj ha)
      · exact .inl (hS k ha)
    · rcases hj with hj | rfl
      · exact I.lt j hj
      · exact hi
    · have hk2 := hr.ok.at' k hk
      constructor
      · rintro (hs | rfl)
        · have := (I.eff k hk hck).1 hs; omega
        · omega
      · intro hlt
        by_cases e : pos k = r
        · right
          rw [e, ← hr2, hat] at hk2
          cases hk2; rfl
        · left
          refine (I.eff k hk hck).2 ?_
          rcases Nat.lt_or_ge (pos k) q with h1 | h1
          · exact h1
          · exact (I.mid (pos k) k h1 (by omega) hk2 hck).elim
    · by_cases e : x = r
      · right
        subst e
        rw [← hr2, hat] at s2; cases s2; rfl
      · exact .inl (hall x ob j s1 s2 (by omega))
    · obtain ⟨y', j, d1, d2, d3, d4⟩ := hd
      rcases d2 with d2 | rfl
      · rw [act_put_ne (hdne j t d2 d3)] at hy
        refine (I.tmp σ (Choice.refl _ _) t ⟨y', j, d1, d2, d3, fun ob sl => ?_⟩ x y hx hy).mono hpo.le
        have h1 := d4 ob sl
        have h2 := eqr y' j d1 d2
        exact hst y' ob j sl d1 (by omega) d2
      · rw [d3] at hy
        rw [act_put_at hy]
        exact hval t x d3 hx
    · rw [act_put_ne (ht i (.inr rfl))]
      exact I.keep t fun j hj => ht j (.inl hj)
    · have hxr : pos j = x := (hr.at_lt s2).2.2
      have sj : S j := s3.resolve_right fun e => by subst e; omega
      have hnM : ¬ M x := fun hM => by have := I.mlt x hM; omega
      obtain ⟨o2, v', c1, c2, c3, c4, c5, c6, c7⟩ := I.pend x ob j s1 s2 sj hnM
      rw [hH] at c3
      have hno := hown _ c3
      have hb := heap_lt c1
      refine ⟨o2, v', by rw [hpo.wst.keep _ hb hno]; exact c1, c2, fun g ag e => hno (hpo.wst.own _ hb ⟨g, ag, e⟩), ?_, c5, fun d v'' hd hv'' => ?_, fun σ1 cc σ' w'' kn hw => ?_⟩
      · cases hF : τ.F (bO x) with
        | none => rfl
        | some arr =>
          rcases hpo.wst.fro _ arr hb hF with h1 | h1
          · rw [c4] at h1; cases h1
          · exact (hno h1).elim
      · rw [act_put_ne (hdne j d sj hd)] at hv''
        exact c6 d v'' hd hv''
      · exact c7 σ (Choice.refl _ _) σ' w'' ⟨fun y z hyz => kn.rel y z ((hyz.mono hpo.le).mono (cc.le fun _ _ h => h)), kn.n, kn.phi, kn.base, kn.cap, kn.ver⟩ hw
    · have h1 : pos j = x := (hr.at_lt s3).2.2
      have h2 : pos j' = x' := (hr.at_lt s4).2.2
      have sj : S j := s5.resolve_right fun e => by subst e; omega
      have sj' : S j' := s6.resolve_right fun e => by subst e; omega
      exact I.inj x x' ob ob' j j' s1 s2 s3 s4 sj sj' (fun hM => by have := I.mlt x hM; omega) (fun hM => by have := I.mlt x' hM; omega) s9
  obtain ⟨r', M', σ', I', hst'⟩ := main
  refine ⟨r + 1, r', M', bO, σ', w', _, I', hst', fun b rest k cs => ?_⟩
  rw [hdst]
  exact hsteps b rest k cs

/-- what is alive ahead of a place of the stage -/
theorem Mid.sub {x : Nat} (h1 : q ≤ x) (h2 : x ≤ r) (hM : ∀ y ob j, Sl E ops p st y ob → p.order[y]? = some j → q ≤ y → y < x → S j) : Sub (st x).h (killH (Dead E ops p st q r M) (st r).h) := by
  intro g o hg hd
  obtain ⟨l, hl⟩ := hr.pre (q := q) (x := x) (y := r) h1 h2 (r := r) (Nat.le_refl _) I.qr.2 I.mid
  have hlt := list_lt hg
  rw [killH_get, hl, List.getElem?_append_left hlt, hg, Option.map_some, if_neg]
  rintro ⟨y, ob, s1, s2, s3, s4, s5⟩
  have hyx : y < x := by
    rcases Nat.lt_or_ge y x with h' | h'
    · exact h'
    · obtain ⟨l', hl'⟩ := hr.pre (q := q) (x := x) (y := y) h1 h' (r := r) (by omega) I.qr.2 I.mid
      rw [s5, hl'] at hlt
      simp at hlt
      omega
  obtain ⟨j, e1, e2, e3⟩ := s1
  exact s4 (hst y ob j ⟨j, e1, e2, e3⟩ e1 s3 (hM y ob j ⟨j, e1, e2, e3⟩ e1 s2 hyx))

theorem Mid.next (hE : EnvOk P E) (hm : methOk P E) {G : FuncId → Code → Code → Prop} (hR : CallOk P G R.call) (hG : σ0.good = G) {i : Nat} (hi : i < ops.size) (hS : ∀ j, anc i j → S j) (hni : ¬ S i) :
    ∃ q' r' M' bO' σ' w' a', Mid P E ops p pos anc st σ0 w0 a0 (fun j => S j ∨ j = i) q' r' M' bO' σ' w' a' ∧ Steady E ops p st (fun j => S j ∨ j = i) M' r' ∧
      ∀ (b : Frame) (rest : List Nat) (k : List Item) (cs : List Frame), Steps P (lone (b.atR a (.inRegion ops (i :: rest) :: k)) cs w) (lone (b.atR a' (.inRegion ops rest :: k)) cs w') := by
  have hat := hr.ok.at' i hi
  have hpn := (hr.at_lt hat).1
  obtain ⟨o, ho, hs⟩ := hr.step (pos i) i hat
  have hdst := hr.dst_of ho
  have hclo := hr.cl_of ho
  by_cases hc : clAt E ops i = .eff
  · exact Mid.effect hr I hst hE hm hR hG ho hi hS hni hc
  have hsee := fun t (ht : t ∈ o.looksAt ops) => Mid.sees hr I hst ho hi hS hni ht
  have hrow := Mid.rowRel hr I (Choice.refl _ _)
  have hwm : Region.wanted o (yielded ops a.tmps) = wantedV ops.toList (st (pos i)).T o := by
    rw [same_wanted (a2 := Mid.act hr I) fun t ht => (hsee t ht).2, ← wanted_rel hrow, same_wantedV fun t ht => (hsee t ht).1]
  unfold stepV at hs
  split at hs
  · rename_i hw
    rw [hw] at hwm
    split at hs
    · rename_i hcall
      exfalso
      rw [hclo] at hc
      revert hc hcall
      cases o.op with
      | call c => obtain ⟨f, args, ts⟩ := c; cases f <;> simp [isCall, clsOp]
      | _ => simp [isCall]
    · split at hs
      · rename_i u h1 hop
        simp only [Option.some.injEq] at hs
        have hT : (st (pos i + 1)).T = putV (st (pos i)).T o.dst u := by rw [← hs]
        have hh : (st (pos i + 1)).h = h1 := by rw [← hs]
        have hop' : opV E (Mid.row hr I) (st (pos i)).h o.op = some (u, h1) := by rw [← hop]; exact same_opV fun t ht => (hsee t ht).1
        have hns : ∀ cs b, o.op ≠ .select cs b := fun cs b e => by rw [e] at hop; simp [opV] at hop
        have hnd : ∀ c, o.op ≠ .defer c := fun c e => by rw [e] at hop; simp [opV] at hop
        have hx := same_execOp (a := a) (a2 := Mid.act hr I) (fun t ht => (hsee t ht).2) hns
        have hval : ∀ d x, dstAt ops i = some d → (st ops.size).T[d]? = some x → x = u := fun d x hd hx => by
          rw [← hr.tdone hi hd (q := pos i + 1) (by omega) (by omega), hT] at hx
          rw [hdst] at hd
          rw [hd] at hx
          exact putV_at hx
        by_cases hal : clsOp E o.op = .alloc
        · -- an object more
          obtain ⟨ob, e1, o', w', v, hob, hrun, hheap, hos, kk⟩ := op_allocDone (w := w) hE hrow hal hop'
          have sl : Sl E ops p st (pos i) ob := ⟨i, hat, hclo.trans hal, by rw [hh]; exact e1⟩
          have hv : ∀ σ1, Choice (Dead E ops p st q r M) σ σ1 → ∀ σ' w'', Knows P σ1 σ' (st (pos i)).h.length w.heap.size (verOf ob) (capOf v) → w''.heap[w.heap.size]? = some o' → RelOb (szOf P) σ' w'' (st (pos i)).h.length ob ∧ ∀ d u, dstAt ops i = some d → (st ops.size).T[d]? = some u → Rel (szOf P) σ' u v := fun σ1 c σ' w'' kn hw'' => by
            obtain ⟨ob1, f1, o1, w1, v1, g1, g2, g3, g4, g5⟩ := op_allocDone (w := w) hE (Mid.rowRel hr I c) hal hop'
            have : ob1 = ob := by
              rw [f1] at e1
              have := List.append_cancel_left e1
              simpa using this
            subst this
            rw [hrun] at g2
            simp only [Result.ok.injEq, Next.value.injEq] at g2
            obtain ⟨rfl, rfl⟩ := g2
            rw [hheap] at g3
            have : o1 = o' := by
              have := congrArg (fun (x : Array Obj) => x[w.heap.size]?) g3
              simp only [Array.getElem?_push_size, Option.some.injEq] at this
              exact this.symm
            subst this
            obtain ⟨k1, k2⟩ := g5 σ' w'' kn hw''
            exact ⟨k1, fun d x hd hx => by rw [hval d x hd hx]; exact k2⟩
          obtain ⟨bO', I2, hMx⟩ := Mid.alloc hr I hat hS hni sl hob hheap hos hv
          have hsteps : ∀ (b : Frame) (rest : List Nat) (k : List Item) (cs : List Frame), Steps P (lone (b.atR a (.inRegion ops (i :: rest) :: k)) cs w) (lone (b.atR (a.put (dstAt ops i) v) (.inRegion ops rest :: k)) cs w') := fun b rest k cs => by
            rw [hdst]
            exact step_value ho hwm hnd (by rw [hx]; exact hrun) b rest k cs
          rcases Nat.lt_or_ge (pos i) r with hlt | hge
          · have hq : q ≤ pos i := by
              rcases Nat.lt_or_ge (pos i) q with h | h
              · exact (hMx (I.mq (pos i) ob sl h)).elim
              · exact h
            obtain ⟨σ2, I3⟩ := I2.adopt hr sl hat (.inr rfl) hMx hq hlt
            refine ⟨q, r, _, bO', σ2, w', _, I3, fun y ob' j s1 s2 s3 s4 => ?_, hsteps⟩
            rcases s4 with s4 | rfl
            · exact .inl (hst y ob' j s1 s2 s3 s4)
            · exact .inr ((hr.at_lt s2).2.2).symm
          · refine ⟨q, r, M, bO', σ, w', _, I2, fun y ob' j s1 s2 s3 s4 => ?_, hsteps⟩
            rcases s4 with s4 | rfl
            · exact hst y ob' j s1 s2 s3 s4
            · have := (hr.at_lt s2).2.2; omega
        · -- nothing changes
          have hpr : clsOp E o.op = .pure ∨ clsOp E o.op = .read := by
            rw [hclo] at hc
            cases hk : clsOp E o.op with
            | pure => exact .inl rfl
            | read => exact .inr rfl
            | alloc => exact (hal hk).elim
            | eff => exact (hc hk).elim
          have hsl : ∀ ob, ¬ Sl E ops p st (pos i) ob := fun ob ⟨j, e1, e2, _⟩ => by
            rw [hat] at e1; cases e1
            rw [hclo] at e2
            exact hal e2
          have claim : ∃ u', opV E (Mid.row hr I) (killH (Dead E ops p st q r M) (st r).h) o.op = some (u', killH (Dead E ops p st q r M) (st r).h) ∧ ∀ d x, dstAt ops i = some d → (st ops.size).T[d]? = some x → x = u' := by
            rcases hpr with hk | hk
            · exact ⟨u, (opV_pure hk hop' _).2, hval⟩
            · have hcl : clAt E ops i = .read := hclo.trans hk
              rcases hr.ok.win i q hi hcl I.start with ⟨hq, hno⟩ | ⟨k, k1, k2, k3, k4⟩ | ⟨k, k1, k2, k3, k4⟩ | ⟨hmem, hall⟩
              · have hxr : pos i < r := by
                  rcases Nat.lt_or_ge (pos i) r with h' | h'
                  · exact h'
                  · exfalso
                    rcases I.stop with e | ⟨k, hk', hck⟩
                    · omega
                    · obtain ⟨_, k2, k3⟩ := hr.at_lt hk'
                      have hne : pos i ≠ r := fun e => by
                        rw [e, hk'] at hat; cases hat
                        rw [hck] at hcl; cases hcl
                      exact hno k k2 hck (by have := I.qr.1; omega) (by omega)
                have hsub := Mid.sub hr I hst hq (by omega) fun y ob j s1 s2 s3 s4 => by
                  obtain ⟨_, j2, j3⟩ := hr.at_lt s2
                  obtain ⟨j', e1, e2, _⟩ := s1
                  rw [s2] at e1; cases e1
                  exact hS j (hr.ok.own i j hi j2 hcl e2 (by omega) fun k k1 k2 k3 k4 => hno k k1 k2 (by omega) k4)
                exact ⟨u, (opV_read hk hop' hsub).2, hval⟩
              · exact (hni (I.clo k i ((I.eff k k1 k2).2 k3) k4)).elim
              · have := (I.eff k k1 k2).1 (hS k k4)
                omega
              · obtain ⟨o2, hp, g1, g2, g3⟩ := hr.look i q hmem
                rw [ho] at g1; cases g1
                have hqn : q ≤ ops.size := by have := I.qr; omega
                rw [g2 hqn] at g3
                have hwn : wantedV ops.toList (st ops.size).T o = true := by rw [← hw]; exact same_wantedV fun t ht => (Mid.stays hr I hi hall ho ht).symm
                obtain ⟨v', h2, g4, g5⟩ := g3 hwn
                have g4' : opV E (Mid.row hr I) (st q).h o.op = some (v', h2) := by
                  rw [← g4]
                  exact same_opV fun t ht => (hsee t ht).1.trans (Mid.stays hr I hi hall ho ht)
                have hsub := Mid.sub hr I hst (Nat.le_refl q) I.qr.1 fun y ob j s1 s2 s3 s4 => by omega
                exact ⟨v', (opV_read hk g4' hsub).2, fun d x hd hx => (g5 d x (by rw [← hdst]; exact hd) hx).symm⟩
          obtain ⟨u', hop2, hval2⟩ := claim
          obtain ⟨_, v, hrun, _⟩ := op_pureDone hE hm (I.post σ (Choice.refl _ _)).inv hrow hpr hop2
          have I2 := Mid.plain hr I hat hS hni hc hsl (v := v) fun σ' c d x hd hx => by
            obtain ⟨_, v1, hrun1, hrel1⟩ := op_pureDone hE hm (I.post σ' c).inv (Mid.rowRel hr I c) hpr hop2
            rw [hrun] at hrun1
            simp only [Result.ok.injEq, Next.value.injEq, and_true] at hrun1
            subst hrun1
            rw [hval2 d x hd hx]
            exact hrel1
          refine ⟨q, r, M, bO, σ, w, _, I2, Steady.plain hr I hst hat hsl, fun b rest k cs => ?_⟩
          rw [hdst]
          exact step_value ho hwm hnd (by rw [hx]; exact hrun) b rest k cs
      · cases hs
  · rename_i hw
    have hw' : wantedV ops.toList (st (pos i)).T o = false := by simpa using hw
    rw [hw'] at hwm
    simp only [Option.some.injEq] at hs
    have hsl : ∀ ob, ¬ Sl E ops p st (pos i) ob := fun ob ⟨j, e1, e2, e3⟩ => by
      rw [← hs] at e3
      have := congrArg List.length e3
      simp at this
    have I2 := Mid.plain hr I hat hS hni hc hsl (v := undef) fun σ' c d x hd hx => by
      rw [← hr.tdone hi hd (q := pos i + 1) (by omega) (by omega), ← hs] at hx
      rw [hdst] at hd
      rw [hd] at hx
      rw [putV_at hx]
      exact undef_rel _ _
    refine ⟨q, r, M, bO, σ, w, _, I2, Steady.plain hr I hst hat hsl, fun b rest k cs => Steps.one ?_⟩
    exact stepR_op_skip (by rw [ho]; simpa using hwm)

end

/-- any schedule comes to what the plan comes to -/
theorem Mid.run (hr : Run P E R ops p pos anc rank st σ0 w0 a0) (hE : EnvOk P E) (hm : methOk P E) {G : FuncId → Code → Code → Prop} (hR : CallOk P G R.call) (hG : σ0.good = G) {md : Region.Mode} (hmd : md = .any ∨ Region.departs ops = true) :
    ∀ (l : List Nat) (ls : Array Bool), Sched md ops ls l → ls.size = ops.size → ∀ (q r : Nat) (M : Nat → Prop) (bO : Nat → Nat) (σ : Gh) (w : World) (a : Act), Mid P E ops p pos anc st σ0 w0 a0 (fun j => ls.getD j false = true) q r M bO σ w a → Steady E ops p st (fun j => ls.getD j false = true) M r →
    ∃ τ w' a', Post (szOf P) σ0 (st 0).h w0 τ (st ops.size).h w' ∧ RelA (szOf P) τ (st ops.size).T a'.tmps ∧ a'.defers = a0.defers ∧
      ∀ (b : Frame) (k : List Item) (cs : List Frame), Steps P (lone (b.atR a (.inRegion ops l :: k)) cs w) (lone (b.atR a' k) cs w') := by
  intro l
  induction l with
  | nil =>
    intro ls hs hsz q r M bO σ w a I hst
    have hnil : Region.ready md ops ls = [] := by cases hs; assumption
    have hall : ∀ m i, rank md i < m → i < ops.size → ls.getD i false = true := by
      intro m
      induction m with
      | zero => intro i h; omega
      | succ m ih =>
        intro i h hi
        by_cases hc : ls.getD i false = true
        · exact hc
        · exfalso
          have hmem : i ∈ Region.ready md ops ls := by
            refine mem_ready.2 ⟨?_, ops[i], Array.getElem?_eq_getElem hi, fun e he hb => ?_⟩
            · rw [getD_any true false (by omega)]; simpa using hc
            · obtain ⟨e1, e2⟩ := hr.ok.edge md hmd i e hi (by simp [afterOf, hi]; exact he) hb
              exact ih e.on (by omega) e1
          rw [hnil] at hmem
          cases hmem
    have hS : ∀ i, i < ops.size → ls.getD i false = true := fun i hi => hall (rank md i + 1) i (by omega) hi
    have hrn : r = ops.size := by
      rcases I.stop with e | ⟨k, hk, hc⟩
      · exact e
      · obtain ⟨_, k2, k3⟩ := hr.at_lt hk
        have := (I.eff k k2 hc).1 (hS k k2)
        have := I.qr.1
        omega
    have hnD : ∀ g, ¬ Dead E ops p st q r M g := fun g ⟨x, ob, s1, s2, s3, s4, s5⟩ => by
      obtain ⟨j, e1, e2, e3⟩ := s1
      exact s4 (hst x ob j ⟨j, e1, e2, e3⟩ e1 s3 (hS j (hr.at_lt e1).2.1))
    have hp := I.post σ (Choice.refl _ _)
    rw [killH_none fun g _ => hnD g, hrn] at hp
    refine ⟨σ, w, a, hp, ⟨by rw [I.size, hr.rel.1, hr.tlen _ (Nat.le_refl _)], fun t u v hu hv => ?_⟩, I.dfs, fun b k cs => Steps.one stepR_region_end⟩
    by_cases hj : ∃ j, j < ops.size ∧ dstAt ops j = some t
    · obtain ⟨j, hj, hd⟩ := hj
      have hat := hr.ok.at' j hj
      exact I.tmp σ (Choice.refl _ _) t ⟨pos j, j, hat, hS j hj, hd, fun ob sl => hst (pos j) ob j sl hat (by rw [hrn]; exact (hr.at_lt hat).1) (hS j hj)⟩ u v hu hv
    · have hno : ∀ j, j < ops.size → dstAt ops j ≠ some t := fun j h1 h2 => hj ⟨j, h1, h2⟩
      rw [hr.tinit (q := ops.size) (Nat.le_refl _) fun j h _ => hno j h] at hu
      rw [I.keep t fun j hj => hno j (I.lt j hj)] at hv
      exact (hr.rel.2 t u v hu hv).mono hp.le
  | cons i l ih =>
    intro ls hs hsz q r M bO σ w a I hst
    cases hs with
    | cons _ _ _ hmem hs' =>
      obtain ⟨h1, o, ho, h2⟩ := mem_ready.1 hmem
      have hi := (Array.getElem?_eq_some_iff.1 ho).1
      have hni : ¬ ls.getD i false = true := by rw [getD_any false true (by omega), h1]; simp
      have hSr : ∀ j, anc i j → ls.getD j false = true := fun j ha => by
        obtain ⟨e, e1, e2, e3⟩ := hr.ok.ancs i j hi ha
        have e4 : ls.getD e.on false = true := h2 e (by simpa [afterOf, ho] using e1) (binds_of_any e2)
        rcases e3 with rfl | e3
        · exact e4
        · exact I.clo e.on j e4 e3
      obtain ⟨q', r', M', bO', σ', w', a', I', hst', hsteps⟩ := Mid.next hr I hst hE hm hR hG hi hSr hni
      have hS' : (fun j => ls.getD j false = true ∨ j = i) = fun j => (ls.setIfInBounds i true).getD j false = true := by
        funext j
        by_cases e : i = j
        · subst e
          rw [getD_set_same false (by omega)]; simp
        · rw [getD_set_ne false e]
          have : j ≠ i := fun e' => e e'.symm
          simp [this]
      rw [hS'] at I' hst'
      obtain ⟨τ, w2, a2, p1, p2, p3, p4⟩ := ih _ hs' (by simpa using hsz) q' r' M' bO' σ' w' a' I' hst'
      exact ⟨τ, w2, a2, p1, p2, p3, fun b k cs => Steps.trans (hsteps b l k cs) (p4 b k cs)⟩

theorem draw_ok (hE : EnvOk P E) (hm : methOk P E) (ok : PlanOk E ops p pos anc rank) : DrawOk P E ops p := by
  intro G R hR t σ w a s s' hG inv rel hd
  unfold drawV at hd
  split at hd
  · rename_i s1 hs hrun
    split at hd
    · rename_i hl
      cases hd
      obtain ⟨st, e1, e2, e3, e4⟩ := runPlan_trace p.order s [s.h] s' hs hrun
      rw [ok.len] at e2 e4
      have hr : Run P E R ops p pos anc rank st σ w a := by
        refine ⟨ok, fun q i hq => ?_, fun i q hm => ?_, by rw [e1]; exact inv, by rw [e1]; exact rel⟩
        · obtain ⟨o, ho, hs⟩ := e3 q i hq
          exact ⟨o, by simpa using ho, hs⟩
        · obtain ⟨o, hp, g1, g2, g3⟩ := looksV_mem hl hm
          refine ⟨o, hp, by simpa using g1, fun hq => ?_, by rw [e2]; exact g3⟩
          rw [e4, List.reverse_append, List.reverse_reverse] at g2
          cases q with
          | zero => simp at g2; rw [e1]; exact g2.symm
          | succ q =>
            simp only [List.reverse_cons, List.reverse_nil, List.nil_append, List.singleton_append, List.getElem?_cons_succ, List.getElem?_map] at g2
            rw [List.getElem?_range (by omega)] at g2
            simpa using g2.symm
      obtain ⟨md, hsch, hmd⟩ := schedule_sched (P.follows .mixedOrders) ops t
      have hz : ∀ j, ¬ (Array.replicate ops.size false).getD j false = true := fun j => by
        simp [Array.getD]
      obtain ⟨r, M, σ', I, hst⟩ := Mid.stage hr (S := fun j => (Array.replicate ops.size false).getD j false = true) (q := 0) (bO := fun _ => 0) (τ := σ) (w := w) (a := a) (Nat.zero_le _) (.inl rfl) (fun i j h => (hz i h).elim) (fun i h => (hz i h).elim)
        (fun k _ _ => ⟨fun h => (hz k h).elim, fun h => by omega⟩) (fun x ob i _ _ h => by omega) (by rw [e1]; exact Post.refl inv) (fun t ⟨x, i, _, h, _⟩ => (hz i h).elim) rfl (fun t _ => rfl) rfl (fun x ob i _ _ h => (hz i h).elim) (fun x x' ob ob' i i' _ _ _ _ h => (hz i h).elim)
      obtain ⟨τ, w', a', p1, p2, p3, p4⟩ := Mid.run hr hE hm hR hG hmd _ _ hsch (by simp) 0 r M _ σ' w a I hst
      rw [e1, e2] at p1
      rw [e2] at p2
      exact ⟨τ, w', a', p1, p2, p3, p4⟩
    · cases hd
  · cases hd

end Go.AM
