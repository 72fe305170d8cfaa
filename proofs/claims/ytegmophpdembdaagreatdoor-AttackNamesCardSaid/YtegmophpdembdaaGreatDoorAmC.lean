/- The abstract machine: operations, second part: each one is what the model does. -/
import Derived.Test.YtegmophpdembdaaGreatDoorAmB
import Derived.ChangeKeysEq
import Derived.MapKept
import Derived.WideKeyRuns
/- AM: the builtins. -/
namespace Go.AM
variable {P : Program} {E : Env} {σ : Gh} {w : World} {h h' : Heap} {T : List V} {a : Act} {u : V}

theorem firstCells_all {n : Nat} {base : Option Addr} {l : List V} (rd : Reads (szOf P) σ w n base l) (k cap m : Nat) (hm : m ≤ l.length) :
    ∃ ys, (∀ w' : World, w'.heap = w.heap → (Builtin.firstCells n m (.slice base k cap)).run P w' = .ok ys w') ∧ RelF (szOf P) σ n (l.take m) ys := by
  have hb : l = [] → base = none ∨ ∃ ad, base = some ad := fun _ => by cases base <;> simp
  obtain ⟨ys, h1, h2⟩ := firstCells_run rd k cap m hm hb
  refine ⟨ys, fun w' e => ?_, h2⟩
  rcases rd with rfl | ⟨b, o, arr, Te, fr, rfl, q1, q2, q3⟩
  · have : m = 0 := by simpa using hm
    subst this
    rcases hb rfl with rfl | ⟨ad, rfl⟩
    · simp [Builtin.firstCells] at h1 ⊢; exact h1
    · simp [Builtin.firstCells, loadCells, loadCellsFrom] at h1 ⊢; exact h1
  · have hle : m * n ≤ l.length * n := Nat.mul_le_mul_right _ hm
    have e1 := run_loadCells_am P (w := w) (b := b) (o := o) (n := m * n) q1 (by omega)
    have e2 := run_loadCells_am P (w := w') (b := b) (o := o) (n := m * n) (by rw [e]; exact q1) (by omega)
    simp only [Builtin.firstCells] at h1 ⊢
    rw [e1] at h1; cases h1; exact e2

/-- a string's first bytes -/
theorem firstCells_str (P : Program) (s : ByteArray) (n m : Nat) (hn : n = 1) (hm : m ≤ s.size) : ∃ ys, (∀ w' : World, (Builtin.firstCells n m (.string s)).run P w' = .ok ys w') ∧ RelF (szOf P) σ n (bytesOut ((bytesOf s).take m)) ys := by
  refine ⟨(s.extract 0 m).data.map fun (b : UInt8) => Value.int .u8 b.toNat, fun w' => by simp [Builtin.firstCells], ?_⟩
  have := bytesOut_relF (s := s.extract 0 m) (sz := szOf P) (σ := σ) n hn
  rw [bytesOf_extract] at this
  simpa using this

section
variable (hE : EnvOk P E) (inv : Inv (szOf P) σ w h) (r : RelA (szOf P) σ T a.tmps)
include hE inv r

/-- the run of a builtin -/
theorem run_builtin {o : Oper} {b : Builtin} {args : Array Operand} {ts : Array TypeId} (ho : o.op = .call ⟨.builtin b, args, ts⟩) :
    ∃ cs, (execOp a.eval o).run P w = (builtin b ts o.type cs (args.map a.eval)).run P w := by
  have _ := hE
  have _ := inv
  have _ := r
  simp only [execOp, ho, resolve]
  exact ⟨_, rfl⟩

theorem args1 {args : Array Operand} {x : V} (he : evalVs T args.toList = some [x]) : ∃ v, args.map a.eval = #[v] ∧ Rel (szOf P) σ x v := by
  have _ := hE
  have _ := inv
  have rr := evalVs_rel r he
  have hs : (args.map a.eval).size = 1 := by have := rr.1; simpa using this
  obtain ⟨v, hv⟩ : ∃ v, args.map a.eval = #[v] := Array.size_eq_one_iff.1 hs
  refine ⟨v, hv, ?_⟩
  have e1 : (args.toList.map a.eval).toArray = #[v] := by rw [← List.map_toArray]; exact hv
  rw [e1] at rr
  exact rr.2 0 x v rfl rfl

theorem args2 {args : Array Operand} {x y : V} (he : evalVs T args.toList = some [x, y]) : ∃ v z, args.map a.eval = #[v, z] ∧ Rel (szOf P) σ x v ∧ Rel (szOf P) σ y z := by
  have _ := hE
  have _ := inv
  have rr := evalVs_rel r he
  have hs : (args.map a.eval).size = 2 := by have := rr.1; simpa using this
  obtain ⟨v, z, hv⟩ : ∃ v z, args.map a.eval = #[v, z] := by
    generalize args.map a.eval = ar at hs
    obtain ⟨l⟩ := ar
    match l, hs with
    | [v, z], _ => exact ⟨v, z, rfl⟩
  have e1 : (args.toList.map a.eval).toArray = #[v, z] := by rw [← List.map_toArray]; exact hv
  rw [e1] at rr
  exact ⟨v, z, hv, rr.2 0 x v rfl rfl, rr.2 1 y z rfl rfl⟩

theorem op_len {o : Oper} {args : Array Operand} {ts : Array TypeId} (ho : o.op = .call ⟨.builtin .len, args, ts⟩) {x : V} (he : evalVs T args.toList = some [x]) (hv : builtinV E h .len ts [x] = some (u, h')) : PureDone P σ h w (execOp a.eval o) u h' := by
  obtain ⟨cs, hrun⟩ := run_builtin hE inv r ho (P := P)
  obtain ⟨v, hargs, rx⟩ := args1 hE inv r he
  rw [hargs] at hrun
  simp only [builtinV] at hv
  split at hv
  · rename_i i hi
    simp only [Option.bind_eq_some_iff] at hi
    obtain ⟨t, ht0, hti⟩ := hi
    have htk := (hE.ti t i hti).kind
    have fin : ∀ (n : Nat), (Builtin.len_ ts o.type #[v]).run P w = .ok (.int .i64 (n : Int)) w → u = .int .i64 (n : Int) → h' = h → PureDone P σ h w (execOp a.eval o) u h' := fun n h1 h2 h3 => by
      subst h2 h3
      exact PureDone.pureV inv (v := .int .i64 (n : Int)) (by rw [hrun]; simp [builtin, h1]) (.int _ _)
    split at hv
    · rename_i s hk; rw [hk] at htk; cases hv; cases rx with
      | str bs => exact fin bs.size (by simp [Builtin.len_, ht0, run_underlying htk, goInt]) (by rw [bytesOf_len]) rfl
    · rename_i k T' l hk; rw [hk] at htk; cases hv; cases rx with
      | nilslice => exact fin 0 (by simp [Builtin.len_, ht0, run_underlying htk, goInt]) (by simp) rfl
      | slice => exact fin l.length (by simp [Builtin.len_, ht0, run_underlying htk, goInt]) rfl rfl
    · rename_i g ver T' off len clip hk; rw [hk] at htk; cases hv; cases rx with
      | mslice => exact fin len (by simp [Builtin.len_, ht0, run_underlying htk, goInt]) rfl rfl
    · rename_i g T' off len cap hk; rw [hk] at htk; cases hv; cases rx with
      | cslice => exact fin len (by simp [Builtin.len_, ht0, run_underlying htk, goInt]) rfl rfl
    · rename_i hk; rw [hk] at htk; cases hv; cases rx with
      | nilmap => exact fin 0 (by simp [Builtin.len_, ht0, run_underlying htk, goInt]) (by simp) rfl
    · rename_i g hk; rw [hk] at htk
      split at hv
      · rename_i es cl hg
        cases hv
        cases rx with
        | map =>
          obtain ⟨_, es', b1, b2, _⟩ := inv.ob g _ hg
          exact fin es.length (by simp [Builtin.len_, ht0, run_underlying htk, goInt, getObj, Sem.run, b1, b2]) rfl rfl
      · cases hv
    · rename_i n e hk; rw [hk] at htk; cases hv
      exact fin n (by simp [Builtin.len_, ht0, run_underlying htk, goInt]) rfl rfl
    · rename_i e hk; rw [hk] at htk
      split at hv
      · rename_i j hj
        have hjk := (hE.ti e j hj).kind
        split at hv
        · rename_i n e' hk'
          rw [hk'] at hjk
          cases hv
          exact fin n (by simp [Builtin.len_, ht0, run_underlying htk, run_underlying hjk, goInt]) rfl rfl
        · cases hv
      · cases hv
    · cases hv
  · cases hv

theorem op_cap {o : Oper} {args : Array Operand} {ts : Array TypeId} (ho : o.op = .call ⟨.builtin .cap, args, ts⟩) {x : V} (he : evalVs T args.toList = some [x]) (hv : builtinV E h .cap ts [x] = some (u, h')) : PureDone P σ h w (execOp a.eval o) u h' := by
  obtain ⟨cs, hrun⟩ := run_builtin hE inv r ho (P := P)
  obtain ⟨v, hargs, rx⟩ := args1 hE inv r he
  rw [hargs] at hrun
  cases x <;> simp only [builtinV] at hv <;> try (cases hv; done)
  rename_i g T' off len cap
  split at hv
  · rename_i i hi
    simp only [Option.bind_eq_some_iff] at hi
    obtain ⟨t, ht0, hti⟩ := hi
    have htk := (hE.ti t i hti).kind
    split at hv
    · rename_i e hk
      rw [hk] at htk
      cases hv
      cases rx with
      | cslice => exact PureDone.pureV inv (v := .int .i64 (cap : Int)) (by rw [hrun]; simp [builtin, Builtin.cap_, ht0, run_underlying htk, goInt]) (.int _ _)
    · cases hv
  · cases hv

theorem op_append {o : Oper} {args : Array Operand} {ts : Array TypeId} (ho : o.op = .call ⟨.builtin .append, args, ts⟩) {s x : V} (he : evalVs T args.toList = some [s, x]) (hv : builtinV E h .append ts [s, x] = some (u, h')) : OpDone P σ h w (execOp a.eval o) u h' := by
  obtain ⟨cs, hrun⟩ := run_builtin hE inv r ho (P := P)
  obtain ⟨sv, xv, hargs, rs, rx⟩ := args2 hE inv r he
  rw [hargs] at hrun
  simp only [builtinV] at hv
  split at hv
  · cases hv
  rename_i hc1
  split at hv
  · rename_i i hi
    simp only [Option.bind_eq_some_iff] at hi
    obtain ⟨t0, ht0, hti⟩ := hi
    have htk := (hE.ti t0 i hti).kind
    split at hv
    · rename_i e hk
      rw [hk] at htk
      split at hv
      · rename_i j hj
        split at hv
        · cases hv
        rename_i hc2
        simp only [Bool.or_eq_true, decide_eq_true_eq, not_or] at hc2
        have htj := hE.ti e j hj
        have hAT : AppT P ts e j := by
          refine ⟨⟨t0, ht0, htk⟩, ?_, htj⟩
          simp only [Bool.not_eq_true', Bool.not_eq_false, Option.any_eq_true, Option.bind_eq_some_iff] at hc1
          obtain ⟨i1, ⟨t1, ht1, hti1⟩, hk1⟩ := hc1
          have hk1' := (hE.ti t1 i1 hti1).kind
          cases hkk : i1.kind <;> simp only [hkk] at hk1 <;> try (cases hk1; done)
          · rw [hkk] at hk1'; exact ⟨t1, _, ht1, hk1', fun k => by simp⟩
          · rw [hkk] at hk1'; exact ⟨t1, _, ht1, hk1', fun k => by simp⟩
        have fin : ∀ xs, Src P σ w j.size xs xv → appendV h e s xs j.bytes = some (u, h') → OpDone P σ h w (execOp a.eval o) u h' := fun xs hsrc happ => by
          obtain ⟨τ, w', v, q1, q2, q3⟩ := appendV_rel (ty := o.type) inv hAT (by omega) (by omega) rs hsrc happ
          exact ⟨τ, w', q2, .inl ⟨v, by rw [hrun]; simp [builtin, q1], q3⟩⟩
        have hse : szOf P e = j.size := htj.size
        split at hv
        · rename_i bs
          split at hv
          · rename_i hkj
            cases rx with
            | str b =>
              split at hv
              · rename_i hone
                have e1 : (bytesOut (bytesOf b)).length = b.size := by simp [bytesOut, bytesOf_len]
                refine fin _ ⟨fun w => by rw [e1]; exact lenOf_run _ _ (.inr ⟨b, rfl, rfl⟩) w, ?_⟩ hv
                obtain ⟨ys, y1, y2⟩ := firstCells_str (σ := σ) P b j.size b.size hone (Nat.le_refl _)
                rw [List.take_of_length_le (by rw [bytesOf_len]; exact Nat.le_refl _)] at y2
                exact ⟨ys, fun w' _ => by rw [e1]; exact y1 w', y2⟩
              · cases hv
          · cases hv
        · rename_i hns
          split at hv
          · rename_i xs Tx hx hTx
            split at hv
            · rename_i hcT
              have hsrc : Src P σ w j.size xs xv := by
                rcases Decidable.em (xs = []) with rfl | hne
                · obtain ⟨base, cap, rfl⟩ := slice_empty rx hx inv
                  have rd : Reads (szOf P) σ w j.size base [] := .inl rfl
                  obtain ⟨ys, y1, y2⟩ := firstCells_all rd 0 cap 0 (Nat.le_refl _)
                  exact ⟨fun w => lenOf_run _ _ (.inl ⟨base, cap, rfl⟩) w, ys, y1, y2⟩
                · have hTe : Tx = e := by
                    simp only [Bool.or_eq_true, decide_eq_true_eq] at hcT
                    rcases hcT with h1 | h1
                    · exact h1
                    · exact absurd (by simpa using h1) hne
                  subst hTe
                  obtain ⟨base, cap, rfl, rd⟩ := elems_rel inv rx hx hTx (by omega)
                  rw [hse] at rd
                  obtain ⟨ys, y1, y2⟩ := firstCells_all rd xs.length cap xs.length (Nat.le_refl _)
                  rw [List.take_length] at y2
                  exact ⟨fun w => lenOf_run _ _ (.inl ⟨base, cap, rfl⟩) w, ys, y1, y2⟩
              have happ : appendV h e s xs j.bytes = some (u, h') := by
                split at hv
                · split at hv
                  · split at hv
                    · rename_i heq
                      split at hv
                      · rw [heq, hv]
                      · cases hv
                    · cases hv
                  · exact hv
                · exact hv
              exact fin xs hsrc happ
            · cases hv
          · cases hv
      · cases hv
    · cases hv
  · cases hv

end
end Go.AM

/- AM: copy, clear, min, max. -/
namespace Go.AM
variable {P : Program} {E : Env} {σ : Gh} {w : World} {h h' : Heap} {T : List V} {a : Act} {u : V}

theorem RelF.size_nil {sz : TypeId → Nat} {n : Nat} {ys : Array Value} (r : RelF sz σ n [] ys) : ys = #[] := by
  have := r.1; simp at this; exact this

theorem slice_any {sz : TypeId → Nat} {d : V} {dv : Value} (r : Rel sz σ d dv) (hd : isSliceV d = true) : ∃ base len cap, dv = .slice base len cap ∧ lenV d = some len := by
  cases r with
  | nilslice T' => exact ⟨none, 0, 0, rfl, rfl⟩
  | slice k T' l b o cap => exact ⟨_, _, cap, rfl, rfl⟩
  | mslice g ver T' off len clip ad cap => exact ⟨_, len, cap, rfl, rfl⟩
  | cslice g T' off len cap ad => exact ⟨_, len, cap, rfl, rfl⟩
  | _ => simp [isSliceV] at hd

theorem copyTo_rel (inv : Inv (szOf P) σ w h) {e : TypeId} {d : V} {dv : Value} (rd : Rel (szOf P) σ d dv) {xs : List V} {ys : Array Value} (ry : RelF (szOf P) σ (szOf P e) xs ys) (hpos : 0 < szOf P e)
    (hc : copyTo h e d xs = some h') : ∃ base len cap, dv = .slice base len cap ∧ lenV d = some len ∧ ∃ w', (match base with | some ad => storeCells ad ys.toList | none => (pure () : Sem Unit)).run P w = .ok () w' ∧ Post (szOf P) σ h w σ h' w' := by
  unfold copyTo at hc
  split at hc
  · rename_i hemp
    have hx : xs = [] := by simpa using hemp
    subst hx
    have hy := ry.size_nil
    subst hy
    have key : isSliceV d = true ∧ h' = h := by
      split at hc
      · rename_i hd; cases hc; exact ⟨hd, rfl⟩
      · cases hc
    obtain ⟨kd, rfl⟩ := key
    obtain ⟨base, len, cap, rfl, hl⟩ := slice_any rd kd
    refine ⟨base, len, cap, rfl, hl, w, ?_, Post.refl inv⟩
    cases base <;> simp [storeCells]
  · rename_i hne
    have hn : 0 < xs.length := by
      rcases Nat.eq_zero_or_pos xs.length with h0 | h0
      · exact absurd (by simpa using h0) hne
      · exact h0
    split at hc
    · rename_i g ver T' off len clip
      split at hc
      · rename_i T'' ver' l hg
        split at hc
        · rename_i hcc
          obtain ⟨rfl, rfl, rfl, hle, hxl⟩ := hcc
          cases hc
          cases rd with
          | mslice _ _ _ _ _ _ ad cap g1 g2 g3 g4 g5 =>
            obtain ⟨e1, e2, e3, e4, arr, Te, fr, b1, b2, b3, b4⟩ := inv.ob g _ hg
            obtain ⟨p1, p2, p3⟩ := g5 e1.symm
            obtain rfl := p1 (by omega)
            have hm : (off + xs.length) * szOf P T' ≤ σ.cap g * szOf P T' := Nat.mul_le_mul_right _ (by omega)
            rw [Nat.add_mul] at hm
            obtain ⟨w', arr', r1, r2, r3, r4, r5⟩ := run_storeCells_am P (σ.phi g) (σ.base g + off * szOf P T') ys.toList 0 w arr Te fr b1 b2 (by simp [ry.1]; omega) (ry.one_all hpos)
            refine ⟨_, len, cap, rfl, rfl, w', r1, Post.inplace inv hg (by simp) (by simp) r3 ⟨e1, e2, e3, ?_, arr', Te, fr, r2, fun k hk => b2 k (by rw [← r4]; exact hk), by rw [r4]; exact b3, ?_⟩⟩
            · have : (l.take off ++ xs ++ l.drop (off + xs.length)).length = l.length := by simp; omega
              rw [this]; exact e4
            · exact listOf_splice (p := off) b4 ry (by simpa using r5) (splice_get (by omega))
        · cases hc
      · cases hc
    · rename_i g T' off len cap
      split at hc
      · rename_i c hg
        split at hc
        · rename_i hcc
          obtain ⟨rfl, hle, hxl, hone⟩ := hcc
          cases hc
          cases rd with
          | cslice _ _ _ _ _ ad g1 g2 g3 g4 g5 =>
            obtain ⟨e0, arr, Te, fr, b1, b2, b3, b4⟩ := inv.ob g _ hg
            obtain rfl := g5 (by omega)
            have hs1 : szOf P T' = 1 := g3
            have hys : ys.size = xs.length := by rw [ry.1, hs1, Nat.mul_one]
            obtain ⟨w', arr', r1, r2, r3, r4, r5⟩ := run_storeCells_am P (σ.phi g) off ys.toList 0 w arr Te fr b1 b2 (by rw [b3.1]; simp [hys]; omega) (ry.one_all hpos)
            refine ⟨_, len, cap, rfl, rfl, w', r1, Post.inplace inv hg (by simp) (by simp) r3 ⟨e0, arr', Te, fr, r2, fun k hk => b2 k (by rw [← r4]; exact hk), ⟨?_, fun k x y hx hy => ?_⟩, splice_one b4 hone⟩⟩
            · rw [r4, b3.1, splice_len (by omega)]
            · have ra : RelA (szOf P) σ xs ys := relF_one (by rw [← hs1]; exact ry) (fun x hx => List.all_eq_true.1 hone x hx)
              obtain ⟨v', q1, q2⟩ := splice_rel (o := 0) (off := off) (n := xs) (vs := ys.toList) (by simpa using ra) (by omega) (fun k x hx => by rw [Nat.zero_add]; exact b3.get hx) (by simpa using r5) k x hx
              rw [Nat.zero_add] at q1
              rw [hy] at q1; cases q1; exact q2
        · cases hc
      · cases hc
    · cases hc

section
variable (hE : EnvOk P E) (inv : Inv (szOf P) σ w h) (r : RelA (szOf P) σ T a.tmps)
include hE inv r

theorem op_copy {o : Oper} {args : Array Operand} {ts : Array TypeId} (ho : o.op = .call ⟨.builtin .copy, args, ts⟩) {d x : V} (he : evalVs T args.toList = some [d, x]) (hv : builtinV E h .copy ts [d, x] = some (u, h')) : OpDone P σ h w (execOp a.eval o) u h' := by
  obtain ⟨cs, hrun⟩ := run_builtin hE inv r ho (P := P)
  obtain ⟨dv, xv, hargs, rd, rx⟩ := args2 hE inv r he
  rw [hargs] at hrun
  simp only [builtinV] at hv
  split at hv
  · rename_i i hi
    simp only [Option.bind_eq_some_iff] at hi
    obtain ⟨t0, ht0, hti⟩ := hi
    have htk := (hE.ti t0 i hti).kind
    split at hv
    · rename_i e hk
      rw [hk] at htk
      split at hv
      · rename_i j n hj hn
        split at hv
        · cases hv
        rename_i hj0
        have htj := hE.ti e j hj
        have hse : szOf P e = j.size := htj.size
        -- the end
        have fin : ∀ (m : Nat) (xs : List V) (ys : Array Value), xs.length = Nat.min m n → (∀ w, (Builtin.lenOf xv).run P w = .ok m w) → (Builtin.firstCells j.size (Nat.min m n) xv).run P w = .ok ys w → RelF (szOf P) σ j.size xs ys →
            (copyTo h e d xs).map (fun h' => (V.int .i64 (xs.length : Int), h')) = some (u, h') → OpDone P σ h w (execOp a.eval o) u h' := fun m xs ys h1 h2 h3 h4 h5 => by
          simp only [Option.map_eq_some_iff] at h5
          obtain ⟨h'', hc, h6⟩ := h5
          cases h6
          obtain ⟨base, len, cap, rfl, hl, w', q1, q2⟩ := copyTo_rel inv rd (by rw [hse]; exact h4) (by omega) hc
          rw [hn] at hl; cases hl
          refine ⟨σ, w', q2, .inl ⟨.int .i64 (xs.length : Int), ?_, .int _ _⟩⟩
          rw [hrun, h1]
          cases base with
          | none => 
            simp at q1
            subst q1
            simp [builtin, Builtin.copy_, ht0, run_underlying htk, htj.run_sizeOf, h2, h3, goInt]
          | some ad => simp [builtin, Builtin.copy_, ht0, run_underlying htk, htj.run_sizeOf, h2, h3, goInt, q1]
        split at hv
        · rename_i bs
          split at hv
          · split at hv
            · rename_i hone
              cases rx with
              | str b =>
                obtain ⟨ys, y1, y2⟩ := firstCells_str (σ := σ) P b j.size (Nat.min b.size n) hone (Nat.min_le_left _ _)
                have e1 : (bytesOf b).take n = (bytesOf b).take (Nat.min b.size n) := by
                  rw [← bytesOf_len b]
                  rcases Nat.le_total (bytesOf b).length n with h1 | h1
                  · rw [show Nat.min (bytesOf b).length n = (bytesOf b).length from Nat.min_eq_left h1, List.take_of_length_le h1, List.take_of_length_le (Nat.le_refl _)]
                  · rw [show Nat.min (bytesOf b).length n = n from Nat.min_eq_right h1]
                have e2 : ((bytesOf b).take n).length = (bytesOut ((bytesOf b).take n)).length := by simp [bytesOut]
                rw [e2] at hv
                rw [← e1] at y2
                refine fin b.size _ ys ?_ (fun w => lenOf_run _ _ (.inr ⟨b, rfl, rfl⟩) w) (y1 w) y2 hv
                simp only [bytesOut, List.length_map, List.length_take, bytesOf_len]
                exact Nat.min_comm _ _
            · cases hv
          · cases hv
        · split at hv
          · rename_i l Tx hx hTx
            split at hv
            · rename_i hcT
              rcases Decidable.em (l = []) with rfl | hne
              · obtain ⟨base, cap, rfl⟩ := slice_empty rx hx inv
                have rd0 : Reads (szOf P) σ w j.size base [] := .inl rfl
                obtain ⟨ys, y1, y2⟩ := firstCells_all rd0 0 cap 0 (Nat.le_refl _)
                have hm0 : Nat.min 0 n = 0 := Nat.min_eq_left (Nat.zero_le _)
                exact fin 0 ([].take n) ys (by simp [hm0]) (fun w => lenOf_run _ _ (.inl ⟨base, cap, rfl⟩) w) (by rw [hm0]; exact y1 w rfl) (by simpa using y2) hv
              · have hTe : Tx = e := by
                  simp only [Bool.or_eq_true, decide_eq_true_eq] at hcT
                  rcases hcT with h1 | h1
                  · exact h1
                  · exact absurd (by simpa using h1) hne
                subst hTe
                obtain ⟨base, cap, rfl, rdd⟩ := elems_rel inv rx hx hTx (by omega)
                rw [hse] at rdd
                obtain ⟨ys, y1, y2⟩ := firstCells_all rdd l.length cap (Nat.min l.length n) (Nat.min_le_left _ _)
                have e1 : l.take n = l.take (Nat.min l.length n) := by
                  rcases Nat.le_total l.length n with h1 | h1
                  · rw [show Nat.min l.length n = l.length from Nat.min_eq_left h1, List.take_of_length_le h1, List.take_of_length_le (Nat.le_refl _)]
                  · rw [show Nat.min l.length n = n from Nat.min_eq_right h1]
                rw [← e1] at y2
                refine fin l.length _ ys ?_ (fun w => lenOf_run _ _ (.inl ⟨base, cap, rfl⟩) w) (y1 w rfl) y2 hv
                simp only [List.length_take]
                exact Nat.min_comm _ _
            · cases hv
          · cases hv
      · cases hv
    · cases hv
  · cases hv

theorem op_clear {o : Oper} {args : Array Operand} {ts : Array TypeId} (ho : o.op = .call ⟨.builtin .clear, args, ts⟩) {x : V} (he : evalVs T args.toList = some [x]) (hv : builtinV E h .clear ts [x] = some (u, h')) : OpDone P σ h w (execOp a.eval o) u h' := by
  obtain ⟨cs, hrun⟩ := run_builtin hE inv r ho (P := P)
  obtain ⟨v, hargs, rx⟩ := args1 hE inv r he
  rw [hargs] at hrun
  simp only [builtinV] at hv
  have rt : Rel (szOf P) σ (.tuple []) (.tuple #[]) := .tuple [] #[] rfl (fun i u v h => by simp at h)
  split at hv
  · rename_i i hi
    simp only [Option.bind_eq_some_iff] at hi
    obtain ⟨t0, ht0, hti⟩ := hi
    have htk := (hE.ti t0 i hti).kind
    split at hv
    · rename_i hk; rw [hk] at htk; cases hv
      cases rx
      exact OpDone.pureV inv (v := .tuple #[]) (by rw [hrun]; simp [builtin, Builtin.clear_, ht0, run_underlying htk]) rt
    · rename_i g hk
      rw [hk] at htk
      split at hv
      · rename_i es cl hg
        cases hv
        cases rx with
        | map =>
          obtain ⟨e0, es', b1, b2, _⟩ := inv.ob g _ hg
          refine ⟨σ, { w with heap := w.heap.setIfInBounds (σ.phi g) (.map #[] cl) }, Post.inplace inv hg (by simp) (by simp) ⟨by simp, fun x hx => by simp [Array.getElem?_setIfInBounds_ne (Ne.symm hx)], rfl, rfl, rfl⟩ ⟨e0, #[], ?_, rfl, fun i e e' h => by simp at h⟩, .inl ⟨.tuple #[], ?_, rt⟩⟩
          · have := heap_lt b1
            simp [this]
          · rw [hrun]
            simp [builtin, Builtin.clear_, ht0, run_underlying htk, getObj, setObj, Sem.run, b1]
      · cases hv
    · rename_i e g ver T' off len clip hk
      rw [hk] at htk
      split at hv
      · rename_i j hj
        split at hv
        · cases hv
        rename_i hc
        simp only [Bool.or_eq_true, decide_eq_true_eq, not_or, Bool.not_eq_true', Bool.not_eq_false] at hc
        simp only [Option.map_eq_some_iff] at hv
        obtain ⟨h'', hcp, hv⟩ := hv
        cases hv
        have htj := hE.ti e j hj
        obtain ⟨z, hz, hzr⟩ := htj.run_zero
        have hse : szOf P e = j.size := htj.size
        have rf := made_relF (σ := σ) htj hz hc.2 (by omega) len
        obtain ⟨base, len', cap, rfl, hl, w', q1, q2⟩ := copyTo_rel inv rx (by rw [hse]; exact rf) (by omega) hcp
        simp only [lenV, Option.some.injEq] at hl
        subst hl
        have hzc : Builtin.zeroCells z.cells len = madeCells z.cells (len * j.size) := by
          unfold Builtin.zeroCells madeCells; rw [zero_size htj hz]
        refine ⟨σ, w', q2, .inl ⟨.tuple #[], ?_, rt⟩⟩
        rw [hrun]
        cases base with
        | none =>
          simp at q1; subst q1
          simp [builtin, Builtin.clear_, ht0, run_underlying htk]
        | some ad =>
          rcases Nat.eq_zero_or_pos len with h0 | h0
          · subst h0
            have hm0 : madeCells z.cells (0 * j.size) = #[] := Array.eq_empty_of_size_eq_zero (by rw [size_madeCells, Nat.zero_mul])
            rw [hm0] at q1
            simp [storeCells] at q1; subst q1
            simp [builtin, Builtin.clear_, ht0, run_underlying htk]
          · obtain ⟨m, rfl⟩ : ∃ m, len = m + 1 := ⟨len - 1, by omega⟩
            simp only at q1
            simp [builtin, Builtin.clear_, ht0, run_underlying htk, hzr, hzc, q1]
      · cases hv
    · rename_i e k T' hk
      rw [hk] at htk
      cases hv
      have hr : ∃ base cap, v = .slice base 0 cap := by
        cases rx with
        | nilslice => exact ⟨none, 0, rfl⟩
        | slice => exact ⟨_, _, rfl⟩
      obtain ⟨base, cap, rfl⟩ := hr
      refine OpDone.pureV inv (v := .tuple #[]) ?_ rt
      rw [hrun]
      cases base <;> simp [builtin, Builtin.clear_, ht0, run_underlying htk]
    · cases hv
  · cases hv

end
end Go.AM

/- AM: equality and the operators of two operands. -/
namespace Go.AM
variable {P : Program} {E : Env} {σ : Gh} {w : World} {h h' : Heap} {T : List V} {a : Act} {u : V}

theorem bytesOf_inj {a b : ByteArray} : (bytesOf a == bytesOf b) = (a == b) := by
  rw [beq_toListBytes, ByteArray.toList_eq, ByteArray.toList_eq, bytesOf, bytesOf]
  generalize a.data.toList = x
  generalize b.data.toList = y
  induction x generalizing y with
  | nil => cases y <;> simp
  | cons p x ih =>
    cases y with
    | nil => simp
    | cons q y =>
      have ih := ih y
      show (p.toNat == q.toNat && (x.map (fun b : UInt8 => b.toNat) == y.map (fun b : UInt8 => b.toNat))) = (p == q && (x == y))
      rw [ih]
      have : (p.toNat == q.toNat) = (p == q) := by
        by_cases e : p = q
        · subst e; rw [beq_self_eq_true, beq_self_eq_true]
        · have : p.toNat ≠ q.toNat := fun e' => e (UInt8.toNat_inj.1 e')
          rw [beq_eq_false_iff_ne.2 e, beq_eq_false_iff_ne.2 this]
      rw [this]

theorem flatEq_len : ∀ {ks : List LK} {as bs : List V} {r : Bool}, flatEq ks as bs = some r → as.length = ks.length ∧ bs.length = ks.length
  | [], [], [], _, _ => ⟨rfl, rfl⟩
  | [], [], _ :: _, _, h => by simp [flatEq] at h
  | [], _ :: _, _, _, h => by simp [flatEq] at h
  | _ :: _, [], _, _, h => by simp [flatEq] at h
  | _ :: _, _ :: _, [], _, h => by simp [flatEq] at h
  | k :: ks, a :: as, b :: bs, r, h => by
    simp only [flatEq] at h
    split at h
    · rename_i _ _ _ h2
      have := flatEq_len h2
      simp [this]
    · cases h

theorem flatEq_append : ∀ {ks ls : List LK} {as bs : List V} {r : Bool}, flatEq (ks ++ ls) as bs = some r →
    ∃ as1 as2 bs1 bs2 r1 r2, as = as1 ++ as2 ∧ bs = bs1 ++ bs2 ∧ flatEq ks as1 bs1 = some r1 ∧ flatEq ls as2 bs2 = some r2 ∧ r = (r1 && r2)
  | [], ls, as, bs, r, h => ⟨[], as, [], bs, true, r, rfl, rfl, rfl, h, by simp⟩
  | k :: ks, ls, [], _, r, h => by simp [flatEq] at h
  | k :: ks, ls, _ :: _, [], r, h => by simp [flatEq] at h
  | k :: ks, ls, a :: as, b :: bs, r, h => by
    simp only [List.cons_append, flatEq] at h
    split at h
    · rename_i x y h1 h2
      cases h
      obtain ⟨as1, as2, bs1, bs2, r1, r2, rfl, rfl, p, q, rfl⟩ := flatEq_append h2
      exact ⟨a :: as1, as2, b :: bs1, bs2, x && r1, r2, rfl, rfl, by simp [flatEq, h1, p], q, by rw [Bool.and_assoc]⟩
    · cases h

/-- cells from a place on -/
def RelAt (sz : TypeId → Nat) (σ : Gh) (xs : Array Value) (off : Nat) (as : List V) : Prop := ∀ (i : Nat) (u : V), as[i]? = some u → ∃ v, xs[off + i]? = some v ∧ Rel sz σ u v

theorem RelAt.left {sz : TypeId → Nat} {xs : Array Value} {off : Nat} {as bs : List V} (r : RelAt sz σ xs off (as ++ bs)) : RelAt sz σ xs off as :=
  fun i u hu => r i u (by rw [List.getElem?_append_left (list_lt hu)]; exact hu)
theorem RelAt.right {sz : TypeId → Nat} {xs : Array Value} {off : Nat} {as bs : List V} (r : RelAt sz σ xs off (as ++ bs)) : RelAt sz σ xs (off + as.length) bs := fun i u hu => by
  have := r (as.length + i) u (by rw [List.getElem?_append_right (by omega)]; simpa using hu)
  rw [Nat.add_assoc]; exact this

theorem RelA.at {sz : TypeId → Nat} {as : List V} {xs : Array Value} (r : RelA sz σ as xs) : RelAt sz σ xs 0 as := fun i u hu => by rw [Nat.zero_add]; exact r.get hu

theorem RelAt.cut {sz : TypeId → Nat} {xs : Array Value} {off n : Nat} {as : List V} (r : RelAt sz σ xs off as) (hn : as.length = n) : RelAt sz σ (xs.extract off (off + n)) 0 as := fun i u hu => by
  obtain ⟨v, h1, h2⟩ := r i u hu
  refine ⟨v, ?_, h2⟩
  have hi := list_lt hu
  obtain ⟨hlt, he⟩ := Array.getElem?_eq_some_iff.1 h1
  rw [Nat.zero_add, Array.getElem?_eq_getElem (by simp; omega)]
  simp [he]

theorem leaf_rel {sz : TypeId → Nat} {d : Nat} {t : TypeId} {k : LK} {x y : V} {xv yv : Value} {r : Bool} (hu : match k with | .bool => P.underlying t = some .bool | .int => ∃ q, P.underlying t = some (.int q) | .str => P.underlying t = some .string)
    (rx : Rel sz σ x xv) (ry : Rel sz σ y yv) (he : leafEq k x y = some r) : (Op.equalIn (d + 1) t xv yv).run P w = .ok r w := by
  unfold leafEq at he
  split at he
  · cases rx; cases ry; cases he; exact run_equalIn_bool w d t _ _ hu
  · split at he
    · rename_i e
      subst e
      obtain ⟨q, hu⟩ := hu
      cases rx; cases ry; cases he; exact run_equalIn_int w d t _ q _ _ hu
    · cases he
  · cases rx; cases ry; cases he
    rw [bytesOf_inj, beq_toListBytes]
    exact run_equalIn_string w d t _ _ hu
  · cases he

theorem leaf_part {sz : TypeId → Nat} {t : TypeId} {xs : Array Value} {off : Nat} {x : V} {v : Value} (ht : P.underlying t = some .bool ∨ (∃ q, P.underlying t = some (.int q)) ∨ P.underlying t = some .string)
    (h : xs[off]? = some v) : (part t xs off).run P w = .ok v w := by
  rcases ht with ht | ⟨q, ht⟩ | ht <;> simp [part, isAgg, run_underlying ht, h]

/-- What a type's leaves say of its equality: at a depth, of cells from a place on. -/
def EqOk (P : Program) (σ : Gh) (w : World) (d : Nat) (t : TypeId) (ks : List LK) : Prop :=
  ∀ (xs ys : Array Value) (off : Nat) (as bs : List V) (r : Bool), RelAt (szOf P) σ xs off as → RelAt (szOf P) σ ys off bs → flatEq ks as bs = some r →
    ∃ x y, (part t xs off).run P w = .ok x w ∧ (part t ys off).run P w = .ok y w ∧ (Op.equalIn d t x y).run P w = .ok r w

theorem eqFields_rel {d : Nat} (fl : TypeId → Option (List LK)) (hfl : ∀ t ks, fl t = some ks → ks.length = P.cellsOf t → EqOk P σ w d t ks) (xs ys : Array Value) :
    ∀ (fs : List Field) (o : Nat) (ks : List LK) (as bs : List V) (r : Bool), flatFs P fl fs o = some ks → RelAt (szOf P) σ xs o as → RelAt (szOf P) σ ys o bs → flatEq ks as bs = some r →
      (Op.eqFields d xs ys fs).run P w = .ok r w
  | [], o, ks, as, bs, r, hk, ra, rb, he => by
    simp [flatFs] at hk; subst hk
    have := flatEq_len he
    cases as <;> cases bs <;> simp [flatEq] at he
    subst he
    simp [Op.eqFields]
  | f :: fs, o, ks, as, bs, r, hk, ra, rb, he => by
    simp only [flatFs] at hk
    split at hk
    · rename_i hc
      obtain ⟨hn, rfl⟩ := hc
      split at hk
      · rename_i k1 hk1
        split at hk
        · rename_i hl
          simp only [Option.map_eq_some_iff] at hk
          obtain ⟨k2, hk2, rfl⟩ := hk
          obtain ⟨as1, as2, bs1, bs2, r1, r2, rfl, rfl, e1, e2, rfl⟩ := flatEq_append he
          obtain ⟨x, y, p1, p2, p3⟩ := hfl _ _ hk1 hl xs ys f.offset as1 bs1 r1 ra.left rb.left e1
          have l1 := flatEq_len e1
          have ih := eqFields_rel fl hfl xs ys fs (f.offset + k1.length) k2 as2 bs2 r2 hk2 (l1.1 ▸ ra.right) (l1.2 ▸ rb.right) e2
          simp only [Op.eqFields, hn, ne_eq, not_false_eq_true, if_true, Sem.run_bind, p1, p2, p3, Result.andThen_ok]
          cases r1
          · simp
          · simpa using ih
        · cases hk
      · cases hk
    · cases hk

theorem eqItems_rel {d : Nat} {e : TypeId} {k1 : List LK} (hl : k1.length = P.cellsOf e) (hfl : EqOk P σ w d e k1) (xs ys : Array Value) :
    ∀ (n s : Nat) (as bs : List V) (r : Bool), RelAt (szOf P) σ xs (s * P.cellsOf e) as → RelAt (szOf P) σ ys (s * P.cellsOf e) bs → flatEq (List.replicate n k1).flatten as bs = some r →
      (Op.eqItems d e (P.cellsOf e) xs ys (List.range' s n)).run P w = .ok r w
  | 0, s, as, bs, r, ra, rb, he => by
    cases as <;> cases bs <;> simp [flatEq] at he
    subst he
    simp [Op.eqItems]
  | n + 1, s, as, bs, r, ra, rb, he => by
    rw [List.replicate_succ, List.flatten_cons] at he
    obtain ⟨as1, as2, bs1, bs2, r1, r2, rfl, rfl, e1, e2, rfl⟩ := flatEq_append he
    obtain ⟨x, y, p1, p2, p3⟩ := hfl xs ys _ as1 bs1 r1 ra.left rb.left e1
    have l1 := flatEq_len e1
    have hs : s * P.cellsOf e + k1.length = (s + 1) * P.cellsOf e := by rw [hl, Nat.add_mul, Nat.one_mul]
    have ih := eqItems_rel hl hfl xs ys n (s + 1) as2 bs2 r2 (by have := ra.right; rw [l1.1, hs] at this; exact this) (by have := rb.right; rw [l1.2, hs] at this; exact this) e2
    rw [List.range'_succ]
    simp only [Op.eqItems, Sem.run_bind, p1, p2, p3, Result.andThen_ok]
    cases r1
    · simp
    · simpa using ih

theorem eq_flat : ∀ (m : Nat) (t : TypeId) (ks : List LK) (d : Nat), flatL P m t = some ks → ks.length = P.cellsOf t → m ≤ d → EqOk P σ w d t ks
  | 0, t, ks, d, h, _, _ => by simp [flatL] at h
  | m + 1, t, ks, 0, h, _, hd => by omega
  | m + 1, t, ks, d + 1, h, hlen, hd => by
    have ih := fun t ks h l => eq_flat m t ks d h l (by omega)
    intro xs ys off as bs r ra rb he
    have leaf : ∀ k, ks = [k] → (match k with | .bool => P.underlying t = some .bool | .int => ∃ q, P.underlying t = some (.int q) | .str => P.underlying t = some .string) →
        ∃ x y, (part t xs off).run P w = .ok x w ∧ (part t ys off).run P w = .ok y w ∧ (Op.equalIn (d + 1) t x y).run P w = .ok r w := fun k hk hu => by
      subst hk
      obtain ⟨x, rfl⟩ := List.length_eq_one_iff.1 (flatEq_len he).1
      obtain ⟨y, rfl⟩ := List.length_eq_one_iff.1 (flatEq_len he).2
      · obtain ⟨xv, x1, x2⟩ := ra 0 x rfl
        obtain ⟨yv, y1, y2⟩ := rb 0 y rfl
        have hl : leafEq k x y = some r := by
          simp only [flatEq] at he
          split at he
          · rename_i p q h1 h2; cases h2; cases he; simpa using h1
          · cases he
        have hu' : P.underlying t = some .bool ∨ (∃ q, P.underlying t = some (.int q)) ∨ P.underlying t = some .string := by
          cases k
          · exact .inl hu
          · exact .inr (.inl hu)
          · exact .inr (.inr hu)
        exact ⟨xv, yv, leaf_part (sz := szOf P) (x := x) hu' x1, leaf_part (sz := szOf P) (x := y) hu' y1, leaf_rel hu x2 y2 hl⟩
    have agg : (∃ d, P.underlying t = some d ∧ (match d with | .struct _ | .array _ _ => True | _ => False)) → ∀ (zs : Array Value), (part t zs off).run P w = .ok (.agg (zs.extract off (off + P.cellsOf t))) w := fun ⟨q, hq, hm⟩ zs => by
      obtain ⟨i, hi⟩ := info_of_underlying hq
      cases q <;> simp at hm <;> simp [part, isAgg, run_underlying hq, run_sizeOf w hi]
    have l1 := flatEq_len he
    unfold flatL at h
    split at h
    · rename_i hu; cases h; exact leaf _ rfl hu
    · rename_i q hu; cases h; exact leaf _ rfl ⟨q, hu⟩
    · rename_i hu; cases h; exact leaf _ rfl hu
    · rename_i n e hu
      split at h
      · rename_i k1 hk1
        split at h
        · rename_i hl
          cases h
          have hp := agg ⟨_, hu, trivial⟩
          refine ⟨_, _, hp xs, hp ys, ?_⟩
          have hie : ∃ i, P.info? e = some i := by
            cases m with
            | zero => simp [flatL] at hk1
            | succ m =>
              unfold flatL at hk1
              split at hk1
              all_goals first
                | (rename_i hh; exact info_of_underlying hh)
                | (rename_i _ hh; exact info_of_underlying hh)
                | (rename_i _ _ hh; exact info_of_underlying hh)
                | cases hk1
          obtain ⟨i, hi⟩ := hie
          rw [run_equalIn_array w d _ _ hu hi, List.range_eq_range']
          refine eqItems_rel hl (ih e k1 hk1 hl) _ _ n 0 as bs r ?_ ?_ he
          · rw [Nat.zero_mul]; exact ra.cut (by rw [l1.1, hlen])
          · rw [Nat.zero_mul]; exact rb.cut (by rw [l1.2, hlen])
        · cases h
      · cases h
    · rename_i fs hu
      split at h
      · cases h
      · rename_i hs
        have hp := agg ⟨_, hu, trivial⟩
        refine ⟨_, _, hp xs, hp ys, ?_⟩
        have hf : P.fieldsOf t = fs := by simp [Program.fieldsOf, hu]
        rw [run_equalIn_struct w d t _ _ (by rw [hf]; exact hu) (by simpa using hs), hf]
        exact eqFields_rel (flatL P m) (fun t ks h1 h2 => ih t ks h1 h2) _ _ fs.toList 0 ks as bs r h (ra.cut (by rw [l1.1, hlen])) (rb.cut (by rw [l1.2, hlen])) he
    · cases h

theorem flat_guard : ∀ (m d : Nat) (t : TypeId) (ks : List LK), flatL P m t = some ks → m ≤ d → P.eqGuardType d t = false
  | 0, d, t, ks, h, _ => by simp [flatL] at h
  | m + 1, 0, t, ks, h, hd => by omega
  | m + 1, d + 1, t, ks, h, hd => by
    have ih := fun t ks h => flat_guard m d t ks h (by omega)
    unfold flatL at h
    unfold Program.eqGuardType
    split at h
    · rename_i hu; simp [hu]
    · rename_i q hu; simp [hu]
    · rename_i hu; simp [hu]
    · rename_i n e hu
      simp only [hu]
      split at h
      · rename_i k1 hk1; exact ih e k1 hk1
      · cases h
    · rename_i fs hu
      simp only [hu]
      split at h
      · cases h
      · rw [← Array.any_toList]
        have key : ∀ (l : List Field) (o : Nat) (ks : List LK), flatFs P (flatL P m) l o = some ks → (l.any fun f => f.name != "_" && P.eqGuardType d f.type) = false := by
          intro l
          induction l with
          | nil => intro o ks _; rfl
          | cons f l ihl =>
            intro o ks hk
            simp only [flatFs] at hk
            split at hk
            · split at hk
              · rename_i k1 hk1
                split at hk
                · simp only [Option.map_eq_some_iff] at hk
                  obtain ⟨k2, hk2, _⟩ := hk
                  rw [List.any_cons, ihl _ _ hk2, ih _ _ hk1]
                  simp
                · cases hk
              · cases hk
            · cases hk
        exact key _ _ _ h
    · cases h

theorem deep_le (P : Program) : 12 ≤ P.depth := by
  have : Made.depth = 100 := rfl
  unfold Program.depth; omega

theorem eq_agg {m d : Nat} {t : TypeId} {i : TI} (ht : TIok P t i) (ha : i.kind.isAgg = true) {ks : List LK} (hf : flatL P m t = some ks) (hl : ks.length = i.size) (hd : m ≤ d) {as bs : List V} {X Y : Array Value}
    (rx : RelA (szOf P) σ as X) (ry : RelA (szOf P) σ bs Y) {r : Bool} (he : flatEq ks as bs = some r) : (Op.equalIn d t (.agg X) (.agg Y)).run P w = .ok r w := by
  have ll := flatEq_len he
  obtain ⟨x, y, p1, p2, p3⟩ := eq_flat (σ := σ) (w := w) m t ks d hf (by rw [hl, ht.size]) hd X Y 0 _ _ r (RelA.at rx) (RelA.at ry) he
  have q : ∀ Z : Array Value, Z.size = i.size → (part t Z 0).run P w = .ok (.agg Z) w := fun Z hZ => by
    simp [part, ht.run_isAgg, ha, ht.run_sizeOf, ← hZ]
  have e1 := (q X (by rw [rx.1, ll.1, hl])).symm.trans p1
  have e2 := (q Y (by rw [ry.1, ll.2, hl])).symm.trans p2
  simp only [Result.ok.injEq, and_true] at e1 e2
  rw [e1, e2]; exact p3

theorem equalV_rel {t : TypeId} {i : TI} (ht : TIok P t i) {x y : V} {xv yv : Value} {r : Bool} (rx : Rel (szOf P) σ x xv) (ry : Rel (szOf P) σ y yv) (he : equalV i x y = some r) :
    (Op.equal t xv yv).run P w = .ok r w := by
  have hk := ht.kind
  obtain ⟨d, hd, h12⟩ : ∃ d, Op.maxDepth = d + 1 ∧ 12 ≤ d := ⟨9999, rfl, by omega⟩
  unfold Op.equal
  rw [hd]
  unfold equalV at he
  split at he
  all_goals try (cases he; done)
  all_goals (try (rename_i hkk; rw [hkk] at hk))
  · cases rx; cases ry; cases he; exact run_equalIn_bool w _ t _ _ hk
  · split at he
    · rename_i e; subst e
      cases rx; cases ry; cases he; exact run_equalIn_int w _ t _ _ _ _ hk
    · cases he
  · cases rx; cases ry; cases he
    rw [bytesOf_inj, beq_toListBytes]
    exact run_equalIn_string w _ t _ _ hk
  case h_4 | h_5 | h_6 | h_7 | h_8 | h_9 | h_10 => cases rx; cases ry; cases he; simp [Op.equalIn, run_underlying hk]
  case h_11 | h_12 | h_13 => obtain ⟨ms, hk⟩ := hk; cases rx; cases ry; cases he; simp [Op.equalIn, run_underlying hk]
  case h_14 =>
    have hy : yv = .slice none 0 0 := by
      cases ry with
      | nilslice => rfl
      | slice _ _ _ _ _ _ _ _ hne => exact absurd rfl hne
    subst hy
    cases rx with
    | nilslice => simp [isNilV] at he; subst he; simp [Op.equalIn, run_underlying hk]
    | slice k _ _ _ _ _ _ _ hne => cases k <;> simp [isNilV] at he hne <;> subst he <;> simp [Op.equalIn, run_underlying hk]
    | mslice => simp [isNilV] at he; subst he; simp [Op.equalIn, run_underlying hk]
    | cslice => simp [isNilV] at he; subst he; simp [Op.equalIn, run_underlying hk]
    | _ => simp [isNilV] at he
  case h_15 =>
    cases ry
    cases rx with
    | nilmap => simp at he; subst he; simp [Op.equalIn, run_underlying hk]
    | map => simp at he; subst he; simp [Op.equalIn, run_underlying hk]
  case h_16 | h_17 | h_18 => obtain ⟨_, _, _, hk⟩ := hk; cases rx; cases ry; cases he; simp [Op.equalIn, run_underlying hk]
  all_goals
    split at he
    · rename_i ks hks
      obtain ⟨hf, hl⟩ := ht.flat ks hks
      cases rx with
      | agg _ X x1 x2 =>
      cases ry with
      | agg _ Y y1 y2 =>
      refine eq_agg (m := 12) (d := d + 1) ht (by rw [hkk]; rfl) hf hl (by omega) ⟨x1, x2⟩ ⟨y1, y2⟩ he
    · cases he

end Go.AM

/- AM: the operators of two operands. -/
namespace Go.AM
variable {P : Program} {E : Env} {σ : Gh} {w : World} {h h' : Heap} {T : List V} {a : Act} {u : V}

theorem bytesLt_rel (x y : ByteArray) : bytesLt (bytesOf x) (bytesOf y) = Op.bytesLess x.toList y.toList := by
  rw [ByteArray.toList_eq, ByteArray.toList_eq, bytesOf, bytesOf]
  generalize x.data.toList = p
  generalize y.data.toList = q
  induction p generalizing q with
  | nil => cases q <;> simp [bytesLt, Op.bytesLess]
  | cons a p ih =>
    cases q with
    | nil => simp [bytesLt, Op.bytesLess]
    | cons b q =>
      simp only [List.map_cons, bytesLt, Op.bytesLess, ih q]
      have h1 : decide (a.toNat < b.toNat) = decide (a < b) := decide_eq_decide.2 UInt8.lt_iff_toNat_lt.symm
      have h2 : (a.toNat == b.toNat) = (a == b) := by
        by_cases e : a = b
        · subst e; rw [beq_self_eq_true, beq_self_eq_true]
        · have : a.toNat ≠ b.toNat := fun e' => e (UInt8.toNat_inj.1 e')
          rw [beq_eq_false_iff_ne.2 e, beq_eq_false_iff_ne.2 this]
      rw [h1, h2]

theorem binInt_rel {op : BinOp} {k : IntKind} {x y : Int} {t : TypeId} (hb : binInt op k x y = some u) (hs : op ≠ .shl ∧ op ≠ .shr) : ∃ v, (binOp op t (.int k x) (.int k y)).run P w = .ok v w ∧ Rel (szOf P) σ u v := by
  cases op <;> simp only [binInt] at hb <;> try (cases hb; done)
  all_goals try (split at hb <;> try (cases hb; done))
  all_goals cases hb
  all_goals first | refine ⟨_, ?_, .int _ _⟩ | refine ⟨_, ?_, .bool _⟩
  all_goals simp [binOp, Op.intArith, Op.intBits, Op.intDiv, Op.intCmp, *]

theorem bytesOf_app (x y : ByteArray) : bytesOf (x ++ y) = bytesOf x ++ bytesOf y := by
  simp [bytesOf, ByteArray.data_append]

theorem binStr_rel {op : BinOp} {x y : ByteArray} {t : TypeId} (hb : binStr op (bytesOf x) (bytesOf y) = some u) : ∃ v, (binOp op t (.string x) (.string y)).run P w = .ok v w ∧ Rel (szOf P) σ u v := by
  cases op <;> simp only [binStr] at hb <;> try (cases hb; done)
  case add =>
    split at hb
    · rename_i hl
      cases hb
      refine ⟨.string (x ++ y), ?_, by rw [← bytesOf_app]; exact .str _⟩
      rw [bytesOf_len, bytesOf_len] at hl
      have : ¬ ((x.size + y.size : Nat) : Int) > IntKind.i64.max := by
        have : IntKind.i64.max = 2 ^ 63 - 1 := rfl
        rw [this]; omega
      simp only [binOp, Op.stringOp, this, if_false, Sem.run_pure]
    · cases hb
  all_goals
    cases hb
    (try rw [bytesOf_inj, beq_toListBytes]) <;> (try rw [bytesLt_rel]) <;> exact ⟨_, rfl, .bool _⟩

/-- the operators of two operands -/
theorem binV_rel {t : TypeId} {i : TI} (ht : TIok P t i) {op : BinOp} {x y : V} {xv yv : Value} (rx : Rel (szOf P) σ x xv) (ry : Rel (szOf P) σ y yv) (hb : binV i op x y = some u) :
    ∃ v, (binOp op t xv yv).run P w = .ok v w ∧ Rel (szOf P) σ u v := by
  have eqRun : ∀ (neg : Bool) (r : Bool), (∀ k a k' b, ¬ (x = .int k a ∧ y = .int k' b)) → (∀ a b, ¬ (x = .str a ∧ y = .str b)) → (Op.equal t xv yv).run P w = .ok r w → (if neg then op = .neq else op = .eql) →
      (binOp op t xv yv).run P w = .ok (.bool (if neg then !r else r)) w := fun neg r h1 h2 h3 h4 => by
    have : binOp op t xv yv = (if neg then (do pure (.bool (!(← Op.equal t xv yv)))) else (do pure (.bool (← Op.equal t xv yv)))) := by
      cases neg <;> simp at h4 <;> subst h4
      all_goals
        cases xv <;> cases yv <;> first
          | rfl
          | (cases rx; cases ry; first | exact absurd ⟨rfl, rfl⟩ (h1 _ _ _ _) | exact absurd ⟨rfl, rfl⟩ (h2 _ _))
          | (cases rx; done)
    rw [this]
    cases neg <;> simp [h3]
  unfold binV at hb
  split at hb
  · rename_i k a k' b
    split at hb
    · cases hb
    · rename_i hn
      cases hb; cases rx; cases ry
      exact ⟨_, by simp [binOp, Op.shift, hn], .int _ _⟩
  · rename_i k a k' b
    split at hb
    · cases hb
    · rename_i hn
      cases hb; cases rx; cases ry
      exact ⟨_, by simp [binOp, Op.shift, hn], .int _ _⟩
  · rename_i hs1 hs2
    split at hb
    · rename_i e; subst e
      cases rx; cases ry
      exact binInt_rel hb ⟨fun e => hs1 e, fun e => hs2 e⟩
    · cases hb
  · cases rx; cases ry; exact binStr_rel hb
  · rename_i h1 h2
    simp only [Option.map_eq_some_iff] at hb
    obtain ⟨r, hr, rfl⟩ := hb
    exact ⟨_, eqRun false r (fun k a k' b e => h1 _ _ _ _ e.1 e.2) (fun a b e => h2 _ _ e.1 e.2) (equalV_rel ht rx ry hr) rfl, .bool _⟩
  · rename_i h1 h2
    simp only [Option.map_eq_some_iff] at hb
    obtain ⟨r, hr, rfl⟩ := hb
    exact ⟨_, eqRun true r (fun k a k' b e => h1 _ _ _ _ e.1 e.2) (fun a b e => h2 _ _ e.1 e.2) (equalV_rel ht rx ry hr) rfl, .bool _⟩
  · cases hb

theorem equalV_agg {i : TI} {as bs : List V} {r : Bool} (h : equalV i (.agg as) (.agg bs) = some r) : ∃ ks, i.flat = some ks ∧ flatEq ks as bs = some r ∧ i.kind.isAgg = true := by
  cases hk : i.kind <;> simp [equalV, hk, isNilV] at h
  all_goals
    split at h
    · rename_i ks hks; exact ⟨ks, hks, h, rfl⟩
    · cases h

section
variable (hE : EnvOk P E) (inv : Inv (szOf P) σ w h) (r : RelA (szOf P) σ T a.tmps)
include hE inv r

theorem op_binOp {o : Oper} {op : BinOp} {t yt : TypeId} {x y : Operand} (ho : o.op = .binOp op t x y yt) (hv : opV E T h o.op = some (u, h')) : PureDone P σ h w (execOp a.eval o) u h' := by
  rw [ho] at hv
  simp only [opV] at hv
  split at hv
  · rename_i i p q hi hp hq
    have rp := evalV_rel r hp
    have rq := evalV_rel r hq
    have ht := hE.ti t i hi
    have key : binV i op p q = some u ∧ h' = h ∧ ((p = .nilIface ∧ q = .nilIface) → (∃ c, x = .const c) ∨ ∃ c, y = .const c) := by
      split at hv
      · obtain ⟨h1, h2⟩ := map_h hv; exact ⟨h1, h2.symm, fun _ => .inl ⟨_, rfl⟩⟩
      · obtain ⟨h1, h2⟩ := map_h hv; exact ⟨h1, h2.symm, fun _ => .inr ⟨_, rfl⟩⟩
      · cases hv
      · rename_i h1 h2 h3
        obtain ⟨k1, k2⟩ := map_h hv
        refine ⟨k1, k2.symm, fun ⟨e1, e2⟩ => ?_⟩
        subst e1 e2
        exact (h1 rfl rfl).elim
    obtain ⟨hb, rfl, hn⟩ := key
    obtain ⟨v, hv1, hv2⟩ := binV_rel (w := w) ht rp rq hb
    refine PureDone.pureV inv (v := v) ?_ hv2
    have hg : (eqGuard op t x y (a.eval x) (a.eval y)).run P w = .ok () w := by
      generalize a.eval x = xv at rp
      generalize a.eval y = yv at rq
      by_cases he : op = .eql ∨ op = .neq
      · unfold eqGuard
        cases rp <;> cases rq <;> try (rcases he with rfl | rfl <;> simp; done)
        · rcases hn ⟨rfl, rfl⟩ with ⟨c, rfl⟩ | ⟨c, rfl⟩ <;> rcases he with rfl | rfl <;> simp
        · rename_i as X x1 x2 bs Y y1 y2
          have hflat : ∃ ks, i.flat = some ks := by
            have hq : ∃ r, equalV i (.agg as) (.agg bs) = some r := by
              rcases he with rfl | rfl <;> simp only [binV, Option.map_eq_some_iff] at hb <;> obtain ⟨r, hr, _⟩ := hb <;> exact ⟨r, hr⟩
            obtain ⟨r, hr⟩ := hq
            obtain ⟨ks, k1, _⟩ := equalV_agg hr
            exact ⟨ks, k1⟩
          obtain ⟨ks, hks⟩ := hflat
          have := flat_guard 12 P.depth t ks (ht.flat ks hks).1 (deep_le P)
          exact run_eqGuard_agg w op t x y X Y this
      · have : (op matches .eql | .neq) = false := by cases op <;> simp at he ⊢
        unfold eqGuard
        cases op <;> simp at he ⊢
    simp [execOp, ho, hg, hv1]
  · cases hv

end
end Go.AM

/- AM: maps. -/
namespace Go.AM
variable {P : Program} {E : Env} {σ : Gh} {w : World} {h h' : Heap} {T : List V} {a : Act} {u : V}

/-- What a type's leaves say of it as a key. -/
def CkOk (P : Program) (σ : Gh) (w : World) (em : Bool) (d : Nat) (t : TypeId) (ks : List LK) : Prop :=
  ∀ (xs : Array Value) (off : Nat) (as bs : List V) (r : Bool), RelAt (szOf P) σ xs off as → flatEq ks as bs = some r →
    ∃ x, (part t xs off).run P w = .ok x w ∧ (Instr.checkKey em d t x).run P w = .ok () w

theorem ck_flat (em : Bool) : ∀ (m : Nat) (t : TypeId) (ks : List LK) (d : Nat), flatL P m t = some ks → ks.length = P.cellsOf t → m ≤ d → CkOk P σ w em d t ks
  | 0, t, ks, d, h, _, _ => by simp [flatL] at h
  | m + 1, t, ks, 0, h, _, hd => by omega
  | m + 1, t, ks, d + 1, h, hlen, hd => by
    have ih := fun t ks h l => ck_flat em m t ks d h l (by omega)
    intro xs off as bs r ra he
    have l1 := flatEq_len he
    have leaf : ∀ k, ks = [k] → (P.underlying t = some .bool ∨ (∃ q, P.underlying t = some (.int q)) ∨ P.underlying t = some .string) →
        ∃ x, (part t xs off).run P w = .ok x w ∧ (Instr.checkKey em (d + 1) t x).run P w = .ok () w := fun k hk hu => by
      subst hk
      obtain ⟨x, rfl⟩ := List.length_eq_one_iff.1 l1.1
      obtain ⟨xv, x1, x2⟩ := ra 0 x rfl
      refine ⟨xv, leaf_part (sz := szOf P) (x := x) hu x1, ?_⟩
      rcases hu with hu | ⟨q, hu⟩ | hu <;> simp [Instr.checkKey, run_underlying hu]
    have agg : (∃ d, P.underlying t = some d ∧ (match d with | .struct _ | .array _ _ => True | _ => False)) → ∀ (zs : Array Value), (part t zs off).run P w = .ok (.agg (zs.extract off (off + P.cellsOf t))) w := fun ⟨q, hq, hm⟩ zs => by
      obtain ⟨i, hi⟩ := info_of_underlying hq
      cases q <;> simp at hm <;> simp [part, isAgg, run_underlying hq, run_sizeOf w hi]
    unfold flatL at h
    split at h
    · rename_i hu; cases h; exact leaf _ rfl (.inl hu)
    · rename_i q hu; cases h; exact leaf _ rfl (.inr (.inl ⟨q, hu⟩))
    · rename_i hu; cases h; exact leaf _ rfl (.inr (.inr hu))
    · rename_i n e hu
      split at h
      · rename_i k1 hk1
        split at h
        · rename_i hl
          cases h
          refine ⟨_, agg ⟨_, hu, trivial⟩ xs, ?_⟩
          have hie : ∃ i, P.info? e = some i := by
            cases m with
            | zero => simp [flatL] at hk1
            | succ m =>
              unfold flatL at hk1
              split at hk1
              all_goals first
                | (rename_i hh; exact info_of_underlying hh)
                | (rename_i _ hh; exact info_of_underlying hh)
                | (rename_i _ _ hh; exact info_of_underlying hh)
                | cases hk1
          obtain ⟨i, hi⟩ := hie
          rw [Instr.checkKey]
          simp only [Sem.run_bind, run_underlying hu, Result.andThen_ok]
          simp only [Std.Legacy.Range.forIn_eq_forIn_range', Std.Legacy.Range.size, Nat.sub_zero, Nat.add_one_sub_one, Nat.div_one]
          have key : ∀ (n s : Nat) (X : Array Value) (as bs : List V) (r : Bool), RelAt (szOf P) σ X (s * P.cellsOf e) as → flatEq (List.replicate n k1).flatten as bs = some r →
              (forIn (List.range' s n) PUnit.unit fun i _ => (do Instr.checkKey em d e (← part e X (i * (← sizeOf e))); pure (ForInStep.yield PUnit.unit) : Sem (ForInStep PUnit))).run P w = .ok PUnit.unit w := by
            intro n
            induction n with
            | zero => intro s X as bs r _ _; simp
            | succ n ihn =>
              intro s X as bs r ra he
              rw [List.replicate_succ, List.flatten_cons] at he
              obtain ⟨as1, as2, bs1, bs2, r1, r2, rfl, rfl, e1, e2, rfl⟩ := flatEq_append he
              obtain ⟨x, p1, p2⟩ := ih e k1 hk1 hl X _ as1 bs1 r1 ra.left e1
              have l1 := flatEq_len e1
              have hs : s * P.cellsOf e + k1.length = (s + 1) * P.cellsOf e := by rw [hl, Nat.add_mul, Nat.one_mul]
              have ih2 := ihn (s + 1) X as2 bs2 r2 (by have := ra.right; rw [l1.1, hs] at this; exact this) e2
              rw [List.range'_succ]
              simp only [List.forIn_cons, Sem.run_bind, run_sizeOf w hi, Result.andThen_ok, p1, p2, Sem.run_pure]
              exact ih2
          have := key n 0 (xs.extract off (off + P.cellsOf t)) as bs r (by rw [Nat.zero_mul]; exact ra.cut (by rw [l1.1, hlen])) he
          simp at this
          simp [this]
        · cases h
      · cases h
    · rename_i fs hu
      split at h
      · cases h
      · rename_i hs
        refine ⟨_, agg ⟨_, hu, trivial⟩ xs, ?_⟩
        rw [Instr.checkKey]
        simp only [Sem.run_bind, run_underlying hu, Result.andThen_ok]
        rw [← Array.forIn_toList]
        have key : ∀ (L : List Field) (o : Nat) (ks : List LK) (X : Array Value) (as bs : List V) (r : Bool), flatFs P (flatL P m) L o = some ks → RelAt (szOf P) σ X o as → flatEq ks as bs = some r →
            (forIn L PUnit.unit fun f _ => (if f.name ≠ "_" then (do let x ← part f.type X f.offset; Instr.checkKey em d f.type x; pure (ForInStep.yield PUnit.unit)) else pure (ForInStep.yield PUnit.unit) : Sem (ForInStep PUnit))).run P w = .ok PUnit.unit w := by
          intro L
          induction L with
          | nil => intro o ks X as bs r _ _ _; simp
          | cons f L ihL =>
            intro o ks X as bs r hk ra he
            simp only [flatFs] at hk
            split at hk
            · rename_i hc
              obtain ⟨hn, rfl⟩ := hc
              split at hk
              · rename_i k1 hk1
                split at hk
                · rename_i hl
                  simp only [Option.map_eq_some_iff] at hk
                  obtain ⟨k2, hk2, rfl⟩ := hk
                  obtain ⟨as1, as2, bs1, bs2, r1, r2, rfl, rfl, e1, e2, rfl⟩ := flatEq_append he
                  obtain ⟨x, p1, p2⟩ := ih _ _ hk1 hl X f.offset as1 bs1 r1 ra.left e1
                  have l1 := flatEq_len e1
                  have ih2 := ihL (f.offset + k1.length) k2 X as2 bs2 r2 hk2 (l1.1 ▸ ra.right) e2
                  simp only [List.forIn_cons, Sem.run_bind, hn, ne_eq, not_false_eq_true, if_true, Result.andThen_ok, p1, p2, Sem.run_pure]
                  exact ih2
                · cases hk
              · cases hk
            · cases hk
        have := key fs.toList 0 ks (xs.extract off (off + P.cellsOf t)) as bs r h (ra.cut (by rw [l1.1, hlen])) he
        simp at this
        simp [this]
    · cases h

theorem keyOk_cases {i : TI} {k : V} (h : keyOk i k = true) : (i.kind = .bool ∧ ∃ b, k = .bool b) ∨ (∃ q, i.kind = .int q ∧ ∃ q' n, k = .int q' n) ∨ (i.kind = .str ∧ ∃ s, k = .str s) ∨
    (i.kind.isAgg = true ∧ ∃ c ks r, k = .agg c ∧ i.flat = some ks ∧ flatEq ks c c = some r) := by
  cases hk : i.kind <;> cases k <;> simp [keyOk, hk] at h
  · exact .inl ⟨rfl, _, rfl⟩
  · exact .inr (.inl ⟨_, rfl, _, _, rfl⟩)
  · exact .inr (.inr (.inl ⟨rfl, _, rfl⟩))
  all_goals
    refine .inr (.inr (.inr ⟨rfl, ?_⟩))
    split at h
    · rename_i ks hks
      obtain ⟨r, hr⟩ := Option.isSome_iff_exists.1 h
      exact ⟨_, ks, r, rfl, hks, hr⟩
    · cases h

theorem key_check {t : TypeId} {i : TI} (ht : TIok P t i) {k : V} {kv : Value} (hk : keyOk i k = true) (rk : Rel (szOf P) σ k kv) (em : Bool) (n : Nat) (hn : 12 ≤ n + 1) : (Instr.checkKey em (n + 1) t kv).run P w = .ok () w := by
  have hkk := ht.kind
  rcases keyOk_cases hk with ⟨e, b, rfl⟩ | ⟨q, e, q', m, rfl⟩ | ⟨e, s, rfl⟩ | ⟨e, c, ks, r, rfl, hks, hr⟩
  · rw [e] at hkk; cases rk; simp [Instr.checkKey, run_underlying hkk]
  · rw [e] at hkk; cases rk; simp [Instr.checkKey, run_underlying hkk]
  · rw [e] at hkk; cases rk; simp [Instr.checkKey, run_underlying hkk]
  · cases rk with
    | agg _ X x1 x2 =>
      obtain ⟨hf, hl⟩ := ht.flat ks hks
      have ll := flatEq_len hr
      obtain ⟨x, p1, p2⟩ := ck_flat (σ := σ) (w := w) em 12 t ks (n + 1) hf (by rw [hl, ht.size]) hn X 0 _ _ r (RelA.at ⟨x1, x2⟩) hr
      have q : (part t X 0).run P w = .ok (.agg X) w := by
        have : X.size = i.size := by omega
        simp [part, ht.run_isAgg, e, ht.run_sizeOf, ← this]
      have e1 := q.symm.trans p1
      simp only [Result.ok.injEq, and_true] at e1
      rw [e1]; exact p2

/-- entries, one by one -/
def RelE (sz : TypeId → Nat) (σ : Gh) (es : List (V × V × Nat)) (es' : List MapEntry) : Prop :=
  es'.length = es.length ∧ ∀ (i : Nat) (e : V × V × Nat) (e' : MapEntry), es[i]? = some e → es'[i]? = some e' → Rel sz σ e.1 e'.key ∧ Rel sz σ e.2.1 e'.val ∧ e.2.2 = e'.born

theorem RelE.cons {sz : TypeId → Nat} {e : V × V × Nat} {es : List (V × V × Nat)} {e' : MapEntry} {es' : List MapEntry} (r : RelE sz σ (e :: es) (e' :: es')) : (Rel sz σ e.1 e'.key ∧ Rel sz σ e.2.1 e'.val ∧ e.2.2 = e'.born) ∧ RelE sz σ es es' := by
  refine ⟨r.2 0 e e' rfl rfl, by have := r.1; simpa using this, fun i a b ha hb => r.2 (i + 1) a b (by simpa using ha) (by simpa using hb)⟩

/-- what is found -/
def Found (es' : List MapEntry) (n : Nat) (res : Option Nat) (r : Option (Nat × Value)) : Prop :=
  match res with
  | none => r = none
  | some j => n ≤ j ∧ ∃ e', es'[j - n]? = some e' ∧ r = some (j, e'.val)

theorem asking_rel {t : TypeId} {i : TI} (ht : TIok P t i) {k : V} {kv : Value} (rk : Rel (szOf P) σ k kv) : ∀ (es : List (V × V × Nat)) (es' : List MapEntry) (n : Nat) (res : Option Nat), RelE (szOf P) σ es es' → findV i k es n = some res →
    ∃ r, (Instr.findAsking t kv es' n).run P w = .ok r w ∧ Found es' n res r
  | [], [], n, res, _, hf => by simp [findV] at hf; subst hf; exact ⟨none, by simp [Instr.findAsking], rfl⟩
  | [], _ :: _, _, _, r, _ => by have := r.1; simp at this
  | _ :: _, [], _, _, r, _ => by have := r.1; simp at this
  | (k1, v1, b1) :: es, e' :: es', n, res, r, hf => by
    obtain ⟨⟨r1, r2, r3⟩, rest⟩ := r.cons
    simp only [findV] at hf
    split at hf
    · rename_i he
      cases hf
      have := equalV_rel (w := w) ht rk r1 he
      exact ⟨some (n, e'.val), by simp [Instr.findAsking, this], Nat.le_refl _, e', by simp, rfl⟩
    · rename_i he
      have := equalV_rel (w := w) ht rk r1 he
      obtain ⟨x, q1, q2⟩ := asking_rel ht rk es es' (n + 1) res rest hf
      refine ⟨x, by simp [Instr.findAsking, this, q1], ?_⟩
      unfold Found at q2 ⊢
      cases res with
      | none => exact q2
      | some j =>
        obtain ⟨h1, e2, h2, h3⟩ := q2
        refine ⟨by omega, e2, ?_, h3⟩
        rw [show j - n = (j - (n + 1)) + 1 by omega, List.getElem?_cons_succ]; exact h2
    · cases hf

theorem now_rel (w : World) {t : TypeId} {i : TI} (ht : TIok P t i) {d : TypeDesc} (hd : P.underlying t = some d) {k : V} {kv : Value} (rk : Rel (szOf P) σ k kv) : ∀ (es : List (V × V × Nat)) (es' : List MapEntry) (n : Nat) (res : Option Nat) (x : Option (Nat × Value)),
    RelE (szOf P) σ es es' → findV i k es n = some res → Instr.findNow d kv es' n = some x → Found es' n res x
  | [], [], n, res, x, _, hf, hx => by simp [findV] at hf; simp [Instr.findNow] at hx; subst hf hx; rfl
  | [], _ :: _, _, _, _, r, _, _ => by have := r.1; simp at this
  | _ :: _, [], _, _, _, r, _, _ => by have := r.1; simp at this
  | (k1, v1, b1) :: es, e' :: es', n, res, x, r, hf, hx => by
    obtain ⟨⟨r1, r2, r3⟩, rest⟩ := r.cons
    have same : ∀ p q, Instr.sameNow d kv e'.key = some p → equalV i k k1 = some q → p = q := fun p q h1 h2 => by
      have hq := equalV_rel (w := w) ht rk r1 h2
      clear r2 r3 rest r r1
      generalize e'.key = ke at h1 hq ⊢
      have hp : (Op.equal t kv ke).run P w = .ok p w := by
        unfold Op.equal
        obtain ⟨m, hm⟩ : ∃ m, Op.maxDepth = m + 1 := ⟨9999, rfl⟩
        rw [hm]
        unfold Instr.sameNow at h1
        split at h1
        · split at h1
          · rename_i e; subst e; cases h1; exact run_equalIn_int w m t _ _ _ _ hd
          · cases h1
        · cases h1; rw [beq_toListBytes]; exact run_equalIn_string w m t _ _ hd
        · cases h1; exact run_equalIn_bool w m t _ _ hd
        · cases h1
      rw [hp] at hq
      simpa using hq
    simp only [findV] at hf
    simp only [Instr.findNow] at hx
    split at hx
    · rename_i h1
      cases hx
      split at hf
      · cases hf; exact ⟨Nat.le_refl _, e', by simp, rfl⟩
      · rename_i h2; have := same _ _ h1 h2; cases this
      · cases hf
    · rename_i h1
      split at hf
      · rename_i h2; have := same _ _ h1 h2; cases this
      · have q2 := now_rel w ht hd rk es es' (n + 1) res x rest hf hx
        unfold Found at q2 ⊢
        cases res with
        | none => exact q2
        | some j =>
          obtain ⟨h1, e2, h2, h3⟩ := q2
          refine ⟨by omega, e2, ?_, h3⟩
          rw [show j - n = (j - (n + 1)) + 1 by omega, List.getElem?_cons_succ]; exact h2
      · cases hf
    · cases hx

theorem find_rel {t : TypeId} {i : TI} (ht : TIok P t i) {k : V} {kv : Value} (rk : Rel (szOf P) σ k kv) {es : List (V × V × Nat)} {es' : List MapEntry} {res : Option Nat} (re : RelE (szOf P) σ es es') (hf : findV i k es 0 = some res) :
    ∃ r, (Instr.findKey t kv es').run P w = .ok r w ∧ Found es' 0 res r := by
  obtain ⟨d, hd⟩ := ht.und
  unfold Instr.findKey
  simp only [Sem.run_bind, run_underlying hd, Result.andThen_ok]
  cases hx : Instr.findNow d kv es' 0 with
  | some x => exact ⟨x, by simp, now_rel w ht hd rk es es' 0 res x re hf hx⟩
  | none => exact asking_rel ht rk es es' 0 res re hf

theorem leaf_same {sz : TypeId → Nat} {k : LK} {x y : V} {xv yv : Value} (rx : Rel sz σ x xv) (ry : Rel sz σ y yv) (he : leafEq k x y = some true) (n : Nat) : Instr.sameBits n yv xv = true := by
  unfold leafEq at he
  split at he
  · cases rx; cases ry; simp at he; subst he; cases n <;> simp [Instr.sameBits]
  · split at he
    · rename_i e; subst e
      cases rx; cases ry; simp at he; subst he; cases n <;> simp [Instr.sameBits]
    · cases he
  · cases rx; cases ry
    rw [bytesOf_inj] at he
    simp at he
    have := (MapKept.bytes_beq _ _).1 he
    subst this
    cases n <;> simp [Instr.sameBits, MapKept.bytes_beq]
  · cases he

theorem flat_same {sz : TypeId → Nat} (n : Nat) : ∀ (ks : List LK) (as bs : List V) (X Y : List Value), flatEq ks as bs = some true → RelA sz σ as ⟨X⟩ → RelA sz σ bs ⟨Y⟩ → ((Y.zip X).all fun p => Instr.sameBits n p.1 p.2) = true
  | [], [], [], X, Y, _, ra, rb => by
    have h1 := ra.1; have h2 := rb.1
    simp at h1 h2
    subst h1 h2; rfl
  | [], [], _ :: _, _, _, h, _, _ => by simp [flatEq] at h
  | [], _ :: _, _, _, _, h, _, _ => by simp [flatEq] at h
  | _ :: _, [], _, _, _, h, _, _ => by simp [flatEq] at h
  | _ :: _, _ :: _, [], _, _, h, _, _ => by simp [flatEq] at h
  | k :: ks, a :: as, b :: bs, X, Y, h, ra, rb => by
    simp only [flatEq] at h
    split at h
    · rename_i x y h1 h2
      have hxy : x = true ∧ y = true := by simpa using h
      obtain ⟨rfl, rfl⟩ := hxy
      have l1 := ra.1; have l2 := rb.1
      cases X with
      | nil => simp at l1
      | cons p X =>
        cases Y with
        | nil => simp at l2
        | cons q Y =>
          have r1 : RelA sz σ as ⟨X⟩ := ⟨by simpa using l1, fun i u v hu hv => ra.2 (i + 1) u v (by simpa using hu) (by simpa using hv)⟩
          have r2 : RelA sz σ bs ⟨Y⟩ := ⟨by simpa using l2, fun i u v hu hv => rb.2 (i + 1) u v (by simpa using hu) (by simpa using hv)⟩
          have := flat_same n ks as bs X Y h2 r1 r2
          rw [List.zip_cons_cons, List.all_cons, this, Bool.and_true]
          exact leaf_same (ra.2 0 a p rfl rfl) (rb.2 0 b q rfl rfl) h1 n
    · cases h

theorem stays_rel {i : TI} {k k' : V} {kv kv' : Value} (hk : keyOk i k = true) (rk : Rel (szOf P) σ k kv) (rk' : Rel (szOf P) σ k' kv') (he : equalV i k k' = some true) : (Instr.keyThatStays kv' kv).run P w = .ok kv w := by
  have : Instr.sameBits (9999 + 1) kv' kv = true := by
    generalize 9999 = n
    rcases keyOk_cases hk with ⟨e, b, rfl⟩ | ⟨q, e, q', m, rfl⟩ | ⟨e, s, rfl⟩ | ⟨e, c, ks, r, rfl, hks, hr⟩
    · cases k' <;> simp [equalV, e] at he
      exact leaf_same (k := .bool) rk rk' (by simp [leafEq, he]) _
    · cases k' <;> simp [equalV, e] at he
      obtain ⟨h1, h2⟩ := he
      exact leaf_same (k := .int) rk rk' (by simp [leafEq, h1, h2]) _
    · cases k' <;> simp [equalV, e] at he
      exact leaf_same (k := .str) rk rk' (by simp [leafEq, he]) _
    · have hc : ∃ c', k' = .agg c' := by
        cases k' <;> first | exact ⟨_, rfl⟩ | (exfalso; cases hkk : i.kind <;> (rw [hkk] at e; simp [TK.isAgg] at e) <;> simp [equalV, hkk] at he)
      obtain ⟨c', rfl⟩ := hc
      obtain ⟨ks', k1, k2, _⟩ := equalV_agg he
      have ll := flatEq_len k2
      cases rk with
      | agg _ X x1 x2 =>
      cases rk' with
      | agg _ Y y1 y2 =>
      simp only [Instr.sameBits, Bool.and_eq_true, beq_iff_eq]
      exact ⟨by omega, flat_same n ks' c c' X.toList Y.toList k2 ⟨x1, x2⟩ ⟨y1, y2⟩⟩
  simp [Instr.keyThatStays, this]

end Go.AM

/- AM: maps (2): what reads and changes them; min, max. -/
namespace Go.AM
variable {P : Program} {E : Env} {σ : Gh} {w : World} {h h' : Heap} {T : List V} {a : Act} {u : V}

theorem map_ob (inv : Inv (szOf P) σ w h) {g : Nat} {es : List (V × V × Nat)} {clock : Nat} (hg : h[g]? = some (.map es clock)) :
    σ.ver g = 0 ∧ ∃ es' : Array MapEntry, w.heap[σ.phi g]? = some (.map es' clock) ∧ RelE (szOf P) σ es es'.toList := by
  obtain ⟨h0, es', h1, h2, h3⟩ := inv.ob g _ hg
  exact ⟨h0, es', h1, by simpa using h2, fun i e e' p q => h3 i e e' p (by simpa using q)⟩

theorem map_change (inv : Inv (szOf P) σ w h) {g : Nat} {es fs : List (V × V × Nat)} {clock c' : Nat} (hg : h[g]? = some (.map es clock)) {fs' : Array MapEntry} (hr : RelE (szOf P) σ fs fs'.toList) :
    (setObj (σ.phi g) (.map fs' c')).run P w = .ok () { w with heap := w.heap.setIfInBounds (σ.phi g) (.map fs' c') } ∧
    Post (szOf P) σ h w σ (h.set g (.map fs c')) { w with heap := w.heap.setIfInBounds (σ.phi g) (.map fs' c') } := by
  obtain ⟨h0, es', h1, h2⟩ := map_ob inv hg
  have hlt := heap_lt h1
  refine ⟨MapKept.run_setObj_map _ h1, Post.inplace inv hg (by simp) (by simp) ⟨by simp, fun x hx => ?_, rfl, rfl, rfl⟩ ⟨h0, fs', ?_, by have := hr.1; simpa using this, fun i e e' p q => hr.2 i e e' p (by simpa using q)⟩⟩
  · exact (MapKept.heap_set h1).2 x hx
  · exact (MapKept.heap_set h1).1

theorem RelE.set {sz : TypeId → Nat} {es : List (V × V × Nat)} {es' : Array MapEntry} (r : RelE sz σ es es'.toList) {j : Nat} {e : V × V × Nat} {e' : MapEntry} (he : es[j]? = some e) (he' : es'[j]? = some e') (f : MapEntry → MapEntry) {x : V × V × Nat}
    (hx : Rel sz σ x.1 (f e').key ∧ Rel sz σ x.2.1 (f e').val ∧ x.2.2 = (f e').born) : RelE sz σ (es.set j x) (es'.modify j f).toList := by
  refine ⟨by have := r.1; simpa using this, fun i p q hp hq => ?_⟩
  rw [Array.getElem?_toList, Array.getElem?_modify] at hq
  by_cases e : j = i
  · subst e
    rw [List.getElem?_set_self (list_lt he)] at hp
    cases hp
    rw [if_pos rfl, he'] at hq
    simp at hq; subst hq; exact hx
  · rw [List.getElem?_set_ne e] at hp
    rw [if_neg e] at hq
    exact r.2 i p q hp (by simpa using hq)

theorem RelE.push {sz : TypeId → Nat} {es : List (V × V × Nat)} {es' : Array MapEntry} (r : RelE sz σ es es'.toList) {x : V × V × Nat} {y : MapEntry} (hx : Rel sz σ x.1 y.key ∧ Rel sz σ x.2.1 y.val ∧ x.2.2 = y.born) : RelE sz σ (es ++ [x]) (es'.push y).toList := by
  have l := r.1
  refine ⟨by simp at l ⊢; exact l, fun i p q hp hq => ?_⟩
  rw [Array.toList_push] at hq
  rw [List.getElem?_append] at hp hq
  rw [l] at hq
  split at hp
  · rename_i hlt
    rw [if_pos hlt] at hq
    exact r.2 i p q hp hq
  · rename_i hlt
    rw [if_neg hlt] at hq
    have hi : i - es.length = 0 := by
      rcases Nat.eq_zero_or_pos (i - es.length) with e | e
      · exact e
      · rw [List.getElem?_eq_none (by simp; omega)] at hp; cases hp
    rw [hi] at hp hq
    simp at hp hq
    subst hp hq; exact hx

theorem RelE.erase {sz : TypeId → Nat} {es : List (V × V × Nat)} {es' : Array MapEntry} (r : RelE sz σ es es'.toList) (j : Nat) (hj : j < es.length) : RelE sz σ (es.eraseIdx j) (es'.eraseIdxIfInBounds j).toList := by
  have l := r.1
  have e1 : (es'.eraseIdxIfInBounds j).toList = es'.toList.eraseIdx j := by
    unfold Array.eraseIdxIfInBounds
    rw [dif_pos (by simp at l; omega)]; simp
  rw [e1]
  refine ⟨by rw [List.length_eraseIdx, List.length_eraseIdx, l], fun i p q hp hq => ?_⟩
  rw [List.getElem?_eraseIdx] at hp hq
  split at hp
  · rename_i hc; rw [if_pos hc] at hq; exact r.2 _ p q hp hq
  · rename_i hc; rw [if_neg hc] at hq; exact r.2 _ p q hp hq

theorem RelE.at {sz : TypeId → Nat} {es : List (V × V × Nat)} {es' : Array MapEntry} (r : RelE sz σ es es'.toList) {j : Nat} {e : V × V × Nat} {e' : MapEntry} (he : es[j]? = some e) (he' : es'.toList[j]? = some e') : es'[j]? = some e' ∧ Rel sz σ e.1 e'.key ∧ Rel sz σ e.2.1 e'.val ∧ e.2.2 = e'.born :=
  ⟨by simpa using he', r.2 j e e' he he'⟩

/-- what is found has the key -/
theorem findV_key {i : TI} {k : V} : ∀ {es : List (V × V × Nat)} {n j : Nat} {e : V × V × Nat}, findV i k es n = some (some j) → es[j - n]? = some e → equalV i k e.1 = some true
  | [], n, j, e, hf, he => by simp [findV] at hf
  | (k1, v1, b1) :: es, n, j, e, hf, he => by
    simp only [findV] at hf
    split at hf
    · rename_i hq
      simp at hf; subst hf
      simp at he; subst he; exact hq
    · have hj : n + 1 ≤ j := by
        have : ∀ {es : List (V × V × Nat)} {n j : Nat}, findV i k es n = some (some j) → n ≤ j := by
          intro es
          induction es with
          | nil => intro n j h; simp [findV] at h
          | cons x es ih =>
            intro n j h
            obtain ⟨a, b, c⟩ := x
            simp only [findV] at h
            split at h
            · simp at h; omega
            · have := ih h; omega
            · cases h
        exact this hf
      rw [show j - n = (j - (n + 1)) + 1 by omega, List.getElem?_cons_succ] at he
      exact findV_key hf he
    · cases hf

theorem zero_rel {t : TypeId} {i : TI} (ht : TIok P t i) (σ : Gh) : ∃ z, Rel (szOf P) σ i.zero z ∧ ∀ w : World, (zeroValue t).run P w = .ok z w := by
  obtain ⟨z, h1, h2⟩ := ht.run_zero
  exact ⟨z, ofValue_rel _ _ z _ h1, h2⟩

section
variable (hE : EnvOk P E) (inv : Inv (szOf P) σ w h) (r : RelA (szOf P) σ T a.tmps)
include hE inv r

theorem op_lookup {o : Oper} {t : TypeId} {x y : Operand} {ok : Bool} (ho : o.op = .lookup t x y ok) (hv : opV E T h o.op = some (u, h')) : PureDone P σ h w (execOp a.eval o) u h' := by
  rw [ho] at hv
  simp only [opV] at hv
  split at hv
  · rename_i m k hm hk
    obtain ⟨hv1, hh⟩ := map_h hv
    subst hh
    clear hv
    have hv := hv1
    clear hv1
    have rm := evalV_rel r hm
    have rk := evalV_rel r hk
    unfold lookupV at hv
    split at hv
    · rename_i i hi
      have htk := (hE.ti t i hi).kind
      split at hv
      · rename_i kt et hkk
        rw [hkk] at htk
        split at hv
        · rename_i ik ie hik hie
          split at hv
          · cases hv
          rename_i hok
          dsimp only at hv
          have hok : keyOk ik k = true := by simpa using hok
          have tk := hE.ti kt ik hik
          have te := hE.ti et ie hie
          obtain ⟨z, z1, z2⟩ := zero_rel te σ
          have out : ∀ (x : V) (xv : Value) (b : Bool), Rel (szOf P) σ x xv → Rel (szOf P) σ (if ok then .tuple [x, .bool b] else x) (if ok then .tuple #[xv, .bool b] else xv) := fun x xv b rx => by
            cases ok
            · exact rx
            · refine .tuple _ _ rfl fun i p q hp hq => ?_
              match i with
              | 0 => simp at hp hq; subst hp hq; exact rx
              | 1 => simp at hp hq; subst hp hq; exact .bool b
              | n + 2 => simp at hp
          generalize hmv : a.eval x = mv at rm
          generalize hkv : a.eval y = kv at rk
          have ck := fun em => key_check (w := w) tk hok rk em 9999 (by omega)
          split at hv
          · cases hv
            cases rm
            refine PureDone.pureV inv (v := if ok then .tuple #[z, .bool false] else z) ?_ (out _ _ _ z1)
            obtain ⟨fr, f1, f2⟩ := find_rel (w := w) (es := []) (es' := []) (res := none) tk rk ⟨rfl, fun i e e' h => by simp at h⟩ rfl
            have f2 : fr = none := f2
            subst f2
            simp [execOp, ho, hmv, hkv, Instr.lookup, run_underlying htk, ck, f1, z2]
          · rename_i g
            split at hv
            · rename_i es clock hg
              cases rm
              obtain ⟨_, es', b1, b2⟩ := map_ob inv hg
              split at hv
              · rename_i n hf
                simp only [Option.map_eq_some_iff] at hv
                obtain ⟨e, he, rfl⟩ := hv
                obtain ⟨fr, f1, f2⟩ := find_rel (w := w) tk rk b2 hf
                obtain ⟨_, e', f3, rfl⟩ := f2
                obtain ⟨_, _, q2, _⟩ := b2.at he f3
                refine PureDone.pureV inv (v := if ok then .tuple #[e'.val, .bool true] else e'.val) ?_ (out _ _ _ q2)
                simp [execOp, ho, hmv, hkv, Instr.lookup, run_underlying htk, ck, f1, MapKept.run_getObj_map b1]
              · rename_i hf
                cases hv
                obtain ⟨fr, f1, f2⟩ := find_rel (w := w) tk rk b2 hf
                have f2 : fr = none := f2
                subst f2
                refine PureDone.pureV inv (v := if ok then .tuple #[z, .bool false] else z) ?_ (out _ _ _ z1)
                simp [execOp, ho, hmv, hkv, Instr.lookup, run_underlying htk, ck, f1, z2, MapKept.run_getObj_map b1]
              · cases hv
            · cases hv
          · cases hv
        · cases hv
      · cases hv
    · cases hv
  · cases hv

omit inv r in
theorem keyTI_of {t : TypeId} {ik ie : TI} (hk : keyTI E t = some (ik, ie)) : ∃ kt et, P.underlying t = some (.map kt et) ∧ TIok P kt ik ∧ TIok P et ie := by
  unfold keyTI at hk
  split at hk
  · rename_i i hi
    have htk := (hE.ti t i hi).kind
    split at hk
    · rename_i kt et hkk
      rw [hkk] at htk
      split at hk
      · rename_i a b h1 h2
        cases hk
        exact ⟨kt, et, htk, hE.ti kt _ h1, hE.ti et _ h2⟩
      · cases hk
    · cases hk
  · cases hk

omit r in
theorem updateV_rel {t : TypeId} {m k v : V} {mv kv vv : Value} (rm : Rel (szOf P) σ m mv) (rk : Rel (szOf P) σ k kv) (rv : Rel (szOf P) σ v vv) (hu : updateV E h t m k v = some h') :
    ∃ w', (Instr.mapUpdate t mv kv vv).run P w = .ok () w' ∧ Post (szOf P) σ h w σ h' w' := by
  unfold updateV at hu
  split at hu
  · rename_i ik ie g hkt
    obtain ⟨kt, et, htk, tk, te⟩ := keyTI_of hE hkt
    split at hu
    · cases hu
    rename_i hok
    have hok : keyOk ik k = true := by simpa using hok
    have ck := fun em => key_check (w := w) tk hok rk em 9999 (by omega)
    split at hu
    · rename_i es clock hg
      cases rm
      obtain ⟨_, es', b1, b2⟩ := map_ob inv hg
      split at hu
      · rename_i n hf
        simp only [Option.map_eq_some_iff] at hu
        obtain ⟨e, he, rfl⟩ := hu
        obtain ⟨fr, f1, f2⟩ := find_rel (w := w) tk rk b2 hf
        obtain ⟨_, e', f3, rfl⟩ := f2
        obtain ⟨q0, q1, q2, q3⟩ := b2.at he f3
        have st := stays_rel (w := w) (P := P) hok rk q1 (findV_key hf (by simpa using he))
        obtain ⟨m1, m2⟩ := map_change inv hg (c' := clock) (fs := es.set n (k, v, e.2.2)) (fs' := es'.modify n fun x => { x with key := kv, val := vv }) (b2.set he q0 _ ⟨rk, rv, q3⟩)
        refine ⟨_, ?_, m2⟩
        simp [Instr.mapUpdate, run_underlying htk, ck, f1, MapKept.run_getObj_map b1, q0, st, m1]
      · rename_i hf
        cases hu
        obtain ⟨fr, f1, f2⟩ := find_rel (w := w) tk rk b2 hf
        have f2 : fr = none := f2
        subst f2
        obtain ⟨m1, m2⟩ := map_change inv hg (c' := clock + 1) (fs := es ++ [(k, v, clock)]) (fs' := es'.push { key := kv, val := vv, born := clock }) (b2.push ⟨rk, rv, rfl⟩)
        refine ⟨_, ?_, m2⟩
        simp [Instr.mapUpdate, run_underlying htk, ck, f1, MapKept.run_getObj_map b1, m1]
      · cases hu
    · cases hu
  · cases hu

theorem op_mapUpdate {o : Oper} {t : TypeId} {m k x : Operand} (ho : o.op = .mapUpdate t m k x) (hv : opV E T h o.op = some (u, h')) : OpDone P σ h w (execOp a.eval o) u h' := by
  rw [ho] at hv
  simp only [opV] at hv
  split at hv
  · rename_i mv kv xv hm hk hx
    simp only [Option.map_eq_some_iff] at hv
    obtain ⟨h1, hu, e⟩ := hv
    cases e
    obtain ⟨w', q1, q2⟩ := updateV_rel (w := w) hE inv (evalV_rel r hm) (evalV_rel r hk) (evalV_rel r hx) hu
    exact ⟨σ, w', q2, .inr ⟨by simp [execOp, ho, q1], rfl⟩⟩
  · cases hv

theorem pair_rel {sz : TypeId → Nat} {x y : V} {xv yv : Value} (rx : Rel sz σ x xv) (ry : Rel sz σ y yv) : Rel sz σ (.tuple [x, y]) (.tuple #[xv, yv]) := by
  have _ := hE
  have _ := inv
  have _ := r
  refine .tuple _ _ rfl fun i p q hp hq => ?_
  match i with
  | 0 => simp at hp hq; subst hp hq; exact rx
  | 1 => simp at hp hq; subst hp hq; exact ry
  | n + 2 => simp at hp

theorem op_mapEntry {o : Oper} {t : TypeId} {m k : Operand} (ho : o.op = .mapEntry t m k) (hv : opV E T h o.op = some (u, h')) : OpDone P σ h w (execOp a.eval o) u h' := by
  rw [ho] at hv
  simp only [opV] at hv
  split at hv
  · rename_i mv kv hm hk
    have rm := evalV_rel r hm
    have rk := evalV_rel r hk
    generalize hmv : a.eval m = mv' at rm
    generalize hkv : a.eval k = kv' at rk
    unfold entryV at hv
    split at hv
    · rename_i ik ie g hkt
      obtain ⟨kt, et, htk, tk, te⟩ := keyTI_of hE hkt
      split at hv
      · cases hv
      rename_i hok
      have hok : keyOk ik kv = true := by simpa using hok
      have ck := fun em => key_check (w := w) tk hok rk em 9999 (by omega)
      split at hv
      · rename_i es clock hg
        cases rm
        obtain ⟨_, es', b1, b2⟩ := map_ob inv hg
        split at hv
        · rename_i n hf
          simp only [Option.map_eq_some_iff] at hv
          obtain ⟨e, he, hv⟩ := hv
          cases hv
          obtain ⟨fr, f1, f2⟩ := find_rel (w := w) tk rk b2 hf
          obtain ⟨_, e', f3, rfl⟩ := f2
          obtain ⟨q0, q1, q2, q3⟩ := b2.at he f3
          have st := stays_rel (w := w) (P := P) hok rk q1 (findV_key hf (by simpa using he))
          obtain ⟨m1, m2⟩ := map_change inv hg (c' := clock) (fs := es.set n (kv, e.2.1, e.2.2)) (fs' := es'.modify n fun x => { x with key := kv' }) (b2.set he q0 _ ⟨rk, q2, q3⟩)
          refine ⟨σ, _, m2, .inl ⟨.tuple #[e'.val, goInt e'.born], ?_, pair_rel hE inv r q2 (by rw [q3]; exact .int _ _)⟩⟩
          simp [execOp, ho, hmv, hkv, Instr.mapEntry, run_underlying htk, ck, f1, MapKept.run_getObj_map b1, q0, st, m1]
        · rename_i hf
          cases hv
          obtain ⟨fr, f1, f2⟩ := find_rel (w := w) tk rk b2 hf
          have f2 : fr = none := f2
          subst f2
          obtain ⟨z, z1, z2⟩ := zero_rel te σ
          obtain ⟨m1, m2⟩ := map_change inv hg (c' := clock + 1) (fs := es ++ [(kv, ie.zero, clock)]) (fs' := es'.push { key := kv', val := z, born := clock }) (b2.push ⟨rk, z1, rfl⟩)
          refine ⟨σ, _, m2, .inl ⟨.tuple #[z, goInt clock], ?_, pair_rel hE inv r z1 (.int _ _)⟩⟩
          simp [execOp, ho, hmv, hkv, Instr.mapEntry, run_underlying htk, ck, f1, MapKept.run_getObj_map b1, m1, z2]
        · cases hv
      · cases hv
    · cases hv
  · cases hv

omit hE inv r in
theorem findBorn_rel {sz : TypeId → Nat} {b : Int} : ∀ {es : List (V × V × Nat)} {es' : List MapEntry} {n j : Nat}, RelE sz σ es es' → findBorn b es n = some j → n ≤ j ∧ es'.findIdx? (fun e => (e.born : Int) == b) = some (j - n)
  | [], _, n, j, _, h => by simp [findBorn] at h
  | _ :: _, [], _, _, r, _ => by have := r.1; simp at this
  | e :: es, e' :: es', n, j, r, h => by
    obtain ⟨⟨r1, r2, r3⟩, rest⟩ := r.cons
    simp only [findBorn] at h
    rw [List.findIdx?_cons]
    rw [← r3]
    split at h
    · rename_i hc; cases h; rw [if_pos hc]; simp
    · rename_i hc
      obtain ⟨p, q⟩ := findBorn_rel rest h
      rw [if_neg hc, q]
      exact ⟨by omega, by simp; omega⟩

theorem op_entryStore {o : Oper} {t : TypeId} {m s x : Operand} (ho : o.op = .entryStore t m s x) (hv : opV E T h o.op = some (u, h')) : OpDone P σ h w (execOp a.eval o) u h' := by
  have _ := hE
  rw [ho] at hv
  simp only [opV] at hv
  split at hv
  · rename_i mv sv xv hm hs hx
    simp only [Option.map_eq_some_iff] at hv
    obtain ⟨h1, hu, e⟩ := hv
    cases e
    have rm := evalV_rel r hm
    have rs := evalV_rel r hs
    have rx := evalV_rel r hx
    generalize hmv : a.eval m = mv' at rm
    generalize hsv : a.eval s = sv' at rs
    generalize hxv : a.eval x = xv' at rx
    unfold entryStoreV at hu
    split at hu
    · rename_i g q b
      split at hu
      · rename_i es clock hg
        cases rm
        cases rs
        obtain ⟨_, es', b1, b2⟩ := map_ob inv hg
        split at hu
        · rename_i n hf
          simp only [Option.map_eq_some_iff] at hu
          obtain ⟨e, he, rfl⟩ := hu
          obtain ⟨_, f1⟩ := findBorn_rel b2 hf
          obtain ⟨e', he', _⟩ : ∃ e', es'.toList[n]? = some e' ∧ True := by
            have := list_lt he
            exact ⟨es'.toList[n]'(by rw [b2.1]; exact this), List.getElem?_eq_getElem _, trivial⟩
          obtain ⟨q0, q1, q2, q3⟩ := b2.at he he'
          obtain ⟨m1, m2⟩ := map_change inv hg (c' := clock) (fs := es.set n (e.1, xv, e.2.2)) (fs' := es'.modify n fun x => { x with val := xv' }) (b2.set he q0 _ ⟨q1, rx, q3⟩)
          refine ⟨σ, _, m2, .inr ⟨?_, rfl⟩⟩
          have f1' : es'.findIdx? (fun e => (e.born : Int) == b) = some n := by
            obtain ⟨l⟩ := es'
            rw [List.findIdx?_toArray]; simpa using f1
          simp [execOp, ho, hmv, hsv, hxv, Instr.entryStore, MapKept.run_getObj_map b1, asInt, asIntOf, f1', m1]
        · cases hu
      · cases hu
    · cases hu
  · cases hv

theorem op_delete {o : Oper} {args : Array Operand} {ts : Array TypeId} (ho : o.op = .call ⟨.builtin .delete, args, ts⟩) {x y : V} (he : evalVs T args.toList = some [x, y]) (hv : builtinV E h .delete ts [x, y] = some (u, h')) : OpDone P σ h w (execOp a.eval o) u h' := by
  obtain ⟨cs, hrun⟩ := run_builtin hE inv r ho (P := P)
  obtain ⟨mv, kv, hargs, rm, rk⟩ := args2 hE inv r he
  rw [hargs] at hrun
  simp only [builtinV] at hv
  split at hv
  · rename_i t ht0
    simp only [Option.map_eq_some_iff] at hv
    obtain ⟨h1, hd, e⟩ := hv
    cases e
    have rt : ∀ τ, Rel (szOf P) τ (V.tuple []) (Value.tuple #[]) := fun τ => .tuple [] #[] rfl (fun i u v h => by simp at h)
    unfold deleteV at hd
    split at hd
    · rename_i ik ie hkt
      obtain ⟨kt, et, htk, tk, te⟩ := keyTI_of hE hkt
      split at hd
      · rename_i hok
        cases hd
        cases rm
        have ck := fun em => key_check (w := w) tk hok rk em 9999 (by omega)
        refine OpDone.pureV inv (v := .tuple #[]) ?_ (rt _)
        rw [hrun]
        simp [builtin, Builtin.delete_, ht0, run_underlying htk, ck]
      · cases hd
    · rename_i ik ie g hkt
      obtain ⟨kt, et, htk, tk, te⟩ := keyTI_of hE hkt
      split at hd
      · cases hd
      rename_i hok
      have hok : keyOk ik y = true := by simpa using hok
      have ck := fun em => key_check (w := w) tk hok rk em 9999 (by omega)
      split at hd
      · rename_i es clock hg
        cases rm
        obtain ⟨_, es', b1, b2⟩ := map_ob inv hg
        split at hd
        · rename_i n hf
          cases hd
          obtain ⟨fr, f1, f2⟩ := find_rel (w := w) tk rk b2 hf
          obtain ⟨_, e', f3, rfl⟩ := f2
          obtain ⟨m1, m2⟩ := map_change inv hg (c' := clock) (fs := es.eraseIdx n) (fs' := es'.eraseIdxIfInBounds n) (b2.erase n (by have := list_lt f3; rw [b2.1] at this; exact this))
          refine ⟨σ, _, m2, .inl ⟨.tuple #[], ?_, rt _⟩⟩
          rw [hrun]
          simp [builtin, Builtin.delete_, ht0, run_underlying htk, ck, f1, MapKept.run_getObj_map b1, m1]
        · rename_i hf
          cases hd
          obtain ⟨fr, f1, f2⟩ := find_rel (w := w) tk rk b2 hf
          have f2 : fr = none := f2
          subst f2
          obtain ⟨m1, m2⟩ := map_change inv hg (c' := clock) (fs := es) (fs' := es') b2
          have hset : ∀ {α : Type} {l : List α} {g : Nat} {x : α}, l[g]? = some x → l.set g x = l := fun {α l g x} h => by
            obtain ⟨h1, rfl⟩ := List.getElem?_eq_some_iff.1 h
            exact List.set_getElem_self h1
          rw [hset hg] at m2
          refine ⟨σ, _, m2, .inl ⟨.tuple #[], ?_, rt _⟩⟩
          rw [hrun]
          simp [builtin, Builtin.delete_, ht0, run_underlying htk, ck, f1, MapKept.run_getObj_map b1, m1]
        · cases hd
      · cases hd
    · cases hd
  · cases hv

end
end Go.AM

/- AM: min, max; iterators. -/
namespace Go.AM
variable {P : Program} {E : Env} {σ : Gh} {w : World} {h h' : Heap} {T : List V} {a : Act} {u : V}

def mm (big : Bool) : Value → Value → Sem Value := if big then Builtin.max2 else Builtin.min2

theorem maxFold (big : Bool) : ∀ (l : List V) (vs : List Value) (k : IntKind) (x : Int), RelA (szOf P) σ l ⟨vs⟩ →
    l.foldlM (m := Option) (fun a b => match a, b with
      | .int k x, .int k' y => if k = k' then some (V.int k (if big then (if y > x then y else x) else (if y < x then y else x))) else none
      | _, _ => none) (V.int k x) = some u → ∃ v, (vs.foldlM (mm big) (Value.int k x)).run P w = .ok v w ∧ Rel (szOf P) σ u v
  | [], vs, k, x, r, h => by
    have := r.1
    simp at this; subst this
    simp at h; subst h
    exact ⟨_, by simp, .int _ _⟩
  | y :: l, vs, k, x, r, h => by
    have l1 := r.1
    cases vs with
    | nil => simp at l1
    | cons v vs =>
      have r1 : RelA (szOf P) σ l ⟨vs⟩ := ⟨by simpa using l1, fun i u v hu hv => r.2 (i + 1) u v (by simpa using hu) (by simpa using hv)⟩
      have r0 := r.2 0 y v rfl rfl
      rw [List.foldlM_cons] at h
      cases y <;> simp at h
      rename_i k' n
      rw [Option.bind_eq_some_iff] at h
      obtain ⟨z, hz, h⟩ := h
      split at hz
      · rename_i e
        subst e
        cases hz
        cases r0
        obtain ⟨v, q1, q2⟩ := maxFold big l vs k _ r1 h
        refine ⟨v, ?_, q2⟩
        rw [List.foldlM_cons]
        cases big <;> simpa [mm, Builtin.max2, Builtin.min2] using q1
      · cases hz

section
variable (hE : EnvOk P E) (inv : Inv (szOf P) σ w h) (r : RelA (szOf P) σ T a.tmps)
include hE inv r

theorem op_minmax {o : Oper} {args : Array Operand} {ts : Array TypeId} {big : Bool} (ho : o.op = .call ⟨.builtin (if big then .max else .min), args, ts⟩) {l : List V} (he : evalVs T args.toList = some l) (hv : (maxV big l).map (·, h) = some (u, h')) : PureDone P σ h w (execOp a.eval o) u h' := by
  obtain ⟨cs, hrun⟩ := run_builtin hE inv r ho (P := P)
  have rr := evalVs_rel r he
  obtain ⟨hu, hh⟩ := map_h hv
  subst hh
  have e1 : (args.map a.eval).toList = args.toList.map a.eval := by simp
  have key : ∃ v, (if big then Builtin.max_ ts o.type (args.map a.eval) else Builtin.min_ ts o.type (args.map a.eval)).run P w = .ok v w ∧ Rel (szOf P) σ u v := by
    unfold Builtin.max_ Builtin.min_
    rw [e1]
    generalize args.toList.map a.eval = vs at rr
    cases l with
    | nil => simp [maxV] at hu
    | cons y l =>
      cases y <;> simp only [maxV] at hu <;> try (cases hu; done)
      rename_i k x
      have l1 := rr.1
      cases vs with
      | nil => simp at l1
      | cons v vs =>
        have r1 : RelA (szOf P) σ l ⟨vs⟩ := ⟨by simpa using l1, fun i u v hu hv => rr.2 (i + 1) u v (by simpa using hu) (by simpa using hv)⟩
        have r0 := rr.2 0 _ v rfl rfl
        cases r0
        obtain ⟨v, q1, q2⟩ := maxFold (P := P) (w := w) big l vs k x r1 hu
        refine ⟨v, ?_, q2⟩
        cases big <;> simpa [mm] using q1
  obtain ⟨v, q1, q2⟩ := key
  refine PureDone.pureV inv (v := v) ?_ q2
  rw [hrun]
  cases big <;> simp at q1 ⊢ <;> simp [builtin, q1]

end
end Go.AM

/- AM: iterators. -/
namespace Go.AM
variable {P : Program} {E : Env} {σ : Gh} {w : World} {h h' : Heap} {T : List V} {a : Act} {u : V}

theorem decode_ascii {s : ByteArray} {pos : Nat} {c : Int} {wd : Nat} (h : runeV (bytesOf s) pos = some (c, wd)) : Utf8.decode s pos = (c.toNat, wd) ∧ ((c.toNat : Nat) : Int) = c := by
  unfold runeV at h
  split at h
  · rename_i b hb
    obtain ⟨x, hx, rfl⟩ := bytesOf_get hb
    split at h
    · rename_i hlt
      cases h
      have hp : pos < s.size := by rw [← bytesOf_len]; exact list_lt hb
      have hg : s.get! pos = x := by
        have : s[pos]? = some (s.get! pos) := by
          rw [getElem?_pos s pos hp]
          show some (s.data[pos]) = some (s.data[pos]!)
          rw [getElem!_pos s.data pos hp]
        rw [hx] at this
        exact (Option.some.inj this).symm
      refine ⟨?_, by simp⟩
      unfold Utf8.decode
      simp only [Nat.add_zero, hg]
      rw [if_pos hlt]; simp
    · cases h
  · cases h

theorem RelE.filter {sz : TypeId → Nat} {p : V × V × Nat → Bool} {q : MapEntry → Bool} (hpq : ∀ e e', e.2.2 = e'.born → p e = q e') : ∀ {es : List (V × V × Nat)} {es' : List MapEntry}, RelE sz σ es es' → RelE sz σ (es.filter p) (es'.filter q)
  | [], [], _ => ⟨rfl, fun i e e' h => by simp at h⟩
  | [], _ :: _, r => by have := r.1; simp at this
  | _ :: _, [], r => by have := r.1; simp at this
  | e :: es, e' :: es', r => by
    obtain ⟨r0, rest⟩ := r.cons
    have ih := RelE.filter hpq rest
    rw [List.filter_cons, List.filter_cons, hpq e e' r0.2.2]
    split
    · refine ⟨by simp [ih.1], fun i a b ha hb => ?_⟩
      cases i with
      | zero => simp at ha hb; subst ha hb; exact r0
      | succ i => exact ih.2 i a b (by simpa using ha) (by simpa using hb)
    · exact ih

section
variable (hE : EnvOk P E) (inv : Inv (szOf P) σ w h) (r : RelA (szOf P) σ T a.tmps)
include hE inv r

theorem op_range {o : Oper} {t : TypeId} {x : Operand} (ho : o.op = .range t x) (hv : opV E T h o.op = some (u, h')) : OpDone P σ h w (execOp a.eval o) u h' := by
  rw [ho] at hv
  simp only [opV] at hv
  split at hv
  · rename_i v hx
    have rx := evalV_rel r hx
    generalize hxv : a.eval x = xv at rx
    unfold rangeV at hv
    split at hv
    · rename_i i hi
      have htk := (hE.ti t i hi).kind
      have fin : ∀ (ob : Ob) (it : Obj), ob ≠ .dead → RelOb (szOf P) (σ.add w.heap.size 0 0) (w.alloc it) σ.n ob → (Instr.range t xv).run P w = .ok (.pointer (some ⟨w.heap.size, 0, none⟩)) (w.alloc it) →
          OpDone P σ h w (execOp a.eval o) (.ptr h.length 0) (h ++ [ob]) := fun ob it hne hob hrun => by
        refine ⟨_, _, Post.push inv ob it 0 0 hne hob, .inl ⟨.pointer (some ⟨w.heap.size, 0, none⟩), by simp [execOp, ho, hxv, hrun], ?_⟩⟩
        have : Rel (szOf P) (σ.add w.heap.size 0 0) (.ptr σ.n 0) (.pointer (some ⟨(σ.add w.heap.size 0 0).phi σ.n, 0, none⟩)) := .ptr _ _ (by simp [Gh.add]) (by simp [Gh.add])
        rw [inv.len]
        simpa [Gh.add] using this
      split at hv
      · rename_i s hk
        rw [hk] at htk
        cases hv
        cases rx with
        | str bs =>
          refine fin _ (.stringIter bs 0) (by simp) ⟨by simp [Gh.add], bs, rfl, ?_⟩ (by simp [Instr.range, run_underlying htk, World.alloc_eq])
          simp only [Gh.add, upd_same]; exact alloc_new w _
      · rename_i hk
        rw [hk] at htk
        cases hv
        cases rx with
        | nilmap =>
          refine fin _ (.mapIter none 0 #[] 0) (by simp) ⟨by simp [Gh.add], fun x hx => (by cases hx), ?_⟩ (by simp [Instr.range, run_underlying htk, World.alloc_eq])
          simp only [Gh.add, upd_same]; exact alloc_new w _
      · rename_i g hk
        rw [hk] at htk
        split at hv
        · rename_i es clock hg
          cases hv
          cases rx with
          | map _ g1 g2 =>
            obtain ⟨_, es', b1, b2⟩ := map_ob inv hg
            have e1 : (σ.add w.heap.size 0 0).phi g = σ.phi g := by simp only [Gh.add]; exact upd_ne _ (by omega)
            refine fin _ (.mapIter (some (σ.phi g)) clock #[] clock) (by simp) ⟨by simp [Gh.add], fun x hx => ?_, ?_⟩ (by simp [Instr.range, run_underlying htk, World.alloc_eq, MapKept.run_getObj_map b1])
            · cases hx
              refine ⟨by simp [Gh.add]; omega, ?_⟩
              simp only [Gh.add]; rw [upd_ne _ (by omega)]; exact g2
            · rw [Option.map_some, e1]
              simp only [Gh.add, upd_same]; exact alloc_new w _
        · cases hv
      · cases hv
    · cases hv
  · cases hv

omit hE r in
theorem ob_change {g : Nat} {old ob : Ob} (hg : h[g]? = some old) (hold : old ≠ .dead) (hne : ob ≠ .dead) {o0 o' : Obj} (hb : w.heap[σ.phi g]? = some o0) (hnc : ∀ c e f, o0 ≠ .cells c e f) (hob : (∀ w' : World, w'.heap[σ.phi g]? = some o' → RelOb (szOf P) σ w' g ob)) :
    (setObj (σ.phi g) o').run P w = .ok () { w with heap := w.heap.setIfInBounds (σ.phi g) o' } ∧ Post (szOf P) σ h w σ (h.set g ob) { w with heap := w.heap.setIfInBounds (σ.phi g) o' } := by
  refine ⟨by cases o0 <;> first | (simp [setObj, Sem.run, hb]; done) | exact absurd rfl (hnc _ _ _), Post.inplace inv hg hold hne ⟨by simp, fun x hx => (MapKept.heap_set hb).2 x hx, rfl, rfl, rfl⟩ (hob _ (MapKept.heap_set hb).1)⟩

theorem op_next {o : Oper} {x : Operand} {s : Bool} (ho : o.op = .next x s) (hv : opV E T h o.op = some (u, h')) : OpDone P σ h w (execOp a.eval o) u h' := by
  have _ := hE
  rw [ho] at hv
  simp only [opV] at hv
  split at hv
  · rename_i v hx
    have rx := evalV_rel r hx
    generalize hxv : a.eval x = xv at rx
    have over : Rel (szOf P) σ (.tuple [.bool false]) (.tuple #[.bool false]) := .tuple _ _ rfl fun i p q hp hq => by
      match i with
      | 0 => simp at hp hq; subst hp hq; exact .bool _
      | n + 1 => simp at hp
    have three : ∀ (b c : V) (bv cv : Value), Rel (szOf P) σ b bv → Rel (szOf P) σ c cv → Rel (szOf P) σ (.tuple [.bool true, b, c]) (.tuple #[.bool true, bv, cv]) := fun b c bv cv rb rc => .tuple _ _ rfl fun i p q hp hq => by
      match i with
      | 0 => simp at hp hq; subst hp hq; exact .bool _
      | 1 => simp at hp hq; subst hp hq; exact rb
      | 2 => simp at hp hq; subst hp hq; exact rc
      | n + 3 => simp at hp
    unfold nextV at hv
    split at hv
    · rename_i g
      cases rx with
      | ptr _ _ g1 g2 =>
      split at hv
      · rename_i str pos hg
        obtain ⟨h0, bs, rfl, hb⟩ := inv.ob g _ hg
        have hget : (getObj (σ.phi g)).run P w = .ok (.stringIter bs pos) w := by simp [getObj, Sem.run, hb]
        split at hv
        · rename_i hp
          rw [bytesOf_len] at hp
          split at hv
          · rename_i c wd hr
            cases hv
            obtain ⟨d1, d2⟩ := decode_ascii hr
            obtain ⟨m1, m2⟩ := ob_change (P := P) inv hg (by simp) (ob := .siter (bytesOf bs) (pos + wd)) (by simp) (o' := .stringIter bs (pos + wd)) hb (by simp) (fun w' e => ⟨h0, bs, rfl, e⟩)
            refine ⟨σ, _, m2, .inl ⟨.tuple #[.bool true, goInt pos, .int .i32 (c.toNat : Int)], ?_, three _ _ _ _ (.int _ _) (by rw [d2]; exact .int _ _)⟩⟩
            simp [execOp, ho, hxv, Instr.next, hget, hp, d1, m1]
          · cases hv
        · rename_i hp
          rw [bytesOf_len] at hp
          cases hv
          refine OpDone.pureV inv (v := .tuple #[.bool false]) ?_ over
          simp [execOp, ho, hxv, Instr.next, hget, hp]
      · rename_i since seen stepped hg
        obtain ⟨h0, _, hb⟩ := inv.ob g _ hg
        have hget : (getObj (σ.phi g)).run P w = .ok (.mapIter none since seen.toArray stepped) w := by simp only [Option.map_none] at hb; simp [getObj, Sem.run, hb]
        cases hv
        refine OpDone.pureV inv (v := .tuple #[.bool false]) ?_ over
        simp [execOp, ho, hxv, Instr.next, hget]
      · rename_i m since seen stepped hg
        obtain ⟨h0, hm, hb⟩ := inv.ob g _ hg
        have hget : (getObj (σ.phi g)).run P w = .ok (.mapIter (some (σ.phi m)) since seen.toArray stepped) w := by simp only [Option.map_some] at hb; simp [getObj, Sem.run, hb]
        split at hv
        · rename_i es clock hgm
          obtain ⟨_, es', b1, b2⟩ := map_ob inv hgm
          have hgetm := MapKept.run_getObj_map (P := P) b1
          split at hv
          · cases hv
          rename_i hc
          have hc : since ≤ stepped ∧ ∀ e ∈ es, e.2.2 < since := by simpa using hc
          have born : ∀ e' ∈ es'.toList, e'.born < since := fun e' he' => by
            obtain ⟨i, hi⟩ := List.mem_iff_getElem?.1 he'
            have hlt : i < es.length := by rw [← b2.1]; exact list_lt hi
            obtain ⟨_, _, q⟩ := b2.2 i es[i] e' (List.getElem?_eq_getElem hlt) hi
            rw [← q]; exact hc.2 _ (List.getElem_mem _)
          have g0 : (!seen.toArray.isEmpty && !es'.isEmpty && es'.all (fun e => decide (e.born ≥ stepped))) = false := by
            rcases Decidable.em (es' = #[]) with e | e
            · subst e; simp
            · have : es'.all (fun e => decide (e.born ≥ stepped)) = false := by
                rw [← Array.all_toList]
                have hne : es'.toList ≠ [] := by simpa using e
                obtain ⟨e0, l, hl⟩ := List.exists_cons_of_ne_nil hne
                have := born e0 (by rw [hl]; simp)
                rw [hl, List.all_cons]
                have : decide (e0.born ≥ stepped) = false := by simp; omega
                rw [this]; rfl
              rw [this, Bool.and_false]
          have rf := RelE.filter (sz := szOf P) (p := fun e => !seen.contains e.2.2) (q := fun e => !seen.toArray.contains e.born) (fun e e' he => by rw [he]; simp) b2
          have hnew : ∀ l : Array MapEntry, (∀ e ∈ l.toList, e.born < since) → l.filter (fun e => decide (e.born < since)) = l ∧ l.filter (fun e => decide (e.born ≥ since)) = #[] := fun l hl => by
            constructor
            · apply Array.ext'; rw [Array.toList_filter, List.filter_eq_self.2]; intro e he; simpa using hl e he
            · apply Array.ext'; rw [Array.toList_filter, List.filter_eq_nil_iff.2]; intro e he; have := hl e he; simp; omega
          split at hv
          · rename_i hfil
            cases hv
            rw [hfil] at rf
            have hf : es'.filter (fun e => !seen.toArray.contains e.born) = #[] := by
              apply Array.ext'; rw [Array.toList_filter]
              have := rf.1; simp only [List.length_nil] at this; exact List.eq_nil_of_length_eq_zero this
            refine OpDone.pureV inv (v := .tuple #[.bool false]) ?_ over
            have hfo : (Question.mapNext 1).forced = true := rfl
            simp only [execOp, ho, hxv, Instr.next, Sem.run_bind, hget, Result.andThen_ok, hgetm, g0, Bool.false_eq_true, if_false, hf]
            simp [hfo]
          · rename_i e hfil
            cases hv
            rw [hfil] at rf
            obtain ⟨e', hl⟩ : ∃ e', es'.toList.filter (fun e => !seen.toArray.contains e.born) = [e'] := List.length_eq_one_iff.1 (by have := rf.1; simpa using this)
            have hf : es'.filter (fun e => !seen.toArray.contains e.born) = #[e'] := by apply Array.ext'; rw [Array.toList_filter, hl]
            rw [hl] at rf
            obtain ⟨q1, q2, q3⟩ := rf.2 0 e e' rfl rfl
            have hb' : e'.born < since := by
              have : e' ∈ es'.toList.filter (fun e => !seen.toArray.contains e.born) := by rw [hl]; simp
              exact born e' (List.mem_filter.1 this).1
            obtain ⟨n1, n2⟩ := hnew #[e'] (fun x hx => by simp at hx; subst hx; exact hb')
            obtain ⟨m1, m2⟩ := ob_change (P := P) inv hg (by simp) (ob := .miter (some m) since (seen ++ [e.2.2]) clock) (by simp) (o' := .mapIter (some (σ.phi m)) since (seen.toArray.push e'.born) clock) hb (by simp) (fun w' hw => ⟨h0, hm, by rw [hw, q3]; simp⟩)
            simp only [List.push_toArray] at m1 m2
            refine ⟨σ, _, m2, .inl ⟨.tuple #[.bool true, e'.key, e'.val], ?_, three _ _ _ _ q1 q2⟩⟩
            have hfo : (Question.mapNext 1).forced = true := rfl
            simp only [execOp, ho, hxv, Instr.next, Sem.run_bind, hget, Result.andThen_ok, hgetm, g0, Bool.false_eq_true, if_false, hf, n1, n2]
            simp [hfo, m1]
          · cases hv
        · cases hv
      · cases hv
    · cases hv
  · cases hv

theorem op_entry {o : Oper} {x : Operand} (ho : o.op = .entry x) (hv : opV E T h o.op = some (u, h')) : PureDone P σ h w (execOp a.eval o) u h' := by
  rw [ho] at hv
  simp only [opV] at hv
  split at hv
  · rename_i v hx
    obtain ⟨hv1, hh⟩ := map_h hv
    subst hh
    clear hv
    have rx := evalV_rel r hx
    generalize hxv : a.eval x = xv at rx
    unfold entryAgainV at hv1
    split at hv1
    · rename_i g
      cases rx with
      | ptr _ _ g1 g2 =>
      split at hv1
      · rename_i m since seen stepped hg
        obtain ⟨h0, hm, hb⟩ := inv.ob g _ hg
        have hget : (getObj (σ.phi g)).run P w = .ok (.mapIter (some (σ.phi m)) since seen.toArray stepped) w := by simp only [Option.map_some] at hb; simp [getObj, Sem.run, hb]
        split at hv1
        · rename_i b es clock hlast hgm
          obtain ⟨_, es', b1, b2⟩ := map_ob inv hgm
          have hgetm := MapKept.run_getObj_map (P := P) b1
          split at hv1
          · cases hv1
          rename_i hc
          simp only [Option.map_eq_some_iff] at hv1
          obtain ⟨e, hf, rfl⟩ := hv1
          have find : ∀ {es : List (V × V × Nat)} {es' : List MapEntry}, RelE (szOf P) σ es es' → es.find? (fun e => e.2.2 == b) = some e → ∃ e', es'.find? (fun e => e.born == b) = some e' ∧ Rel (szOf P) σ e.1 e'.key ∧ Rel (szOf P) σ e.2.1 e'.val := by
            intro es
            induction es with
            | nil => intro es' _ h; simp at h
            | cons x es ih =>
              intro es' rr h
              cases es' with
              | nil => have := rr.1; simp at this
              | cons y es' =>
                obtain ⟨r0, rest⟩ := rr.cons
                rw [List.find?_cons] at h ⊢
                rw [← r0.2.2]
                split at h
                · cases h; exact ⟨y, rfl, r0.1, r0.2.1⟩
                · exact ih rest h
          obtain ⟨e', f1, f2, f3⟩ := find b2 hf
          refine PureDone.pureV inv (v := .tuple #[e'.key, e'.val]) ?_ (pair_rel hE inv r f2 f3)
          have hback : seen.toArray.back? = some b := by rw [List.back?_toArray]; exact hlast
          have hfind : es'.find? (fun e => e.born == b) = some e' := by rw [← Array.find?_toList]; exact f1
          have hcl : clock = stepped := by simpa using hc
          simp [execOp, ho, hxv, Instr.entry, hget, hback, hgetm, hcl, hfind]
        · cases hv1
      · cases hv1
    · cases hv1
  · cases hv

end
end Go.AM

/- AM: every operation that is no call of a Go function. -/
namespace Go.AM
variable {P : Program} {E : Env} {σ : Gh} {w : World} {h h' : Heap} {T : List V} {a : Act} {u : V}

theorem alloc_done (inv : Inv (szOf P) σ w h) {s : Sem Next} (d : ∃ ob, h' = h ++ [ob] ∧ AllocDone P σ h.length w s u ob) : OpDone P σ h w s u h' := by
  obtain ⟨ob, rfl, d⟩ := d
  exact d.done inv

theorem op_sound (hE : EnvOk P E) (hm : methOk P E) (inv : Inv (szOf P) σ w h) (r : RelA (szOf P) σ T a.tmps) {o : Oper} (hv : opV E T h o.op = some (u, h')) : OpDone P σ h w (execOp a.eval o) u h' := by
  cases ho : o.op with
  | move x => exact (op_move hE inv r (.inl ho) hv).done inv
  | assign x => exact (op_move hE inv r (.inr ho) hv).done inv
  | pick => exact (op_pick hE inv r ho hv).done inv
  | alloc => exact alloc_done inv (op_alloc hE r ho hv)
  | box => exact alloc_done inv (op_box hE r ho hv)
  | build => exact (op_build hE inv r ho hv).done inv
  | buildSlice => exact alloc_done inv (op_buildSlice hE r ho hv)
  | load => exact (op_load hE inv r ho hv).done inv
  | store => exact op_store hE inv r ho hv
  | nilCheck => exact (op_nilCheck hE inv r hm ho hv).done inv
  | binOp => exact (op_binOp hE inv r ho hv).done inv
  | unOp => exact (op_unOp hE inv r ho hv).done inv
  | convert => exact (op_convert hE inv r ho hv).elim (·.done inv) (alloc_done inv)
  | makeInterface => exact (op_makeInterface hE inv r ho hv).done inv
  | makeFunc => exact (op_makeFunc hE inv r ho hv).done inv
  | makeMap => exact alloc_done inv (op_makeMap hE r ho hv)
  | makeSlice => exact alloc_done inv (op_makeSlice hE r ho hv)
  | slice => exact (op_slice hE inv r ho hv).done inv
  | fieldAddr => exact (op_fieldAddr hE inv r ho hv).done inv
  | field => exact (op_field hE inv r ho hv).done inv
  | indexAddr => exact (op_indexAddr hE inv r ho hv).done inv
  | index => exact (op_index hE inv r ho hv).done inv
  | lookup => exact (op_lookup hE inv r ho hv).done inv
  | mapUpdate => exact op_mapUpdate hE inv r ho hv
  | mapEntry => exact op_mapEntry hE inv r ho hv
  | entryStore => exact op_entryStore hE inv r ho hv
  | range => exact op_range hE inv r ho hv
  | next => exact op_next hE inv r ho hv
  | entry => exact (op_entry hE inv r ho hv).done inv
  | extract => exact (op_extract hE inv r ho hv).done inv
  | call c =>
    obtain ⟨f, args, ts⟩ := c
    cases f with
    | builtin b =>
      rw [ho] at hv
      simp only [opV] at hv
      split at hv
      · rename_i vs he
        cases b with
        | len => obtain ⟨x, rfl⟩ : ∃ x, vs = [x] := by
                  unfold builtinV at hv; split at hv <;> simp_all
                 exact (op_len hE inv r ho he hv).done inv
        | cap => obtain ⟨x, rfl⟩ : ∃ x, vs = [x] := by
                  unfold builtinV at hv; split at hv <;> simp_all
                 exact (op_cap hE inv r ho he hv).done inv
        | append => obtain ⟨x, y, rfl⟩ : ∃ x y, vs = [x, y] := by
                     unfold builtinV at hv; split at hv <;> simp_all
                    exact op_append hE inv r ho he hv
        | copy => obtain ⟨x, y, rfl⟩ : ∃ x y, vs = [x, y] := by
                   unfold builtinV at hv; split at hv <;> simp_all
                  exact op_copy hE inv r ho he hv
        | clear => obtain ⟨x, rfl⟩ : ∃ x, vs = [x] := by
                    unfold builtinV at hv; split at hv <;> simp_all
                   exact op_clear hE inv r ho he hv
        | delete => obtain ⟨x, y, rfl⟩ : ∃ x y, vs = [x, y] := by
                     unfold builtinV at hv; split at hv <;> simp_all
                    exact op_delete hE inv r ho he hv
        | min => exact (op_minmax (big := false) hE inv r ho he (by simpa [builtinV] using hv)).done inv
        | max => exact (op_minmax (big := true) hE inv r ho he (by simpa [builtinV] using hv)).done inv
        | _ => simp [builtinV] at hv
      · cases hv
    | value f => rw [ho] at hv; simp [opV] at hv
    | invoke f n => rw [ho] at hv; simp [opV] at hv
  | _ => rw [ho] at hv; simp [opV] at hv

end Go.AM
