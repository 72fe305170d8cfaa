/- The abstract machine: regions that do not draw, code, calls: a run of the machine is a run of the model. -/
import Derived.Test.YtegmophpdembdaaGreatDoorAmC
import Derived.AtR
import Derived.RangeFuncIn
/- AM: operations in a frame. -/
namespace Go.AM
variable {P : Program} {E : Env} {σ : Gh} {w : World} {h h' : Heap} {T : List V} {a : Act} {u : V}

def Target'.args : Target' → List V
  | .fn _ a | .yield _ a => a

/-- what a call comes to, on the model's side -/
def nextOf (σ : Gh) (t : Target') (vs : Array Value) : Sem Next :=
  match t with
  | .fn f _ => callFunc f vs
  | .yield g _ => Instr.yield (σ.phi g) vs

def Entering (P : Program) (t : Target') : Next → Frame → Prop
  | .enter f args, fr => (∃ g l, t = .fn g l) ∧ fr = Frame.enter P f args .normal
  | .round l f tmps a b, fr => (∃ g l, t = .yield g l) ∧ fr = Frame.round l f tmps a b .normal
  | _, _ => False

/-- What calls do: they end, and whoever called goes on. -/
def CallOk (P : Program) (G : FuncId → Code → Code → Prop) (call : Target' → Heap → Option (V × Heap)) : Prop :=
  ∀ t h u h', call t h = some (u, h') → ∀ σ w vs, σ.good = G → Inv (szOf P) σ w h → RelA (szOf P) σ t.args vs →
    ∃ nx fr, (nextOf σ t vs).run P w = .ok nx w ∧ Entering P t nx fr ∧ ∃ τ w' v, Post (szOf P) σ h w τ h' w' ∧ Rel (szOf P) τ u v ∧ ∀ c cs, Steps P (lone fr (c :: cs) w) (lone (c.finish v) cs w')

theorem RelA.head {sz : TypeId → Nat} {x : V} {l : List V} {X : Array Value} (r : RelA sz σ (x :: l) X) : ∃ v, X[0]? = some v ∧ Rel sz σ x v ∧ RelA sz σ l (X.extract 1 X.size) ∧ X = #[v] ++ X.extract 1 X.size := by
  obtain ⟨v, h1, h2⟩ := r.get (i := 0) rfl
  have hs := r.1
  simp at hs
  refine ⟨v, h1, h2, ⟨by simp [hs], fun i p q hp hq => ?_⟩, ?_⟩
  · refine r.2 (i + 1) p q (by simpa using hp) ?_
    rw [Array.getElem?_extract] at hq
    split at hq
    · rw [Nat.add_comm]; exact hq
    · cases hq
  · apply Array.ext
    · simp; omega
    · intro i h1' h2'
      rcases Nat.eq_zero_or_pos i with rfl | hi
      · have := (Array.getElem?_eq_some_iff.1 h1).2
        simp [this]
      · rw [Array.getElem_append_right (by simp; omega)]
        simp
        congr 1; omega

theorem RelA.cons {sz : TypeId → Nat} {x : V} {v : Value} {l : List V} {X : Array Value} (rx : Rel sz σ x v) (r : RelA sz σ l X) : RelA sz σ (x :: l) (#[v] ++ X) := by
  have := (RelA.single rx).append r
  simpa using this

theorem targetV_rel (hE : EnvOk P E) (hm : methOk P E) {f : V} {fv : Value} {args : List V} {avs : Array Value} (rf : Rel (szOf P) σ f fv) (ra : RelA (szOf P) σ args avs) {t : Target'} (ht : targetV f args E = some t) :
    ∃ vs, RelA (szOf P) σ t.args vs ∧ (do let d ← Deferred.ofValue fv avs; invoke d.target d.args : Sem Next).run P w = (nextOf σ t vs).run P w := by
  unfold targetV at ht
  split at ht
  · rename_i g first captured
    cases ht
    cases rf with
    | func _ _ _ x y hne s1 s2 r1 r2 =>
      have rx : RelA (szOf P) σ first x := ⟨s1, r1⟩
      have ry : RelA (szOf P) σ captured y := ⟨s2, r2⟩
      exact ⟨x ++ avs ++ y, (rx.append ra).append ry, by simp [Deferred.ofValue, invoke, nextOf]⟩
  · rename_i ty name first captured
    cases rf with
    | func _ _ _ x y hne s1 s2 r1 r2 =>
      have rx : RelA (szOf P) σ (first ++ args) (x ++ avs) := RelA.append ⟨s1, r1⟩ ra
      split at ht
      · rename_i recv rest hl
        rw [hl] at rx
        obtain ⟨v, q1, q2, q3, q4⟩ := rx.head
        split at ht
        · rename_i i hi
          have htk := (hE.ti ty i hi).kind
          have key : (∀ ms, P.underlying ty ≠ some (.interface ms)) ∧ ∃ f, E.meth ty name = some f ∧ t = .fn f (recv :: rest) := by
            split at ht
            · cases ht
            · rename_i hk
              simp only [Option.map_eq_some_iff] at ht
              obtain ⟨g, hg, rfl⟩ := ht
              refine ⟨fun ms hu => ?_, g, hg, rfl⟩
              cases hkk : i.kind <;> simp only [hkk, kindOk] at htk
              all_goals first
                | (rw [hu] at htk; cases htk; done)
                | exact hk hkk
                | (obtain ⟨_, h1, _⟩ := htk; rw [hu] at h1; cases h1; done)
                | (obtain ⟨_, _, _, h1⟩ := htk; rw [hu] at h1; cases h1; done)
                | (obtain ⟨d, h1, h2⟩ := htk; rw [hu] at h1; cases h1; exact h2.elim)
          obtain ⟨hni, g, hg, rfl⟩ := key
          obtain ⟨d, hd⟩ := (hE.ti ty i hi).und
          refine ⟨x ++ avs, rx, ?_⟩
          have hmr := run_method hm hg v w (P.types.size + 99)
          have e : P.types.size + Made.depth = P.types.size + 99 + 1 := rfl
          have hrun : (do let d ← Deferred.ofValue (.func (.methodOf ty name) x y) avs; invoke d.target d.args : Sem Next).run P w = (callMethod (.iface ty v) name ((x ++ avs).extract 1 (x ++ avs).size)).run P w := by
            simp only [Deferred.ofValue, Sem.run_bind, Sem.run_pure, Result.andThen_ok, invoke, q1, run_underlying hd]
            cases d <;> first | rfl | exact absurd hd (hni _)
          rw [hrun]
          simp only [callMethod, Sem.run_bind, run_program, Result.andThen_ok, e, hmr, nextOf]
          rw [← q4]
        · cases ht
      · cases ht
  · rename_i name first captured
    cases rf with
    | func _ _ _ x y hne s1 s2 r1 r2 =>
      have rx : RelA (szOf P) σ (first ++ args) (x ++ avs) := RelA.append ⟨s1, r1⟩ ra
      split at ht
      · rename_i ty v rest hl
        rw [hl] at rx
        obtain ⟨iv, q1, q2, q3, q4⟩ := rx.head
        simp only [Option.map_eq_some_iff] at ht
        obtain ⟨g, hg, rfl⟩ := ht
        cases q2 with
        | iface _ _ vv q2 =>
          refine ⟨#[vv] ++ (x ++ avs).extract 1 (x ++ avs).size, RelA.cons q2 q3, ?_⟩
          have hmr := run_method hm hg vv w (P.types.size + 99)
          have e : P.types.size + Made.depth = P.types.size + 99 + 1 := rfl
          simp only [Deferred.ofValue, Sem.run_bind, Sem.run_pure, Result.andThen_ok, invoke, q1, callMethod, run_program, e, hmr, nextOf]
      · cases ht
  · rename_i g
    cases ht
    cases rf with
    | yield => exact ⟨avs, ra, by simp [Deferred.ofValue, invoke, nextOf]⟩
  · cases ht

theorem args_rel {args : Array Operand} (r : RelA (szOf P) σ T a.tmps) {us : List V} (he : evalVs T args.toList = some us) : RelA (szOf P) σ us (args.map a.eval) := by
  have := evalVs_rel r he
  rw [show (args.toList.map a.eval).toArray = args.map a.eval by rw [← List.map_toArray]] at this
  exact this

theorem callV_rel (hE : EnvOk P E) (hm : methOk P E) (r : RelA (szOf P) σ T a.tmps) {o : Oper} {t : Target'} (hc : callV E T o.op = some t) :
    ∃ vs, RelA (szOf P) σ t.args vs ∧ (execOp a.eval o).run P w = (nextOf σ t vs).run P w := by
  unfold callV at hc
  split at hc
  · rename_i f args ts ho
    split at hc
    · rename_i fv vs hf hvs
      obtain ⟨xs, q1, q2⟩ := targetV_rel (w := w) hE hm (evalV_rel r hf) (args_rel r hvs) hc
      refine ⟨xs, q1, ?_⟩
      rw [← q2]
      simp only [execOp, ho, resolve]
    · cases hc
  · rename_i recv name args ts ho
    split at hc
    · rename_i ty v vs hf hvs
      simp only [Option.map_eq_some_iff] at hc
      obtain ⟨g, hg, rfl⟩ := hc
      have rf := evalV_rel r hf
      have ra := args_rel r hvs
      generalize hrv : a.eval recv = rv at rf
      cases rf with
      | iface _ _ vv q2 =>
        refine ⟨#[vv] ++ args.map a.eval, RelA.cons q2 ra, ?_⟩
        have hmr := run_method hm hg vv w (P.types.size + 99)
        have e : P.types.size + Made.depth = P.types.size + 99 + 1 := rfl
        have ex : (#[Value.iface ty vv] ++ args.map a.eval).extract 1 (#[Value.iface ty vv] ++ args.map a.eval).size = args.map a.eval := by
          apply Array.ext'; simp; rw [List.take_of_length_le (by simp)]
        simp only [execOp, ho, resolve, hrv, Sem.run_bind, Sem.run_pure, Result.andThen_ok, invoke, ex]
        simp only [Array.getElem?_append_left (show 0 < (#[Value.iface ty vv] : Array Value).size by simp)]
        simp [callMethod, e, hmr, nextOf]
    · cases hc
  · cases hc

theorem putV_rel {sz : TypeId → Nat} (r : RelA sz σ T a.tmps) {v : Value} (hv : Rel sz σ u v) (d : Option Tmp) : RelA sz σ (putV T d u) (a.put d v).tmps := by
  cases d with
  | none => exact r
  | some d =>
    refine ⟨by simp [putV, setT_eq, Act.put, r.1], fun i p q hp hq => ?_⟩
    simp only [putV, setT_eq, Act.put] at hp hq
    rw [List.getElem?_set] at hp
    rw [Array.getElem?_setIfInBounds] at hq
    split at hp
    · rename_i e
      rw [if_pos e] at hq
      split at hp
      · split at hq
        · cases hp; cases hq; exact hv
        · cases hq
      · cases hp
    · rename_i e
      rw [if_neg e] at hq
      exact r.2 i p q hp hq

theorem yielded_rel {sz : TypeId → Nat} (r : RelA sz σ T a.tmps) (ops : Array Oper) (j : Nat) : yieldedV ops.toList T j = yielded ops a.tmps j := by
  unfold yieldedV yielded
  rw [Array.getElem?_toList]
  cases (ops[j]?).bind (·.dst) with
  | none => rfl
  | some d =>
    simp only [Option.bind_some]
    cases hT : T[d]? with
    | none =>
      have : a.tmps[d]? = none := by rw [Array.getElem?_eq_none_iff, r.1]; exact List.getElem?_eq_none_iff.1 hT
      rw [this]
    | some x =>
      obtain ⟨v, hv, hr⟩ := r.get hT
      rw [hv]
      cases hr <;> rfl

theorem wanted_rel {sz : TypeId → Nat} (r : RelA sz σ T a.tmps) (ops : Array Oper) (o : Oper) : wantedV ops.toList T o = Region.wanted o (yielded ops a.tmps) := by
  unfold wantedV Region.wanted
  cases o.guard with
  | none => rfl
  | some g => simp only [yielded_rel r]

/-- One operation of a region, in its frame. -/
theorem oper_sound (hE : EnvOk P E) (hm : methOk P E) {G : FuncId → Code → Code → Prop} {R : Rec} (hR : CallOk P G R.call) {ops : Array Oper} {i : Nat} {o : Oper} (hi : ops[i]? = some o) {s s' : St} (hG : σ.good = G) (inv : Inv (szOf P) σ w s.h) (r : RelA (szOf P) σ s.T a.tmps)
    (hs : stepV E R ops.toList s o = some s') : ∃ τ w' v, Post (szOf P) σ s.h w τ s'.h w' ∧ RelA (szOf P) τ s'.T (a.put o.dst v).tmps ∧
      ∀ (b : Frame) (rest : List Nat) (k : List Item) (cs : List Frame), Steps P (lone (b.atR a (.inRegion ops (i :: rest) :: k)) cs w) (lone (b.atR (a.put o.dst v) (.inRegion ops rest :: k)) cs w') := by
  unfold stepV at hs
  rw [wanted_rel r] at hs
  have hdst : (ops[i]?).bind (·.dst) = o.dst := by rw [hi]; rfl
  split at hs
  · rename_i hw
    split at hs
    · rename_i hcall
      split at hs
      · rename_i t ht
        split at hs
        · rename_i u h1 hc
          cases hs
          obtain ⟨vs, q1, q2⟩ := callV_rel (w := w) hE hm r ht
          obtain ⟨nx, fr, n1, n2, τ, w', v, p1, p2, p3⟩ := hR t s.h u h1 hc σ w vs hG inv q1
          refine ⟨τ, w', v, p1, putV_rel (r.mono p1.le) p2 _, fun b rest k cs => ?_⟩
          have hsem : o.semAt b.roundOf a.eval = execOp a.eval o := Oper.semAt_eq _ _ _ (fun c e => by rw [e] at hcall; simp [isCall] at hcall)
          have hstep : step P (lone (b.atR a (.inRegion ops (i :: rest) :: k)) cs w) = .next (lone fr (b.atR a (.inRegion ops (i :: rest) :: k) :: cs) w) := by
            apply step_lone_go
            rw [stepGR_op hi hw, hsem]
            cases nx <;> simp only [Entering] at n2 <;> obtain ⟨_, rfl⟩ := n2 <;> simp [stepG.apply, Sem.runT_eq, q2, n1, Frame.atR]
          refine Steps.head hstep (Steps.trans (p3 _ cs) ?_)
          rw [Frame.finish_atR, hdst]
          exact Steps.refl _ _
        · cases hs
      · cases hs
    · rename_i hcall
      split at hs
      · rename_i u h1 hop
        cases hs
        obtain ⟨τ, w', p1, hx⟩ := op_sound hE hm inv r hop
        have hsem : ∀ b : Frame, o.semAt b.roundOf a.eval = execOp a.eval o := fun b => Oper.semAt_eq _ _ _ (fun c e => by rw [e] at hop; simp [opV] at hop)
        rcases hx with ⟨v, e1, e2⟩ | ⟨e1, e2⟩
        · refine ⟨τ, w', v, p1, putV_rel (r.mono p1.le) e2 _, fun b rest k cs => Steps.one ?_⟩
          rw [← hdst, ← Frame.finish_atR]
          apply step_lone_go
          rw [stepGR_op hi hw, hsem]
          simp [stepG.apply, Sem.runT_eq, e1]
        · subst e2
          refine ⟨τ, w', undef, p1, putV_rel (r.mono p1.le) (undef_rel _ _) _, fun b rest k cs => Steps.one ?_⟩
          rw [← hdst, ← Frame.finish_atR]
          apply step_lone_go
          rw [stepGR_op hi hw, hsem]
          simp [stepG.apply, Sem.runT_eq, e1]
      · cases hs
  · rename_i hw
    cases hs
    refine ⟨σ, w, undef, Post.refl inv, putV_rel r (undef_rel _ _) _, fun b rest k cs => Steps.one ?_⟩
    rw [← hdst]
    exact stepR_op_skip (by rw [hi]; simpa using hw)

/-- A region that does not draw. -/
theorem run_sound (hE : EnvOk P E) (hm : methOk P E) {G : FuncId → Code → Code → Prop} {R : Rec} (hR : CallOk P G R.call) {ops : Array Oper} : ∀ (n i : Nat) (l : List Oper), l = ops.toList.drop i → l.length = n → ∀ (σ : Gh) (w : World) (a : Act) (s s' : St), σ.good = G → Inv (szOf P) σ w s.h → RelA (szOf P) σ s.T a.tmps →
    runV E R ops.toList l s = some s' → ∃ (τ : Gh) (w' : World) (a' : Act), Post (szOf P) σ s.h w τ s'.h w' ∧ RelA (szOf P) τ s'.T a'.tmps ∧ a'.defers = a.defers ∧
      ∀ (b : Frame) (k : List Item) (cs : List Frame), Steps P (lone (b.atR a (.inRegion ops (List.range' i n) :: k)) cs w) (lone (b.atR a' k) cs w')
  | 0, i, l, hl, hn, σ, w, a, s, s', hG, inv, r, hs => by
    have : l = [] := List.eq_nil_of_length_eq_zero hn
    subst this
    simp [runV] at hs; subst hs
    exact ⟨σ, w, a, Post.refl inv, r, rfl, fun b k cs => Steps.one stepR_region_end⟩
  | n + 1, i, [], hl, hn, σ, w, a, s, s', hG, inv, r, hs => by simp at hn
  | n + 1, i, o :: l, hl, hn, σ, w, a, s, s', hG, inv, r, hs => by
    simp only [runV] at hs
    split at hs
    · rename_i s1 h1
      have hi : ops[i]? = some o := by
        have : (ops.toList.drop i)[0]? = some o := by rw [← hl]; rfl
        rw [List.getElem?_drop] at this
        simpa using this
      obtain ⟨τ, w1, v, p1, p2, p3⟩ := oper_sound hE hm hR hi hG inv r h1
      obtain ⟨τ', w', a', q1, q2, q3, q4⟩ := run_sound hE hm hR n (i + 1) l (by rw [← List.drop_drop, ← hl]; rfl) (by simpa using hn) τ w1 (a.put o.dst v) s1 s' (p1.le.good.trans hG) p1.inv p2 hs
      refine ⟨τ', w', a', p1.trans q1, q2, by rw [q3]; cases o.dst <;> rfl, fun b k cs => ?_⟩
      rw [List.range'_succ]
      exact Steps.trans (p3 b _ k cs) (q4 b k cs)
    · cases hs

end Go.AM

/- AM: code in a frame. -/
namespace Go.AM
variable {P : Program} {E : Env} {σ : Gh} {w : World} {h h' : Heap} {T : List V} {a : Act} {u : V}

/-- What a region that draws asks of its plan. -/
def DrawOk (P : Program) (E : Env) (ops : Array Oper) (p : Plan) : Prop :=
  ∀ (G : FuncId → Code → Code → Prop) (R : Rec), CallOk P G R.call → ∀ (t : Nat) (σ : Gh) (w : World) (a : Act) (s s' : St), σ.good = G → Inv (szOf P) σ w s.h → RelA (szOf P) σ s.T a.tmps → drawV E R p ops.toList s = some s' →
    ∃ (τ : Gh) (w' : World) (a' : Act), Post (szOf P) σ s.h w τ s'.h w' ∧ RelA (szOf P) τ s'.T a'.tmps ∧ a'.defers = a.defers ∧
      ∀ (b : Frame) (k : List Item) (cs : List Frame), Steps P (lone (b.atR a (.inRegion ops (Region.schedule (P.follows .mixedOrders) ops t) :: k)) cs w) (lone (b.atR a' k) cs w')

/-- The plans of a piece of code are good. -/
def PlansOk (P : Program) (E : Env) (f : FuncId) : Code → Prop
  | .region id ops draw => draw = true → ∀ p, E.plan f id = some p → DrawOk P E ops p
  | .seq a b | .cond _ a b | .rangeFunc _ _ a b => PlansOk P E f a ∧ PlansOk P E f b
  | .block _ b | .loop b => PlansOk P E f b
  | _ => True

/-- what is known of loops' code -/
def Good (P : Program) (E : Env) : FuncId → Code → Code → Prop := fun f a b => PlansOk P E f a ∧ PlansOk P E f b

/-- marks of blocks for deferred calls, all empty -/
def MarksOk (lo : Nat) (σ : Gh) (h : Heap) (w : World) (ds : List Deferred) : Prop :=
  lo ≤ w.heap.size ∧ ∃ rs : List Nat, ds = rs.map (fun r => ({ target := .collected r, args := #[] } : Deferred)) ∧ rs.Nodup ∧ ∀ r ∈ rs, lo ≤ r ∧ w.heap[r]? = some (.deferred (some [])) ∧ ¬ Owned σ h r

theorem MarksOk.post {lo : Nat} {sz : TypeId → Nat} {τ : Gh} {w' : World} {ds : List Deferred} (m : MarksOk lo σ h w ds) (p : Post sz σ h w τ h' w') : MarksOk lo τ h' w' ds := by
  obtain ⟨hlo, rs, e, nd, hr⟩ := m
  refine ⟨Nat.le_trans hlo p.wst.size, rs, e, nd, fun r hm => ?_⟩
  obtain ⟨q0, q1, q2⟩ := hr r hm
  have hlt := heap_lt q1
  exact ⟨q0, by rw [p.wst.keep r hlt q2]; exact q1, fun ho => q2 (p.wst.own r hlt ho)⟩

/-- What is asked of a frame: a function's own, or a round's. -/
def FrOk (lo : Nat) (ro : Option Nat) (σ : Gh) (h : Heap) (w : World) (b : Frame) (a : Act) : Prop :=
  match ro with
  | none => b.roundOf = none ∧ MarksOk lo σ h w a.defers
  | some g => g < σ.n ∧ σ.ver g = 0 ∧ b.roundOf = some (σ.phi g) ∧ a.defers = []

theorem FrOk.post {lo : Nat} {sz : TypeId → Nat} {ro : Option Nat} {τ : Gh} {w' : World} {b : Frame} {a' : Act} (m : FrOk lo ro σ h w b a) (p : Post sz σ h w τ h' w') (e : a'.defers = a.defers) : FrOk lo ro τ h' w' b a' := by
  cases ro with
  | none => exact ⟨m.1, by rw [e]; exact m.2.post p⟩
  | some g =>
    obtain ⟨m1, m2, m3, m4⟩ := m
    have := p.le.ver g m1
    refine ⟨Nat.lt_of_lt_of_le m1 p.le.n, this.2.1 m2, ?_, by rw [e]; exact m4⟩
    rw [(this.2.2 (by have := this.2.1 m2; omega)).1]; exact m3

/-- Where the machine stands behind a piece of code. -/
def Ends (P : Program) (m : Machine) (b : Frame) (a' : Act) (k : List Item) (cs : List Frame) (w' : World) : Ex → Prop
  | .normal => Steps P m (lone (b.atR a' k) cs w')
  | .ret => ∃ k', Steps P m (lone (b.atR a' (.code .ret :: k')) cs w')
  | .exit id => ∃ k', exitTo id k' = exitTo id k ∧ Steps P m (lone (b.atR a' (.code (.exit id) :: k')) cs w')

theorem Ends.ahead {m m' : Machine} {b : Frame} {a' : Act} {k : List Item} {cs : List Frame} {w' : World} {ex : Ex} (s : Steps P m m') (e : Ends P m' b a' k cs w' ex) : Ends P m b a' k cs w' ex := by
  cases ex with
  | normal => exact Steps.trans s e
  | ret => obtain ⟨k', h⟩ := e; exact ⟨k', Steps.trans s h⟩
  | exit id => obtain ⟨k', h1, h⟩ := e; exact ⟨k', h1, Steps.trans s h⟩

/-- A piece of code, in its frame. -/
def CodeOk (P : Program) (G : FuncId → Code → Code → Prop) (ro : Option Nat) (f : FuncId) (F : St → Option (Ex × St)) (c : Code) : Prop :=
  ∀ (lo : Nat) (ex : Ex) (s s' : St) (σ : Gh) (w : World) (a : Act) (b : Frame), b.fn = f → σ.good = G → Inv (szOf P) σ w s.h → RelA (szOf P) σ s.T a.tmps → FrOk lo ro σ s.h w b a → F s = some (ex, s') →
    ∃ (τ : Gh) (w' : World) (a' : Act), Post (szOf P) σ s.h w τ s'.h w' ∧ RelA (szOf P) τ s'.T a'.tmps ∧ FrOk lo ro τ s'.h w' b a' ∧
      ∀ (k : List Item) (cs : List Frame), Ends P (lone (b.atR a (.code c :: k)) cs w) b a' k cs w' ex

theorem loop_sound {G : FuncId → Code → Code → Prop} {ro : Option Nat} {f : FuncId} {F : St → Option (Ex × St)} {c : Code} (hb : CodeOk P G ro f F c) : ∀ (n lo : Nat) (ex : Ex) (s s' : St) (σ : Gh) (w : World) (a : Act) (b : Frame), b.fn = f → σ.good = G → Inv (szOf P) σ w s.h →
    RelA (szOf P) σ s.T a.tmps → FrOk lo ro σ s.h w b a → loopN n F s = some (ex, s') →
    ∃ (τ : Gh) (w' : World) (a' : Act), Post (szOf P) σ s.h w τ s'.h w' ∧ RelA (szOf P) τ s'.T a'.tmps ∧ FrOk lo ro τ s'.h w' b a' ∧
      ∀ (k : List Item) (cs : List Frame), Ends P (lone (b.atR a (.code c :: .inLoop c :: k)) cs w) b a' k cs w' ex
  | 0, lo, ex, s, s', σ, w, a, b, hf, hG, inv, r, fo, h => by simp [loopN] at h
  | n + 1, lo, ex, s, s', σ, w, a, b, hf, hG, inv, r, fo, h => by
    simp only [loopN] at h
    split at h
    · rename_i s1 h1
      obtain ⟨τ, w1, a1, p1, p2, p3, p4⟩ := hb lo _ s s1 σ w a b hf hG inv r fo h1
      obtain ⟨τ', w', a', q1, q2, q3, q4⟩ := loop_sound hb n lo ex s1 s' τ w1 a1 b hf (p1.le.good.trans hG) p1.inv p2 p3 h
      refine ⟨τ', w', a', p1.trans q1, q2, q3, fun k cs => ?_⟩
      exact Ends.ahead (Steps.trans (p4 (.inLoop c :: k) cs) (Steps.one stepR_inLoop)) (q4 k cs)
    · rename_i hne
      obtain ⟨τ, w1, a1, p1, p2, p3, p4⟩ := hb lo _ s s' σ w a b hf hG inv r fo h
      refine ⟨τ, w1, a1, p1, p2, p3, fun k cs => ?_⟩
      have := p4 (.inLoop c :: k) cs
      cases ex with
      | normal => exact absurd h (hne _)
      | ret => exact this
      | exit id => exact this

theorem same_world (inv : Inv (szOf P) σ w h) (n : Nat) : Post (szOf P) σ h w σ h { w with drawn := n } := Post.same inv rfl ⟨rfl, rfl, rfl⟩

section
variable (hE : EnvOk P E) (hm : methOk P E) {R : Rec} (hR : CallOk P (Good P E) R.call)
include hE hm hR

theorem region_sound {ro : Option Nat} {f : FuncId} {id : Nat} {ops : Array Oper} {draw : Bool} {N : Nat} (hp : PlansOk P E f (.region id ops draw)) : CodeOk P (Good P E) ro f (exec E R (loopN N) f ro (.region id ops draw)) (.region id ops draw) := by
  intro lo ex s s' σ w a b hf hG inv r fo he
  cases draw with
  | false =>
    simp only [exec, Bool.false_eq_true, if_false, Option.map_eq_some_iff] at he
    obtain ⟨s1, h1, he⟩ := he
    cases he
    obtain ⟨τ, w', a', p1, p2, p3, p4⟩ := run_sound hE hm hR ops.size 0 ops.toList rfl (by simp) σ w a s s' hG inv r h1
    refine ⟨τ, w', a', p1, p2, fo.post p1 p3, fun k cs => ?_⟩
    have := p4 b k cs
    rw [← List.range_eq_range'] at this
    exact Steps.trans (Steps.one stepR_region) this
  | true =>
    simp only [exec, if_true] at he
    split at he
    · rename_i p hpl
      simp only [Option.map_eq_some_iff] at he
      obtain ⟨s1, h1, he⟩ := he
      cases he
      have pd := same_world (P := P) inv (w.drawn + 1)
      obtain ⟨τ, w', a', p1, p2, p3, p4⟩ := hp rfl p hpl _ R hR (w.tape w.drawn (.order b.fn id)) σ _ a s s' hG pd.inv r h1
      refine ⟨τ, w', a', pd.trans p1, p2, fo.post (pd.trans p1) p3, fun k cs => ?_⟩
      exact Steps.trans (Steps.one stepR_region_draw) (p4 b k cs)
    · cases he

end

/-- A block comes that is nobody's. -/
theorem Post.extra {sz : TypeId → Nat} (inv : Inv sz σ w h) (o : Obj) : Post sz σ h w σ h (w.alloc o) := by
  refine ⟨Le.refl σ, ⟨inv.len, fun g ob hg => ?_, fun b arr hb => ?_, fun g ag => ?_, inv.inj⟩, ⟨by rw [alloc_size]; omega, fun b hb _ => alloc_old w o hb, fun _ _ ho => ho, fun _ _ _ hf => .inl hf, rfl, rfl, rfl⟩⟩
  · refine RelOb.mono (Le.refl σ) (by rw [← inv.len]; exact list_lt hg) rfl (fun hd => ?_) (inv.ob g ob hg)
    exact alloc_old w o (inv.live g ⟨ob, hg, fun e => hd e⟩).2
  · obtain ⟨T, fr, hh⟩ := inv.fro b arr hb
    exact ⟨T, fr, by rw [alloc_old w o (heap_lt hh)]; exact hh⟩
  · obtain ⟨p, q⟩ := inv.live g ag
    exact ⟨p, by rw [alloc_size]; omega⟩

theorem MarksOk.new {lo : Nat} {ds : List Deferred} (inv : Inv (szOf P) σ w h) (m : MarksOk lo σ h w ds) : MarksOk lo σ h (w.alloc (.deferred (some []))) ([{ target := .collected w.heap.size, args := #[] }] ++ ds) := by
  obtain ⟨hlo, rs, e, nd, hr⟩ := m
  refine ⟨by rw [alloc_size]; omega, w.heap.size :: rs, by simp [e], List.nodup_cons.2 ⟨fun hm => ?_, nd⟩, fun r hm => ?_⟩
  · have := heap_lt (hr _ hm).2.1; omega
  · rcases List.mem_cons.1 hm with rfl | hm
    · refine ⟨hlo, alloc_new w _, fun ⟨g, ag, eg⟩ => ?_⟩
      have := (inv.live g ag).2; omega
    · obtain ⟨q0, q1, q2⟩ := hr r hm
      exact ⟨q0, by rw [alloc_old w _ (heap_lt q1)]; exact q1, q2⟩

section
variable (hE : EnvOk P E) (hm : methOk P E) {R : Rec} (hR : CallOk P (Good P E) R.call)
include hE hm hR

theorem rangeFunc_sound {ro : Option Nat} {f : FuncId} {fv : Operand} {ps : Array Tmp} {assign body : Code} {N : Nat} (hp : PlansOk P E f (.rangeFunc fv ps assign body)) :
    CodeOk P (Good P E) ro f (exec E R (loopN N) f ro (.rangeFunc fv ps assign body)) (.rangeFunc fv ps assign body) := by
  intro lo ex s s' σ w a b hf hG inv r fo he
  simp only [exec] at he
  rw [Option.ite_none_left_eq_some] at he
  obtain ⟨hro, he⟩ := he
  split at he
  · rename_i v hv
    split at he
    · rename_i f' args ht
      split at he
      · rename_i u h1 hc
        split at he
        · rename_i st pend f2 T2 ps2 a2 b2 hl
          split at he
          · cases he
          rename_i hst
          -- entering the loop
          have enter : ∃ (l : Nat) (mark : List Deferred) (w1 w2 : World) (lp : Loop), (Instr.enterLoop b.fn a.tmps ps assign body b.roundOf).run P w = .ok (l, mark) w2 ∧ Post (szOf P) σ s.h w σ s.h w1 ∧ l = w1.heap.size ∧ w2 = w1.alloc (.loop lp) ∧
              lp.state = .ready ∧ lp.pending = none ∧ lp.fn = b.fn ∧ lp.tmps = a.tmps ∧ lp.params = ps ∧ lp.assign = assign ∧ lp.body = body ∧ FrOk lo ro σ s.h w1 b { a with defers := mark ++ a.defers } := by
            cases ro with
            | none =>
              obtain ⟨g1, g2⟩ := fo
              refine ⟨_, [{ target := .collected w.heap.size, args := #[] }], w.alloc (.deferred (some [])), _, { state := .ready, pending := none, fn := b.fn, tmps := a.tmps, params := ps, assign := assign, body := body, defers := w.heap.size }, ?_, Post.extra inv _, rfl, rfl, rfl, rfl, rfl, rfl, rfl, rfl, rfl, g1, g2.new inv⟩
              simp [Instr.enterLoop, g1, World.alloc_eq]
            | some g =>
              obtain ⟨g1, g2, g3, g4⟩ := fo
              have hlo : ∃ st pend f T p a b, s.h[g]? = some (.loop st pend f T p a b) := by
                simp only [Bool.not_eq_true', Bool.not_eq_false] at hro
                split at hro
                · rename_i e; exact ⟨_, _, _, _, _, _, _, e⟩
                · cases hro
              obtain ⟨st', pend', f3, T3, p3, a3, b3, hg⟩ := hlo
              obtain ⟨_, _, lp0, e1, _⟩ := inv.ob g _ hg
              have hget : (Instr.getLoop (σ.phi g)).run P w = .ok lp0 w := by simp [Instr.getLoop, getObj, Sem.run, e1]
              refine ⟨_, [], w, _, { state := .ready, pending := none, fn := b.fn, tmps := a.tmps, params := ps, assign := assign, body := body, defers := lp0.defers }, ?_, Post.refl inv, rfl, rfl, rfl, rfl, rfl, rfl, rfl, rfl, rfl, g1, g2, g3, by simpa using g4⟩
              simp [Instr.enterLoop, g3, hget, World.alloc_eq]
          obtain ⟨l, mark, w1, w2, lp, n1, n2, rfl, rfl, n5, n6, n7, n8, n9, n10, n11, n12⟩ := enter
          have inv1 := n2.inv
          have hl0 := inv.len
          -- the loop's object
          have p2 := Post.push (sz := szOf P) inv1 (.loop .ready none f s.T ps.toList assign body) (.loop lp) 0 0 (by simp)
            ⟨by simp [Gh.add], by simp only [Gh.add]; rw [hG]; exact hp, lp, by simp only [Gh.add, upd_same]; exact alloc_new w1 _, by rw [n7, hf], by rw [n9], n10, n11, n6, by rw [n8]; exact r.mono (σ.le_add _ _ _), by rw [n5]⟩
          have hphi : (σ.add w1.heap.size 0 0).phi s.h.length = w1.heap.size := by rw [hl0]; simp [Gh.add]
          have hver : (σ.add w1.heap.size 0 0).ver s.h.length = 0 := by rw [hl0]; simp [Gh.add]
          have hlt : s.h.length < (σ.add w1.heap.size 0 0).n := by rw [hl0]; simp [Gh.add]
          have ry : RelA (szOf P) (σ.add w1.heap.size 0 0) [.yield s.h.length] #[.func (.yield w1.heap.size) #[] #[]] := by
            have := Rel.yield (sz := szOf P) (σ := σ.add w1.heap.size 0 0) s.h.length hlt hver
            rw [hphi] at this
            exact RelA.single this
          obtain ⟨vs, v1, v2⟩ := targetV_rel (w := w1.alloc (.loop lp)) hE hm ((evalV_rel r hv).mono (σ.le_add w1.heap.size 0 0)) ry ht
          obtain ⟨nx, fr, c1, c2, τ, w3, rv, c3, c4, c5⟩ := hR _ _ u h1 hc (σ.add w1.heap.size 0 0) (w1.alloc (.loop lp)) vs (by simp only [Gh.add]; exact hG) p2.inv v1
          rw [c1] at v2
          obtain ⟨fid, fargs, rfl, rfl⟩ : ∃ fid fargs, nx = .enter fid fargs ∧ fr = Frame.enter P fid fargs .normal := by
            cases nx <;> simp only [Entering] at c2
            · exact ⟨_, _, rfl, c2.2⟩
            · obtain ⟨⟨g, l, e⟩, _⟩ := c2; cases e
          -- the loop's end
          have lv := c3.le.ver s.h.length hlt
          have hphi3 : τ.phi s.h.length = w1.heap.size := by rw [(lv.2.2 (by have := lv.2.1 hver; omega)).1, hphi]
          obtain ⟨k0, k1, lp3, k2, k3, k4, k5, k6, k7, k8, k9⟩ := c3.inv.ob _ _ hl
          subst k7
          have hst' : lp3.state ≠ .busy := by rw [k9]; cases st <;> simp at hst ⊢
          obtain ⟨e1, e2⟩ := ob_change (P := P) c3.inv hl (by simp) (ob := .loop .exhausted lp3.pending f2 T2 ps2 a2 b2) (by simp) (o' := .loop { lp3 with state := .exhausted }) k2 (by simp)
            (fun w' hw => ⟨k0, k1, { lp3 with state := .exhausted }, hw, k3, k4, k5, k6, rfl, k8, rfl⟩)
          have hend : ∀ l, l = τ.phi s.h.length → (Instr.endLoop l).run P w3 = .ok lp3.pending { w3 with heap := w3.heap.setIfInBounds (τ.phi s.h.length) (.loop { lp3 with state := .exhausted }) } := fun l hl' => by
            subst hl'
            have hget : (Instr.getLoop (τ.phi s.h.length)).run P w3 = .ok lp3 w3 := by simp [Instr.getLoop, getObj, Sem.run, k2]
            simp [Instr.endLoop, hget, hst', e1]
          have pall := ((n2.trans p2).trans c3).trans e2
          have pfr := (p2.trans c3).trans e2
          have hfr := n12.post pfr rfl
          have hres : ∃ d w', (resolve a.eval (rangeCall fv w1.heap.size) 0).run P (w1.alloc (.loop lp)) = .ok d w' ∧ (invoke d.target d.args).run P w' = .ok (.enter fid fargs) (w1.alloc (.loop lp)) := by
            have er : resolve a.eval (rangeCall fv w1.heap.size) 0 = Deferred.ofValue (a.eval fv) #[.func (.yield w1.heap.size) #[] #[]] := by simp [resolve, Act.eval]
            rw [er]
            simp only [Sem.run_bind] at v2
            cases hd : (Deferred.ofValue (a.eval fv) #[.func (.yield w1.heap.size) #[] #[]]).run P (w1.alloc (.loop lp)) with
            | ok d w' => rw [hd] at v2; exact ⟨d, w', rfl, v2⟩
            | halt x w' => rw [hd] at v2; simp [Result.andThen] at v2
          obtain ⟨d, w', d1, d2⟩ := hres
          have steps : ∀ (k : List Item) (cs : List Frame), Steps P (lone (b.atR a (.code (.rangeFunc fv ps assign body) :: k)) cs w)
              (lone (b.atR { a with defers := mark ++ a.defers } ((lp3.pending.map Item.code).toList ++ k)) cs { w3 with heap := w3.heap.setIfInBounds (τ.phi s.h.length) (.loop { lp3 with state := .exhausted }) }) := fun k cs => by
            refine Steps.head (stepR_rangeFunc n1 d1 d2) (Steps.trans (c5 _ cs) ?_)
            rw [finish_atR_inRangeFunc]
            exact Steps.one (stepR_endRangeFunc (hend _ hphi3.symm))
          have rT : RelA (szOf P) τ s.T a.tmps := r.mono pall.le
          generalize { w3 with heap := w3.heap.setIfInBounds (τ.phi s.h.length) (.loop { lp3 with state := .exhausted }) } = w4 at pall hfr steps
          generalize lp3.pending = q at he pall hfr steps
          split at he
          · cases he; exact ⟨τ, w4, { a with defers := mark ++ a.defers }, pall, rT, hfr, fun k cs => steps k cs⟩
          · cases he; exact ⟨τ, w4, { a with defers := mark ++ a.defers }, pall, rT, hfr, fun k cs => ⟨k, steps k cs⟩⟩
          · cases he; exact ⟨τ, w4, { a with defers := mark ++ a.defers }, pall, rT, hfr, fun k cs => ⟨k, rfl, steps k cs⟩⟩
          · cases he
        · cases he
      · cases he
    · cases he
  · cases he

theorem code_sound {ro : Option Nat} {f : FuncId} {N : Nat} : ∀ (c : Code), PlansOk P E f c → CodeOk P (Good P E) ro f (exec E R (loopN N) f ro c) c
  | .skip, _ => fun lo ex s s' σ w a b hf hG inv r fo he => by
    simp only [exec] at he; cases he
    exact ⟨σ, w, a, Post.refl inv, r, fo, fun k cs => Steps.one stepR_skip⟩
  | .region id ops draw, hp => region_sound hE hm hR hp
  | .seq x y, hp => fun lo ex s s' σ w a b hf hG inv r fo he => by
    simp only [exec] at he
    split at he
    · rename_i s1 h1
      obtain ⟨τ, w1, a1, p1, p2, p3, p4⟩ := code_sound x hp.1 lo _ s s1 σ w a b hf hG inv r fo h1
      obtain ⟨τ', w', a', q1, q2, q3, q4⟩ := code_sound y hp.2 lo ex s1 s' τ w1 a1 b hf (p1.le.good.trans hG) p1.inv p2 p3 he
      exact ⟨τ', w', a', p1.trans q1, q2, q3, fun k cs => Ends.ahead (Steps.head stepR_seq (p4 (.code y :: k) cs)) (q4 k cs)⟩
    · rename_i hne
      obtain ⟨τ, w1, a1, p1, p2, p3, p4⟩ := code_sound x hp.1 lo ex s s' σ w a b hf hG inv r fo he
      refine ⟨τ, w1, a1, p1, p2, p3, fun k cs => Ends.ahead (Steps.one stepR_seq) ?_⟩
      have := p4 (.code y :: k) cs
      cases ex with
      | normal => exact absurd he (hne _)
      | ret => exact this
      | exit id => exact this
  | .cond c x y, hp => fun lo ex s s' σ w a b hf hG inv r fo he => by
    simp only [exec] at he
    split at he
    · rename_i t hc
      have rc := evalV_rel r hc
      generalize hac : a.eval c = cv at rc
      cases rc
      cases t with
      | true =>
        simp only [if_true] at he
        obtain ⟨τ, w1, a1, p1, p2, p3, p4⟩ := code_sound x hp.1 lo ex s s' σ w a b hf hG inv r fo he
        exact ⟨τ, w1, a1, p1, p2, p3, fun k cs => Ends.ahead (Steps.one (stepR_cond hac)) (p4 k cs)⟩
      | false =>
        simp only [Bool.false_eq_true, if_false] at he
        obtain ⟨τ, w1, a1, p1, p2, p3, p4⟩ := code_sound y hp.2 lo ex s s' σ w a b hf hG inv r fo he
        exact ⟨τ, w1, a1, p1, p2, p3, fun k cs => Ends.ahead (Steps.one (stepR_cond hac)) (p4 k cs)⟩
    · cases he
  | .block id x, hp => fun lo ex s s' σ w a b hf hG inv r fo he => by
    simp only [exec] at he
    have hp' : PlansOk P E f x := hp
    split at he
    · rename_i i s1 h1
      obtain ⟨τ, w1, a1, p1, p2, p3, p4⟩ := code_sound x hp' lo _ s s1 σ w a b hf hG inv r fo h1
      split at he
      · rename_i e
        subst e
        cases he
        refine ⟨τ, w1, a1, p1, p2, p3, fun k cs => ?_⟩
        obtain ⟨k', e1, e2⟩ := p4 (.inBlock i :: k) cs
        have : exitTo i k' = some k := by rw [e1]; simp [exitTo]
        exact Steps.head stepR_block (Steps.trans e2 (Steps.one (stepR_exit this)))
      · rename_i e
        cases he
        refine ⟨τ, w1, a1, p1, p2, p3, fun k cs => ?_⟩
        obtain ⟨k', e1, e2⟩ := p4 (.inBlock id :: k) cs
        refine ⟨k', ?_, Steps.head stepR_block e2⟩
        rw [e1]
        have : (id == i) = false := by simp; exact fun h => e h.symm
        simp [exitTo, this]
    · rename_i hne
      obtain ⟨τ, w1, a1, p1, p2, p3, p4⟩ := code_sound x hp' lo ex s s' σ w a b hf hG inv r fo he
      refine ⟨τ, w1, a1, p1, p2, p3, fun k cs => Ends.ahead (Steps.one stepR_block) ?_⟩
      have := p4 (.inBlock id :: k) cs
      cases ex with
      | normal => exact Steps.trans this (Steps.one stepR_inBlock)
      | ret => exact this
      | exit i => exact absurd he (hne _ _)
  | .loop x, hp => fun lo ex s s' σ w a b hf hG inv r fo he => by
    simp only [exec] at he
    have hp' : PlansOk P E f x := hp
    obtain ⟨τ, w1, a1, p1, p2, p3, p4⟩ := loop_sound (code_sound x hp') N lo ex s s' σ w a b hf hG inv r fo he
    exact ⟨τ, w1, a1, p1, p2, p3, fun k cs => Ends.ahead (Steps.one stepR_loop) (p4 k cs)⟩
  | .exit id, _ => fun lo ex s s' σ w a b hf hG inv r fo he => by
    simp only [exec] at he; cases he
    exact ⟨σ, w, a, Post.refl inv, r, fo, fun k cs => ⟨k, rfl, Steps.refl _ _⟩⟩
  | .ret, _ => fun lo ex s s' σ w a b hf hG inv r fo he => by
    simp only [exec] at he; cases he
    exact ⟨σ, w, a, Post.refl inv, r, fo, fun k cs => ⟨k, Steps.refl _ _⟩⟩
  | .rangeFunc fv ps x y, hp => rangeFunc_sound hE hm hR hp
  | .scope _, _ => fun lo ex s s' σ w a b hf hG inv r fo he => by simp [exec] at he
  | .label _, _ => fun lo ex s s' σ w a b hf hG inv r fo he => by simp [exec] at he
  | .goto _, _ => fun lo ex s s' σ w a b hf hG inv r fo he => by simp [exec] at he
  | .refuse _, _ => fun lo ex s s' σ w a b hf hG inv r fo he => by simp [exec] at he

end
end Go.AM

/- AM: rounds of loops over functions. -/
namespace Go.AM
variable {P : Program} {E : Env} {σ : Gh} {w : World} {h h' : Heap} {T : List V} {a : Act} {u : V}

theorem setParams_rel {sz : TypeId → Nat} : ∀ (ps : List Tmp) (args : List V) (vs : List Value) (T : List V) (X : Array Value), RelA sz σ T X → RelA sz σ args ⟨vs⟩ → ps.length = args.length →
    RelA sz σ (setParams T (ps.zip args)) ((ps.zip vs).foldl (fun (tmps : Array Value) (x : Tmp × Value) => tmps.setIfInBounds x.1 x.2) X)
  | [], _, _, T, X, r, _, _ => by simpa [setParams] using r
  | p :: ps, [], _, T, X, r, _, hl => by simp at hl
  | p :: ps, x :: args, vs, T, X, r, ra, hl => by
    have l1 := ra.1
    cases vs with
    | nil => simp at l1
    | cons v vs =>
      have r1 : RelA sz σ args ⟨vs⟩ := ⟨by simpa using l1, fun i u v hu hv => ra.2 (i + 1) u v (by simpa using hu) (by simpa using hv)⟩
      have r0 := ra.2 0 x v rfl rfl
      rw [List.zip_cons_cons, List.zip_cons_cons, setParams, List.foldl_cons]
      exact setParams_rel ps args vs _ _ (by have := putV_rel (a := ⟨X, []⟩) r r0 (some p); simpa only [putV, setT_eq, Act.put] using this) r1 (by simpa using hl)

section
variable (hE : EnvOk P E) (hm : methOk P E) {R : Rec} (hR : CallOk P (Good P E) R.call)
include hE hm hR

theorem yield_sound {N : Nat} {g : Nat} {args : List V} (hc : callYield E R (loopN N) g args h = some (u, h')) (hG : σ.good = Good P E) (inv : Inv (szOf P) σ w h) {vs : Array Value} (ra : RelA (szOf P) σ args vs) :
    ∃ nx fr, (nextOf σ (.yield g args) vs).run P w = .ok nx w ∧ Entering P (.yield g args) nx fr ∧ ∃ τ w' v, Post (szOf P) σ h w τ h' w' ∧ Rel (szOf P) τ u v ∧ ∀ c cs, Steps P (lone fr (c :: cs) w) (lone (c.finish v) cs w') := by
  unfold callYield at hc
  split at hc
  · rename_i st0 pe0 f T ps assign body hg
    split at hc
    · cases hc
    rename_i hlen
    have hlen : args.length = ps.length := by simpa using hlen
    obtain ⟨h0, hgood, lp, l1, l2, l3, l4, l5, l6, l7, l8⟩ := inv.ob g _ hg
    rw [hG] at hgood
    have hgn : g < σ.n := by rw [← inv.len]; exact list_lt hg
    split at hc
    · rename_i s1 h1
      split at hc
      · rename_i pend1 f1 T1 ps1 a1 b1 hg1
        split at hc
        · rename_i ex s2 h2
          split at hc
          · rename_i st2 pe2 f2 T2 ps2 a2 b2 hg2
            cases hc
            have hget : (Instr.getLoop (σ.phi g)).run P w = .ok lp w := by simp [Instr.getLoop, getObj, Sem.run, l1]
            have hsz : vs.size = lp.params.size := by
              have e1 := ra.1
              have e2 : lp.params.toList.length = ps.length := by rw [l3]
              simp at e2; omega
            let tm := ((lp.params.zip vs).foldl (fun (tmps : Array Value) (x : Tmp × Value) => tmps.setIfInBounds x.1 x.2) lp.tmps)
            have rT : RelA (szOf P) σ (setParams T (ps.zip args)) tm := by
              have := setParams_rel ps args vs.toList T lp.tmps l7 ra hlen.symm
              have e : tm = (ps.zip vs.toList).foldl (fun (tmps : Array Value) (x : Tmp × Value) => tmps.setIfInBounds x.1 x.2) lp.tmps := by
                show (lp.params.zip vs).foldl _ _ = _
                rw [← Array.foldl_toList, Array.toList_zip, l3]
              rw [e]; exact this
            let b : Frame := { (default : Frame) with fn := lp.fn, kind := .normal, roundOf := some (σ.phi g) }
            have hb0 : Frame.round (σ.phi g) lp.fn tm lp.assign lp.body .normal = b.atR { tmps := tm, defers := [] } [.code assign, .beginRound, .code body] := by
              simp [Frame.round, Frame.atR, b, l4, l5]
            refine ⟨.round (σ.phi g) lp.fn tm lp.assign lp.body, _, ?_, ⟨⟨g, args, rfl⟩, rfl⟩, ?_⟩
            · simp only [nextOf, Instr.yield, Sem.run_bind, hget, Result.andThen_ok]
              simp only [hsz, ne_eq, not_true_eq_false, if_false, Sem.run_pure]
              rfl
            obtain ⟨τ1, w1, c1, p1, p2, p3, p4⟩ := code_sound hE hm hR (ro := some g) (N := N) assign hgood.1 0 .normal _ s1 σ w ⟨tm, []⟩ b l2 hG inv rT ⟨hgn, h0, rfl, rfl⟩ h1
            obtain ⟨k0, k1, lp1, k2, k3, k4, k5, k6, k7, k8, k9⟩ := p1.inv.ob g _ hg1
            obtain ⟨e1, e2⟩ := ob_change (P := P) p1.inv hg1 (by simp) (ob := .loop .busy pend1 f1 T1 ps1 a1 b1) (by simp) (o' := .loop { lp1 with state := .busy }) k2 (by simp)
              (fun w' hw => ⟨k0, k1, { lp1 with state := .busy }, hw, k3, k4, k5, k6, k7, k8, rfl⟩)
            have hphi1 : τ1.phi g = σ.phi g := ((p1.le.ver g hgn).2.2 (by rw [k0, h0])).1
            have hbegin : (Instr.beginRound (σ.phi g)).run P w1 = .ok () { w1 with heap := w1.heap.setIfInBounds (τ1.phi g) (.loop { lp1 with state := .busy }) } := by
              rw [hphi1] at k2 e1 ⊢
              have hget : (Instr.getLoop (σ.phi g)).run P w1 = .ok lp1 w1 := by simp [Instr.getLoop, getObj, Sem.run, k2]
              have : lp1.state = .ready := k9
              simp [Instr.beginRound, hget, e1, this]
            have fr1 := p3.post (a' := c1) e2 rfl
            obtain ⟨τ2, w2, c2, q1, q2, q3, q4⟩ := code_sound hE hm hR (ro := some g) (N := N) body hgood.2 0 ex ⟨s1.T, s1.h.set g (.loop .busy pend1 f1 T1 ps1 a1 b1)⟩ s2 τ1 _ c1 b l2 (p1.le.good.trans hG) e2.inv p2 fr1 h2
            obtain ⟨m0, m1, lp2, m2, m3, m4, m5, m6, m7, m8, m9⟩ := q1.inv.ob g _ hg2
            have hgn1 : g < τ1.n := Nat.lt_of_lt_of_le hgn p1.le.n
            have hphi2 : τ2.phi g = σ.phi g := by rw [((q1.le.ver g hgn1).2.2 (by rw [m0, k0])).1, hphi1]
            -- the round's end
            have fin : ∀ (jump : Option Code), ∃ w3, (Instr.endRound (σ.phi g) jump).run P w2 = .ok (.bool jump.isNone) w3 ∧ Post (szOf P) τ2 s2.h w2 τ2 (s2.h.set g (.loop (if jump.isNone then .ready else .done) jump f2 T2 ps2 a2 b2)) w3 := fun jump => by
              obtain ⟨x1, x2⟩ := ob_change (P := P) q1.inv hg2 (by simp) (ob := .loop (if jump.isNone then .ready else .done) jump f2 T2 ps2 a2 b2) (by simp) (o' := .loop { lp2 with state := if jump.isNone then .ready else .done, pending := jump }) m2 (by simp)
                (fun w' hw => ⟨m0, m1, { lp2 with state := if jump.isNone then .ready else .done, pending := jump }, hw, m3, m4, m5, m6, rfl, m8, by cases jump <;> rfl⟩)
              refine ⟨_, ?_, x2⟩
              have hget : (Instr.getLoop (σ.phi g)).run P w2 = .ok lp2 w2 := by rw [hphi2] at m2; simp [Instr.getLoop, getObj, Sem.run, m2]
              rw [hphi2] at x1 ⊢
              cases jump <;> simp at x1 <;> simp [Instr.endRound, hget, x1]
            have pre : Post (szOf P) σ h w τ2 s2.h w2 := (p1.trans e2).trans q1
            have start : ∀ c cs, Steps P (lone (Frame.round (σ.phi g) lp.fn tm lp.assign lp.body .normal) (c :: cs) w) (lone (b.atR c1 (.code body :: [])) (c :: cs) { w1 with heap := w1.heap.setIfInBounds (τ1.phi g) (.loop { lp1 with state := .busy }) }) := fun c cs => by
              rw [hb0]
              exact Steps.trans (p4 [.beginRound, .code body] (c :: cs)) (Steps.one (stepR_beginRound rfl hbegin))
            cases ex with
            | normal =>
              obtain ⟨w3, y1, y2⟩ := fin none
              exact ⟨τ2, w3, .bool true, pre.trans y2, .bool _, fun c cs => Steps.trans (start c cs) (Steps.trans (q4 [] (c :: cs)) (Steps.one (stepR_round_end rfl rfl y1)))⟩
            | ret =>
              obtain ⟨w3, y1, y2⟩ := fin (some .ret)
              refine ⟨τ2, w3, .bool false, pre.trans y2, .bool _, fun c cs => ?_⟩
              obtain ⟨k', z⟩ := q4 [] (c :: cs)
              exact Steps.trans (start c cs) (Steps.trans z (Steps.one (stepR_round_ret rfl rfl y1)))
            | exit id =>
              obtain ⟨w3, y1, y2⟩ := fin (some (.exit id))
              refine ⟨τ2, w3, .bool false, pre.trans y2, .bool _, fun c cs => ?_⟩
              obtain ⟨k', z1, z2⟩ := q4 [] (c :: cs)
              exact Steps.trans (start c cs) (Steps.trans z2 (Steps.one (stepR_round_exit rfl rfl (by rw [z1]; rfl) y1)))
          · cases hc
        · cases hc
      · cases hc
    · cases hc
  · cases hc

end
end Go.AM

/- AM: a function's end: its marks, its results. -/
namespace Go.AM
variable {P : Program} {E : Env} {σ : Gh} {w : World} {h h' : Heap} {T : List V} {a : Act} {u : V}

theorem step_take {fr : Frame} {cs : List Frame} {r : Nat} {ds : List Deferred} (hmode : fr.mode = .returning) (hd : fr.defers = ({ target := .collected r, args := #[] } : Deferred) :: ds) (hb : w.heap[r]? = some (.deferred (some []))) :
    step P (lone fr cs w) = .next (lone { fr with defers := ds } cs { w with heap := w.heap.setIfInBounds r (.deferred none) }) := by
  have ht : (Instr.takeDeferred r).run P w = .ok [] { w with heap := w.heap.setIfInBounds r (.deferred none) } := by
    simp [Instr.takeDeferred, getObj, setObj, Sem.run, hb]
  exact step_lone_go (by simp [stepG, unwind, hmode, hd, Sem.runT_eq, ht, GStep.bare_after])

/-- the world behind the taking of marks -/
def taken : List Nat → World → World
  | [], w => w
  | r :: rs, w => taken rs { w with heap := w.heap.setIfInBounds r (.deferred none) }

/-- all marks are taken -/
theorem take_all : ∀ (rs : List Nat) (fr : Frame) (cs : List Frame) (w : World), fr.mode = .returning → fr.defers = rs.map (fun r => ({ target := .collected r, args := #[] } : Deferred)) → rs.Nodup → (∀ r ∈ rs, w.heap[r]? = some (.deferred (some []))) →
    Steps P (lone fr cs w) (lone { fr with defers := [] } cs (taken rs w))
  | [], fr, cs, w, hmode, hd, nd, hr => by
    have : { fr with defers := [] } = fr := by rw [← show fr.defers = [] from hd]
    rw [this]; exact Steps.refl _ _
  | r :: rs, fr, cs, w, hmode, hd, nd, hr => by
    have hb := hr r (by simp)
    exact Steps.head (step_take hmode hd hb) (take_all rs { fr with defers := rs.map (fun r => ({ target := .collected r, args := #[] } : Deferred)) } cs { w with heap := w.heap.setIfInBounds r (.deferred none) } hmode rfl (List.nodup_cons.1 nd).2
      (fun x hx => by
        have hne : x ≠ r := fun e => (List.nodup_cons.1 nd).1 (e ▸ hx)
        rw [(MapKept.heap_set hb).2 x hne]; exact hr x (by simp [hx])))

theorem taken_is : ∀ (rs : List Nat) (w : World), (taken rs w).heap.size = w.heap.size ∧ (∀ x, x ∉ rs → (taken rs w).heap[x]? = w.heap[x]?) ∧ (taken rs w).os = w.os ∧ (taken rs w).output = w.output ∧ (taken rs w).tape = w.tape
  | [], w => ⟨rfl, fun _ _ => rfl, rfl, rfl, rfl⟩
  | r :: rs, w => by
    obtain ⟨q2, q3, q4, q5, q6⟩ := taken_is rs { w with heap := w.heap.setIfInBounds r (.deferred none) }
    refine ⟨by rw [taken, q2]; simp, fun x hx => ?_, q4, q5, q6⟩
    rw [taken, q3 x (fun h => hx (by simp [h]))]
    exact Array.getElem?_setIfInBounds_ne (fun e => hx (by simp [e]))

/-- what is taken is nobody's -/
theorem Post.taken {τ : Gh} {w' w'' : World} (p : Post (szOf P) σ h w τ h' w') {ds : List Deferred} {lo : Nat} (hlo : lo = w.heap.size) {rs : List Nat} (hr : ∀ r ∈ rs, lo ≤ r ∧ w'.heap[r]? = some (.deferred (some [])) ∧ ¬ Owned τ h' r)
    (hs : w''.heap.size = w'.heap.size) (hx : ∀ x, x ∉ rs → w''.heap[x]? = w'.heap[x]?) (ho : w''.os = w'.os ∧ w''.output = w'.output ∧ w''.tape = w'.tape) : Post (szOf P) σ h w τ h' w'' := by
  subst hlo
  have live : ∀ g, alive h' g → w''.heap[τ.phi g]? = w'.heap[τ.phi g]? := fun g ag => hx _ fun hm => (hr _ hm).2.2 ⟨g, ag, rfl⟩
  refine ⟨p.le, ⟨p.inv.len, fun g o hg => ?_, fun b arr hb => ?_, fun g ag => ?_, p.inv.inj⟩, ⟨by rw [hs]; exact p.wst.size, fun b hb hn => ?_, p.wst.own, p.wst.fro, ho.1.trans p.wst.os.1, ho.2.1.trans p.wst.os.2.1, ho.2.2.trans p.wst.os.2.2⟩⟩
  · exact RelOb.mono (Le.refl τ) (by rw [← p.inv.len]; exact list_lt hg) rfl (fun hd => live g ⟨o, hg, fun e => hd e⟩) (p.inv.ob g o hg)
  · obtain ⟨T, fr, hh⟩ := p.inv.fro b arr hb
    refine ⟨T, fr, ?_⟩
    rw [hx b (fun hm => by have := (hr b hm).2.1; rw [hh] at this; cases this)]; exact hh
  · obtain ⟨x, y⟩ := p.inv.live g ag
    exact ⟨x, by rw [hs]; exact y⟩
  · rw [hx b (fun hm => by have := (hr b hm).1; omega)]
    exact p.wst.keep b hb hn

/-- one result -/
def resOne (tm : Array Value) : ResultVar → Sem Value
  | .tmp t => pure (tm.getD t undef)
  | .cell a t => do loadVar t (← asAddr (tm.getD a undef))

/-- the results -/
theorem results_rel (hE : EnvOk P E) (inv : Inv (szOf P) σ w h) {tm : Array Value} (r : RelA (szOf P) σ T tm) : ∀ (l : List ResultVar) (vs : List V), resultV E T h l = some vs →
    ∃ xs : List Value, (l.mapM (m := Sem) (resOne tm)).run P w = .ok xs w ∧ RelA (szOf P) σ vs ⟨xs⟩
  | [], vs, h => by
    simp [resultV] at h; subst h
    exact ⟨[], by simp, RelA.nil _ _⟩
  | .tmp t :: l, vs, hh => by
    simp only [resultV, Option.map_eq_some_iff] at hh
    obtain ⟨us, h1, rfl⟩ := hh
    obtain ⟨xs, q1, q2⟩ := results_rel hE inv r l us h1
    have rt := evalV_rel (a := ⟨tm, []⟩) r (o := .tmp t) (u := T.getD t undefV) (by simp only [evalV, getT_eq])
    have y1 : (resOne tm (.tmp t)).run P w = .ok (tm.getD t undef) w := by simp only [resOne, Sem.run_pure]
    refine ⟨tm.getD t undef :: xs, ?_, ?_⟩
    · rw [List.mapM_cons]
      simp only [Sem.run_bind, y1, q1, Result.andThen_ok, Sem.run_pure]
    · have := RelA.cons (X := ⟨xs⟩) rt q2
      simpa [Act.eval] using this
  | .cell c t :: l, vs, hh => by
    simp only [resultV] at hh
    split at hh
    · rename_i i hi
      split at hh
      · rename_i v us h1 h2
        cases hh
        obtain ⟨xs, q1, q2⟩ := results_rel hE inv r l us h2
        have rt := evalV_rel (a := ⟨tm, []⟩) r (o := .tmp c) (u := T.getD c undefV) (by simp only [evalV, getT_eq])
        obtain ⟨x, y1, y2⟩ := loadV_rel (hE.ti t i hi) inv rt h1
        have y1' : (resOne tm (.cell c t)).run P w = .ok x w := by
          simp only [Act.eval] at y1
          simp only [resOne]
          generalize tm.getD c undef = pv at y1
          cases pv with
          | pointer ad =>
            cases ad with
            | none => simp [Instr.loadAt, Instr.sureAddr] at y1
            | some ad => simpa [Instr.loadAt, Instr.sureAddr, asAddr] using y1
          | _ => simp [Instr.loadAt, Instr.sureAddr] at y1
        refine ⟨x :: xs, ?_, ?_⟩
        · rw [List.mapM_cons]
          simp only [Sem.run_bind, y1', q1, Result.andThen_ok, Sem.run_pure]
        · have := RelA.cons (X := ⟨xs⟩) y2 q2
          simpa using this
      · cases hh
    · cases hh

theorem run_results (hE : EnvOk P E) (inv : Inv (szOf P) σ w h) {tm : Array Value} (r : RelA (szOf P) σ T tm) {fn : Func} {vs : List V} (hv : resultV E T h fn.results.toList = some vs) :
    ∃ v, (results fn tm).run P w = .ok v w ∧ Rel (szOf P) σ (tupleV vs) v := by
  obtain ⟨xs, q1, q2⟩ := results_rel hE inv r _ _ hv
  have e : results fn tm = (do let vs ← fn.results.mapM (resOne tm); pure (if h : vs.size = 1 then vs[0] else .tuple vs)) := by
    unfold results
    congr 1
  have e2 : (fn.results.mapM (resOne tm)).run P w = .ok ⟨xs⟩ w := by
    rw [Array.mapM_eq_mapM_toList]
    simp [q1]
  refine ⟨_, by rw [e]; simp only [Sem.run_bind, e2, Result.andThen_ok, Sem.run_pure]; rfl, ?_⟩
  have hl := q2.1
  match vs, hl with
  | [v], hl =>
    have h1 : (⟨xs⟩ : Array Value).size = 1 := hl
    rw [dif_pos h1]
    exact q2.2 0 v _ rfl (Array.getElem?_eq_getElem _)
  | [], hl =>
    rw [dif_neg (by rw [hl]; simp)]
    exact .tuple _ _ q2.1 q2.2
  | _ :: _ :: _, hl =>
    rw [dif_neg (by rw [hl]; simp)]
    exact .tuple _ _ q2.1 q2.2

end Go.AM

/- AM: what a state is without its new objects. -/
namespace Go.AM
variable {P : Program} {E : Env} {σ : Gh} {w : World} {h h' : Heap} {T : List V} {a : Act} {u : V}

theorem underL_mem {n : Nat} : ∀ {l : List V} {i : Nat} {x : V}, V.underL n l = true → l[i]? = some x → V.under n x = true
  | [], _, _, _, h => by simp at h
  | y :: l, 0, x, hu, h => by simp at h; subst h; simp [V.underL] at hu; exact hu.1
  | y :: l, i + 1, x, hu, h => by simp [V.underL] at hu; exact underL_mem hu.2 (by simpa using h)

theorem under_cells {n : Nat} {x : V} (hu : V.under n x = true) {j : Nat} {y : V} (h : x.cells[j]? = some y) : V.under n y = true := by
  by_cases hx : ∃ c, x = .agg c
  · obtain ⟨c, rfl⟩ := hx
    simp [V.under] at hu
    exact underL_mem hu h
  · have e : x.cells = [x] := by cases x <;> first | rfl | exact absurd ⟨_, rfl⟩ hx
    rw [e] at h
    cases j with
    | zero => simp at h; subst h; exact hu
    | succ j => simp at h

/-- fewer objects, more that never changes -/
def Gh.drop (τ : Gh) (n : Nat) (F : Nat → Option (Array Value)) : Gh := { τ with n := n, F := F }

theorem Rel.drop {sz : TypeId → Nat} {τ : Gh} {n : Nat} {F : Nat → Option (Array Value)} (hF : ∀ b arr, τ.F b = some arr → F b = some arr) {u : V} {v : Value} (r : Rel sz τ u v) : V.under n u = true → Rel sz (τ.drop n F) u v := by
  induction r with
  | bool b => intro _; exact .bool b
  | int k m => intro _; exact .int k m
  | str s => intro _; exact .str s
  | nilptr => intro _; exact .nilptr
  | ptr g off hg hv => intro hu; simp [V.under] at hu; exact .ptr g off hu hv
  | el cells off b o arr val h0 h1 h2 ih => intro hu; simp [V.under] at hu; exact .el cells off b o arr val (hF _ _ h0) h1 fun i x hx => ih i x hx (underL_mem hu hx)
  | lst g ver T idx off a hg h0 hv ha => intro hu; simp [V.under] at hu; exact .lst g ver T idx off a hu h0 hv ha
  | nilslice T => intro _; exact .nilslice T
  | slice k T l b o cap arr val hk hc hl h1 h2 ih =>
    intro hu; simp [V.under] at hu
    exact .slice k T l b o cap arr val hk hc hl (fun i x hx => let ⟨p, q⟩ := h1 i x hx; ⟨hF _ _ p, q⟩) fun i x hx j y hy => ih i x hx j y hy (under_cells (underL_mem hu hx) hy)
  | mslice g ver T off len clip a cap hg h0 hv hl ha hs => intro hu; simp [V.under] at hu; exact .mslice g ver T off len clip a cap hu h0 hv hl ha hs
  | cslice g T off len cap a hg hv hs hl ha => intro hu; simp [V.under] at hu; exact .cslice g T off len cap a hu hv hs hl ha
  | nilmap => intro _; exact .nilmap
  | map g hg hv => intro hu; simp [V.under] at hu; exact .map (σ := τ.drop n F) g hu hv
  | func fn a b x y hf h1 h2 h3 h4 ih1 ih2 =>
    intro hu; simp [V.under] at hu
    exact .func fn a b x y hf h1 h2 (fun i u v p q => ih1 i u v p q (underL_mem hu.1 p)) (fun i u v p q => ih2 i u v p q (underL_mem hu.2 p))
  | yield g hg hv => intro hu; simp [V.under] at hu; exact .yield (σ := τ.drop n F) g hu hv
  | nilFunc => intro _; exact .nilFunc
  | iface t u v h0 ih => intro hu; simp [V.under] at hu; exact .iface t u v (ih hu)
  | nilIface => intro _; exact .nilIface
  | agg a x h1 h2 ih => intro hu; simp [V.under] at hu; exact .agg a x h1 fun i u v p q => ih i u v p q (underL_mem hu p)
  | tuple a x h1 h2 ih => intro hu; simp [V.under] at hu; exact .tuple a x h1 fun i u v p q => ih i u v p q (underL_mem hu p)

mutual
theorem pure_under (n : Nat) : ∀ (v : V), v.pure = true → V.under n v = true
  | .bool _, _ | .int _ _, _ | .str _, _ | .nilptr, _ | .nilFunc, _ | .nilIface, _ => rfl
  | .el c _, h => by simp [V.pure] at h; simp [V.under, pure_underL n c h]
  | .slice _ _ l, h => by simp [V.pure] at h; simp [V.under, pure_underL n l h]
  | .map r, h => by cases r <;> simp [V.pure] at h; rfl
  | .func _ a b, h => by simp [V.pure] at h; simp [V.under, pure_underL n a h.1, pure_underL n b h.2]
  | .iface _ v, h => by simp [V.pure] at h; simp [V.under, pure_under n v h]
  | .agg c, h | .tuple c, h => by simp [V.pure] at h; simp [V.under, pure_underL n c h]
  | .ptr _ _, h | .lst _ _ _ _ _, h | .mslice _ _ _ _ _ _, h | .cslice _ _ _ _ _, h | .yield _, h => by simp [V.pure] at h
theorem pure_underL (n : Nat) : ∀ (l : List V), V.pureL l = true → V.underL n l = true
  | [], _ => rfl
  | v :: l, h => by simp [V.pureL] at h; simp [V.underL, pure_under n v h.1, pure_underL n l h.2]
end

theorem underE_mem {n : Nat} : ∀ {l : List (V × V × Nat)} {i : Nat} {x : V × V × Nat}, underE n l = true → l[i]? = some x → V.under n x.1 = true ∧ V.under n x.2.1 = true
  | [], _, _, _, h => by simp at h
  | y :: l, 0, x, hu, h => by simp at h; subst h; simp [underE] at hu; exact hu.1
  | y :: l, i + 1, x, hu, h => by simp [underE] at hu; exact underE_mem hu.2 (by simpa using h)

theorem RelOb.drop {sz : TypeId → Nat} {τ : Gh} {w : World} {n : Nat} {F : Nat → Option (Array Value)} (hF : ∀ b arr, τ.F b = some arr → F b = some arr) {g : Nat} {o : Ob} (hu : o.under n = true) (r : RelOb sz τ w g o) : RelOb sz (τ.drop n F) w g o := by
  cases o with
  | cells c =>
    obtain ⟨h0, arr, T, fr, h1, h2, h3, h4⟩ := r
    exact ⟨h0, arr, T, fr, h1, h2, ⟨h3.1, fun i u v p q => (h3.2 i u v p q).drop hF (underL_mem hu p)⟩, h4⟩
  | list T ver l =>
    obtain ⟨h0, h1, h2, h3, arr, T', fr, h4, h5, h6, h7⟩ := r
    refine ⟨h0, h1, h2, h3, arr, T', fr, h4, h5, h6, fun i x hx => ?_⟩
    obtain ⟨p, q, s⟩ := h7 i x hx
    refine ⟨p, q, fun j y hy => ?_⟩
    obtain ⟨v, a, b⟩ := s j y hy
    exact ⟨v, a, b.drop hF (under_cells (underL_mem hu hx) hy)⟩
  | map es clock =>
    obtain ⟨h0, es', h1, h2, h3⟩ := r
    refine ⟨h0, es', h1, h2, fun i e e' p q => ?_⟩
    obtain ⟨a, b, c⟩ := h3 i e e' p q
    obtain ⟨u1, u2⟩ := underE_mem hu p
    exact ⟨a.drop hF u1, b.drop hF u2, c⟩
  | siter s pos => exact r
  | miter m since seen stepped =>
    obtain ⟨h0, h1, h2⟩ := r
    refine ⟨h0, fun x hx => ⟨?_, (h1 x hx).2⟩, h2⟩
    subst hx
    exact of_decide_eq_true hu
  | loop st pend f T ps a b =>
    obtain ⟨h0, hg, l, h1, h2, h3, h4, h5, h6, h7, h8⟩ := r
    exact ⟨h0, hg, l, h1, h2, h3, h4, h5, h6, ⟨h7.1, fun i u v p q => (h7.2 i u v p q).drop hF (underL_mem hu p)⟩, h8⟩
  | dead => trivial

theorem underAll_mem {n : Nat} : ∀ {l : Heap} {i : Nat} {x : Ob}, underAll n l = true → l[i]? = some x → x.under n = true
  | [], _, _, _, h => by simp at h
  | y :: l, 0, x, hu, h => by simp at h; subst h; simp [underAll] at hu; exact hu.1
  | y :: l, i + 1, x, hu, h => by simp [underAll] at hu; exact underAll_mem hu.2 (by simpa using h)

open Classical in
/-- the rows of lists that are dropped never change any more -/
noncomputable def dropF (τ : Gh) (h1 : Heap) (w' : World) (n : Nat) : Nat → Option (Array Value) := fun b =>
  if ∃ g T ver l, n ≤ g ∧ h1[g]? = some (Ob.list T ver l) ∧ τ.phi g = b then (match w'.heap[b]? with | some (.cells arr _ _) => some arr | _ => none) else τ.F b

theorem dropF_ext {sz : TypeId → Nat} {τ : Gh} {h1 : Heap} {w' : World} (inv : Inv sz τ w' h1) (n : Nat) : ∀ b arr, τ.F b = some arr → dropF τ h1 w' n b = some arr := fun b arr hb => by
  unfold dropF
  rw [if_neg]
  · exact hb
  · rintro ⟨g, T, ver, l, _, hg, rfl⟩
    have := (inv.live g ⟨_, hg, fun e => by cases e⟩).1
    rw [hb] at this; cases this

theorem Post.drop {sz : TypeId → Nat} {τ : Gh} {h1 : Heap} {w' : World} (i0 : Inv sz σ w h) (p : Post sz σ h w τ h1 w') (hu : underAll h.length (h1.take h.length) = true) :
    Post sz σ h w (τ.drop h.length (dropF τ h1 w' h.length)) (h1.take h.length) w' := by
  have ext := dropF_ext p.inv h.length
  have hlen : h.length ≤ h1.length := by rw [i0.len, p.inv.len]; exact p.le.n
  have get : ∀ g o, (h1.take h.length)[g]? = some o → g < h.length ∧ h1[g]? = some o := fun g o hg => by
    rw [List.getElem?_take] at hg
    split at hg
    · rename_i e; exact ⟨e, hg⟩
    · cases hg
  have al : ∀ g, alive (h1.take h.length) g → g < h.length ∧ alive h1 g := fun g ⟨o, ho, hd⟩ => ⟨(get g o ho).1, o, (get g o ho).2, hd⟩
  refine ⟨⟨by rw [Gh.drop, i0.len]; exact Nat.le_refl _, fun g hg => p.le.ver g hg, fun b arr hb => ext b arr (p.le.F b arr hb), p.le.good⟩, ⟨?_, fun g o hg => ?_, fun b arr hb => ?_, fun g ag => ?_, fun g g' ag ag' e => p.inv.inj g g' (al g ag).2 (al g' ag').2 e⟩,
    ⟨p.wst.size, p.wst.keep, fun b hb ⟨g, ag, eg⟩ => p.wst.own b hb ⟨g, (al g ag).2, eg⟩, fun b arr hb hf => ?_, p.wst.os⟩⟩
  · simp [Gh.drop]; omega
  · exact RelOb.drop ext (underAll_mem hu hg) (p.inv.ob g o (get g o hg).2)
  · show ∃ T fr, _
    have hb : dropF τ h1 w' h.length b = some arr := hb
    unfold dropF at hb
    split at hb
    · split at hb
      · rename_i arr' T fr hh; cases hb; exact ⟨T, fr, hh⟩
      · cases hb
    · exact p.inv.fro b arr hb
  · obtain ⟨q1, q2⟩ := al g ag
    obtain ⟨r1, r2⟩ := p.inv.live g q2
    refine ⟨?_, r2⟩
    show dropF τ h1 w' h.length (τ.phi g) = none
    unfold dropF
    rw [if_neg]
    · exact r1
    · rintro ⟨g', T, ver, l, hn, hg', e⟩
      have := p.inv.inj g' g ⟨_, hg', fun e => by cases e⟩ q2 e
      omega
  · have hf : dropF τ h1 w' h.length b = some arr := hf
    unfold dropF at hf
    split at hf
    · rename_i hx
      obtain ⟨g, T, ver, l, _, hg, e⟩ := hx
      exact .inr (p.wst.own b hb ⟨g, ⟨_, hg, fun e => by cases e⟩, e⟩)
    · exact p.wst.fro b arr hb hf

end Go.AM

/- AM: values without new objects. -/
namespace Go.AM
variable {P : Program} {E : Env} {σ : Gh} {w : World} {h h' : Heap} {T : List V} {a : Act} {u : V}

/-- one value for another -/
structure Frz (sz : TypeId → Nat) (τ τ' : Gh) (v v' : V) : Prop where
  rel : ∀ x, Rel sz τ v x → Rel sz τ' v' x
  one : v'.one = v.one
  len : v'.cells.length = v.cells.length
  cell : ∀ (j : Nat) (y y' : V), v.cells[j]? = some y → v'.cells[j]? = some y' → y'.one = y.one ∧ ∀ x, Rel sz τ y x → Rel sz τ' y' x

theorem mapO_get {α β : Type} {f : α → Option β} : ∀ {l : List α} {m : List β}, mapO f l = some m → m.length = l.length ∧ ∀ (i : Nat) (x : α) (y : β), l[i]? = some x → m[i]? = some y → f x = some y
  | [], m, h => by simp [mapO] at h; subst h; exact ⟨rfl, fun i x y hx => by simp at hx⟩
  | x :: l, m, h => by
    simp only [mapO] at h
    split at h
    · rename_i y ys h1 h2
      cases h
      obtain ⟨p, q⟩ := mapO_get h2
      refine ⟨by simp [p], fun i a b ha hb => ?_⟩
      cases i with
      | zero => simp at ha hb; subst ha hb; exact h1
      | succ i => exact q i a b (by simpa using ha) (by simpa using hb)
    · cases h

theorem Frz.single {sz : TypeId → Nat} {τ τ' : Gh} {v v' : V} (hr : ∀ x, Rel sz τ v x → Rel sz τ' v' x) (h1 : v.one = true ∨ ∃ c, v = .tuple c) (h2 : v'.one = v.one) (hc : v.cells = [v]) (hc' : v'.cells = [v']) : Frz sz τ τ' v v' :=
  ⟨hr, h2, by rw [hc, hc']; rfl, fun j y y' hy hy' => by
    rw [hc] at hy; rw [hc'] at hy'
    cases j with
    | zero => simp at hy hy'; subst hy hy'; exact ⟨h2, hr⟩
    | succ j => simp at hy⟩

theorem Frz.same {sz : TypeId → Nat} {τ : Gh} {n : Nat} {F : Nat → Option (Array Value)} (hF : ∀ b arr, τ.F b = some arr → F b = some arr) {v : V} (hu : V.under n v = true) : Frz sz τ (τ.drop n F) v v :=
  ⟨fun x r => r.drop hF hu, rfl, rfl, fun j y y' hy hy' => by
    rw [hy] at hy'; cases hy'
    exact ⟨rfl, fun x r => r.drop hF (under_cells hu hy)⟩⟩

/-- two lists, one by one -/
def FrzL (sz : TypeId → Nat) (τ τ' : Gh) (l m : List V) : Prop := m.length = l.length ∧ ∀ (i : Nat) (x y : V), l[i]? = some x → m[i]? = some y → Frz sz τ τ' x y

theorem FrzL.get {sz : TypeId → Nat} {τ τ' : Gh} {l m : List V} (f : FrzL sz τ τ' l m) {i : Nat} {y : V} (hy : m[i]? = some y) : ∃ x, l[i]? = some x ∧ Frz sz τ τ' x y := by
  have hlt : i < l.length := by rw [← f.1]; exact list_lt hy
  exact ⟨l[i], List.getElem?_eq_getElem hlt, f.2 i _ y (List.getElem?_eq_getElem hlt) hy⟩

theorem Frz.cells_one {sz : TypeId → Nat} {τ τ' : Gh} {x y : V} (f : Frz sz τ τ' x y) (h : x.cells.all V.one = true) : y.cells.all V.one = true := by
  rw [List.all_eq_true] at h ⊢
  intro z hz
  obtain ⟨j, hj⟩ := List.mem_iff_getElem?.1 hz
  have hlt : j < x.cells.length := by rw [← f.len]; exact list_lt hj
  obtain ⟨q, _⟩ := f.cell j _ z (List.getElem?_eq_getElem hlt) hj
  rw [q]; exact h _ (List.getElem_mem _)

theorem FrzL.relA {sz : TypeId → Nat} {τ τ' : Gh} {l m : List V} (f : FrzL sz τ τ' l m) {X : Array Value} (hs : X.size = l.length) (hr : ∀ (i : Nat) (u : V) (v : Value), l[i]? = some u → X[i]? = some v → Rel sz τ u v) :
    X.size = m.length ∧ ∀ (i : Nat) (u : V) (v : Value), m[i]? = some u → X[i]? = some v → Rel sz τ' u v :=
  ⟨by rw [f.1]; exact hs, fun i u v hu hv => by
    obtain ⟨x, hx, fx⟩ := f.get hu
    exact fx.rel v (hr i x v hx hv)⟩

/-- a frozen slice again -/
theorem FrzL.slice {sz : TypeId → Nat} {τ τ' : Gh} {l m : List V} (f : FrzL sz τ τ' l m) (hF : ∀ b arr, τ.F b = some arr → τ'.F b = some arr) {k : SK} {T : TypeId} {x : Value} (r : Rel sz τ (.slice k T l) x) : Rel sz τ' (.slice k T m) x := by
  cases r with
  | nilslice =>
    have : m = [] := List.eq_nil_of_length_eq_zero (by rw [f.1]; rfl)
    subst this; exact .nilslice T
  | slice _ _ _ b o cap arr val hk hc hl q1 q2 =>
    rw [← f.1] at hl hc ⊢
    refine .slice k T m b o cap arr val hk hc hl (fun i y hy => ?_) (fun i y hy j z hz => ?_)
    · obtain ⟨x, hx, fx⟩ := f.get hy
      obtain ⟨s1, s2, s3, s4⟩ := q1 i x hx
      exact ⟨hF _ _ s1, by rw [fx.len]; exact s2, fx.cells_one s3, s4⟩
    · obtain ⟨x, hx, fx⟩ := f.get hy
      have hlt : j < x.cells.length := by rw [← fx.len]; exact list_lt hz
      exact (fx.cell j _ z (List.getElem?_eq_getElem hlt) hz).2 _ (q2 i x hx j _ (List.getElem?_eq_getElem hlt))

/-- a dropped list's slice is frozen -/
theorem slice_of_list {τ : Gh} {h1 : Heap} {w' : World} (inv : Inv (szOf P) τ w' h1) {n g ver : Nat} (hg : n ≤ g) {T : TypeId} {off len : Nat} {clip : Option Nat} {l m : List V} (he : elemsV h1 (.mslice g ver T off len clip) = some l)
    (f : FrzL (szOf P) τ (τ.drop n (dropF τ h1 w' n)) l m) {x : Value} (r : Rel (szOf P) τ (.mslice g ver T off len clip) x) : Rel (szOf P) (τ.drop n (dropF τ h1 w' n)) (.slice (if clip = some len then .clip else .free) T m) x := by
  cases r with
  | mslice _ _ _ _ _ _ ad cap g1 g2 g3 g4 g5 g6 =>
    simp only [elemsV] at he
    split at he
    · rename_i T' ver' l0 hgl
      split at he
      · rename_i hc
        obtain ⟨rfl, rfl, hle⟩ := hc
        cases he
        obtain ⟨e1, e2, e3, e4, arr, Te, fr, b1, b2, b3, b4⟩ := inv.ob g _ hgl
        obtain ⟨p1, p2, p3⟩ := g5 e1.symm
        have hll : ((l0.drop off).take len).length = len := by simp; omega
        have hml : m.length = len := by rw [f.1, hll]
        obtain ⟨bb, oo, sp⟩ := ad
        simp at g6; subst g6
        have hF : dropF τ h1 w' n (τ.phi g) = some arr := by
          unfold dropF
          rw [if_pos ⟨g, T, ver, l0, hg, hgl, rfl⟩, b1]
        rw [show (Value.slice (some ⟨bb, oo, none⟩) len cap) = Value.slice (some ⟨bb, oo, none⟩) m.length cap by rw [hml]]
        have el : ∀ (i : Nat) (y : V), m[i]? = some y → ∃ x, (l0[off + i]? = some x) ∧ Frz (szOf P) τ (τ.drop n (dropF τ h1 w' n)) x y ∧ bb = τ.phi g ∧ oo = τ.base g + off * szOf P T := fun i y hy => by
          obtain ⟨x, hx, fx⟩ := f.get hy
          have hi : i < len := by rw [← hml]; exact list_lt hy
          rw [List.getElem?_take, if_pos hi, List.getElem?_drop] at hx
          have := p1 (by omega)
          simp at this
          exact ⟨x, hx, fx, this.1, this.2⟩
        refine .slice _ T m bb oo cap arr (fun i j => (arr[oo + (i * szOf P T + j)]?).getD undef) (by split <;> simp) (fun hk => ?_) (by omega) (fun i y hy => ?_) (fun i y hy j z hz => ?_)
        · split at hk
          · rename_i hcl; have := (p3 _ hcl).1; omega
          · cases hk
        · obtain ⟨x, hx, fx, rfl, rfl⟩ := el i y hy
          obtain ⟨q1, q2, q3⟩ := b4 _ x hx
          refine ⟨hF, by rw [fx.len]; exact q1, fx.cells_one q2, fun j hj => ?_⟩
          have hj' : j < x.cells.length := by rw [q1]; exact hj
          obtain ⟨v, v1, _⟩ := q3 j _ (List.getElem?_eq_getElem hj')
          have e : τ.base g + ((off + i) * szOf P T + j) = τ.base g + off * szOf P T + (i * szOf P T + j) := by rw [Nat.add_mul]; omega
          rw [e] at v1
          rw [v1]; rfl
        · obtain ⟨x, hx, fx, rfl, rfl⟩ := el i y hy
          obtain ⟨q1, q2, q3⟩ := b4 _ x hx
          have hlt : j < x.cells.length := by rw [← fx.len]; exact list_lt hz
          obtain ⟨v, v1, v2⟩ := q3 j _ (List.getElem?_eq_getElem hlt)
          have e : τ.base g + ((off + i) * szOf P T + j) = τ.base g + off * szOf P T + (i * szOf P T + j) := by rw [Nat.add_mul]; omega
          rw [e] at v1
          simp only [v1, Option.getD_some]
          exact (fx.cell j _ z (List.getElem?_eq_getElem hlt) hz).2 _ v2
      · cases he
    · cases he

theorem freeze_rel {τ : Gh} {h1 : Heap} {w' : World} (inv : Inv (szOf P) τ w' h1) (n : Nat) : ∀ (d : Nat) (v v' : V), freeze n h1 d v = some v' → Frz (szOf P) τ (τ.drop n (dropF τ h1 w' n)) v v'
  | 0, v, v', h => by
    simp only [freeze] at h
    split at h
    · rename_i hp; cases h; exact Frz.same (dropF_ext inv n) (pure_under n v hp)
    · cases h
  | d + 1, v, v', h => by
    have ext := dropF_ext inv n
    have ih := freeze_rel inv n d
    have lists : ∀ (l m : List V), mapO (freeze n h1 d) l = some m → FrzL (szOf P) τ (τ.drop n (dropF τ h1 w' n)) l m := fun l m hm => by
      obtain ⟨p, q⟩ := mapO_get hm
      exact ⟨p, fun i x y hx hy => ih x y (q i x y hx hy)⟩
    simp only [freeze] at h
    split at h
    · rename_i hp; cases h; exact Frz.same ext (pure_under n v hp)
    split at h
    · simp only [Option.map_eq_some_iff] at h
      obtain ⟨m, hm, rfl⟩ := h
      exact Frz.single (fun x r => (lists _ m hm).slice ext r) (.inl rfl) rfl rfl rfl
    · rename_i g ver T off len clip
      split at h
      · rename_i hlt
        cases h
        exact Frz.same ext (by simpa [V.under] using hlt)
      · rename_i hge
        split at h
        · rename_i l hl
          split at h
          · rename_i hp
            cases h
            refine Frz.single (fun x r => slice_of_list inv (by omega) hl ⟨rfl, fun i x y hx hy => ?_⟩ r) (.inl rfl) rfl rfl rfl
            rw [hx] at hy; cases hy
            exact Frz.same ext (underL_mem (pure_underL n l hp) hx)
          · simp only [Option.map_eq_some_iff] at h
            obtain ⟨m, hm, rfl⟩ := h
            exact Frz.single (fun x r => slice_of_list inv (by omega) hl (lists l m hm) r) (.inl rfl) rfl rfl rfl
        · cases h
    · simp only [Option.map_eq_some_iff] at h
      obtain ⟨m, hm, rfl⟩ := h
      have fx := ih _ m hm
      exact Frz.single (fun x r => by cases r with | iface _ _ y ry => exact .iface _ _ _ (fx.rel _ ry)) (.inl rfl) rfl rfl rfl
    · simp only [Option.map_eq_some_iff] at h
      obtain ⟨m, hm, rfl⟩ := h
      have fl := lists _ m hm
      exact ⟨fun x r => by
        cases r with
        | agg _ X x1 x2 => obtain ⟨y1, y2⟩ := fl.relA x1 x2; exact .agg _ _ y1 y2, rfl, fl.1, fun j y y' hy hy' => by
        have f := fl.2 j y y' hy hy'
        exact ⟨f.one, f.rel⟩⟩
    · simp only [Option.map_eq_some_iff] at h
      obtain ⟨m, hm, rfl⟩ := h
      have fl := lists _ m hm
      exact Frz.single (fun x r => by
        cases r with
        | tuple _ X x1 x2 => obtain ⟨y1, y2⟩ := fl.relA x1 x2; exact .tuple _ _ y1 y2) (.inr ⟨_, rfl⟩) rfl rfl rfl
    · split at h
      · rename_i hu; cases h; exact Frz.same ext hu
      · cases h

end Go.AM

/- AM: calls of functions. -/
namespace Go.AM
variable {P : Program} {E : Env} {σ : Gh} {w : World} {h h' : Heap} {T : List V} {a : Act} {u : V}

/-- what holds no reference says the same to every ghost -/
theorem Rel.pureUp {sz : TypeId → Nat} {τ τ' : Gh} {F : Nat → Option (Array Value)} {v : V} {x : Value} (r : Rel sz (τ.drop 0 F) v x) : Rel sz { τ' with F := F } v x := by
  generalize hs : τ.drop 0 F = s at r
  induction r with
  | bool b => exact .bool b
  | int k n => exact .int k n
  | str s => exact .str s
  | nilptr => exact .nilptr
  | ptr g off hg => subst hs; exact (Nat.not_lt_zero _ hg).elim
  | el cells off b o arr val h0 h1 h2 ih => subst hs; exact .el cells off b o arr val h0 h1 fun i x hx => ih i x hx
  | lst g ver T idx off a hg => subst hs; exact (Nat.not_lt_zero _ hg).elim
  | nilslice T => exact .nilslice T
  | slice k T l b o cap arr val hk hc hl h1 h2 ih => subst hs; exact .slice k T l b o cap arr val hk hc hl h1 fun i x hx j y hy => ih i x hx j y hy
  | mslice g ver T off len clip a cap hg => subst hs; exact (Nat.not_lt_zero _ hg).elim
  | cslice g T off len cap a hg => subst hs; exact (Nat.not_lt_zero _ hg).elim
  | nilmap => exact .nilmap
  | map g hg => subst hs; exact (Nat.not_lt_zero _ hg).elim
  | func fn a b x y hf h1 h2 h3 h4 ih1 ih2 => subst hs; exact .func fn a b x y hf h1 h2 (fun i u v p q => ih1 i u v p q) fun i u v p q => ih2 i u v p q
  | yield g hg => subst hs; exact (Nat.not_lt_zero _ hg).elim
  | nilFunc => exact .nilFunc
  | iface t u v h0 ih => subst hs; exact .iface t u v ih
  | nilIface => exact .nilIface
  | agg a x h1 h2 ih => subst hs; exact .agg a x h1 fun i u v p q => ih i u v p q
  | tuple a x h1 h2 ih => subst hs; exact .tuple a x h1 fun i u v p q => ih i u v p q

/-- What becomes of a function's new objects. -/
theorem finish_sound {m : Mode} {τ : Gh} {w' : World} {h1 : Heap} {v : V} {x : Value} (inv : Inv (szOf P) σ w h) (p : Post (szOf P) σ h w τ h1 w') (rv : Rel (szOf P) τ v x) (hf : finish m h.length v h1 = some (u, h')) :
    ∃ τ', Post (szOf P) σ h w τ' h' w' ∧ Rel (szOf P) τ' u x := by
  cases m with
  | keep => simp only [finish, Option.some.injEq, Prod.mk.injEq] at hf; obtain ⟨rfl, rfl⟩ := hf; exact ⟨τ, p, rv⟩
  | trim =>
    simp only [finish] at hf
    split at hf
    · rename_i v' hv
      split at hf
      · rename_i hu
        cases hf
        exact ⟨_, p.drop inv hu, (freeze_rel p.inv _ _ _ _ hv).rel _ rv⟩
      · cases hf
    · cases hf

section
variable (hE : EnvOk P E) (hm : methOk P E) {R : Rec} (hR : CallOk P (Good P E) R.call)
include hE hm hR

theorem fn_runs {N : Nat} {f : FuncId} {args : List V} (hpl : ∀ fn c, E.fn f = some fn → fn.body = some c → PlansOk P E f c) (hc : callFn E R (loopN N) f args h = some (u, h')) (hG : σ.good = Good P E) (inv : Inv (szOf P) σ w h) {vs : Array Value}
    (ra : RelA (szOf P) σ args vs) :
    (callFunc f vs).run P w = .ok (.enter f vs) w ∧ ∃ τ w' v, Post (szOf P) σ h w τ h' w' ∧ Rel (szOf P) τ u v ∧ ∀ cs, ∃ fr, Steps P (lone (Frame.enter P f vs .normal) cs w) (lone fr cs w') ∧ fr.fn = f ∧ fr.leaving P w' (.returned v) := by
  unfold callFn at hc
  split at hc
  · rename_i fn hfn
    obtain ⟨hf, hname⟩ := hE.fn f fn hfn
    split at hc
    · rename_i c hb
      have hn' : fn.name ≠ "runtime.NumGoroutine" := by simpa using hname
      refine ⟨by simp [callFunc, hf, hn', hb], ?_⟩
      split at hc
      · cases hc
      · rename_i ex s hne he
        split at hc
        · rename_i rs hrs
          let tm : Array Value := vs ++ Array.replicate (fn.ntmps - vs.size) undef
          let b : Frame := { (default : Frame) with fn := f, kind := .normal, roundOf := none }
          have hb0 : Frame.enter P f vs .normal = b.atR { tmps := tm, defers := [] } [.code c] := by
            simp [Frame.enter, Frame.atR, b, tm, hf, hb]
          have rT : RelA (szOf P) σ (args ++ List.replicate (fn.ntmps - args.length) undefV) tm := by
            have e : vs.size = args.length := ra.1
            refine ra.append ⟨by simp [e], fun i p q hp hq => ?_⟩
            have := List.mem_of_getElem? hp
            obtain ⟨_, rfl⟩ := List.mem_replicate.1 this
            rw [Array.getElem?_replicate] at hq
            split at hq
            · cases hq; exact undef_rel _ _
            · cases hq
          obtain ⟨τ, w1, a1, p1, p2, p3, p4⟩ := code_sound hE hm hR (ro := none) (N := N) c (hpl fn c hfn hb) w.heap.size ex _ s σ w ⟨tm, []⟩ b rfl hG inv rT ⟨rfl, Nat.le_refl _, [], rfl, List.nodup_nil, fun r hr => by cases hr⟩ he
          obtain ⟨_, hlo, marks, m1, m2, m3⟩ := p3
          -- to the return
          have toRet : ∀ cs, ∃ todo, Steps P (lone (Frame.enter P f vs .normal) cs w) (lone { b.atR a1 todo with mode := .returning } cs w1) := fun cs => by
            rw [hb0]
            have := p4 [] cs
            cases ex with
            | normal => exact ⟨[], Steps.trans this (Steps.one (stepR_end rfl))⟩
            | ret => obtain ⟨k', z⟩ := this; exact ⟨_, Steps.trans z (Steps.one (stepR_ret rfl))⟩
            | exit id => exact (hne id rfl).elim
          have hmk : ∀ r ∈ marks, w1.heap[r]? = some (.deferred (some [])) := fun r hr => (m3 r hr).2.1
          obtain ⟨t1, t2, t3⟩ := taken_is marks w1
          have p5 : Post (szOf P) σ h w τ s.h (taken marks w1) := Post.taken (ds := []) p1 rfl m3 t1 t2 t3
          obtain ⟨v, r1, r2⟩ := run_results hE p5.inv p2 hrs
          obtain ⟨τ', f1, f2⟩ := finish_sound inv p5 r2 hc
          refine ⟨τ', taken marks w1, v, f1, f2, fun cs => ?_⟩
          obtain ⟨todo, z⟩ := toRet cs
          exact ⟨_, Steps.trans z (take_all marks { b.atR a1 todo with mode := .returning } cs w1 rfl m1 m2 hmk), rfl, rfl, rfl, rfl, fn, hf, r1⟩
        · cases hc
      · cases hc
    · cases hc
  · cases hc

end

/-- what a call of a function comes to -/
def FnDone (P : Program) (σ : Gh) (h : Heap) (w : World) (f : FuncId) (vs : Array Value) (u : V) (h' : Heap) : Prop :=
  (callFunc f vs).run P w = .ok (.enter f vs) w ∧ ∃ τ w' v, Post (szOf P) σ h w τ h' w' ∧ Rel (szOf P) τ u v ∧ ∀ cs, ∃ fr, Steps P (lone (Frame.enter P f vs .normal) cs w) (lone fr cs w') ∧ fr.fn = f ∧ fr.leaving P w' (.returned v)

/-- functions by contract -/
def PrimOk (P : Program) (pr : Prims) (G : FuncId → Code → Code → Prop) : Prop :=
  ∀ f p, pr f = some p → ∀ args h u h', p args h = some (u, h') → ∀ σ w vs, σ.good = G → Inv (szOf P) σ w h → RelA (szOf P) σ args vs → FnDone P σ h w f vs u h'

theorem PrimOk.no (G : FuncId → Code → Code → Prop) : PrimOk P (fun _ => Option.none) G := fun f p h => by cases h

section
variable (hE : EnvOk P E) (hm : methOk P E) (hpl : ∀ f fn c, E.fn f = some fn → fn.body = some c → PlansOk P E f c) {pr : Prims} (hp : PrimOk P pr (Good P E))
include hE hm hpl hp

theorem callN_ok : ∀ n, CallOk P (Good P E) (callN E pr n)
  | 0 => fun t h u h' hc => by simp [callN] at hc
  | n + 1 => by
    have ih := callN_ok n
    intro t h u h' hc σ w vs hG inv ra
    cases t with
    | yield g args => exact yield_sound hE hm (R := ⟨callN E pr n⟩) ih hc hG inv ra
    | fn f args =>
      have key : FnDone P σ h w f vs u h' := by
        simp only [callN] at hc
        split at hc
        · rename_i x hx
          cases hc
          obtain ⟨p, hpf, hx⟩ := Option.bind_eq_some_iff.1 hx
          exact hp f p hpf args h u h' hx σ w vs hG inv ra
        · exact fn_runs hE hm (R := ⟨callN E pr n⟩) ih (hpl f) hc hG inv ra
      obtain ⟨k1, τ, w', v, k2, k3, k4⟩ := key
      refine ⟨_, _, k1, ⟨⟨f, args, rfl⟩, rfl⟩, τ, w', v, k2, k3, fun c cs => ?_⟩
      obtain ⟨fr, z, _, hl⟩ := k4 (c :: cs)
      exact Steps.trans z (Steps.one (step_leave_returned hl))

theorem callN_done {n : Nat} {f : FuncId} {args : List V} (hc : callN E pr n (.fn f args) h = some (u, h')) (hG : σ.good = Good P E) (inv : Inv (szOf P) σ w h) {vs : Array Value} (ra : RelA (szOf P) σ args vs) : FnDone P σ h w f vs u h' := by
  cases n with
  | zero => simp [callN] at hc
  | succ n =>
    simp only [callN] at hc
    split at hc
    · rename_i x hx
      cases hc
      obtain ⟨p, hpf, hx⟩ := Option.bind_eq_some_iff.1 hx
      exact hp f p hpf args h u h' hx σ w vs hG inv ra
    · exact fn_runs hE hm (R := ⟨callN E pr n⟩) (callN_ok hE hm hpl hp n) (hpl f) hc hG inv ra

/-- A call of the abstract machine is one of the program's. -/
theorem callN_calls {n : Nat} {f : FuncId} {args : List V} (hc : callN E pr n (.fn f args) h = some (u, h')) (hG : σ.good = Good P E) (inv : Inv (szOf P) σ w h) {vs : Array Value} (ra : RelA (szOf P) σ args vs) :
    Calls P f vs w fun e w' => ∃ τ v, e = .returned v ∧ Rel (szOf P) τ u v ∧ Post (szOf P) σ h w τ h' w' := by
  obtain ⟨_, τ, w', v, k2, k3, k4⟩ := callN_done hE hm hpl hp hc hG inv ra
  intro cs
  obtain ⟨fr, z, e, hl⟩ := k4 cs
  exact ⟨.returned v, w', fr, ⟨τ, v, rfl, k3, k2⟩, z, e, hl⟩

/-- a function more by what it comes to -/
theorem PrimOk.more {f0 : FuncId} {t : List V → Heap → Option (V × Heap)} (ht : ∀ args h u h', t args h = some (u, h') → ∃ n, callN E pr n (.fn f0 args) h = some (u, h')) : PrimOk P (fun f => if f = f0 then some t else pr f) (Good P E) := by
  intro f p hpf args h u h' hc σ w vs hG inv ra
  by_cases e : f = f0
  · subst e
    simp only [if_true, Option.some.injEq] at hpf
    subst hpf
    obtain ⟨n, hn⟩ := ht args h u h' hc
    exact callN_done hE hm hpl hp hn hG inv ra
  · simp only [if_neg e] at hpf
    exact hp f p hpf args h u h' hc σ w vs hG inv ra

/-- a function of values that hold no reference: known from its run in the empty heap -/
theorem PrimOk.morePure {f0 : FuncId} {t : List V → Option V} (ht : ∀ args u, t args = some u → V.pureL args = true ∧ u.pure = true ∧ ∃ n, callN E pr n (.fn f0 args) [] = some (u, [])) :
    PrimOk P (fun f => if f = f0 then some (fun args h => (t args).map (·, h)) else pr f) (Good P E) := by
  intro f p hpf args h u h' hc σ w vs hG inv ra
  by_cases e : f = f0
  · subst e
    simp only [if_true, Option.some.injEq] at hpf
    subst hpf
    simp only [Option.map_eq_some_iff, Prod.mk.injEq] at hc
    obtain ⟨u', hu, rfl, rfl⟩ := hc
    obtain ⟨h1, h2, n, hn⟩ := ht args u' hu
    have inv0 : Inv (szOf P) (σ.drop 0 σ.F) w [] := ⟨rfl, fun g o hg => by simp at hg, inv.fro, fun g ag => by have := alive_lt ag; simp at this, fun g g' ag => by have := alive_lt ag; simp at this⟩
    have ra0 : RelA (szOf P) (σ.drop 0 σ.F) args vs := ⟨ra.1, fun i x y hx hy => (ra.2 i x y hx hy).drop (fun _ _ h => h) (underL_mem (pure_underL 0 args h1) hx)⟩
    obtain ⟨k1, τ, w', v, k2, k3, k4⟩ := callN_done hE hm hpl hp hn (σ := σ.drop 0 σ.F) hG inv0 ra0
    have hno : ∀ b, ¬ Owned (σ.drop 0 σ.F) [] b := fun b ⟨g, ag, _⟩ => by have := alive_lt ag; simp at this
    have hF : ∀ b arr, σ.F b = some arr → τ.F b = some arr := fun b arr hb => k2.le.F b arr hb
    let τ' : Gh := { σ with F := τ.F }
    have le : Le σ τ' := ⟨Nat.le_refl _, fun _ _ => ⟨Nat.le_refl _, id, fun _ => ⟨rfl, rfl, rfl⟩⟩, hF, rfl⟩
    have hold : ∀ b, b < w.heap.size → w'.heap[b]? = w.heap[b]? := fun b hb => k2.wst.keep b hb (hno b)
    refine ⟨k1, τ', w', v, ⟨le, ⟨inv.len, fun g o hg => ?_, fun b arr hb => k2.inv.fro b arr hb, fun g ag => ?_, inv.inj⟩, ⟨k2.wst.size, fun b hb _ => hold b hb, fun b _ ho => ho, fun b arr hb hf => ?_, k2.wst.os⟩⟩, ?_, k4⟩
    · exact RelOb.mono le (by rw [← inv.len]; exact list_lt hg) rfl (fun hd => hold _ (inv.live g ⟨o, hg, fun e => hd e⟩).2) (inv.ob g o hg)
    · obtain ⟨q1, q2⟩ := inv.live g ag
      refine ⟨?_, Nat.lt_of_lt_of_le q2 k2.wst.size⟩
      show τ.F (σ.phi g) = none
      cases hc : τ.F (σ.phi g) with
      | none => rfl
      | some arr =>
        rcases k2.wst.fro _ arr q2 hc with h | h
        · have h : σ.F (σ.phi g) = some arr := h
          rw [q1] at h; cases h
        · exact (hno _ h).elim
    · rcases k2.wst.fro _ arr hb hf with h | h
      · exact .inl h
      · exact (hno _ h).elim
    · have r0 := k3.drop (n := 0) (F := τ.F) (fun _ _ h => h) (pure_under 0 u' h2)
      exact Rel.pureUp r0
  · simp only [if_neg e] at hpf
    exact hp f p hpf args h u h' hc σ w vs hG inv ra

end
end Go.AM
