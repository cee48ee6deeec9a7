/- The rules of the walk through a region whose order is open. They hold for any program P. -/
import Derived.Test.YtimoeckkdodogaaDraw
namespace Bk
set_option linter.unusedVariables false
set_option linter.unusedSimpArgs false
open Go Go.RowKit

section
variable {P : Program} {n : Nat} {w0 : World} {h0 : Mem} {ops : Array Oper} {Q : Exit → Act → World → Prop} {R : List Res} {al : Als} {e : List (Nat × Value)} {L : List Res} {h : Mem} {r : List (Nat × Kd)} {i : Nat}
variable {d : Nat} {op : Op} {ty : TypeId} {ps : String} {af : Array Edge} {g t : Nat} {b c : Bool} {v : Value}

theorem wn {o : Oper} {y : Nat → Option Bool} (hg : o.guard = none) : Region.wanted o y = true := by
  unfold Region.wanted; rw [hg]

theorem w_nil (k : GQ n w0 h0 Q .normal e L h) : W P n w0 h0 ops Q R al [] e L h := k

/-- A quiet operation. -/
theorem w_q (ho : ops.getD i default = ⟨some d, op, ty, ps, af, none⟩) (hv : ∀ h' L', MLe h h' → (∀ r ∈ R, r ∈ L') → OpV P n w0 h0 ⟨some d, op, ty, ps, af, none⟩ e L' h' v) (hn : Nat.ble (d + 1) n = true)
    (k : W P n w0 h0 ops Q R al r ((d, v) :: e) L h) : W P n w0 h0 ops Q R al ((i, .q) :: r) e L h := by
  refine ⟨v, ?_, ?_⟩
  · rw [ho]
    exact ⟨⟨d, rfl, Nat.le_of_ble_eq_true hn⟩, fun h' L' a w hh hR E S => .inl ⟨rfl, hv h' L' hh hR a w E S⟩⟩
  · rw [ho]; exact k

theorem wanted_of {g t : Nat} {b c : Bool} {o : Oper} {a : Act} (hg : o.guard = some (g, b)) (ht : (ops[g]?).bind (·.dst) = some t) (he : e.lookup t = some (.bool c)) (E : Env n e a) : Region.wanted o (yielded ops a.tmps) = (c == b) := by
  have := E.get t _ he
  simp [Region.wanted, hg, yielded, ht, this]

/-- A move may float. -/
theorem w_p {x : Operand} (hv : (op = .move x ∨ op = .assign x) ∧ evalO e x = some v) (ho : ops.getD i default = ⟨some d, op, ty, ps, af, none⟩) (hn : Nat.ble (d + 1) n = true)
    (k : W P n w0 h0 ops Q R al r ((d, v) :: e) L h) : W P n w0 h0 ops Q R al ((i, .p) :: r) e L h := by
  refine ⟨v, ?_, ?_⟩
  · rw [ho]
    refine ⟨⟨d, rfl, Nat.le_of_ble_eq_true hn⟩, fun a w E => .inl ⟨rfl, ?_⟩⟩
    rcases hv.1 with rfl | rfl <;> simp [execOp, E.eval hv.2]
  · rw [ho]; exact k

theorem w_q_on (ho : ops.getD i default = ⟨some d, op, ty, ps, af, some (g, b)⟩) (ht : (ops[g]?).bind (·.dst) = some t) (he : e.lookup t = some (.bool b)) (hv : ∀ h' L', MLe h h' → (∀ r ∈ R, r ∈ L') → OpV P n w0 h0 ⟨some d, op, ty, ps, af, some (g, b)⟩ e L' h' v)
    (hn : Nat.ble (d + 1) n = true) (k : W P n w0 h0 ops Q R al r ((d, v) :: e) L h) : W P n w0 h0 ops Q R al ((i, .q) :: r) e L h := by
  refine ⟨v, ?_, ?_⟩
  · rw [ho]
    exact ⟨⟨d, rfl, Nat.le_of_ble_eq_true hn⟩, fun h' L' a w hh hR E S => .inl ⟨by rw [wanted_of rfl ht he E]; simp, hv h' L' hh hR a w E S⟩⟩
  · rw [ho]; exact k

theorem w_q_offu {b : Bool} {t : Nat} (ho : ops.getD i default = ⟨some d, op, ty, ps, af, some (g, b)⟩) (ht : (ops[g]?).bind (·.dst) = some t) (he : e.lookup t = some undef) (hn : Nat.ble (d + 1) n = true)
    (k : W P n w0 h0 ops Q R al r ((d, undef) :: e) L h) : W P n w0 h0 ops Q R al ((i, .q) :: r) e L h := by
  refine ⟨undef, ?_, ?_⟩
  · rw [ho]
    refine ⟨⟨d, rfl, Nat.le_of_ble_eq_true hn⟩, fun h' L' a w hh hR E S => .inr ⟨?_, rfl⟩⟩
    have := E.get t _ he
    simp [Region.wanted, yielded, ht, this, undef]
  · rw [ho]; exact k

theorem w_q_off (ho : ops.getD i default = ⟨some d, op, ty, ps, af, some (g, b)⟩) (ht : (ops[g]?).bind (·.dst) = some t) (he : e.lookup t = some (.bool c)) (hcb : (c == b) = false) (hn : Nat.ble (d + 1) n = true)
    (k : W P n w0 h0 ops Q R al r ((d, undef) :: e) L h) : W P n w0 h0 ops Q R al ((i, .q) :: r) e L h := by
  refine ⟨undef, ?_, ?_⟩
  · rw [ho]
    exact ⟨⟨d, rfl, Nat.le_of_ble_eq_true hn⟩, fun h' L' a w hh hR E S => .inr ⟨by rw [wanted_of rfl ht he E, hcb], rfl⟩⟩
  · rw [ho]; exact k

/-- A variable's block. -/
theorem w_a {E : TypeId} {cs : List Value} (hl : al.lookup i = some (d, E, cs)) (k : ∀ b, W P n w0 h0 ops Q R al r ((d, .pointer (some ⟨b, 0, none⟩)) :: e) (.blk b (.cells cs.toArray E) :: L) h) : W P n w0 h0 ops Q R al ((i, .a) :: r) e L h := by
  intro d' E' cs' b hl'
  rw [hl] at hl'
  cases hl'
  exact k b

theorem w_c {o : Oper} (ho : ops.getD i default = o) (k : Step P n w0 h0 ops R o e L h (W P n w0 h0 ops Q R al r)) : W P n w0 h0 ops Q R al ((i, .c) :: r) e L h := by
  show Step P n w0 h0 ops R (ops.getD i default) e L h _
  rw [ho]; exact k

theorem w_b {o o' : Oper} {j : Nat} (ho : ops.getD i default = o) (ho' : ops.getD j default = o') (k : Step P n w0 h0 ops R o e L h fun e L h => Step P n w0 h0 ops R o' e L h (W P n w0 h0 ops Q R al r))
    (k' : Step P n w0 h0 ops R o' e L h fun e L h => Step P n w0 h0 ops R o e L h (W P n w0 h0 ops Q R al r)) : W P n w0 h0 ops Q R al ((i, .b j) :: r) e L h := by
  refine ⟨?_, ?_⟩
  · rw [ho, ho']; exact k
  · rw [ho, ho']; exact k'

/-- A guard that is met is struck. -/
theorem s_on {W' : List (Nat × Value) → List Res → Mem → Prop} {ds : Option Tmp} (ht : (ops[g]?).bind (·.dst) = some t) (he : e.lookup t = some (.bool b)) (k : Step P n w0 h0 ops R ⟨ds, op, ty, ps, af, none⟩ e L h W') :
    Step P n w0 h0 ops R ⟨ds, op, ty, ps, af, some (g, b)⟩ e L h W' := by
  intro X a w E S
  have hk := k X a w E S
  unfold RunsTo at *
  rw [if_pos (wn rfl)] at hk
  rw [if_pos (by rw [wanted_of rfl ht he E]; simp)]
  exact hk

theorem s_off {W' : List (Nat × Value) → List Res → Mem → Prop} (ht : (ops[g]?).bind (·.dst) = some t) (he : e.lookup t = some (.bool c)) (hcb : (c == b) = false) (hn : Nat.ble (d + 1) n = true) (k : W' ((d, undef) :: e) L h) :
    Step P n w0 h0 ops R ⟨some d, op, ty, ps, af, some (g, b)⟩ e L h W' := by
  intro X a w E S
  unfold RunsTo
  rw [if_neg (by rw [wanted_of rfl ht he E, hcb]; simp)]
  exact ⟨fun d' hd => by cases hd; exact Nat.le_of_ble_eq_true hn, L, h, MLe.refl _, fun hr => hr, S, k⟩
theorem s_call {W' : List (Nat × Value) → List Res → Mem → Prop} {f : Nat} {xs : List Operand} {ts : Array TypeId} {vs : List Value} {R' : Mem → Value → Prop} (hcall : ∀ args w, (callFunc f args).run P w = .ok (.enter f args) w) (hvs : Evals e xs vs)
    (hc : ∀ w, MLe h (mem w) → Calls P f vs.toArray w (Ret w h R')) (hn : Nat.ble (d + 1) n = true) (k : ∀ v h', MLe h h' → R' h' v → W' ((d, v) :: e) L h') :
    Step P n w0 h0 ops R ⟨some d, .call { callee := .value (.func f), args := xs.toArray, argTypes := ts }, ty, ps, af, none⟩ e L h W' := by
  intro X a w E S
  unfold RunsTo
  rw [if_pos (wn rfl)]
  have hargs : xs.toArray.map a.eval = vs.toArray := by rw [List.map_toArray, E.evals hvs]
  have hr : (execOp a.eval ⟨some d, .call { callee := .value (.func f), args := xs.toArray, argTypes := ts }, ty, ps, af, none⟩).run P w = .ok (.enter f vs.toArray) w := by
    simp only [execOp, resolve, Act.eval]
    simp [Deferred.ofValue, invoke, hcall, hargs]
  rw [hr]
  refine (hc w S.sub).mono ?_
  rintro e' w' ⟨v, h', rfl, hR, S'⟩
  have S2 := S.call S'
  exact ⟨v, rfl, fun d' hd => (by cases hd; exact Nat.le_of_ble_eq_true hn), L, h', S'.le, fun hh => hh, S2, k v h' S'.le hR⟩

theorem s_call_own {W' : List (Nat × Value) → List Res → Mem → Prop} {f : Nat} {xs : List Operand} {ts : Array TypeId} {vs : List Value} {R' : Mem → Value → List Res → Prop} (hcall : ∀ args w, (callFunc f args).run P w = .ok (.enter f args) w) (hvs : Evals e xs vs)
    (hc : ∀ w, MLe h (mem w) → Calls P f vs.toArray w (RetOwn w h R')) (hn : Nat.ble (d + 1) n = true) (k : ∀ v h' L', MLe h h' → R' h' v L' → W' ((d, v) :: e) (L' ++ L) h') :
    Step P n w0 h0 ops R ⟨some d, .call { callee := .value (.func f), args := xs.toArray, argTypes := ts }, ty, ps, af, none⟩ e L h W' := by
  intro X a w E S
  unfold RunsTo
  rw [if_pos (wn rfl)]
  have hargs : xs.toArray.map a.eval = vs.toArray := by rw [List.map_toArray, E.evals hvs]
  have hr : (execOp a.eval ⟨some d, .call { callee := .value (.func f), args := xs.toArray, argTypes := ts }, ty, ps, af, none⟩).run P w = .ok (.enter f vs.toArray) w := by
    simp only [execOp, resolve, Act.eval]
    simp [Deferred.ofValue, invoke, hcall, hargs]
  rw [hr]
  refine (hc w S.sub).mono ?_
  rintro e' w' ⟨v, h', L', rfl, hR, S'⟩
  have S2 := S.call S'
  rw [← List.append_assoc] at S2
  exact ⟨v, rfl, fun d' hd => (by cases hd; exact Nat.le_of_ble_eq_true hn), L' ++ L, h', S'.le, fun hh r hr => List.mem_append_right _ (hh r hr), S2, k v h' L' S'.le hR⟩

/-- An operation that makes something new. -/
theorem s_new {W' : List (Nat × Value) → List Res → Mem → Prop} {G : Value → Res → Prop} (hv : ∀ X, NewOp P n w0 h0 ⟨some d, op, ty, ps, af, none⟩ e (L ++ X) h G) (hn : Nat.ble (d + 1) n = true) (k : ∀ v r, G v r → W' ((d, v) :: e) (r :: L) h) :
    Step P n w0 h0 ops R ⟨some d, op, ty, ps, af, none⟩ e L h W' := by
  intro X a w E S
  unfold RunsTo
  rw [if_pos (wn rfl)]
  obtain ⟨v, w', r, hr, hgr, hok, hfp, hG⟩ := hv X a w E S
  rw [hr]
  exact ⟨fun d' hd => (by cases hd; exact Nat.le_of_ble_eq_true hn), r :: L, h, MLe.refl h, fun hh x hx => List.mem_cons_of_mem _ (hh x hx), S.new hgr hok hfp, k v r hG⟩

/-- An operation that leaves the world as it is, where it must come up now. -/
theorem s_val {W' : List (Nat × Value) → List Res → Mem → Prop} (hv : ∀ X, OpV P n w0 h0 ⟨some d, op, ty, ps, af, none⟩ e (L ++ X) h v) (hn : Nat.ble (d + 1) n = true) (k : W' ((d, v) :: e) L h) :
    Step P n w0 h0 ops R ⟨some d, op, ty, ps, af, none⟩ e L h W' := by
  intro X a w E S
  unfold RunsTo
  rw [if_pos (wn rfl), hv X a w E S]
  exact ⟨fun d' hd => (by cases hd; exact Nat.le_of_ble_eq_true hn), L, h, MLe.refl h, fun hh => hh, S, k⟩

/-- The last operations. -/
theorem w_t_val (ho : ops.getD i default = ⟨some d, op, ty, ps, af, none⟩) (hv : OpV P n w0 h0 ⟨some d, op, ty, ps, af, none⟩ e L h v) (hn : Nat.ble (d + 1) n = true) (k : W P n w0 h0 ops Q R al r ((d, v) :: e) L h) : W P n w0 h0 ops Q R al ((i, .t) :: r) e L h := by
  show Last P n w0 h0 ops (ops.getD i default) e L h _
  rw [ho]
  intro a w E S
  unfold RunsTo
  rw [if_pos (wn rfl), hv a w E S]
  exact ⟨fun d' hd => (by cases hd; exact Nat.le_of_ble_eq_true hn), L, h, S, k⟩

theorem w_t_upd {A B : List Res} {q q' : Res} (ho : ops.getD i default = ⟨none, op, ty, ps, af, none⟩) (hv : Upd P n w0 h0 ⟨none, op, ty, ps, af, none⟩ e A q B h q') (hfp : q'.fp = q.fp) (k : W P n w0 h0 ops Q R al r e (A ++ q' :: B) h) :
    W P n w0 h0 ops Q R al ((i, .t) :: r) e (A ++ q :: B) h := by
  show Last P n w0 h0 ops (ops.getD i default) e _ h _
  rw [ho]
  intro a w E S
  unfold RunsTo
  obtain ⟨w', hr, hgr, hok⟩ := hv a w E S
  rw [if_pos (wn rfl), hr]
  exact ⟨fun d' hd => (by cases hd), _, h, S.grown hgr hok fun b hb => .inl (hfp ▸ hb), k⟩

theorem w_keep {e' : List (Nat × Value)} {x : Nat × Kd} (hs : Sub e' e) (k : ∀ e2, (∀ t v, e'.lookup t = some v → e2.lookup t = some v) → W P n w0 h0 ops Q R al (x :: r) e2 L h) : W P n w0 h0 ops Q R al (x :: r) e L h := k e fun t v ht => hs.lookup t v ht

/-! Reading what is owned, by membership -/

theorem ov_len_ousM {k : IntKind} {E : Nat} {xs : List Nat} {v : Value} {t E' : TypeId} {x : Operand} {ds : Option Tmp} {gd : Option (Nat × Bool)} (hm : .us E k v xs ∈ L) (ht : P.underlying t = some (.slice E')) (hx : evalO e x = some v) :
    OpV P n w0 h0 ⟨ds, .call { callee := .builtin .len, args := #[x], argTypes := #[t] }, ty, ps, af, gd⟩ e L h (vI (xs.length : Int)) := by
  obtain ⟨A, B, rfl⟩ := List.append_of_mem hm
  exact ov_len_ous ht hx
theorem ov_index_ousM {k : IntKind} {E : Nat} {xs : List Nat} {v : Value} {t E' : TypeId} {x y : Operand} {q : Int} {ds : Option Tmp} {gd : Option (Nat × Bool)} (hm : .us E k v xs ∈ L) (i : Nat) (ht : P.underlying t = some (.slice E')) (hsz : ∀ w, (Go.sizeOf E').run P w = .ok 1 w) (hx : evalO e x = some v) (hy : evalO e y = some (vI q))
    (hq : q = (i : Int)) (hi : i < xs.length) : OpV P n w0 h0 ⟨ds, .indexAddr t x y, ty, ps, af, gd⟩ e L h (elemPtr 1 v i) := by
  obtain ⟨A, B, rfl⟩ := List.append_of_mem hm
  exact ov_index_ous i ht hsz hx hy hq hi
theorem ov_load_ousM {k : IntKind} {E : Nat} {xs : List Nat} {v : Value} {t : TypeId} {x : Operand} {i : Nat} {ds : Option Tmp} {gd : Option (Nat × Bool)} (hm : .us E k v xs ∈ L) (ha : ∀ w, (isAgg t).run P w = .ok false w) (hx : evalO e x = some (elemPtr 1 v i)) (hi : i < xs.length) :
    OpV P n w0 h0 ⟨ds, .load t x, ty, ps, af, gd⟩ e L h (vU k (xs.getD i 0)) := by
  obtain ⟨A, B, rfl⟩ := List.append_of_mem hm
  exact ov_load_ous ha hx hi

end
end Bk
