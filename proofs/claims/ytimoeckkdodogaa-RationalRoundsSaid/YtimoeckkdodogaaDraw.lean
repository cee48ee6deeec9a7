/- Regions whose order is open: one walk, in an order of our choice, serves every order that the machine may take. It holds for any program P. -/
import Derived.Test.YtimoeckkdodogaaOps
import Derived.Still
namespace Bk
set_option linter.unusedVariables false
set_option linter.unusedSimpArgs false
open Go Go.RowKit

section
variable {P : Program} {ops : Array Oper}

/-- An operation comes up: it yields a value (or is passed over), by itself or by a call that returns. -/
def RunsTo (P : Program) (ops : Array Oper) (o : Oper) (a : Act) (w : World) (K : Value → World → Prop) : Prop :=
  if Region.wanted o (yielded ops a.tmps) then
    match (execOp a.eval o).run P w with
    | .ok (.value v) w' => K v w'
    | .ok .skip w' => K undef w'
    | .ok (.enter f args) w' => Calls P f args w' fun e w'' => ∃ v, e = .returned v ∧ K v w''
    | _ => False
  else K undef w

theorem RunsTo.mono {o : Oper} {a : Act} {w : World} {K K' : Value → World → Prop} (h : RunsTo P ops o a w K) (hk : ∀ v w, K v w → K' v w) : RunsTo P ops o a w K' := by
  unfold RunsTo at *
  split
  · rename_i hw
    rw [if_pos hw] at h
    generalize (execOp a.eval o).run P w = r at *
    cases r with
    | ok x w' =>
      cases x <;> simp only at h ⊢
      case enter f args => exact h.mono fun e w'' ⟨v, he, hv⟩ => ⟨v, he, hk _ _ hv⟩
      all_goals exact hk _ _ h
    | halt x w' => exact h
  · rename_i hw
    rw [if_neg hw] at h
    exact hk _ _ h

theorem RunsTo.wpOp {o : Oper} {i : Nat} {a : Act} {w : World} {K : Value → World → Prop} {K' : Act → World → Prop} {Q : Exit → Act → World → Prop} (hi : ops[i]? = some o) (h : RunsTo P ops o a w K)
    (hk : ∀ v w, K v w → K' (a.put o.dst v) w) : Go.wpOp P ops Q i K' a w := by
  unfold Go.wpOp
  simp only [hi]
  unfold RunsTo at h
  split
  · rename_i hw
    rw [if_pos hw] at h
    refine .inl ?_
    unfold Oper.wp
    generalize (execOp a.eval o).run P w = r at *
    cases r with
    | ok x w' =>
      cases x <;> simp only at h <;> simp only [Oper.upon]
      case enter f args => exact h.mono fun e w'' ⟨v, he, hv⟩ => by subst he; exact hk _ _ hv
      all_goals exact hk _ _ h
    | halt x w' => exact h.elim
  · rename_i hw
    rw [if_neg hw] at h
    exact hk _ _ h

/-- A value that is laid into a temporary at which the operation does not look changes nothing. -/
theorem RunsTo.of_put {o : Oper} {a : Act} {w : World} {K : Value → World → Prop} {d : Option Tmp} {v : Value} (hs : ∀ cs b, o.op ≠ .select cs b) (hd : ∀ t, d = some t → t ∉ o.looksAt ops) (h : RunsTo P ops o (a.put d v) w K) : RunsTo P ops o a w K := by
  unfold RunsTo at *
  rw [execOp_put (ops := ops) o hs a d v hd, wanted_put (ops := ops) o a d v hd] at h
  exact h

/-- Whatever order is picked from here on; the class of worlds C is never left. -/
def RA (P : Program) (ops : Array Oper) (C : Array Bool → World → Prop) (Q : Act → World → Prop) : Nat → Array Bool → Act → World → Prop
  | 0, listed, a, w => Region.ready .any ops listed = [] ∧ Q a w
  | fuel + 1, listed, a, w =>
    (Region.ready .any ops listed = [] → Q a w) ∧
    ∀ i ∈ Region.ready .any ops listed, ∀ o, ops[i]? = some o → RunsTo P ops o a w fun v w' => C (listed.setIfInBounds i true) w' ∧ RA P ops C Q fuel (listed.setIfInBounds i true) (a.put o.dst v) w'

theorem RA.mono {C C' : Array Bool → World → Prop} {Q : Act → World → Prop} (hC : ∀ l w, C l w → C' l w) : ∀ {fuel : Nat} {listed : Array Bool} {a : Act} {w : World}, RA P ops C Q fuel listed a w → RA P ops C' Q fuel listed a w
  | 0, _, _, _, h => h
  | _ + 1, _, _, _, h => ⟨h.1, fun i hi o ho => (h.2 i hi o ho).mono fun _ _ hk => ⟨hC _ _ hk.1, RA.mono hC hk.2⟩⟩

theorem RA.wpAny {C : Array Bool → World → Prop} {Q : Act → World → Prop} {Q' : Exit → Act → World → Prop} (hQ : ∀ a w, Q a w → Q' .normal a w) : ∀ {fuel : Nat} {listed : Array Bool} {a : Act} {w : World}, RA P ops C Q fuel listed a w → Go.wpAny P .any ops Q' fuel listed a w
  | 0, _, _, _, h => ⟨h.1, hQ _ _ h.2⟩
  | fuel + 1, listed, a, w, h => ⟨fun h0 => hQ _ _ (h.1 h0), fun i hi => by
      obtain ⟨_, o, ho, _⟩ := mem_ready.1 hi
      exact (h.2 i hi o ho).wpOp ho fun v w' hk => RA.wpAny hQ hk.2⟩

/-- In this world the operation yields v and leaves the world as it is, or it is passed over. -/
def Yields (P : Program) (ops : Array Oper) (o : Oper) (a : Act) (w : World) (v : Value) : Prop :=
  (Region.wanted o (yielded ops a.tmps) = true ∧ (execOp a.eval o).run P w = .ok (.value v) w) ∨ (Region.wanted o (yielded ops a.tmps) = false ∧ v = undef)

theorem Yields.put {o : Oper} {a : Act} {w : World} {v u : Value} {d : Option Tmp} (hs : ∀ cs b, o.op ≠ .select cs b) (hd : ∀ t, d = some t → t ∉ o.looksAt ops) (h : Yields P ops o a w v) : Yields P ops o (a.put d u) w v := by
  unfold Yields at *
  rw [execOp_put (ops := ops) o hs a d u hd, wanted_put (ops := ops) o a d u hd]
  exact h

theorem Yields.runs {o : Oper} {a : Act} {w : World} {v : Value} {K : Value → World → Prop} (h : Yields P ops o a w v) (hk : K v w) : RunsTo P ops o a w K := by
  unfold RunsTo
  rcases h with ⟨h1, h2⟩ | ⟨h1, h2⟩
  · rw [if_pos h1, h2]; exact hk
  · rw [if_neg (by simp [h1]), ← h2]; exact hk

/-- The class: D until one of the last operations (from m on) has come up. -/
def Cls (m : Nat) (D : World → Prop) (listed : Array Bool) (w : World) : Prop := D w ∨ ∃ k, m ≤ k ∧ listed.getD k false = true

/-- What has come up has nothing that it waits for left. -/
def Closed (ops : Array Oper) (listed : Array Bool) : Prop := ∀ k o, listed.getD k false = true → ops[k]? = some o → ∀ e ∈ o.after, Region.binds .any e = true → listed.getD e.on false = true

theorem Closed.set {listed : Array Bool} (h : Closed ops listed) {j : Nat} (hj : j ∈ Region.ready .any ops listed) : Closed ops (listed.setIfInBounds j true) := by
  intro k o hk ho e he hb
  obtain ⟨_, o', ho', hall⟩ := mem_ready.1 hj
  by_cases hkj : k = j
  · subst hkj
    rw [ho'] at ho; cases ho
    exact getD_set_true (hall e he hb)
  · rw [getD_set_ne false (Ne.symm hkj)] at hk
    exact getD_set_true (h k o hk ho e he hb)

/-- k is i, or waits for something that is i or waits for it. -/
def waitsF (ops : Array Oper) : Nat → Nat → Nat → Bool
  | 0, k, i => k == i
  | f + 1, k, i => k == i || (ops.getD k default).after.any fun e => Region.binds .any e && waitsF ops f e.on i
/-- k waits for i, directly or through others. -/
def waits (ops : Array Oper) (k i : Nat) : Bool :=
  (ops.getD k default).after.any fun e => Region.binds .any e && waitsF ops 5 e.on i

theorem waitsF_spec {listed : Array Bool} (hcl : Closed ops listed) (hsz : listed.size = ops.size) {i : Nat} : ∀ (f k : Nat), listed.getD k false = true → waitsF ops f k i = true → listed.getD i false = true
  | 0, k, hk, hw => by
    have : k = i := by simpa [waitsF] using hw
    rw [← this]; exact hk
  | f + 1, k, hk, hw => by
    simp only [waitsF, Bool.or_eq_true, beq_iff_eq, Array.any_eq_true', Bool.and_eq_true] at hw
    rcases hw with hw | ⟨e, he, hb, hw⟩
    · rw [← hw]; exact hk
    · have hon : k < ops.size := by
        rcases Nat.lt_or_ge k listed.size with h' | h'
        · omega
        · simp [Array.getElem?_eq_none h'] at hk
      have hoe : ops[k]? = some (ops.getD k default) := by simp [Array.getD_eq_getD_getElem?, hon]
      exact waitsF_spec hcl hsz f e.on (hcl _ _ hk hoe e he hb) hw

theorem waits_spec {listed : Array Bool} (hcl : Closed ops listed) (hsz : listed.size = ops.size) {k i : Nat} (hk : k ∈ Region.ready .any ops listed) (hw : waits ops k i = true) : listed.getD i false = true := by
  obtain ⟨h1, o, ho, hall⟩ := mem_ready.1 hk
  have hgo : ops.getD k default = o := by simp [Array.getD_eq_getD_getElem?, ho]
  unfold waits at hw
  rw [hgo] at hw
  simp only [Array.any_eq_true', Bool.and_eq_true] at hw
  obtain ⟨e, he, hb, hw⟩ := hw
  exact waitsF_spec hcl hsz 5 e.on (hall e he hb) hw

/-- **A quiet operation may be taken first.** -/
theorem RA.first {m : Nat} {D : World → Prop} {Q : Act → World → Prop} {i : Nat} {oi : Oper} {v : Value} (hi : ops[i]? = some oi) (hsel : Region.noSelect ops = true) (him : i < m)
    (hlast : ∀ k, m ≤ k → k < ops.size → waits ops k i = true) :
    ∀ (fuel : Nat) (listed : Array Bool) (a : Act) (w : World), Closed ops listed → listed.size = ops.size → D w → (∀ k, m ≤ k → listed.getD k false = false) →
      (∀ j oj, ops[j]? = some oj → j ≠ i → listed.getD j true = false → (∀ e ∈ oj.after, Region.binds .any e = true → e.on ≠ i) → oi.apart ops oj = true) →
      i ∈ Region.ready .any ops listed → (∀ w', D w' → Yields P ops oi a w' v) →
      RA P ops (Cls m D) Q fuel (listed.setIfInBounds i true) (a.put oi.dst v) w → RA P ops (Cls m D) Q (fuel + 1) listed a w := by
  intro fuel
  induction fuel with
  | zero =>
    intro listed a w _ _ hD _ _ hr hy H
    refine ⟨fun h => (by rw [h] at hr; cases hr), fun j hj o ho => ?_⟩
    by_cases hji : j = i
    · subst hji
      rw [hi] at ho; cases ho
      exact (hy w hD).runs ⟨.inl hD, H⟩
    · have := ready_mono hj hji
      rw [H.1] at this
      cases this
  | succ fuel ih =>
    intro listed a w hcl hsz hD hnl hfree hr hy H
    refine ⟨fun h => (by rw [h] at hr; cases hr), fun j hj oj ho => ?_⟩
    by_cases hji : j = i
    · subst hji
      rw [hi] at ho; cases ho
      exact (hy w hD).runs ⟨.inl hD, H⟩
    · have h1 := H.2 j (ready_mono hj hji) oj ho
      obtain ⟨hjun, oj', hoj', hall⟩ := mem_ready.1 hj
      rw [ho] at hoj'; cases hoj'
      have hiun := (mem_ready.1 hr).1
      have hnot : ∀ e ∈ oj.after, Region.binds .any e = true → e.on ≠ i := fun e he hb heq => by
        have h1 := hall e he hb
        rw [heq] at h1
        rcases Nat.lt_or_ge i listed.size with h' | h'
        · simp [h'] at h1 hiun; rw [hiun] at h1; cases h1
        · simp [Array.getElem?_eq_none h'] at h1
      have hjm : ¬ m ≤ j := fun hm => by
        have h2 := waits_spec hcl hsz hj (hlast j hm (Array.getElem?_eq_some_iff.1 ho).1)
        rcases Nat.lt_or_ge i listed.size with h' | h'
        · simp [h'] at h2 hiun; rw [hiun] at h2; cases h2
        · simp [Array.getElem?_eq_none h'] at h2
      have hap := hfree j oj ho hji hjun hnot
      obtain ⟨p1, p2, p3⟩ := Oper.apart_spec hap
      have hsj := fun cs b => Region.noSelect_spec hsel j oj cs b ho
      have hsi := fun cs b => Region.noSelect_spec hsel i oi cs b hi
      refine (RunsTo.of_put hsj p1 h1).mono fun u w' hk => ?_
      have hnl' : ∀ k, m ≤ k → (listed.setIfInBounds j true).getD k false = false := fun k hk' => by
        rw [getD_set_ne false (by omega)]; exact hnl k hk'
      have hD' : D w' := by
        rcases hk.1 with h2 | ⟨k, hkm, hkl⟩
        · exact h2
        · rw [getD_set_ne false (by omega), getD_set_ne false (by omega), hnl k hkm] at hkl
          cases hkl
      have hfree' : ∀ k ok, ops[k]? = some ok → k ≠ i → (listed.setIfInBounds j true).getD k true = false →
          (∀ e ∈ ok.after, Region.binds .any e = true → e.on ≠ i) → oi.apart ops ok = true := fun k ok hk hki hun hno => by
        refine hfree k ok hk hki ?_ hno
        by_cases hjk : j = k
        · subst hjk; exact hjun
        · rw [getD_set_ne true hjk] at hun; exact hun
      refine ⟨.inl hD', ih _ _ w' (hcl.set hj) (by simpa using hsz) hD' hnl' hfree' (ready_mono hr (Ne.symm hji)) (fun w'' hw => (hy w'' hw).put hsi p3) ?_⟩
      rw [Array.setIfInBounds_comm _ _ hji, ← Act.put_comm a v u p2]
      exact hk.2

/-- An operation that looks at temporaries alone may be taken first. -/
theorem RA.pure {m : Nat} {D : World → Prop} {Q : Act → World → Prop} {i : Nat} {oi : Oper} {v : Value} (hi : ops[i]? = some oi) (hsel : Region.noSelect ops = true) (him : i < m) :
    ∀ (fuel : Nat) (listed : Array Bool) (a : Act) (w : World), Cls m D listed w →
      (∀ j oj, ops[j]? = some oj → j ≠ i → listed.getD j true = false → (∀ e ∈ oj.after, Region.binds .any e = true → e.on ≠ i) → oi.apart ops oj = true) →
      i ∈ Region.ready .any ops listed → (∀ w', Yields P ops oi a w' v) →
      RA P ops (Cls m D) Q fuel (listed.setIfInBounds i true) (a.put oi.dst v) w → RA P ops (Cls m D) Q (fuel + 1) listed a w := by
  intro fuel
  have hset : ∀ (listed : Array Bool) (j : Nat) (w : World), Cls m D listed w → Cls m D (listed.setIfInBounds j true) w := fun listed j w hc => hc.imp id fun ⟨k, hk, hl⟩ => ⟨k, hk, getD_set_true hl⟩
  induction fuel with
  | zero =>
    intro listed a w hD _ hr hy H
    refine ⟨fun h => (by rw [h] at hr; cases hr), fun j hj o ho => ?_⟩
    by_cases hji : j = i
    · subst hji
      rw [hi] at ho; cases ho
      exact (hy w).runs ⟨hset _ _ _ hD, H⟩
    · have := ready_mono hj hji
      rw [H.1] at this
      cases this
  | succ fuel ih =>
    intro listed a w hD hfree hr hy H
    refine ⟨fun h => (by rw [h] at hr; cases hr), fun j hj oj ho => ?_⟩
    by_cases hji : j = i
    · subst hji
      rw [hi] at ho; cases ho
      exact (hy w).runs ⟨hset _ _ _ hD, H⟩
    · have h1 := H.2 j (ready_mono hj hji) oj ho
      obtain ⟨hjun, oj', hoj', hall⟩ := mem_ready.1 hj
      rw [ho] at hoj'; cases hoj'
      have hiun := (mem_ready.1 hr).1
      have hnot : ∀ e ∈ oj.after, Region.binds .any e = true → e.on ≠ i := fun e he hb heq => by
        have h1 := hall e he hb
        rw [heq] at h1
        rcases Nat.lt_or_ge i listed.size with h' | h'
        · simp [h'] at h1 hiun; rw [hiun] at h1; cases h1
        · simp [Array.getElem?_eq_none h'] at h1
      have hap := hfree j oj ho hji hjun hnot
      obtain ⟨p1, p2, p3⟩ := Oper.apart_spec hap
      have hsj := fun cs b => Region.noSelect_spec hsel j oj cs b ho
      have hsi := fun cs b => Region.noSelect_spec hsel i oi cs b hi
      refine (RunsTo.of_put hsj p1 h1).mono fun u w' hk => ?_
      have hD' : Cls m D (listed.setIfInBounds j true) w' := by
        refine hk.1.imp id fun ⟨k, hkm, hkl⟩ => ⟨k, hkm, ?_⟩
        rw [Array.setIfInBounds_comm _ _ (Ne.symm hji), getD_set_ne false (by omega)] at hkl
        exact hkl
      have hfree' : ∀ k ok, ops[k]? = some ok → k ≠ i → (listed.setIfInBounds j true).getD k true = false →
          (∀ e ∈ ok.after, Region.binds .any e = true → e.on ≠ i) → oi.apart ops ok = true := fun k ok hk hki hun hno => by
        refine hfree k ok hk hki ?_ hno
        by_cases hjk : j = k
        · subst hjk; exact hjun
        · rw [getD_set_ne true hjk] at hun; exact hun
      refine ⟨hD', ih _ _ w' hD' hfree' (ready_mono hr (Ne.symm hji)) (fun w'' => (hy w'').put hsi p3) ?_⟩
      rw [Array.setIfInBounds_comm _ _ hji, ← Act.put_comm a v u p2]
      exact hk.2

/-- How many operations have not come up. -/
def rem (ops : Array Oper) (listed : Array Bool) : Nat := ((List.range ops.size).filter fun i => !listed.getD i true).length

theorem rem_set {listed : Array Bool} {i : Nat} (hi : i < ops.size) (hl : listed.getD i true = false) : rem ops (listed.setIfInBounds i true) < rem ops listed := by
  unfold rem
  have hsub : ((List.range ops.size).filter fun j => !(listed.setIfInBounds i true).getD j true) = ((List.range ops.size).filter fun j => !listed.getD j true).filter fun j => j != i := by
    rw [List.filter_filter]
    refine List.filter_congr fun j _ => ?_
    by_cases hj : j = i
    · subst hj
      have hlt : j < listed.size := by
        rcases Nat.lt_or_ge j listed.size with h' | h'
        · exact h'
        · simp [Array.getElem?_eq_none h'] at hl
      simp [hlt]
    · rw [getD_set_ne true (Ne.symm hj)]
      simp [hj]
  rw [hsub]
  refine List.length_filter_lt_length_iff_exists.2 ⟨i, ?_, by simp⟩
  simp only [List.mem_filter, List.mem_range, hi, true_and, hl, Bool.not_false]

theorem ready_nil_of_rem {listed : Array Bool} (h : rem ops listed = 0) : Region.ready .any ops listed = [] := by
  rw [List.eq_nil_iff_forall_not_mem]
  intro i hi
  obtain ⟨h1, o, ho, _⟩ := mem_ready.1 hi
  have := rem_set (ops := ops) (Array.getElem?_eq_some_iff.1 ho).1 h1
  omega

end

/-! ### The walk -/

/-- How an operation is taken: quiet (as soon as it may come up), a variable's block (as late as may be), a call or another one that must come up now, one of two that may come up now, one of the last operations. -/
inductive Kd where
  | q | a | c | b (j : Nat) | t | p

section walk
variable (P : Program) (n : Nat) (w0 : World) (h0 : Mem) (ops : Array Oper) (Q : Exit → Act → World → Prop) (R : List Res)

def putE (e : List (Nat × Value)) (d : Option Tmp) (v : Value) : List (Nat × Value) :=
  match d with
  | some d => (d, v) :: e
  | none => e

/-- A quiet operation: in every memory from h on in which R is owned it yields v. -/
def OpQ (o : Oper) (e : List (Nat × Value)) (h : Mem) (v : Value) : Prop :=
  (∃ d, o.dst = some d ∧ d < n) ∧ ∀ h' L' a w, MLe h h' → (∀ r ∈ R, r ∈ L') → Env n e a → St w0 h0 L' h' w → Yields P ops o a w v

/-- An operation that looks at temporaries alone. -/
def OpP (o : Oper) (e : List (Nat × Value)) (v : Value) : Prop :=
  (∃ d, o.dst = some d ∧ d < n) ∧ ∀ a w, Env n e a → Yields P ops o a w v

/-- The end of a step: what became of the state. -/
def Next (e : List (Nat × Value)) (L X : List Res) (h : Mem) (o : Oper) (W : List (Nat × Value) → List Res → Mem → Prop) (v : Value) (w : World) : Prop :=
  (∀ d, o.dst = some d → d < n) ∧ ∃ L' h', MLe h h' ∧ ((∀ r ∈ R, r ∈ L) → ∀ r ∈ R, r ∈ L') ∧ St w0 h0 (L' ++ X) h' w ∧ W (putE e o.dst v) L' h'

def Step (o : Oper) (e : List (Nat × Value)) (L : List Res) (h : Mem) (W : List (Nat × Value) → List Res → Mem → Prop) : Prop :=
  ∀ X a w, Env n e a → St w0 h0 (L ++ X) h w → RunsTo P ops o a w (Next n w0 h0 R e L X h o W)

/-- One of the last operations. -/
def Last (o : Oper) (e : List (Nat × Value)) (L : List Res) (h : Mem) (W : List (Nat × Value) → List Res → Mem → Prop) : Prop :=
  ∀ a w, Env n e a → St w0 h0 L h w → RunsTo P ops o a w fun v w' => (∀ d, o.dst = some d → d < n) ∧ ∃ L' h', St w0 h0 L' h' w' ∧ W (putE e o.dst v) L' h'

/-- The variables that are made in the region: operation, temporary, type, cells. -/
abbrev Als := List (Nat × (Nat × TypeId × List Value))

def W (al : Als) : List (Nat × Kd) → List (Nat × Value) → List Res → Mem → Prop
  | [], e, L, h => GQ n w0 h0 Q .normal e L h
  | (i, .q) :: r, e, L, h => ∃ v, OpQ P n w0 h0 ops R (ops.getD i default) e h v ∧ W al r (putE e (ops.getD i default).dst v) L h
  | (i, .a) :: r, e, L, h => ∀ d E cs b, al.lookup i = some (d, E, cs) → W al r ((d, .pointer (some ⟨b, 0, none⟩)) :: e) (.blk b (.cells cs.toArray E) :: L) h
  | (i, .c) :: r, e, L, h => Step P n w0 h0 ops R (ops.getD i default) e L h (W al r)
  | (i, .b j) :: r, e, L, h => Step P n w0 h0 ops R (ops.getD i default) e L h (fun e L h => Step P n w0 h0 ops R (ops.getD j default) e L h (W al r)) ∧
      Step P n w0 h0 ops R (ops.getD j default) e L h (fun e L h => Step P n w0 h0 ops R (ops.getD i default) e L h (W al r))
  | (i, .t) :: r, e, L, h => Last P n w0 h0 ops (ops.getD i default) e L h (W al r)
  | (i, .p) :: r, e, L, h => ∃ v, OpP P n ops (ops.getD i default) e v ∧ W al r (putE e (ops.getD i default).dst v) L h
end walk

/-! ### The order is allowed -/

def setAll (b : Array Bool) (l : List Nat) : Array Bool := l.foldl (fun b i => b.setIfInBounds i true) b

def chk (ops : Array Oper) (m : Nat) : List (Nat × Kd) → Array Bool → List Nat → Bool
  | [], base, pend => pend.isEmpty && (Region.ready .any ops base).isEmpty
  | (i, .q) :: r, base, pend => decide (i < m) && (Region.ready .any ops base).contains i && Region.free .any ops base i && !pend.contains i &&
      ((List.range ops.size).all fun k => decide (k < m) || waits ops k i) && chk ops m r (base.setIfInBounds i true) pend
  | (i, .a) :: r, base, pend => pend.contains i && (Region.ready .any ops (setAll base (pend.filter (· != i))) == [i]) && chk ops m r (base.setIfInBounds i true) (pend.filter (· != i))
  | (i, .c) :: r, base, pend => decide (i < m) && !pend.contains i && (Region.ready .any ops (setAll base pend) == [i]) && chk ops m r (base.setIfInBounds i true) pend
  | (i, .b j) :: r, base, pend => decide (i < m) && decide (j < m) && !pend.contains i && !pend.contains j && decide (i ≠ j) && (Region.ready .any ops (setAll base pend) == [i, j]) &&
      (Region.ready .any ops (setAll (base.setIfInBounds i true) pend) == [j]) && (Region.ready .any ops (setAll (base.setIfInBounds j true) pend) == [i]) && chk ops m r ((base.setIfInBounds i true).setIfInBounds j true) pend
  | (i, .t) :: r, base, pend => pend.isEmpty && (r.all fun x => match x.2 with | .t => true | _ => false) && decide (m ≤ i) && (Region.ready .any ops base == [i]) && chk ops m r (base.setIfInBounds i true) []
  | (i, .p) :: r, base, pend => decide (i < m) && (Region.ready .any ops base).contains i && Region.free .any ops base i && !pend.contains i && chk ops m r (base.setIfInBounds i true) pend

/-- The variables' operations wait for nothing, and nobody else writes to their temporaries. -/
def chkAl (ops : Array Oper) (al : Als) : Bool :=
  al.all fun x => ((ops.getD x.1 default).after.all fun e => !Region.binds .any e) && decide (x.1 < ops.size) && (ops.getD x.1 default).guard.isNone && (ops.getD x.1 default).dst == some x.2.1 &&
    (match (ops.getD x.1 default).op with | .alloc E => E == x.2.2.1 | _ => false) && (List.range ops.size).all fun k => k == x.1 || (ops.getD k default).dst != some x.2.1

section sound
variable {P : Program} {n : Nat} {w0 : World} {h0 : Mem} {ops : Array Oper} {Q : Exit → Act → World → Prop} {R : List Res} {al : Als} {m : Nat}

theorem St.perm {L L' : List Res} {h : Mem} {w : World} (s : St w0 h0 L h w) (hp : L.Perm L') : St w0 h0 L' h w :=
  ⟨s.below, s.le, s.sub, s.fresh, fun r hr => s.ok r (hp.mem_iff.2 hr), fun r hr => s.own r (hp.mem_iff.2 hr), (hp.pairwise_iff fun h b hx hy => h b hy hx).1 s.apart⟩

theorem size_setAll (b : Array Bool) (l : List Nat) : (setAll b l).size = b.size := by
  induction l generalizing b with
  | nil => rfl
  | cons i l ih => simp only [setAll, List.foldl_cons] at ih ⊢; rw [ih]; simp

theorem get_setAll (b : Array Bool) (l : List Nat) (k : Nat) : (setAll b l)[k]? = if k ∈ l ∧ k < b.size then some true else b[k]? := by
  induction l generalizing b with
  | nil => simp [setAll]
  | cons i l ih =>
    have := ih (b.setIfInBounds i true)
    simp only [setAll, List.foldl_cons] at this ⊢
    rw [this]
    simp only [Array.size_setIfInBounds, Array.getElem?_setIfInBounds, List.mem_cons]
    by_cases hk : k < b.size <;> by_cases hi : i = k <;> by_cases hl : k ∈ l <;> simp_all
    all_goals omega

/-- 'listed' is 'base' and the operations of X. -/
def Rel (ops : Array Oper) (base : Array Bool) (X : List Nat) (listed : Array Bool) : Prop := base.size = ops.size ∧ listed = setAll base X

theorem Rel.unlisted {base listed : Array Bool} {X : List Nat} (hr : Rel ops base X listed) (k : Nat) : listed.getD k true = false ↔ base.getD k true = false ∧ k ∉ X := by
  obtain ⟨h1, rfl⟩ := hr
  simp only [Array.getD_eq_getD_getElem?, get_setAll]
  by_cases hk : k < base.size
  · by_cases hx : k ∈ X <;> simp [hx, hk]
  · simp [hk]

theorem Rel.listed {base listed : Array Bool} {X : List Nat} (hr : Rel ops base X listed) (k : Nat) : listed.getD k false = true ↔ (base.getD k false = true ∨ (k ∈ X ∧ k < ops.size)) := by
  obtain ⟨h1, rfl⟩ := hr
  simp only [Array.getD_eq_getD_getElem?, get_setAll]
  by_cases hk : k < base.size
  · have hk' : k < ops.size := by omega
    by_cases hx : k ∈ X <;> simp [hx, hk, hk']
  · have hk' : ¬ k < ops.size := by omega
    simp [hk, hk']

/-- What may come up when more of the variables are made. -/
theorem ready_more {base : Array Bool} {X Y : List Nat} {k : Nat} (hb : base.size = ops.size) (hk : k ∈ Region.ready .any ops (setAll base X)) (hXY : ∀ x ∈ X, x ∈ Y) (hkY : k ∉ Y) : k ∈ Region.ready .any ops (setAll base Y) := by
  rw [mem_ready] at hk ⊢
  obtain ⟨h1, o, ho, h2⟩ := hk
  refine ⟨((Rel.unlisted ⟨hb, rfl⟩ k).2 ⟨((Rel.unlisted ⟨hb, rfl⟩ k).1 h1).1, hkY⟩), o, ho, fun e he hbd => ?_⟩
  have := (Rel.listed (ops := ops) ⟨hb, rfl⟩ _).1 (h2 e he hbd)
  exact (Rel.listed ⟨hb, rfl⟩ _).2 (this.imp id fun h => ⟨hXY _ h.1, h.2⟩)

theorem setAll_cons (b : Array Bool) (i : Nat) (l : List Nat) : (setAll b l).setIfInBounds i true = setAll b (i :: l) := by
  apply Array.ext_getElem?
  intro k
  rw [get_setAll, Array.getElem?_setIfInBounds, size_setAll, get_setAll]
  by_cases hi : i = k
  · subst hi
    by_cases hk : i < b.size <;> simp [hk]
  · by_cases hk : k < b.size <;> by_cases hl : k ∈ l <;> simp [hi, hk, hl, Ne.symm hi]

theorem setAll_set (b : Array Bool) (i : Nat) (l : List Nat) : setAll (b.setIfInBounds i true) l = (setAll b l).setIfInBounds i true := by
  apply Array.ext_getElem?
  intro k
  rw [get_setAll, Array.getElem?_setIfInBounds, Array.getElem?_setIfInBounds, size_setAll, get_setAll, Array.size_setIfInBounds]
  by_cases hi : i = k
  · subst hi
    by_cases hk : i < b.size <;> by_cases hl : i ∈ l <;> simp [hk, hl]
  · by_cases hk : k < b.size <;> by_cases hl : k ∈ l <;> simp [hi, hk, hl]

/-- The class of worlds of a walk. -/
def Dw (w0 : World) (h0 : Mem) (R : List Res) (h : Mem) (w : World) : Prop := ∃ L' h', MLe h h' ∧ (∀ r ∈ R, r ∈ L') ∧ St w0 h0 L' h' w

theorem Dw.mono {h h' : Mem} (hh : MLe h h') {w : World} (hd : Dw w0 h0 R h' w) : Dw w0 h0 R h w :=
  let ⟨L', h2, a, b, c⟩ := hd
  ⟨L', h2, hh.trans a, b, c⟩

/-- What is known of the variables. -/
def AlOk (P : Program) (n : Nat) (al : Als) : Prop := ∀ x ∈ al, x.2.1 < n ∧ ∀ w, ∃ z, (zeroValue x.2.2.1).run P w = .ok z w ∧ z.cells = x.2.2.2.toArray

/-- The early variables: operation and block. -/
def XRes (al : Als) (X : List (Nat × Nat)) : List Res := X.map fun p => match al.lookup p.1 with | some (_, E, cs) => .blk p.2 (.cells cs.toArray E) | none => .blk p.2 default

structure Inv (P : Program) (n : Nat) (w0 : World) (h0 : Mem) (ops : Array Oper) (R : List Res) (al : Als) (base : Array Bool) (pend : List Nat) (e : List (Nat × Value)) (L : List Res) (h : Mem) (X : List (Nat × Nat)) (listed : Array Bool) (a : Act) (w : World) : Prop where
  env : Env n e a
  st : St w0 h0 (L ++ XRes al X) h w
  sub : ∀ r ∈ R, r ∈ L
  rel : Rel ops base (X.map (·.1)) listed
  xp : ∀ p ∈ X, p.1 ∈ pend ∧ ∃ y, al.lookup p.1 = some y ∧ a.tmps[y.1]? = some (.pointer (some ⟨p.2, 0, none⟩))
  nd : (X.map (·.1)).Nodup
  pe : ∀ i ∈ pend, ∃ y, al.lookup i = some y ∧ e.lookup y.1 = none
  pb : ∀ i ∈ pend, base.getD i true = false
  cl : Closed ops listed

theorem lookup_mem {al : Als} {i : Nat} {y : Nat × TypeId × List Value} (h : al.lookup i = some y) : (i, y) ∈ al := by
  induction al with
  | nil => simp at h
  | cons x l ih =>
    obtain ⟨k, z⟩ := x
    simp only [List.lookup_cons] at h
    by_cases hk : i = k
    · subst hk; simp at h; subst h; simp
    · have : (i == k) = false := by simpa using hk
      rw [this] at h
      exact List.mem_cons_of_mem _ (ih h)

theorem chkAl_spec (hca : chkAl ops al = true) {i : Nat} {y : Nat × TypeId × List Value} (h : al.lookup i = some y) :
    (∀ e ∈ (ops.getD i default).after, Region.binds .any e = false) ∧ i < ops.size ∧ (ops.getD i default).guard = none ∧ (ops.getD i default).dst = some y.1 ∧ (ops.getD i default).op = .alloc y.2.1 ∧
    ∀ k, k < ops.size → k ≠ i → (ops.getD k default).dst ≠ some y.1 := by
  have hm := lookup_mem h
  unfold chkAl at hca
  have := List.all_eq_true.1 hca _ hm
  simp only [Bool.and_eq_true, decide_eq_true_eq, beq_iff_eq, Array.all_eq_true', List.all_eq_true, List.mem_range, Bool.or_eq_true, bne_iff_ne, Bool.not_eq_true', Option.isNone_iff_eq_none] at this
  obtain ⟨⟨⟨⟨⟨h1, h2⟩, h3⟩, h4⟩, h5⟩, h6⟩ := this
  refine ⟨h1, h2, h3, h4, ?_, fun k hk hki => (h6 k hk).resolve_left hki⟩
  split at h5
  · rename_i E he
    rw [he, eq_of_beq h5]
  · cases h5

theorem getOp {i : Nat} (hi : i < ops.size) : ops[i]? = some (ops.getD i default) := by
  simp [Array.getD_eq_getD_getElem?, hi]

theorem ready_alloc (hca : chkAl ops al = true) {base listed : Array Bool} {pend : List Nat} {e : List (Nat × Value)} {L : List Res} {h : Mem} {X : List (Nat × Nat)} {a : Act} {w : World} (I : Inv P n w0 h0 ops R al base pend e L h X listed a w) {i : Nat} (hi : i ∈ pend)
    (hX : i ∉ X.map (·.1)) : i ∈ Region.ready .any ops listed := by
  obtain ⟨y, hy, _⟩ := I.pe i hi
  obtain ⟨c1, c2, _⟩ := chkAl_spec hca hy
  exact mem_ready.2 ⟨(I.rel.unlisted i).2 ⟨by
    have := I.pb i hi
    have hs := I.rel.1
    simp only [Array.getD_eq_getD_getElem?] at this ⊢
    rw [Array.getElem?_eq_getElem (by omega)] at this ⊢
    simpa using this, hX⟩, _, getOp c2, fun e he hb => by rw [c1 e he] at hb; cases hb⟩

/-- A variable is made early. -/
theorem early (hal : AlOk P n al) (hca : chkAl ops al = true) {base listed : Array Bool} {pend : List Nat} {e : List (Nat × Value)} {L : List Res} {h : Mem} {X : List (Nat × Nat)} {a : Act} {w : World} (I : Inv P n w0 h0 ops R al base pend e L h X listed a w) {j : Nat} (hj : j ∈ pend)
    (hX : j ∉ X.map (·.1)) : RunsTo P ops (ops.getD j default) a w fun v w' => Dw w0 h0 R h w' ∧ ∃ b, Inv P n w0 h0 ops R al base pend e L h ((j, b) :: X) (listed.setIfInBounds j true) (a.put (ops.getD j default).dst v) w' := by
  obtain ⟨y, hy, hey⟩ := I.pe j hj
  obtain ⟨c1, c2, c3, c4, c5, c6⟩ := chkAl_spec hca hy
  obtain ⟨hd, hz⟩ := hal _ (lookup_mem hy)
  obtain ⟨z, hz1, hz2⟩ := hz w
  have hrun : (execOp a.eval (ops.getD j default)).run P w = .ok (.value (.pointer (some ⟨w.heap.size, 0, none⟩))) (w.alloc (.cells y.2.2.toArray y.2.1)) := by
    simp only [execOp, c5, Instr.alloc]
    simp [hz1, newVar, newRow, newObj, Sem.run, hz2]
  unfold RunsTo
  rw [if_pos (by unfold Region.wanted; rw [c3]), hrun]
  have hst := I.st.alloc (.cells y.2.2.toArray y.2.1)
  have hperm : (.blk w.heap.size (.cells y.2.2.toArray y.2.1) :: (L ++ XRes al X)).Perm (L ++ XRes al ((j, w.heap.size) :: X)) := by
    have : XRes al ((j, w.heap.size) :: X) = .blk w.heap.size (.cells y.2.2.toArray y.2.1) :: XRes al X := by
      simp only [XRes, List.map_cons, hy]
    rw [this]
    exact List.perm_middle.symm
  refine ⟨⟨_, h, MLe.refl h, fun r hr => ?_, hst⟩, w.heap.size, ?_⟩
  · exact List.mem_cons_of_mem _ (List.mem_append_left _ (I.sub r hr))
  · have hput : ∀ t, t ≠ y.1 → (a.put (ops.getD j default).dst (.pointer (some ⟨w.heap.size, 0, none⟩))).tmps[t]? = a.tmps[t]? := by
      intro t ht
      rw [c4]
      simp only [Act.put]
      rw [Array.getElem?_setIfInBounds_ne (Ne.symm ht)]
    refine ⟨⟨I.env.defers |> fun hh => by rw [c4]; exact hh, by rw [c4]; simp [Act.put, I.env.size], fun t v ht => ?_⟩, hst.perm hperm, I.sub, ⟨I.rel.1, by rw [I.rel.2, setAll_cons]; rfl⟩, ?_, ?_, I.pe, I.pb, I.cl.set (ready_alloc hca I hj hX)⟩
    · have : t ≠ y.1 := fun he => by rw [he, hey] at ht; cases ht
      rw [hput t this]
      exact I.env.get t v ht
    · intro p hp
      rcases List.mem_cons.1 hp with rfl | hp
      · refine ⟨hj, y, hy, ?_⟩
        rw [c4]
        simp [Act.put, I.env.size, hd]
      · obtain ⟨h1, y', hy', h2⟩ := I.xp p hp
        refine ⟨h1, y', hy', ?_⟩
        have hne : p.1 ≠ j := fun he => hX (he ▸ List.mem_map_of_mem hp)
        obtain ⟨_, d2, _, d4, _, _⟩ := chkAl_spec hca hy'
        have : y'.1 ≠ y.1 := fun he => c6 p.1 d2 hne (by rw [d4, he])
        rw [hput _ this]
        exact h2
    · simp only [List.map_cons, List.nodup_cons]
      exact ⟨hX, I.nd⟩

/-- What holds of a walk's state from which it goes on. -/
def Goes (P : Program) (n : Nat) (w0 : World) (h0 : Mem) (ops : Array Oper) (Q : Exit → Act → World → Prop) (R : List Res) (al : Als) (m : Nat) (base : Array Bool) (pend : List Nat) (e : List (Nat × Value)) (L : List Res) (h : Mem) : Prop :=
  ∀ fuel X listed a w, Inv P n w0 h0 ops R al base pend e L h X listed a w → rem ops listed ≤ fuel → RA P ops (Cls m (Dw w0 h0 R h)) (fun a w => Q .normal a w) fuel listed a w

theorem rem_pos {listed : Array Bool} {i : Nat} (hi : i < ops.size) (hl : listed.getD i true = false) : 0 < rem ops listed := by
  have := rem_set hi hl; omega

theorem ready_lt {listed : Array Bool} {i : Nat} (h : i ∈ Region.ready .any ops listed) : i < ops.size ∧ listed.getD i true = false :=
  let ⟨h1, _, ho, _⟩ := mem_ready.1 h
  ⟨(Array.getElem?_eq_some_iff.1 ho).1, h1⟩

/-- The state behind an operation that is no variable's. -/
theorem Inv.next (hca : chkAl ops al = true) {base listed : Array Bool} {pend : List Nat} {e : List (Nat × Value)} {L L' : List Res} {h h' : Mem} {X : List (Nat × Nat)} {a : Act} {w w' : World} (I : Inv P n w0 h0 ops R al base pend e L h X listed a w) {i : Nat} (hi : i < ops.size) (hir : i ∈ Region.ready .any ops listed) (hip : i ∉ pend)
    (hd : ∀ d, (ops.getD i default).dst = some d → d < n) (hR : ∀ r ∈ R, r ∈ L') (S : St w0 h0 (L' ++ XRes al X) h' w') (v : Value) :
    Inv P n w0 h0 ops R al (base.setIfInBounds i true) pend (putE e (ops.getD i default).dst v) L' h' X (listed.setIfInBounds i true) (a.put (ops.getD i default).dst v) w' := by
  have hne : ∀ k ∈ pend, ∀ y, al.lookup k = some y → (ops.getD i default).dst ≠ some y.1 := fun k hk y hy => (chkAl_spec hca hy).2.2.2.2.2 i hi (fun he => hip (by rw [he]; exact hk))
  refine ⟨?_, S, hR, ⟨by simpa using I.rel.1, by rw [I.rel.2, setAll_set]⟩, ?_, I.nd, ?_, ?_, I.cl.set hir⟩
  · cases hdst : (ops.getD i default).dst with
    | none => exact I.env
    | some d => exact I.env.put (hd d hdst)
  · intro p hp
    obtain ⟨h1, y, hy, h2⟩ := I.xp p hp
    refine ⟨h1, y, hy, ?_⟩
    have := hne p.1 h1 y hy
    cases hdst : (ops.getD i default).dst with
    | none => exact h2
    | some d =>
      rw [hdst] at this
      simp only [Act.put]
      rw [Array.getElem?_setIfInBounds_ne (fun he => this (by rw [he]))]
      exact h2
  · intro k hk
    obtain ⟨y, hy, hl⟩ := I.pe k hk
    refine ⟨y, hy, ?_⟩
    have := hne k hk y hy
    cases hdst : (ops.getD i default).dst with
    | none => exact hl
    | some d =>
      rw [hdst] at this
      simp only [putE, List.lookup_cons]
      have h3 : (y.1 == d) = false := by simp only [beq_eq_false_iff_ne]; exact fun he => this (by rw [he])
      rw [h3]; exact hl
  · intro k hk
    rw [getD_set_ne true (fun he => hip (by rw [he]; exact hk))]
    exact I.pb k hk

/-- Operations that must come up now, or variables that may. -/
theorem goes_step (hal : AlOk P n al) (hca : chkAl ops al = true) {base : Array Bool} {pend : List Nat} {e : List (Nat × Value)} {L : List Res} {h : Mem} (opts : List Nat) (ho : opts ≠ []) (hr : Region.ready .any ops (setAll base pend) = opts)
    (hop : ∀ i ∈ opts, i < m ∧ i ∉ pend) (W1 : Nat → List (Nat × Value) → List Res → Mem → Prop) (hst : ∀ i ∈ opts, Step P n w0 h0 ops R (ops.getD i default) e L h (W1 i))
    (hgo : ∀ i ∈ opts, ∀ e' L' h', W1 i e' L' h' → Goes P n w0 h0 ops Q R al m (base.setIfInBounds i true) pend e' L' h') : Goes P n w0 h0 ops Q R al m base pend e L h := by
  intro fuel
  induction fuel with
  | zero =>
    intro X listed a w I hrem
    exfalso
    have hnil := ready_nil_of_rem (ops := ops) (listed := listed) (by omega)
    by_cases hall : ∃ p ∈ pend, p ∉ X.map (·.1)
    · obtain ⟨p, hp, hpX⟩ := hall
      have := ready_alloc hca I hp hpX
      rw [hnil] at this; cases this
    · obtain ⟨i, hi⟩ := List.exists_mem_of_ne_nil _ ho
      have h1 : i ∈ Region.ready .any ops (setAll base pend) := by rw [hr]; exact hi
      have h2 := ready_more I.rel.1 h1 (Y := X.map (·.1)) (fun p hp => Classical.byContradiction fun hc => hall ⟨p, hp, hc⟩) (fun hiX => by
        obtain ⟨p, hp, rfl⟩ := List.mem_map.1 hiX
        exact (hop _ hi).2 (I.xp p hp).1)
      rw [← I.rel.2, hnil] at h2; cases h2
  | succ fuel ih =>
    intro X listed a w I hrem
    have hne : Region.ready .any ops listed ≠ [] := by
      by_cases hall : ∃ p ∈ pend, p ∉ X.map (·.1)
      · obtain ⟨p, hp, hpX⟩ := hall
        have := ready_alloc hca I hp hpX
        intro hnil; rw [hnil] at this; cases this
      · obtain ⟨i, hi⟩ := List.exists_mem_of_ne_nil _ ho
        have h1 : i ∈ Region.ready .any ops (setAll base pend) := by rw [hr]; exact hi
        have h2 := ready_more I.rel.1 h1 (Y := X.map (·.1)) (fun p hp => Classical.byContradiction fun hc => hall ⟨p, hp, hc⟩) (fun hiX => by
          obtain ⟨p, hp, rfl⟩ := List.mem_map.1 hiX
          exact (hop _ hi).2 (I.xp p hp).1)
        rw [← I.rel.2] at h2
        intro hnil; rw [hnil] at h2; cases h2
    refine ⟨fun hnil => absurd hnil hne, fun j hj o hoj => ?_⟩
    obtain ⟨hjs, hjun⟩ := ready_lt hj
    have hjo : o = ops.getD j default := by rw [getOp hjs] at hoj; exact (Option.some.inj hoj).symm
    subst hjo
    have hrem' := rem_set hjs hjun
    by_cases hjp : j ∈ pend
    · have hjX := ((I.rel.unlisted j).1 hjun).2
      refine (early hal hca I hjp hjX).mono fun v w' ⟨hD, b, I'⟩ => ⟨.inl hD, ih _ _ _ _ I' (by omega)⟩
    · have h1 : j ∈ Region.ready .any ops (setAll base pend) := by
        rw [I.rel.2] at hj
        exact ready_more I.rel.1 hj (fun p hp => by obtain ⟨q, hq, rfl⟩ := List.mem_map.1 hp; exact (I.xp q hq).1) hjp
      rw [hr] at h1
      refine (hst j h1 (XRes al X) a w I.env I.st).mono fun v w' ⟨hd, L', h', hh, hR0, S, hW⟩ => ?_
      have hR := hR0 I.sub
      refine ⟨.inl ⟨_, h', hh, fun r hr => List.mem_append_left _ (hR r hr), S⟩, ?_⟩
      refine RA.mono (fun l w hc => hc.imp (Dw.mono hh) id) (hgo j h1 _ _ _ hW fuel X _ _ w' (I.next hca hjs hj hjp hd hR S v) (by omega))

theorem goes_tail (D : World → Prop) : ∀ (ord : List (Nat × Kd)) (base : Array Bool) (e : List (Nat × Value)) (L : List Res) (h : Mem), (ord.all fun x => match x.2 with | .t => true | _ => false) = true → chk ops m ord base [] = true →
    W P n w0 h0 ops Q R al ord e L h → ∀ fuel a w, Env n e a → St w0 h0 L h w → base.size = ops.size → rem ops base ≤ fuel → RA P ops (Cls m D) (fun a w => Q .normal a w) fuel base a w
  | [], base, e, L, h, _, hc, hW, fuel, a, w, E, S, _, _ => by
    have hr : Region.ready .any ops base = [] := by simpa [chk] using hc
    cases fuel with
    | zero => exact ⟨hr, hW a w E S⟩
    | succ fuel => exact ⟨fun _ => hW a w E S, fun i hi => by rw [hr] at hi; cases hi⟩
  | (i, .t) :: r, base, e, L, h, ht, hc, hW, fuel, a, w, E, S, hs, hrem => by
    simp only [chk, Bool.and_eq_true, beq_iff_eq, decide_eq_true_eq] at hc
    obtain ⟨⟨⟨⟨_, hrt⟩, hmi⟩, hr⟩, hc'⟩ := hc
    have hir : i ∈ Region.ready .any ops base := by rw [hr]; simp
    obtain ⟨his, hiun⟩ := ready_lt hir
    have hp := rem_pos his hiun
    cases fuel with
    | zero => omega
    | succ fuel =>
      refine ⟨fun hnil => absurd (hr.symm.trans hnil) (by simp), fun j hj o hoj => ?_⟩
      rw [hr] at hj
      obtain rfl : j = i := by simpa using hj
      have hjo : o = ops.getD j default := by rw [getOp his] at hoj; exact (Option.some.inj hoj).symm
      subst hjo
      have hrem' := rem_set his hiun
      refine (hW a w E S).mono fun v w' ⟨hd, L', h', S', hW'⟩ => ⟨.inr ⟨j, hmi, ?_⟩, ?_⟩
      · simp [Array.getD_eq_getD_getElem?, hs, his]
      · refine goes_tail D r _ _ L' h' hrt hc' hW' fuel _ w' ?_ S' (by simpa using hs) (by omega)
        cases hdst : (ops.getD j default).dst with
        | none => exact E
        | some d => exact E.put (hd d hdst)
  | (_, .q) :: _, _, _, _, _, ht, _, _, _, _, _, _, _, _, _ => by simp at ht
  | (_, .a) :: _, _, _, _, _, ht, _, _, _, _, _, _, _, _, _ => by simp at ht
  | (_, .c) :: _, _, _, _, _, ht, _, _, _, _, _, _, _, _, _ => by simp at ht
  | (_, .b _) :: _, _, _, _, _, ht, _, _, _, _, _, _, _, _, _ => by simp at ht
  | (_, .p) :: _, _, _, _, _, ht, _, _, _, _, _, _, _, _, _ => by simp at ht

theorem X_nil {base listed : Array Bool} {e : List (Nat × Value)} {L : List Res} {h : Mem} {X : List (Nat × Nat)} {a : Act} {w : World} (I : Inv P n w0 h0 ops R al base [] e L h X listed a w) : X = [] := by
  cases X with
  | nil => rfl
  | cons p X => exact absurd (I.xp p (by simp)).1 (by simp)

/-- A variable that was made early is met by the walk. -/
theorem reveal (hca : chkAl ops al = true) {i : Nat} (r : List (Nat × Kd)) (base : Array Bool) (pend : List Nat) (e : List (Nat × Value)) (L : List Res) (h : Mem)
  (IH : ∀ (base : Array Bool) (pend : List Nat) (e : List (Nat × Value)) (L : List Res) (h : Mem), chk ops m r base pend = true → (∀ k, m ≤ k → base.getD k false = false) → (∀ i ∈ pend, i < m) → W P n w0 h0 ops Q R al r e L h → Goes P n w0 h0 ops Q R al m base pend e L h)
  (hc' : chk ops m r (base.setIfInBounds i true) (pend.filter (· != i)) = true) (hip : i ∈ pend) (hnl : ∀ k, m ≤ k → base.getD k false = false) (hpm : ∀ i ∈ pend, i < m) (hW : W P n w0 h0 ops Q R al ((i, .a) :: r) e L h)
    (fuel : Nat) (X : List (Nat × Nat)) (listed : Array Bool) (a : Act) (w : World) (I : Inv P n w0 h0 ops R al base pend e L h X listed a w) (hrem : rem ops listed ≤ fuel) (hiX : i ∈ X.map (·.1)) : RA P ops (Cls m (Dw w0 h0 R h)) (fun a w => Q .normal a w) fuel listed a w := by
  obtain ⟨p, hp, hpi⟩ := List.mem_map.1 hiX
  obtain ⟨X1, X2, rfl⟩ := List.append_of_mem hp
  obtain ⟨_, y, hy, hty⟩ := I.xp p hp
  subst hpi
  have hnd := I.nd
  simp only [List.map_append, List.map_cons] at hnd
  rw [List.nodup_append] at hnd
  obtain ⟨n1, n2, n3⟩ := hnd
  rw [List.nodup_cons] at n2
  have hnot : ∀ q ∈ X1 ++ X2, q.1 ≠ p.1 := by
    intro q hq he
    rcases List.mem_append.1 hq with hq | hq
    · exact n3 q.1 (List.mem_map_of_mem hq) p.1 (by simp) he
    · exact n2.1 (he ▸ List.mem_map_of_mem hq)
  refine IH _ (pend.filter (· != p.1)) _ _ h hc' (fun k hk => by
    have := hpm _ hip
    rw [getD_set_ne false (by omega)]; exact hnl k hk) (fun j hj => hpm j (List.mem_filter.1 hj).1) (hW y.1 y.2.1 y.2.2 p.2 hy) fuel (X1 ++ X2) listed a w ?_ hrem
  refine ⟨⟨I.env.defers, I.env.size, fun t v ht => ?_⟩, I.st.perm ?_, fun r hr => List.mem_cons_of_mem _ (I.sub r hr), ⟨by simpa using I.rel.1, ?_⟩, ?_, ?_, ?_, ?_, I.cl⟩
  · simp only [List.lookup_cons] at ht
    by_cases htd : t = y.1
    · subst htd
      simp at ht
      rw [← ht]; exact hty
    · have : (t == y.1) = false := by simpa using htd
      rw [this] at ht
      exact I.env.get t v ht
  · have e1 : XRes al (X1 ++ p :: X2) = XRes al X1 ++ .blk p.2 (.cells y.2.2.toArray y.2.1) :: XRes al X2 := by
      simp only [XRes, List.map_append, List.map_cons, hy]
    have e2 : XRes al (X1 ++ X2) = XRes al X1 ++ XRes al X2 := by simp [XRes]
    rw [e1, e2, ← List.append_assoc]
    refine List.perm_middle.trans ?_
    simp only [List.cons_append, List.append_assoc]
    exact List.Perm.refl _
  · rw [I.rel.2]
    apply Array.ext_getElem?
    intro k
    rw [get_setAll, get_setAll, Array.size_setIfInBounds, Array.getElem?_setIfInBounds]
    by_cases hk : k < base.size
    · by_cases hkp : p.1 = k
      · subst hkp; simp [hk]
      · simp only [List.map_append, List.map_cons, List.mem_append, List.mem_cons, hk, hkp, Ne.symm hkp, false_or, if_false, and_true]
    · simp [hk]
      omega
  · intro q hq
    have hq' : q ∈ X1 ++ p :: X2 := by
      rcases List.mem_append.1 hq with h1 | h1
      · exact List.mem_append_left _ h1
      · exact List.mem_append_right _ (List.mem_cons_of_mem _ h1)
    obtain ⟨h1, h2⟩ := I.xp q hq'
    exact ⟨List.mem_filter.2 ⟨h1, by simpa using hnot q hq⟩, h2⟩
  · simp only [List.map_append]
    rw [List.nodup_append]
    exact ⟨n1, n2.2, fun x hx y hy => n3 x hx y (List.mem_cons_of_mem _ hy)⟩
  · intro j hj
    obtain ⟨h1, h2⟩ := List.mem_filter.1 hj
    obtain ⟨z, hz, hl⟩ := I.pe j h1
    refine ⟨z, hz, ?_⟩
    simp only [List.lookup_cons]
    have hne : (z.1 == y.1) = false := by
      simp only [beq_eq_false_iff_ne]
      intro he
      obtain ⟨_, d2, _, d4, _, _⟩ := chkAl_spec hca hz
      have hji : j ≠ p.1 := by simpa using h2
      exact (chkAl_spec hca hy).2.2.2.2.2 j d2 hji (by rw [d4, he])
    rw [hne]; exact hl
  · intro j hj
    obtain ⟨h1, h2⟩ := List.mem_filter.1 hj
    have hji : j ≠ p.1 := by simpa using h2
    rw [getD_set_ne true (Ne.symm hji)]
    exact I.pb j h1

theorem goes (hsel : Region.noSelect ops = true) (hal : AlOk P n al) (hca : chkAl ops al = true) : ∀ (ord : List (Nat × Kd)) (base : Array Bool) (pend : List Nat) (e : List (Nat × Value)) (L : List Res) (h : Mem), chk ops m ord base pend = true → (∀ k, m ≤ k → base.getD k false = false) → (∀ i ∈ pend, i < m) →
    W P n w0 h0 ops Q R al ord e L h → Goes P n w0 h0 ops Q R al m base pend e L h
  | [], base, pend, e, L, h, hc, _, _, hW => by
    intro fuel X listed a w I hrem
    simp only [chk, Bool.and_eq_true, List.isEmpty_iff] at hc
    obtain ⟨rfl, hr⟩ := hc
    have hX := X_nil I; subst hX
    have hl : listed = base := I.rel.2
    subst hl
    have S := I.st
    simp only [XRes, List.map_nil, List.append_nil] at S
    cases fuel with
    | zero => exact ⟨hr, hW a w I.env S⟩
    | succ fuel => exact ⟨fun _ => hW a w I.env S, fun i hi => by rw [hr] at hi; cases hi⟩
  | (i, .t) :: r, base, pend, e, L, h, hc, _, _, hW => by
    intro fuel X listed a w I hrem
    have hc0 := hc
    simp only [chk, Bool.and_eq_true, List.isEmpty_iff] at hc
    obtain ⟨⟨⟨⟨rfl, hrt⟩, _⟩, _⟩, _⟩ := hc
    have hX := X_nil I; subst hX
    have hl : listed = base := I.rel.2
    subst hl
    have S := I.st
    simp only [XRes, List.map_nil, List.append_nil] at S
    exact goes_tail _ _ _ _ _ _ (by simpa using hrt) hc0 hW fuel a w I.env S I.rel.1 hrem
  | (i, .c) :: r, base, pend, e, L, h, hc, hnl, hpm, hW => by
    simp only [chk, Bool.and_eq_true, beq_iff_eq, decide_eq_true_eq, Bool.not_eq_true', List.contains_eq_mem, decide_eq_false_iff_not] at hc
    obtain ⟨⟨⟨him, hip⟩, hr⟩, hc'⟩ := hc
    refine goes_step hal hca [i] (by simp) hr ?_ (fun _ => W P n w0 h0 ops Q R al r) ?_ ?_
    · intro j hj
      obtain rfl : j = i := by simpa using hj
      exact ⟨him, hip⟩
    · intro j hj
      obtain rfl : j = i := by simpa using hj
      exact hW
    · intro j hj e' L' h' hW'
      obtain rfl : j = i := by simpa using hj
      exact goes hsel hal hca r _ pend e' L' h' hc' (fun k hk => by rw [getD_set_ne false (by omega)]; exact hnl k hk) hpm hW'
  | (i, .b j) :: r, base, pend, e, L, h, hc, hnl, hpm, hW => by
    simp only [chk, Bool.and_eq_true, beq_iff_eq, decide_eq_true_eq, Bool.not_eq_true', List.contains_eq_mem, decide_eq_false_iff_not] at hc
    obtain ⟨⟨⟨⟨⟨⟨⟨⟨him, hjm⟩, hip⟩, hjp⟩, hij⟩, hr⟩, hri⟩, hrj⟩, hc'⟩ := hc
    obtain ⟨hW1, hW2⟩ := hW
    refine goes_step hal hca [i, j] (by simp) hr (fun k hk => ?_) (fun k => if k = i then fun e L h => Step P n w0 h0 ops R (ops.getD j default) e L h (W P n w0 h0 ops Q R al r) else fun e L h => Step P n w0 h0 ops R (ops.getD i default) e L h (W P n w0 h0 ops Q R al r)) (fun k hk => ?_) ?_
    · rcases List.mem_cons.1 hk with rfl | hk
      · exact ⟨him, hip⟩
      · obtain rfl : k = j := by simpa using hk
        exact ⟨hjm, hjp⟩
    · rcases List.mem_cons.1 hk with rfl | hk
      · simp only [if_true]; exact hW1
      · obtain rfl : k = j := by simpa using hk
        simp only [if_neg (Ne.symm hij)]; exact hW2
    · intro k hk e' L' h' hW'
      rcases List.mem_cons.1 hk with rfl | hk
      · simp only [if_true] at hW'
        refine goes_step hal hca [j] (by simp) hri ?_ (fun _ => W P n w0 h0 ops Q R al r) ?_ ?_
        · intro l hl
          obtain rfl : l = j := by simpa using hl
          exact ⟨hjm, hjp⟩
        · intro l hl
          obtain rfl : l = j := by simpa using hl
          exact hW'
        intro l hl e2 L2 h2 hW2'
        obtain rfl : l = j := by simpa using hl
        exact goes hsel hal hca r _ pend e2 L2 h2 hc' (fun k' hk' => by rw [getD_set_ne false (by omega), getD_set_ne false (by omega)]; exact hnl k' hk') hpm hW2'
      · obtain rfl : k = j := by simpa using hk
        simp only [if_neg (Ne.symm hij)] at hW'
        refine goes_step hal hca [i] (by simp) hrj ?_ (fun _ => W P n w0 h0 ops Q R al r) ?_ ?_
        · intro l hl
          obtain rfl : l = i := by simpa using hl
          exact ⟨him, hip⟩
        · intro l hl
          obtain rfl : l = i := by simpa using hl
          exact hW'
        intro l hl e2 L2 h2 hW2'
        obtain rfl : l = i := by simpa using hl
        rw [Array.setIfInBounds_comm _ _ hij] at hc'
        exact goes hsel hal hca r _ pend e2 L2 h2 hc' (fun k' hk' => by rw [getD_set_ne false (by omega), getD_set_ne false (by omega)]; exact hnl k' hk') hpm hW2'
  | (i, .q) :: r, base, pend, e, L, h, hc, hnl, hpm, hW => by
    intro fuel X listed a w I hrem
    simp only [chk, Bool.and_eq_true, decide_eq_true_eq, Bool.not_eq_true', List.contains_eq_mem, decide_eq_false_iff_not] at hc
    obtain ⟨⟨⟨⟨⟨him, hir⟩, hfree⟩, hip⟩, hlast⟩, hc'⟩ := hc
    obtain ⟨v, ⟨⟨d, hd, hdn⟩, hq⟩, hW'⟩ := hW
    have hiX : i ∉ X.map (·.1) := fun hx => by
      obtain ⟨p, hp, rfl⟩ := List.mem_map.1 hx
      exact hip (I.xp p hp).1
    have hir' : i ∈ Region.ready .any ops listed := by
      have h1 : i ∈ Region.ready .any ops (setAll base []) := by simpa [setAll] using hir
      rw [I.rel.2]
      exact ready_more I.rel.1 h1 (fun x hx => by cases hx) hiX
    obtain ⟨his, hiun⟩ := ready_lt hir'
    have hp := rem_pos his hiun
    have hrem' := rem_set his hiun
    cases fuel with
    | zero => omega
    | succ fuel =>
      have hD : Dw w0 h0 R h w := ⟨_, h, MLe.refl h, fun r hr => List.mem_append_left _ (I.sub r hr), I.st⟩
      refine RA.first (getOp his) hsel him ?_ fuel listed a w I.cl (by rw [I.rel.2, size_setAll]; exact I.rel.1) hD ?_ ?_ hir' (fun w' ⟨L', h', a1, a2, a3⟩ => hq h' L' a w' a1 a2 I.env a3) ?_
      · intro k hk hks
        have := List.all_eq_true.1 hlast k (by simpa using hks)
        simp only [Bool.or_eq_true, decide_eq_true_eq] at this
        exact this.resolve_left (by omega)
      · intro k hk
        cases hl : listed.getD k false with
        | false => rfl
        | true =>
          rcases (I.rel.listed k).1 hl with h1 | ⟨h1, _⟩
          · rw [hnl k hk] at h1; cases h1
          · obtain ⟨p, hp, rfl⟩ := List.mem_map.1 h1
            have := hpm _ (I.xp p hp).1
            omega
      · intro j oj hoj hji hun hno
        exact Region.free_spec (getOp his) hfree j oj hoj hji ((I.rel.unlisted j).1 hun).1 hno
      · refine goes hsel hal hca r _ pend _ L h hc' (fun k hk => by rw [getD_set_ne false (by omega)]; exact hnl k hk) hpm hW' fuel X _ _ w ?_ (by omega)
        exact I.next hca his hir' hip (fun d' hd' => by rw [hd] at hd'; cases hd'; exact hdn) I.sub I.st v
  | (i, .p) :: r, base, pend, e, L, h, hc, hnl, hpm, hW => by
    intro fuel X listed a w I hrem
    simp only [chk, Bool.and_eq_true, decide_eq_true_eq, Bool.not_eq_true', List.contains_eq_mem, decide_eq_false_iff_not] at hc
    obtain ⟨⟨⟨⟨him, hir⟩, hfree⟩, hip⟩, hc'⟩ := hc
    obtain ⟨v, ⟨⟨d, hd, hdn⟩, hq⟩, hW'⟩ := hW
    have hiX : i ∉ X.map (·.1) := fun hx => by
      obtain ⟨p, hp, rfl⟩ := List.mem_map.1 hx
      exact hip (I.xp p hp).1
    have hir' : i ∈ Region.ready .any ops listed := by
      have h1 : i ∈ Region.ready .any ops (setAll base []) := by simpa [setAll] using hir
      rw [I.rel.2]
      exact ready_more I.rel.1 h1 (fun x hx => by cases hx) hiX
    obtain ⟨his, hiun⟩ := ready_lt hir'
    have hp := rem_pos his hiun
    have hrem' := rem_set his hiun
    cases fuel with
    | zero => omega
    | succ fuel =>
      have hD : Dw w0 h0 R h w := ⟨_, h, MLe.refl h, fun r hr => List.mem_append_left _ (I.sub r hr), I.st⟩
      refine RA.pure (getOp his) hsel him fuel listed a w (.inl hD) ?_ hir' (fun w' => hq a w' I.env) ?_
      · intro j oj hoj hji hun hno
        exact Region.free_spec (getOp his) hfree j oj hoj hji ((I.rel.unlisted j).1 hun).1 hno
      · refine goes hsel hal hca r _ pend _ L h hc' (fun k hk => by rw [getD_set_ne false (by omega)]; exact hnl k hk) hpm hW' fuel X _ _ w ?_ (by omega)
        exact I.next hca his hir' hip (fun d' hd' => by rw [hd] at hd'; cases hd'; exact hdn) I.sub I.st v
  | (i, .a) :: r, base, pend, e, L, h, hc, hnl, hpm, hW => by
    simp only [chk, Bool.and_eq_true, beq_iff_eq, List.contains_eq_mem, decide_eq_true_eq] at hc
    obtain ⟨⟨hip, hr⟩, hc'⟩ := hc
    intro fuel
    induction fuel with
    | zero =>
      intro X listed a w I hrem
      by_cases hiX : i ∈ X.map (·.1)
      · exact reveal hca r base pend e L h (fun b p e L h => goes hsel hal hca r b p e L h) hc' hip hnl hpm hW 0 X listed a w I hrem hiX
      · exfalso
        have := ready_alloc hca I hip hiX
        rw [ready_nil_of_rem (by omega)] at this
        cases this
    | succ fuel ih =>
      intro X listed a w I hrem
      by_cases hiX : i ∈ X.map (·.1)
      · exact reveal hca r base pend e L h (fun b p e L h => goes hsel hal hca r b p e L h) hc' hip hnl hpm hW _ X listed a w I hrem hiX
      · have hir := ready_alloc hca I hip hiX
        refine ⟨fun hnil => absurd hir (by rw [hnil]; simp), fun j hj o hoj => ?_⟩
        obtain ⟨hjs, hjun⟩ := ready_lt hj
        have hjo : o = ops.getD j default := by rw [getOp hjs] at hoj; exact (Option.some.inj hoj).symm
        subst hjo
        have hrem' := rem_set hjs hjun
        have hjp : j ∈ pend := by
          refine Classical.byContradiction fun hjp => ?_
          have h1 : j ∈ Region.ready .any ops (setAll base (pend.filter (· != i))) := by
            rw [I.rel.2] at hj
            refine ready_more I.rel.1 hj (fun p hp => ?_) (fun hc => hjp (List.mem_filter.1 hc).1)
            obtain ⟨q, hq, rfl⟩ := List.mem_map.1 hp
            refine List.mem_filter.2 ⟨(I.xp q hq).1, ?_⟩
            simp only [bne_iff_ne]
            exact fun he => hiX (he ▸ List.mem_map_of_mem hq)
          rw [hr] at h1
          obtain rfl : j = i := by simpa using h1
          exact hjp hip
        have hjX := ((I.rel.unlisted j).1 hjun).2
        exact (early hal hca I hjp hjX).mono fun v w' ⟨hD, b, I'⟩ => ⟨.inl hD, ih _ _ _ _ I' (by omega)⟩
/-- **A region whose order is open.** -/
theorem gc_draw {id : Nat} {l : List Oper} {e : List (Nat × Value)} {L : List Res} {h : Mem} (m : Nat) (R : List Res) (al : Als) (ord : List (Nat × Kd)) (hm : P.follows .mixedOrders = true) (hal : AlOk P n al)
    (hchk : (Region.noSelect l.toArray && chkAl l.toArray al && (al.all fun x => decide (x.1 < m)) && chk l.toArray m ord (Array.replicate l.length false) (al.map (·.1))) = true) (hae : ∀ x ∈ al, al.lookup x.1 = some x.2 ∧ e.lookup x.2.1 = none)
    (hR : ∀ r ∈ R, r ∈ L) (k : W P n w0 h0 l.toArray Q R al ord e L h) : GC P n w0 h0 (.region id l.toArray true) Q e L h := by
  intro a w E S
  simp only [Bool.and_eq_true] at hchk
  obtain ⟨⟨⟨h1, h2⟩, h3⟩, h4⟩ := hchk
  have hpm : ∀ i ∈ al.map (·.1), i < m := by
    intro i hi
    obtain ⟨x, hx, rfl⟩ := List.mem_map.1 hi
    simpa using List.all_eq_true.1 h3 x hx
  have hg := goes (Q := Q) (R := R) (m := m) h1 hal h2 ord (Array.replicate l.length false) (al.map (·.1)) e L h h4 (fun k _ => by simp [Array.getD_eq_getD_getElem?, Array.getElem?_replicate]; split <;> rfl) hpm k
  refine wp_region_any hm (RA.wpAny (fun _ _ hq => hq) (hg _ [] _ a _ ⟨⟨E.defers, E.size, E.get⟩, ?_, hR, ⟨by simp, by simp [setAll]⟩, (fun p hp => by cases hp), by simp, ?_, ?_, ?_⟩ ?_))
  · simp only [XRes, List.map_nil, List.append_nil]
    exact ⟨S.below.drew, S.le, S.sub, S.fresh, S.ok, S.own, S.apart⟩
  · intro i hi
    obtain ⟨x, hx, rfl⟩ := List.mem_map.1 hi
    exact ⟨x.2, (hae x hx).1, (hae x hx).2⟩
  · intro i hi
    obtain ⟨x, hx, rfl⟩ := List.mem_map.1 hi
    have := (chkAl_spec h2 (hae x hx).1).2.1
    simp at this
    simp [Array.getD_eq_getD_getElem?, this]
  · intro k o hk
    simp [Array.getD_eq_getD_getElem?, Array.getElem?_replicate] at hk
    split at hk <;> simp at hk
  · unfold rem
    refine Nat.le_trans (List.length_filter_le _ _) ?_
    simp

end sound

end Bk
