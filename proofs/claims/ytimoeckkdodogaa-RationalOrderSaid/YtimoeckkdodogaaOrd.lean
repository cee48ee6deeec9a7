/- Plain laws of the order and of rounding, for the statements of chapter 2. -/
import Derived.Test.YtimoeckkdodogaaPar2
namespace Bk
set_option linter.unusedVariables false
set_option linter.unusedSimpArgs false
open Go Go.RowKit
open Classical

theorem field_e {q : Rat} : ¬ ¬ ((if q = 0 then 3 else 0 : Int) = 0 ↔ sgnQ q ≠ 0) := by
  intro h
  apply h
  by_cases h0 : q = 0
  · rw [if_pos h0, sgnQ_zero h0]; simp
  · rw [if_neg h0]
    exact ⟨fun _ e => h0 (sgn_zero.1 e), fun _ => rfl⟩
theorem sgnQ_lt (q : Rat) : sgnQ q = if q = 0 then 0 else if q < 0 then -1 else 1 := by unfold sgnQ; simp only [num_neg_iff]
theorem cmpQ_anti (a b : Rat) : cmpQ a b = -cmpQ b a := by unfold cmpQ; grind
theorem cmpQ_sub (a b : Rat) : cmpQ a b = sgnQ (a - b) := by rw [sgnQ_lt]; unfold cmpQ; grind
theorem cmpQ_add (a b c : Rat) : cmpQ (a + c) (b + c) = cmpQ a b := by unfold cmpQ; grind
theorem lt_tri (a b : Rat) : a < b ∨ a = b ∨ b < a := by grind
theorem cmpQ_mul (a b c : Rat) : cmpQ (a * c) (b * c) = cmpQ a b * sgnQ c := by
  rw [sgnQ_lt]
  by_cases h0 : c = 0
  · subst h0
    have : cmpQ (a * 0) (b * 0) = 0 := cmpQ_zero.2 (by grind)
    rw [this, if_pos rfl, Int.mul_zero]
  · rw [if_neg h0]
    by_cases hc : c < 0
    · rw [if_pos hc]
      rcases lt_tri a b with h | h | h
      · have h1 : b * c < a * c := by
          have := Rat.mul_lt_mul_of_pos_right h (c := -c) (by grind)
          grind
        unfold cmpQ; grind
      · subst h; unfold cmpQ; simp
      · have h1 : a * c < b * c := by
          have := Rat.mul_lt_mul_of_pos_right h (c := -c) (by grind)
          grind
        unfold cmpQ; grind
    · rw [if_neg hc]
      have hc' : 0 < c := by grind
      rcases lt_tri a b with h | h | h
      · have h1 := Rat.mul_lt_mul_of_pos_right h hc'
        unfold cmpQ; grind
      · subst h; unfold cmpQ; simp
      · have h1 := Rat.mul_lt_mul_of_pos_right h hc'
        unfold cmpQ; grind
theorem mul_range {x y : Int} (hx : -1 ≤ x ∧ x ≤ 1) (hy : -1 ≤ y ∧ y ≤ 1) : -1 ≤ x * y ∧ x * y ≤ 1 := by
  have : x = -1 ∨ x = 0 ∨ x = 1 := by omega
  rcases this with h | h | h <;> subst h <;> omega

theorem pow_pos (k : Int) : (0 : Rat) < ((2 ^ kN k : Nat) : Rat) := by
  have : (0 : Rat) = ((0 : Nat) : Rat) := rfl
  rw [this, Rat.natCast_lt_natCast]
  exact Nat.pow_pos (by omega)
theorem down_le (q : Rat) (k : Int) : downQ q k ≤ q := by
  rw [← down_over]
  refine Rat.not_lt.1 fun e => ?_
  rw [Rat.lt_div_iff (pow_pos k)] at e
  have := Rat.floor_le (q * ((2 ^ kN k : Nat) : Rat))
  unfold floorQ at e
  grind
theorem up_ge (q : Rat) (k : Int) : q ≤ upQ q k := by
  have := down_le (-q) k
  unfold upQ
  grind
theorem cmp_le {a b : Rat} (h : a ≤ b) : cmpQ a b ≤ 0 := by
  have : ¬ 0 < cmpQ a b := fun e => by have := cmpQ_pos.1 e; grind
  omega
theorem floor_negsum (y : Rat) : -(-y).floor - y.floor ≤ 1 := by
  have h : -y.floor - 1 ≤ (-y).floor := by
    rw [Rat.le_floor_iff]
    have := Rat.lt_floor_add_one y
    rw [Rat.intCast_add] at this
    rw [Rat.intCast_sub, Rat.intCast_neg]
    have e : ((1 : Int) : Rat) = 1 := rfl
    rw [e] at *
    grind
  omega
theorem up_down (q : Rat) (k : Int) : upQ q k - downQ q k ≤ 1 / ((2 ^ kN k : Nat) : Rat) := by
  have hp := pow_pos k
  unfold upQ
  rw [← down_over, ← down_over]
  have h := floor_negsum (q * ((2 ^ kN k : Nat) : Rat))
  unfold floorQ
  generalize ((2 ^ kN k : Nat) : Rat) = P at *
  have e1 : -q * P = -(q * P) := by grind
  rw [e1]
  generalize q * P = y at *
  have h2 : ((-(-y).floor - y.floor : Int) : Rat) ≤ ((1 : Int) : Rat) := Rat.intCast_le_intCast.2 h
  rw [Rat.intCast_sub, Rat.intCast_neg] at h2
  have e2 : ((1 : Int) : Rat) = 1 := rfl
  rw [e2] at h2
  generalize ((-y).floor : Rat) = u at *
  generalize (y.floor : Rat) = v at *
  refine Rat.not_lt.1 fun e => ?_
  rw [Rat.div_lt_iff hp] at e
  have e3 : (-(u / P) - v / P) * P = -u - v := by grind
  rw [e3] at e
  grind
theorem kN_nat {n : Nat} (h : n ≤ 4096) : kN (n : Int) = n := by unfold kN; omega
theorem unit_eq {n : Nat} (h : n < 62) : makeQ 1 (1 * 2 ^ (n % 62) : Nat) = 1 / ((2 ^ kN (n : Int) : Nat) : Rat) := by
  rw [kN_nat (by omega), Nat.mod_eq_of_lt h, Nat.one_mul]; rfl
theorem up_down_unit (q : Rat) {n : Nat} (h : n < 62) : ¬ 0 < cmpQ (upQ q n - downQ q n) (makeQ 1 (1 * 2 ^ (n % 62) : Nat)) := by
  rw [unit_eq h, cmpQ_pos]
  have := up_down q n
  grind
theorem down_int {q : Rat} {k : Int} (h : downQ q k = q) : ∃ m : Int, q * ((2 ^ kN k : Nat) : Rat) = (m : Rat) := by
  rw [← down_over] at h
  refine ⟨(q * ((2 ^ kN k : Nat) : Rat)).floor, ?_⟩
  have hp := pow_ratne (kN k)
  unfold floorQ at h
  generalize ((2 ^ kN k : Nat) : Rat) = P at *
  generalize ((q * P).floor : Rat) = f at *
  grind
theorem int_down {q : Rat} {k : Int} {m : Int} (h : q * ((2 ^ kN k : Nat) : Rat) = (m : Rat)) : downQ q k = q := by
  rw [← down_over]
  unfold floorQ
  rw [h, Rat.floor_intCast, ← h]
  have hp := pow_ratne (kN k)
  generalize ((2 ^ kN k : Nat) : Rat) = P at *
  grind
theorem down_up (q : Rat) (k : Int) : downQ q k = q ↔ upQ q k = q := by
  have e : ∀ x : Rat, ∀ P : Rat, -x * P = -(x * P) := fun x P => by grind
  constructor
  · intro h
    obtain ⟨m, hm⟩ := down_int h
    unfold upQ
    rw [int_down (m := -m) (by rw [e, hm, Rat.intCast_neg])]
    grind
  · intro h
    unfold upQ at h
    have h1 : downQ (-q) k = -q := by grind
    obtain ⟨m, hm⟩ := down_int h1
    rw [e] at hm
    exact int_down (m := -m) (by rw [Rat.intCast_neg, ← hm]; grind)
theorem down_down (q : Rat) (k : Int) : downQ (downQ q k) k = downQ q k := by
  refine int_down (m := (q * ((2 ^ kN k : Nat) : Rat)).floor) ?_
  rw [← down_over]
  unfold floorQ
  have hp := pow_ratne (kN k)
  generalize ((2 ^ kN k : Nat) : Rat) = P at *
  grind
theorem floor_down (q : Rat) : floorQ q = downQ q 0 := by
  rw [← down_over]
  have e : ((2 ^ kN 0 : Nat) : Rat) = 1 := rfl
  rw [e]
  have e2 : q * 1 = q := by grind
  rw [e2]
  grind
theorem mul_back {a b : Rat} (h : b ≠ 0) : (if b = 0 then 0 else a / b) * b = a := by
  rw [if_neg h]; grind
end Bk
