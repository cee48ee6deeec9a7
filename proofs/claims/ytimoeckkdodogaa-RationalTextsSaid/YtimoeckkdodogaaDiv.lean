/- Long division with limbs, in plain numbers. -/
import Derived.Test.YtimoeckkdodogaaNat
namespace Bk
set_option linter.unusedVariables false
set_option linter.unusedSimpArgs false

theorem getD_drop0 (xs : List Nat) (j k : Nat) : (xs.drop j).getD k 0 = xs.getD (j + k) 0 := by
  rw [List.getD_eq_getElem?_getD, List.getElem?_drop, ← List.getD_eq_getElem?_getD]

theorem val_drop_div {xs : List Nat} (h : Fit xs) (j : Nat) : val (xs.drop j) = val xs / 4294967296 ^ j := by
  by_cases hj : j ≤ xs.length
  · have h1 := val_split xs j hj
    have h2 := val_lt (fit_take h j)
    rw [List.length_take, Nat.min_eq_left hj] at h2
    rw [h1, Nat.add_mul_div_left _ _ (Nat.pow_pos (by omega)), Nat.div_eq_of_lt h2, Nat.zero_add]
  · rw [List.drop_of_length_le (by omega), Nat.div_eq_of_lt (Nat.lt_of_lt_of_le (val_lt h) (Nat.pow_le_pow_right (by omega) (by omega)))]
    rfl

theorem getD_zero_of_lt {xs : List Nat} {k : Nat} (h : val xs < 4294967296 ^ k) {i : Nat} (hi : k ≤ i) : xs.getD i 0 = 0 := by
  by_cases hl : i < xs.length
  · refine Classical.byContradiction fun hne => ?_
    have h1 := val_split xs i (by omega)
    have h2 := val_drop xs i hl
    have h3 : 4294967296 ^ k ≤ 4294967296 ^ i := Nat.pow_le_pow_right (by omega) hi
    have h4 : 4294967296 ^ i * 1 ≤ 4294967296 ^ i * val (xs.drop i) := Nat.mul_le_mul_left _ (by omega)
    omega
  · exact getD_out (by omega)

theorem val_lt_of_drop {xs : List Nat} (hf : Fit xs) {J n : Nat} (h : val (xs.drop J) < 4294967296 ^ n) : val xs < 4294967296 ^ (J + n) := by
  rw [val_drop_div hf] at h
  have := Nat.lt_mul_of_div_lt h (Nat.pow_pos (by omega))
  rw [Nat.pow_add, Nat.mul_comm]
  exact this

theorem val_lt_of_zero {xs : List Nat} (hf : Fit xs) {k : Nat} (h : ∀ i, k ≤ i → xs.getD i 0 = 0) : val xs < 4294967296 ^ k := by
  by_cases hk : k ≤ xs.length
  · have h1 := val_split xs k hk
    have h2 := val_lt (fit_take hf k)
    rw [List.length_take, Nat.min_eq_left hk] at h2
    have h3 : val (xs.drop k) = 0 := val_zeros fun x hx => by
      obtain ⟨i, hi, rfl⟩ := List.getElem_of_mem hx
      have := h (k + i) (by omega)
      rw [← getD_drop0, List.getD_eq_getElem?_getD, List.getElem?_eq_getElem hi] at this
      simpa using this
    rw [h3, Nat.mul_zero] at h1
    omega
  · exact Nat.lt_of_lt_of_le (val_lt hf) (Nat.pow_le_pow_right (by omega) (by omega))

/-- The two highest limbs. -/
theorem val_two {xs : List Nat} {n : Nat} (hn : 2 ≤ n) (hl : xs.length = n) : val xs = (xs.getD (n - 1) 0 * 4294967296 + xs.getD (n - 2) 0) * 4294967296 ^ (n - 2) + val (xs.take (n - 2)) := by
  obtain ⟨k, rfl⟩ : ∃ k, n = k + 2 := ⟨n - 2, by omega⟩
  have h1 : val xs = val (xs.take (k + 1 + 1)) := (val_take_all (by omega)).symm
  rw [h1, val_take_getD, val_take_getD]
  simp only [Nat.add_sub_cancel, show k + 2 - 1 = k + 1 by omega, Nat.pow_succ]
  generalize 4294967296 ^ k = p
  generalize (4294967296 : Nat) = B
  grind

theorem three_aux (B p q0 a b c v3 v2 v1 P1 P2 : Nat) (e1 : P1 = p * B) (e2 : P2 = P1 * B) (h1 : v3 = v2 + P2 * a) (h2 : v2 = v1 + P1 * b) (h3 : v1 = q0 + p * c) : v3 = ((a * B + b) * B + c) * p + q0 := by
  subst e2 e1 h1 h2 h3
  grind

theorem val_cut {ys : List Nat} {m : Nat} (hz : ∀ i, m ≤ i → ys.getD i 0 = 0) : val ys = val (ys.take m) := by
  by_cases hl : m ≤ ys.length
  · have h1 := val_split ys m hl
    have h3 : val (ys.drop m) = 0 := val_zeros fun x hx => by
      obtain ⟨i, hi, rfl⟩ := List.getElem_of_mem hx
      have := hz (m + i) (by omega)
      rw [← getD_drop0, List.getD_eq_getElem?_getD, List.getElem?_eq_getElem hi] at this
      simpa using this
    rw [h3, Nat.mul_zero, Nat.add_zero] at h1
    exact h1
  · exact (val_take_all (by omega)).symm

/-- The three highest limbs of what is left, from j on. -/
theorem val_three {xs : List Nat} {j n : Nat} (hn : 2 ≤ n) (hz : ∀ i, j + n < i → xs.getD i 0 = 0) (hf : Fit xs) :
    ∃ w, val (xs.drop j) = ((xs.getD (j + n) 0 * 4294967296 + xs.getD (j + n - 1) 0) * 4294967296 + xs.getD (j + n - 2) 0) * 4294967296 ^ (n - 2) + w ∧ w < 4294967296 ^ (n - 2) := by
  obtain ⟨k, rfl⟩ : ∃ k, n = k + 2 := ⟨n - 2, by omega⟩
  rw [Nat.add_sub_cancel, show j + (k + 2) - 1 = j + (k + 1) by omega, show j + (k + 2) - 2 = j + k by omega]
  refine ⟨val ((xs.drop j).take k), ?_, ?_⟩
  · have h0 : val (xs.drop j) = val ((xs.drop j).take (k + 3)) := val_cut fun i hi => by rw [getD_drop0]; exact hz _ (by omega)
    have h1 := val_take_getD (xs.drop j) (k + 2)
    have h2 := val_take_getD (xs.drop j) (k + 1)
    have h3 := val_take_getD (xs.drop j) k
    rw [getD_drop0] at h1 h2 h3
    exact h0.trans (three_aux _ _ _ _ _ _ _ _ _ _ _ (Nat.pow_succ _ _) (Nat.pow_succ _ _) h1 h2 h3)
  · have := val_lt (fit_take (fit_drop hf j) k)
    refine Nat.lt_of_lt_of_le this (Nat.pow_le_pow_right (by decide) ?_)
    simp [List.length_take]; omega

section est
variable {V W P v1 v2 vr top u3 wr x rest : Nat}

theorem est_init (hV : V = (v1 * 4294967296 + v2) * P + vr) (hW : W = (top * 4294967296 + u3) * P + wr) (hu : u3 < 4294967296) (hw : wr < P) (h1 : 0 < v1) : W < (top / v1 + 1) * V := by
  have h2 : top < v1 * (top / v1 + 1) := Nat.lt_mul_div_succ top h1
  have h3 : (top + 1) * 4294967296 ≤ v1 * (top / v1 + 1) * 4294967296 := Nat.mul_le_mul_right _ h2
  have h4 : (top * 4294967296 + u3 + 1) * P ≤ v1 * (top / v1 + 1) * 4294967296 * P := Nat.mul_le_mul_right _ (by omega)
  have h5 : (top / v1 + 1) * V = v1 * (top / v1 + 1) * 4294967296 * P + (top / v1 + 1) * (v2 * P + vr) := by rw [hV]; generalize (4294967296 : Nat) = B; grind
  have h6 : (top * 4294967296 + u3 + 1) * P = (top * 4294967296 + u3) * P + P := by generalize (4294967296 : Nat) = B; grind
  omega

theorem est_dec (hV : V = (v1 * 4294967296 + v2) * P + vr) (hW : W = (top * 4294967296 + u3) * P + wr) (hw : wr < P) (ht : x * v1 + rest = top) (hb : rest * 4294967296 + u3 < x * v2) : W < x * V := by
  have h1 : (rest * 4294967296 + u3 + 1) * P ≤ x * v2 * P := Nat.mul_le_mul_right _ hb
  have h2 : x * V = x * v1 * 4294967296 * P + x * v2 * P + x * vr := by rw [hV]; generalize (4294967296 : Nat) = B; grind
  have h3 : (top * 4294967296 + u3) * P = x * v1 * 4294967296 * P + (rest * 4294967296 + u3) * P := by rw [← ht]; generalize (4294967296 : Nat) = B; grind
  have h4 : (rest * 4294967296 + u3 + 1) * P = (rest * 4294967296 + u3) * P + P := by generalize (4294967296 : Nat) = B; grind
  omega

theorem est_exit (hV : V = (v1 * 4294967296 + v2) * P + vr) (hW : W = (top * 4294967296 + u3) * P + wr) (hr : vr < P) (h1 : 0 < v1) (ht : x * v1 + rest = top) (hx : x < 4294967296) (hb : x * v2 ≤ rest * 4294967296 + u3) : x * V < W + V := by
  have h2 : x * v2 * P ≤ (rest * 4294967296 + u3) * P := Nat.mul_le_mul_right _ hb
  have h3 : x * V = x * v1 * 4294967296 * P + x * v2 * P + x * vr := by rw [hV]; generalize (4294967296 : Nat) = B; grind
  have h4 : (top * 4294967296 + u3) * P = x * v1 * 4294967296 * P + (rest * 4294967296 + u3) * P := by rw [← ht]; generalize (4294967296 : Nat) = B; grind
  have hP : 0 < P := by omega
  have h5 : x * vr < 4294967296 * P := by
    have := Nat.mul_le_mul (show x ≤ 4294967295 by omega) (show vr ≤ P by omega)
    omega
  have h6 : 1 * (4294967296 * P) ≤ v1 * (4294967296 * P) := Nat.mul_le_mul_right _ h1
  have h7 : V = v1 * (4294967296 * P) + (v2 * P + vr) := by rw [hV]; generalize (4294967296 : Nat) = B; grind
  omega

theorem est_top (hV : V = (v1 * 4294967296 + v2) * P + vr) (hW : W = (top * 4294967296 + u3) * P + wr) (hr : vr < P) (h2 : v2 < 4294967296) (hWV : W < 4294967296 * V) : top ≤ v1 * 4294967296 + 4294967295 := by
  refine Classical.byContradiction fun hc => ?_
  have h3 : (v1 * 4294967296 + 4294967296) * (4294967296 * P) ≤ top * (4294967296 * P) := Nat.mul_le_mul_right _ (by omega)
  have h4 : (v1 * 4294967296 + v2 + 1) * P ≤ (v1 * 4294967296 + 4294967296) * P := Nat.mul_le_mul_right _ (by omega)
  have h5 : (top * 4294967296 + u3) * P = top * (4294967296 * P) + u3 * P := by generalize (4294967296 : Nat) = B; grind
  have h6 : (v1 * 4294967296 + v2 + 1) * P = (v1 * 4294967296 + v2) * P + P := by generalize (4294967296 : Nat) = B; grind
  have h7 : (v1 * 4294967296 + 4294967296) * (4294967296 * P) = 4294967296 * ((v1 * 4294967296 + 4294967296) * P) := by generalize (4294967296 : Nat) = B; grind
  omega

theorem est_break (hV : V = (v1 * 4294967296 + v2) * P + vr) (hW : W = (top * 4294967296 + u3) * P + wr) (hr : vr < P) (h2 : v2 < 4294967296) (ht : x * v1 + rest = top) (hre : 4294967296 ≤ rest) (htop : top ≤ v1 * 4294967296 + 4294967295) (h1 : 0 < v1) : x < 4294967296 ∧ x * V ≤ W := by
  have hx : x < 4294967296 := by
    refine Classical.byContradiction fun hc => ?_
    have : 4294967296 * v1 ≤ x * v1 := Nat.mul_le_mul_right _ (by omega)
    omega
  refine ⟨hx, ?_⟩
  have h3 : x * V = x * v1 * 4294967296 * P + x * (v2 * P + vr) := by rw [hV]; generalize (4294967296 : Nat) = B; grind
  have h4 : (top * 4294967296 + u3) * P = x * v1 * 4294967296 * P + (rest * 4294967296) * P + u3 * P := by rw [← ht]; generalize (4294967296 : Nat) = B; grind
  have h5 : v2 * P + vr ≤ 4294967296 * P := by
    have := Nat.mul_le_mul_right P (show v2 + 1 ≤ 4294967296 by omega)
    generalize (4294967296 : Nat) = B at *
    grind
  have h6 : x * (v2 * P + vr) ≤ 4294967296 * (4294967296 * P) := Nat.mul_le_mul (by omega) h5
  have h7 : 4294967296 * 4294967296 * P ≤ rest * 4294967296 * P := Nat.mul_le_mul_right _ (Nat.mul_le_mul_right _ hre)
  have h8 : 4294967296 * (4294967296 * P) = 4294967296 * 4294967296 * P := by generalize (4294967296 : Nat) = B; grind
  omega
end est

/-- What was taken off is the quotient's limb. -/
theorem round_zero {us ts : List Nat} {j x V : Nat} (hf : Fit us) (hft : Fit ts) (h : val ts + 4294967296 ^ j * (x * V) = val us) (hx : val (us.drop j) < (x + 1) * V) : val (ts.drop j) < V := by
  have hp : 0 < 4294967296 ^ j := Nat.pow_pos (by omega)
  rw [val_drop_div hf, ← h, Nat.add_mul_div_left _ _ hp, ← val_drop_div hft, Nat.add_mul] at hx
  omega

/-- One too many was taken off, and is laid back. -/
theorem round_one {us ts rs : List Nat} {j n x V b o : Nat} (hf : Fit us) (hfr : Fit rs) (ht : val ts < 4294967296 ^ (j + n + 1)) (hr : val rs < 4294967296 ^ (j + n + 1)) (hb : b = 1) (h : val ts + 4294967296 ^ j * (x * V) = val us + 4294967296 ^ (j + n + 1) * b)
    (hx : x * V < val (us.drop j) + V) (ho : val rs + 4294967296 ^ (j + n + 1) * o = val ts + 4294967296 ^ j * V) (ho1 : o ≤ 1) : 0 < x ∧ val rs + 4294967296 ^ j * ((x - 1) * V) = val us ∧ val (rs.drop j) < V := by
  subst hb
  have hp : 0 < 4294967296 ^ j := Nat.pow_pos (by omega)
  have h1 : val us < 4294967296 ^ j * (x * V) := by omega
  have hW : val (us.drop j) < x * V := by
    rw [val_drop_div hf]
    exact Nat.div_lt_of_lt_mul h1
  have hx0 : 0 < x := Nat.pos_of_ne_zero fun h0 => by rw [h0, Nat.zero_mul] at hW; omega
  obtain ⟨y, rfl⟩ : ∃ y, x = y + 1 := ⟨x - 1, by omega⟩
  rw [Nat.add_sub_cancel]
  have e1 : (y + 1) * V = y * V + V := by rw [Nat.add_mul, Nat.one_mul]
  have e2 : 4294967296 ^ j * ((y + 1) * V) = 4294967296 ^ j * (y * V) + 4294967296 ^ j * V := by rw [e1, Nat.mul_add]
  have h2 : 4294967296 ^ j * (y * V) ≤ val us := by
    have h3 : 4294967296 ^ j * (y * V) ≤ 4294967296 ^ j * val (us.drop j) := Nat.mul_le_mul_left _ (by omega)
    have h4 : 4294967296 ^ j * val (us.drop j) ≤ val us := by rw [val_drop_div hf]; exact Nat.mul_div_le _ _
    omega
  have ho2 : o = 1 := by
    rcases Nat.eq_zero_or_pos o with h0 | h0
    · subst h0; omega
    · omega
  subst ho2
  have h5 : val rs + 4294967296 ^ j * (y * V) = val us := by omega
  exact ⟨by omega, h5, round_zero hf hfr h5 (by omega)⟩

/-- A divisor that is raised begins with a bit that is set. -/
theorem norm_limbs {Y k s : Nat} (hY : Y ≠ 0) (hk : k + 1 = (limbs Y).length) (hs : s = 32 - bitsN ((limbs Y).getD k 0)) : s < 32 ∧ (limbs (Y * 2 ^ s)).length = k + 1 ∧ 2147483648 ≤ (limbs (Y * 2 ^ s)).getD k 0 := by
  have hf := fit_limbs Y
  have htop : (limbs Y).getD k 0 ≠ 0 := by
    have := limbs_top_ne (n := Y) (by omega)
    rwa [show (limbs Y).length - 1 = k by omega] at this
  have hb := bitsN_top hf hk htop
  rw [val_limbs] at hb
  have hb1 := bitsN_pos htop
  have hb2 := bitsN_le (n := (limbs Y).getD k 0) (k := 32) (fit_get hf k)
  have hlo := pow_le_bitsN hY
  have hhi := lt_pow_bitsN Y
  have e1 : (4294967296 : Nat) ^ k * 2147483648 = 2 ^ (32 * k + 31) := by rw [Nat.pow_add, Nat.pow_mul]
  have e2 : (4294967296 : Nat) ^ (k + 1) = 2 ^ (32 * k + 32) := by rw [Nat.pow_succ, Nat.pow_add, Nat.pow_mul]
  have hlo2 : 4294967296 ^ k * 2147483648 ≤ Y * 2 ^ s := by
    rw [e1, show 32 * k + 31 = (bitsN Y - 1) + s by omega, Nat.pow_add]
    exact Nat.mul_le_mul_right _ hlo
  have hhi2 : Y * 2 ^ s < 4294967296 ^ (k + 1) := by
    rw [e2, show 32 * k + 32 = bitsN Y + s by omega, Nat.pow_add]
    exact Nat.mul_lt_mul_of_pos_right hhi (Nat.pow_pos (by omega))
  have hl1 := limbs_len_of_lt hhi2
  have hf2 := fit_limbs (Y * 2 ^ s)
  have hl : (limbs (Y * 2 ^ s)).length = k + 1 := by
    refine Nat.le_antisymm hl1 (Classical.byContradiction fun hc => ?_)
    have h1 := val_lt hf2
    rw [val_limbs] at h1
    have h2 : (4294967296 : Nat) ^ (limbs (Y * 2 ^ s)).length ≤ 4294967296 ^ k := Nat.pow_le_pow_right (by omega) (by omega)
    omega
  refine ⟨by omega, hl, Classical.byContradiction fun hc => ?_⟩
  have h1 := val_take_getD (limbs (Y * 2 ^ s)) k
  rw [val_take_all (by omega), val_limbs] at h1
  have h2 := val_lt (fit_take hf2 k)
  rw [List.length_take, Nat.min_eq_left (by omega)] at h2
  have h3 : 4294967296 ^ k * ((limbs (Y * 2 ^ s)).getD k 0 + 1) ≤ 4294967296 ^ k * 2147483648 := Nat.mul_le_mul_left _ (by omega)
  rw [Nat.mul_add, Nat.mul_one] at h3
  omega

theorem and_mask (c : Nat) : c &&& 4294967295 = c % 4294967296 := Nat.and_two_pow_sub_one_eq_mod c 32

/-- The first of what is left is less than the divisor. -/
theorem div_start {X Y la k s : Nat} {us : List Nat} (hf : Fit us) (hX : X < 4294967296 ^ la) (hus : val us = X * 2 ^ s) (hk : k ≤ la) (hY : 4294967296 ^ k ≤ Y) : val (us.drop (la - k)) < Y * 2 ^ s := by
  rw [val_drop_div hf, hus]
  refine Nat.div_lt_of_lt_mul ?_
  rw [← Nat.mul_assoc]
  refine Nat.mul_lt_mul_of_pos_right (Nat.lt_of_lt_of_le hX ?_) (Nat.pow_pos (by omega))
  rw [show la = (la - k) + k by omega, Nat.pow_add, show la - k + k - k = la - k by omega]
  exact Nat.mul_le_mul_left _ hY

theorem div_end {X Y s u q : Nat} (hY : 0 < Y) (h : u + q * (Y * 2 ^ s) = X * 2 ^ s) (hu : u < Y * 2 ^ s) : q = X / Y ∧ u / 2 ^ s = X % Y := by
  have hp : 0 < 2 ^ s := Nat.pow_pos (by omega)
  have h1 : u = (X - q * Y) * 2 ^ s := by rw [Nat.sub_mul]; have : q * Y * 2 ^ s = q * (Y * 2 ^ s) := by rw [Nat.mul_assoc]
                                          omega
  have h2 : q * Y ≤ X := by
    refine Nat.le_of_mul_le_mul_right (c := 2 ^ s) ?_ hp
    rw [Nat.mul_assoc]; omega
  have h3 : X - q * Y < Y := by
    refine Nat.lt_of_mul_lt_mul_right (a := 2 ^ s) ?_
    omega
  have h4 : X = q * Y + (X - q * Y) := by omega
  refine ⟨?_, ?_⟩
  · generalize X - q * Y = r at *
    rw [h4, Nat.mul_comm q Y, Nat.mul_add_div hY, Nat.div_eq_of_lt h3]; omega
  · rw [h1, Nat.mul_div_cancel _ hp]
    generalize X - q * Y = r at *
    rw [h4, Nat.mul_comm q Y, Nat.mul_add_mod, Nat.mod_eq_of_lt h3]

theorem est_pred {x v r t : Nat} (h : x * v + r = t) (hx : 1 ≤ x) : (x - 1) * v + (r + v) = t := by
  obtain ⟨y, rfl⟩ : ∃ y, x = y + 1 := ⟨x - 1, by omega⟩
  rw [Nat.add_mul, Nat.one_mul] at h
  rw [Nat.add_sub_cancel]
  omega
theorem est_le {x v r t : Nat} (h : x * v + r = t) (ht : t ≤ v * 4294967296 + 4294967295) (hv : 2147483648 ≤ v) : x ≤ 4294967297 := by
  refine Classical.byContradiction fun hc => ?_
  have := Nat.mul_le_mul_right v (show 4294967298 ≤ x by omega)
  omega
theorem ms_step {B p q vt vt' vu x yT Y X y' c b c' b' l : Nat} (h : vt + p * (x * yT) = vu + p * q * (c + b)) (h1 : vt' + p * q * X = vt + p * q * y') (e1 : y' + l + b = X + B * b') (e2 : B * c' + l = c + x * Y) : vt' + p * (x * (yT + q * Y)) = vu + p * q * B * (c' + b') := by grind
theorem ms_end {B p q vt vt' vu xV X y' c b b' : Nat} (h : vt + p * xV = vu + p * q * (c + b)) (h1 : vt' + p * q * X = vt + p * q * y') (e1 : y' + c + b = X + B * b') : vt' + p * xV = vu + p * q * B * b' := by grind
theorem ab_step {B p q vt vt' vu yT Y X y' c c' : Nat} (h : vt + p * q * c = vu + p * yT) (h1 : vt' + p * q * X = vt + p * q * y') (e : B * c' + y' = c + (X + Y)) : vt' + p * q * B * c' = vu + p * (yT + q * Y) := by grind
theorem ab_end {B p q vt vt' vu V X y' c c' : Nat} (h : vt + p * q * c = vu + p * V) (h1 : vt' + p * q * X = vt + p * q * y') (e : B * c' + y' = X + c) : vt' + p * q * B * c' = vu + p * V := by grind
theorem q_step {B p vu vr vq x V U : Nat} (h : vu + p * B * (vq * V) = U) (h2 : vr + p * (x * V) = vu) : vr + p * ((x + B * vq) * V) = U := by grind
theorem val_one {xs : List Nat} (h : xs.length = 1) : val xs = xs.getD 0 0 := by
  match xs, h with
  | [x], _ => simp [val]

/-! ### Shifting down in place -/

/-- A limb of the number that is shifted down. -/
def shrD (s : Nat) (xs : List Nat) (i : Nat) : Nat := val (xs.drop i) / 2 ^ s % 4294967296
/-- The first i limbs are done. -/
def shrM (s : Nat) (xs : List Nat) (i : Nat) : List Nat := (List.range i).map (shrD s xs) ++ xs.drop i

theorem shrM_zero (s : Nat) (xs : List Nat) : shrM s xs 0 = xs := by simp [shrM]
theorem shrM_len {s : Nat} {xs : List Nat} {i : Nat} (h : i ≤ xs.length) : (shrM s xs i).length = xs.length := by simp [shrM]; omega
theorem shrM_get {s : Nat} {xs : List Nat} {i k : Nat} (h : i ≤ k) : (shrM s xs i).getD k 0 = xs.getD k 0 := by
  rw [List.getD_eq_getElem?_getD, shrM, List.getElem?_append_right (by simpa using h), List.length_map, List.length_range, List.getElem?_drop, ← List.getD_eq_getElem?_getD, show i + (k - i) = k by omega]
theorem shrM_set {s : Nat} {xs : List Nat} {i : Nat} (h : i < xs.length) : (shrM s xs i).set i (shrD s xs i) = shrM s xs (i + 1) := by
  rw [shrM, shrM, List.set_append_right _ _ (by simp), List.length_map, List.length_range, Nat.sub_self, drop_eq_cons xs i h, List.range_succ]
  simp
theorem shrD_lt (s : Nat) (xs : List Nat) (i : Nat) : shrD s xs i < 4294967296 := Nat.mod_lt _ (by omega)
theorem fit_shrM {s : Nat} {xs : List Nat} {i : Nat} (h : Fit xs) : Fit (shrM s xs i) := fit_append (fun x hx => by obtain ⟨k, _, rfl⟩ := List.mem_map.1 hx; exact shrD_lt s xs k) (fit_drop h i)

theorem val_shrM_take {s : Nat} {xs : List Nat} (hf : Fit xs) (i : Nat) : val ((List.range i).map (shrD s xs)) = val xs / 2 ^ s % 4294967296 ^ i := by
  induction i with
  | zero => simp [val, Nat.mod_one]
  | succ i ih =>
    rw [List.range_succ, List.map_append, List.map_singleton, val_snoc, ih, List.length_map, List.length_range, Nat.pow_succ, Nat.mod_mul, shrD, val_drop_div hf, Nat.div_div_eq_div_mul, Nat.div_div_eq_div_mul, Nat.mul_comm (2 ^ s)]
theorem val_shrM {s : Nat} {xs : List Nat} (hf : Fit xs) : val (shrM s xs xs.length) = val xs / 2 ^ s := by
  rw [shrM, List.drop_of_length_le (Nat.le_refl _), List.append_nil, val_shrM_take hf]
  exact Nat.mod_eq_of_lt (Nat.lt_of_le_of_lt (Nat.div_le_self _ _) (val_lt hf))

theorem shrD_zero {xs : List Nat} {i : Nat} (hf : Fit xs) (h : i < xs.length) : shrD 0 xs i = xs.getD i 0 := by
  have := fit_get hf i
  rw [shrD, val_drop xs i h, Nat.pow_zero, Nat.div_one]
  omega
theorem shrD_last {s : Nat} {xs : List Nat} {i : Nat} (hf : Fit xs) (h : i + 1 = xs.length) : shrD s xs i = xs.getD i 0 / 2 ^ s := by
  have h1 := fit_get hf i
  rw [shrD, val_drop xs i (by omega), List.drop_of_length_le (by omega)]
  show (xs.getD i 0 + 4294967296 * 0) / 2 ^ s % 4294967296 = _
  rw [Nat.mul_zero, Nat.add_zero]
  exact Nat.mod_eq_of_lt (Nat.lt_of_le_of_lt (Nat.div_le_self _ _) h1)
theorem shrD_or {s : Nat} {xs : List Nat} {i : Nat} (hf : Fit xs) (hs : s ≤ 32) (h : i + 1 < xs.length) : xs.getD i 0 / 2 ^ s ||| xs.getD (i + 1) 0 * 2 ^ (32 - s) % 4294967296 = shrD s xs i := by
  have h1 := fit_get hf i
  have e : (4294967296 : Nat) = 2 ^ s * 2 ^ (32 - s) := by rw [← Nat.pow_add, show s + (32 - s) = 32 by omega]
  have hp : 0 < 2 ^ s := Nat.pow_pos (by omega)
  have h2 : xs.getD i 0 / 2 ^ s < 2 ^ (32 - s) := Nat.div_lt_of_lt_mul (by rw [← e]; exact h1)
  have h3 : xs.getD (i + 1) 0 * 2 ^ (32 - s) % 4294967296 = (xs.getD (i + 1) 0 % 2 ^ s) * 2 ^ (32 - s) := by
    conv => lhs; rw [e]
    rw [Nat.mul_mod_mul_right]
  rw [h3, or_low h2, shrD, val_drop xs i (by omega), val_drop xs (i + 1) h]
  generalize xs.getD i 0 = a at *
  generalize xs.getD (i + 1) 0 = b at *
  generalize val (List.drop (i + 1 + 1) xs) = c at *
  have h4 : (a + 4294967296 * (b + 4294967296 * c)) / 2 ^ s = a / 2 ^ s + 2 ^ (32 - s) * (b + 4294967296 * c) := by
    conv => lhs; rw [show a + 4294967296 * (b + 4294967296 * c) = a + 2 ^ s * (2 ^ (32 - s) * (b + 4294967296 * c)) by rw [← Nat.mul_assoc, ← e]]
    rw [Nat.add_mul_div_left _ _ hp]
  have h5 : 2 ^ (32 - s) * (b + 4294967296 * c) = 2 ^ (32 - s) * (b % 2 ^ s) + 4294967296 * (b / 2 ^ s + 2 ^ (32 - s) * c) := by
    have h6 := Nat.div_add_mod b (2 ^ s)
    conv => lhs; rw [← h6]
    generalize b / 2 ^ s = p at *
    generalize b % 2 ^ s = r at *
    rw [e]
    generalize 2 ^ s = u
    generalize 2 ^ (32 - s) = v
    grind
  have h7 : a / 2 ^ s + 2 ^ (32 - s) * (b % 2 ^ s) < 4294967296 := by
    have h8 : b % 2 ^ s < 2 ^ s := Nat.mod_lt _ hp
    have h9 : 2 ^ (32 - s) * (b % 2 ^ s + 1) ≤ 2 ^ (32 - s) * 2 ^ s := Nat.mul_le_mul_left _ h8
    rw [Nat.mul_comm (2 ^ (32 - s)) (2 ^ s), ← e] at h9
    rw [Nat.mul_add] at h9
    omega
  rw [h4, h5, ← Nat.add_assoc, Nat.add_mul_mod_self_left, Nat.mod_eq_of_lt h7, Nat.mul_comm]
  omega
end Bk
