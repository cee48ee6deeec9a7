/- Texts that the proof needs, part 2. -/
import Derived.Test.YtghhjjmjpeehdaaGreatK1
import Derived.Deep.MidRow
namespace Bk
set_option linter.unusedVariables false
set_option linter.unusedSimpArgs false
theorem getD_drop0 (xs : List Nat) (j k : Nat) : (xs.drop j).getD k 0 = xs.getD (j + k) 0 := by
  rw [List.getD_eq_getElem?_getD, List.getElem?_drop, ← List.getD_eq_getElem?_getD]
theorem jL {xs : List Nat} (h : Fit xs) (j : Nat) : val (xs.drop j) = val xs / 4294967296 ^ j := by
  by_cases hj : j ≤ xs.length
  · have h1 := kR xs j hj
    have h2 := jV (kU h j)
    rw [List.length_take, Nat.min_eq_left hj] at h2
    rw [h1, Nat.add_mul_div_left _ _ (Nat.pow_pos (by omega)), Nat.div_eq_of_lt h2, Nat.zero_add]
  · rw [List.drop_of_length_le (by omega), Nat.div_eq_of_lt (Nat.lt_of_lt_of_le (jV h) (Nat.pow_le_pow_right (by omega) (by omega)))]
    rfl
theorem getD_zero_of_lt {xs : List Nat} {k : Nat} (h : val xs < 4294967296 ^ k) {i : Nat} (hi : k ≤ i) : xs.getD i 0 = 0 := by
  by_cases hl : i < xs.length
  · refine Classical.byContradiction fun hne => ?_
    have h1 := kR xs i (by omega)
    have h2 := jB xs i hl
    have h3 : 4294967296 ^ k ≤ 4294967296 ^ i := Nat.pow_le_pow_right (by omega) hi
    have h4 : 4294967296 ^ i * 1 ≤ 4294967296 ^ i * val (xs.drop i) := Nat.mul_le_mul_left _ (by omega)
    omega
  · exact getD_out (by omega)
theorem val_lt_of_drop {xs : List Nat} (hf : Fit xs) {J n : Nat} (h : val (xs.drop J) < 4294967296 ^ n) : val xs < 4294967296 ^ (J + n) := by
  rw [jL hf] at h
  have := Nat.lt_mul_of_div_lt h (Nat.pow_pos (by omega))
  rw [Nat.pow_add, Nat.mul_comm]
  exact this
theorem val_lt_of_zero {xs : List Nat} (hf : Fit xs) {k : Nat} (h : ∀ i, k ≤ i → xs.getD i 0 = 0) : val xs < 4294967296 ^ k := by
  by_cases hk : k ≤ xs.length
  · have h1 := kR xs k hk
    have h2 := jV (kU hf k)
    rw [List.length_take, Nat.min_eq_left hk] at h2
    have h3 : val (xs.drop k) = 0 := val_zeros fun x hx => by
      obtain ⟨i, hi, rfl⟩ := List.getElem_of_mem hx
      have := h (k + i) (by omega)
      rw [← getD_drop0, List.getD_eq_getElem?_getD, List.getElem?_eq_getElem hi] at this
      simpa using this
    rw [h3, Nat.mul_zero] at h1
    omega
  · exact Nat.lt_of_lt_of_le (jV hf) (Nat.pow_le_pow_right (by omega) (by omega))
theorem val_two {xs : List Nat} {n : Nat} (hn : 2 ≤ n) (hl : xs.length = n) : val xs = (xs.getD (n - 1) 0 * 4294967296 + xs.getD (n - 2) 0) * 4294967296 ^ (n - 2) + val (xs.take (n - 2)) := by
  obtain ⟨k, rfl⟩ : ∃ k, n = k + 2 := ⟨n - 2, by omega⟩
  have h1 : val xs = val (xs.take (k + 1 + 1)) := (wU (by omega)).symm
  rw [h1, uA, uA]
  simp only [Nat.add_sub_cancel, show k + 2 - 1 = k + 1 by omega, Nat.pow_succ]
  generalize 4294967296 ^ k = p
  generalize (4294967296 : Nat) = B
  grind
theorem three_aux (B p q0 a b c v3 v2 v1 P1 P2 : Nat) (e1 : P1 = p * B) (e2 : P2 = P1 * B) (h1 : v3 = v2 + P2 * a) (h2 : v2 = v1 + P1 * b) (h3 : v1 = q0 + p * c) : v3 = ((a * B + b) * B + c) * p + q0 := by
  subst e2 e1 h1 h2 h3
  grind
theorem val_cut {ys : List Nat} {m : Nat} (hz : ∀ i, m ≤ i → ys.getD i 0 = 0) : val ys = val (ys.take m) := by
  by_cases hl : m ≤ ys.length
  · have h1 := kR ys m hl
    have h3 : val (ys.drop m) = 0 := val_zeros fun x hx => by
      obtain ⟨i, hi, rfl⟩ := List.getElem_of_mem hx
      have := hz (m + i) (by omega)
      rw [← getD_drop0, List.getD_eq_getElem?_getD, List.getElem?_eq_getElem hi] at this
      simpa using this
    rw [h3, Nat.mul_zero, Nat.add_zero] at h1
    exact h1
  · exact (wU (by omega)).symm
theorem val_three {xs : List Nat} {j n : Nat} (hn : 2 ≤ n) (hz : ∀ i, j + n < i → xs.getD i 0 = 0) (hf : Fit xs) :
    ∃ w, val (xs.drop j) = ((xs.getD (j + n) 0 * 4294967296 + xs.getD (j + n - 1) 0) * 4294967296 + xs.getD (j + n - 2) 0) * 4294967296 ^ (n - 2) + w ∧ w < 4294967296 ^ (n - 2) := by
  obtain ⟨k, rfl⟩ : ∃ k, n = k + 2 := ⟨n - 2, by omega⟩
  rw [Nat.add_sub_cancel, show j + (k + 2) - 1 = j + (k + 1) by omega, show j + (k + 2) - 2 = j + k by omega]
  refine ⟨val ((xs.drop j).take k), ?_, ?_⟩
  · have h0 : val (xs.drop j) = val ((xs.drop j).take (k + 3)) := val_cut fun i hi => by rw [getD_drop0]; exact hz _ (by omega)
    have h1 := uA (xs.drop j) (k + 2)
    have h2 := uA (xs.drop j) (k + 1)
    have h3 := uA (xs.drop j) k
    rw [getD_drop0] at h1 h2 h3
    exact h0.trans (three_aux _ _ _ _ _ _ _ _ _ _ _ (Nat.pow_succ _ _) (Nat.pow_succ _ _) h1 h2 h3)
  · have := jV (kU (fit_drop hf j) k)
    refine Nat.lt_of_lt_of_le this (Nat.pow_le_pow_right (by decide) ?_)
    simp [List.length_take]; omega
section est
variable {V W P v1 v2 vr top u3 wr x rest : Nat}
theorem est_init (hV : V = (v1 * 4294967296 + v2) * P + vr) (hW : W = (top * 4294967296 + u3) * P + wr) (hu : u3 < 4294967296) (hw : wr < P) (h1 : 0 < v1) : W < (top / v1 + 1) * V := by
  have h2 : top < v1 * (top / v1 + 1) := Nat.lt_mul_div_succ top h1
  have h3 : (top + 1) * 4294967296 ≤ v1 * (top / v1 + 1) * 4294967296 := Nat.mul_le_mul_right _ h2
  have h4 : (top * 4294967296 + u3 + 1) * P ≤ v1 * (top / v1 + 1) * 4294967296 * P := Nat.mul_le_mul_right _ (by omega)
  have h5 : (top / v1 + 1) * V = v1 * (top / v1 + 1) * 4294967296 * P + (top / v1 + 1) * (v2 * P + vr) := by rw [hV]; generalize (4294967296 : Nat) = B; grind
  have h6 : (top * 4294967296 + u3 + 1) * P = (top * 4294967296 + u3) * P + P := by generalize (4294967296 : Nat) = B; grind
  omega
theorem est_dec (hV : V = (v1 * 4294967296 + v2) * P + vr) (hW : W = (top * 4294967296 + u3) * P + wr) (hw : wr < P) (ht : x * v1 + rest = top) (hb : rest * 4294967296 + u3 < x * v2) : W < x * V := by
  have h1 : (rest * 4294967296 + u3 + 1) * P ≤ x * v2 * P := Nat.mul_le_mul_right _ hb
  have h2 : x * V = x * v1 * 4294967296 * P + x * v2 * P + x * vr := by rw [hV]; generalize (4294967296 : Nat) = B; grind
  have h3 : (top * 4294967296 + u3) * P = x * v1 * 4294967296 * P + (rest * 4294967296 + u3) * P := by rw [← ht]; generalize (4294967296 : Nat) = B; grind
  have h4 : (rest * 4294967296 + u3 + 1) * P = (rest * 4294967296 + u3) * P + P := by generalize (4294967296 : Nat) = B; grind
  omega
theorem est_exit (hV : V = (v1 * 4294967296 + v2) * P + vr) (hW : W = (top * 4294967296 + u3) * P + wr) (hr : vr < P) (h1 : 0 < v1) (ht : x * v1 + rest = top) (hx : x < 4294967296) (hb : x * v2 ≤ rest * 4294967296 + u3) : x * V < W + V := by
  have h2 : x * v2 * P ≤ (rest * 4294967296 + u3) * P := Nat.mul_le_mul_right _ hb
  have h3 : x * V = x * v1 * 4294967296 * P + x * v2 * P + x * vr := by rw [hV]; generalize (4294967296 : Nat) = B; grind
  have h4 : (top * 4294967296 + u3) * P = x * v1 * 4294967296 * P + (rest * 4294967296 + u3) * P := by rw [← ht]; generalize (4294967296 : Nat) = B; grind
  have hP : 0 < P := by omega
  have h5 : x * vr < 4294967296 * P := by
    have := Nat.mul_le_mul (show x ≤ 4294967295 by omega) (show vr ≤ P by omega)
    omega
  have h6 : 1 * (4294967296 * P) ≤ v1 * (4294967296 * P) := Nat.mul_le_mul_right _ h1
  have h7 : V = v1 * (4294967296 * P) + (v2 * P + vr) := by rw [hV]; generalize (4294967296 : Nat) = B; grind
  omega
theorem est_top (hV : V = (v1 * 4294967296 + v2) * P + vr) (hW : W = (top * 4294967296 + u3) * P + wr) (hr : vr < P) (h2 : v2 < 4294967296) (hWV : W < 4294967296 * V) : top ≤ v1 * 4294967296 + 4294967295 := by
  refine Classical.byContradiction fun hc => ?_
  have h3 : (v1 * 4294967296 + 4294967296) * (4294967296 * P) ≤ top * (4294967296 * P) := Nat.mul_le_mul_right _ (by omega)
  have h4 : (v1 * 4294967296 + v2 + 1) * P ≤ (v1 * 4294967296 + 4294967296) * P := Nat.mul_le_mul_right _ (by omega)
  have h5 : (top * 4294967296 + u3) * P = top * (4294967296 * P) + u3 * P := by generalize (4294967296 : Nat) = B; grind
  have h6 : (v1 * 4294967296 + v2 + 1) * P = (v1 * 4294967296 + v2) * P + P := by generalize (4294967296 : Nat) = B; grind
  have h7 : (v1 * 4294967296 + 4294967296) * (4294967296 * P) = 4294967296 * ((v1 * 4294967296 + 4294967296) * P) := by generalize (4294967296 : Nat) = B; grind
  omega
theorem est_break (hV : V = (v1 * 4294967296 + v2) * P + vr) (hW : W = (top * 4294967296 + u3) * P + wr) (hr : vr < P) (h2 : v2 < 4294967296) (ht : x * v1 + rest = top) (hre : 4294967296 ≤ rest) (htop : top ≤ v1 * 4294967296 + 4294967295) (h1 : 0 < v1) : x < 4294967296 ∧ x * V ≤ W := by
  have hx : x < 4294967296 := by
    refine Classical.byContradiction fun hc => ?_
    have : 4294967296 * v1 ≤ x * v1 := Nat.mul_le_mul_right _ (by omega)
    omega
  refine ⟨hx, ?_⟩
  have h3 : x * V = x * v1 * 4294967296 * P + x * (v2 * P + vr) := by rw [hV]; generalize (4294967296 : Nat) = B; grind
  have h4 : (top * 4294967296 + u3) * P = x * v1 * 4294967296 * P + (rest * 4294967296) * P + u3 * P := by rw [← ht]; generalize (4294967296 : Nat) = B; grind
  have h5 : v2 * P + vr ≤ 4294967296 * P := by
    have := Nat.mul_le_mul_right P (show v2 + 1 ≤ 4294967296 by omega)
    generalize (4294967296 : Nat) = B at *
    grind
  have h6 : x * (v2 * P + vr) ≤ 4294967296 * (4294967296 * P) := Nat.mul_le_mul (by omega) h5
  have h7 : 4294967296 * 4294967296 * P ≤ rest * 4294967296 * P := Nat.mul_le_mul_right _ (Nat.mul_le_mul_right _ hre)
  have h8 : 4294967296 * (4294967296 * P) = 4294967296 * 4294967296 * P := by generalize (4294967296 : Nat) = B; grind
  omega
end est
theorem round_zero {us ts : List Nat} {j x V : Nat} (hf : Fit us) (hft : Fit ts) (h : val ts + 4294967296 ^ j * (x * V) = val us) (hx : val (us.drop j) < (x + 1) * V) : val (ts.drop j) < V := by
  have hp : 0 < 4294967296 ^ j := Nat.pow_pos (by omega)
  rw [jL hf, ← h, Nat.add_mul_div_left _ _ hp, ← jL hft, Nat.add_mul] at hx
  omega
theorem round_one {us ts rs : List Nat} {j n x V b o : Nat} (hf : Fit us) (hfr : Fit rs) (ht : val ts < 4294967296 ^ (j + n + 1)) (hr : val rs < 4294967296 ^ (j + n + 1)) (hb : b = 1) (h : val ts + 4294967296 ^ j * (x * V) = val us + 4294967296 ^ (j + n + 1) * b)
    (hx : x * V < val (us.drop j) + V) (ho : val rs + 4294967296 ^ (j + n + 1) * o = val ts + 4294967296 ^ j * V) (ho1 : o ≤ 1) : 0 < x ∧ val rs + 4294967296 ^ j * ((x - 1) * V) = val us ∧ val (rs.drop j) < V := by
  subst hb
  have hp : 0 < 4294967296 ^ j := Nat.pow_pos (by omega)
  have h1 : val us < 4294967296 ^ j * (x * V) := by omega
  have hW : val (us.drop j) < x * V := by
    rw [jL hf]
    exact Nat.div_lt_of_lt_mul h1
  have hx0 : 0 < x := Nat.pos_of_ne_zero fun h0 => by rw [h0, Nat.zero_mul] at hW; omega
  obtain ⟨y, rfl⟩ : ∃ y, x = y + 1 := ⟨x - 1, by omega⟩
  rw [Nat.add_sub_cancel]
  have e1 : (y + 1) * V = y * V + V := by rw [Nat.add_mul, Nat.one_mul]
  have e2 : 4294967296 ^ j * ((y + 1) * V) = 4294967296 ^ j * (y * V) + 4294967296 ^ j * V := by rw [e1, Nat.mul_add]
  have h2 : 4294967296 ^ j * (y * V) ≤ val us := by
    have h3 : 4294967296 ^ j * (y * V) ≤ 4294967296 ^ j * val (us.drop j) := Nat.mul_le_mul_left _ (by omega)
    have h4 : 4294967296 ^ j * val (us.drop j) ≤ val us := by rw [jL hf]; exact Nat.mul_div_le _ _
    omega
  have ho2 : o = 1 := by
    rcases Nat.eq_zero_or_pos o with h0 | h0
    · subst h0; omega
    · omega
  subst ho2
  have h5 : val rs + 4294967296 ^ j * (y * V) = val us := by omega
  exact ⟨by omega, h5, round_zero hf hfr h5 (by omega)⟩
theorem norm_limbs {Y k s : Nat} (hY : Y ≠ 0) (hk : k + 1 = (zF Y).length) (hs : s = 32 - vZ ((zF Y).getD k 0)) : s < 32 ∧ (zF (Y * 2 ^ s)).length = k + 1 ∧ 2147483648 ≤ (zF (Y * 2 ^ s)).getD k 0 := by
  have hf := vG Y
  have htop : (zF Y).getD k 0 ≠ 0 := by
    have := limbs_top_ne (n := Y) (by omega)
    rwa [show (zF Y).length - 1 = k by omega] at this
  have hb := bitsN_top hf hk htop
  rw [zU] at hb
  have hb1 := bitsN_pos htop
  have hb2 := bitsN_le (n := (zF Y).getD k 0) (k := 32) (uY hf k)
  have hlo := pow_le_bitsN hY
  have hhi := lt_pow_bitsN Y
  have e1 : (4294967296 : Nat) ^ k * 2147483648 = 2 ^ (32 * k + 31) := by rw [Nat.pow_add, Nat.pow_mul]
  have e2 : (4294967296 : Nat) ^ (k + 1) = 2 ^ (32 * k + 32) := by rw [Nat.pow_succ, Nat.pow_add, Nat.pow_mul]
  have hlo2 : 4294967296 ^ k * 2147483648 ≤ Y * 2 ^ s := by
    rw [e1, show 32 * k + 31 = (vZ Y - 1) + s by omega, Nat.pow_add]
    exact Nat.mul_le_mul_right _ hlo
  have hhi2 : Y * 2 ^ s < 4294967296 ^ (k + 1) := by
    rw [e2, show 32 * k + 32 = vZ Y + s by omega, Nat.pow_add]
    exact Nat.mul_lt_mul_of_pos_right hhi (Nat.pow_pos (by omega))
  have hl1 := uR hhi2
  have hf2 := vG (Y * 2 ^ s)
  have hl : (zF (Y * 2 ^ s)).length = k + 1 := by
    refine Nat.le_antisymm hl1 (Classical.byContradiction fun hc => ?_)
    have h1 := jV hf2
    rw [zU] at h1
    have h2 : (4294967296 : Nat) ^ (zF (Y * 2 ^ s)).length ≤ 4294967296 ^ k := Nat.pow_le_pow_right (by omega) (by omega)
    omega
  refine ⟨by omega, hl, Classical.byContradiction fun hc => ?_⟩
  have h1 := uA (zF (Y * 2 ^ s)) k
  rw [wU (by omega), zU] at h1
  have h2 := jV (kU hf2 k)
  rw [List.length_take, Nat.min_eq_left (by omega)] at h2
  have h3 : 4294967296 ^ k * ((zF (Y * 2 ^ s)).getD k 0 + 1) ≤ 4294967296 ^ k * 2147483648 := Nat.mul_le_mul_left _ (by omega)
  rw [Nat.mul_add, Nat.mul_one] at h3
  omega
theorem and_mask (c : Nat) : c &&& 4294967295 = c % 4294967296 := Nat.and_two_pow_sub_one_eq_mod c 32
theorem div_start {X Y la k s : Nat} {us : List Nat} (hf : Fit us) (hX : X < 4294967296 ^ la) (hus : val us = X * 2 ^ s) (hk : k ≤ la) (hY : 4294967296 ^ k ≤ Y) : val (us.drop (la - k)) < Y * 2 ^ s := by
  rw [jL hf, hus]
  refine Nat.div_lt_of_lt_mul ?_
  rw [← Nat.mul_assoc]
  refine Nat.mul_lt_mul_of_pos_right (Nat.lt_of_lt_of_le hX ?_) (Nat.pow_pos (by omega))
  rw [show la = (la - k) + k by omega, Nat.pow_add, show la - k + k - k = la - k by omega]
  exact Nat.mul_le_mul_left _ hY
theorem div_end {X Y s u q : Nat} (hY : 0 < Y) (h : u + q * (Y * 2 ^ s) = X * 2 ^ s) (hu : u < Y * 2 ^ s) : q = X / Y ∧ u / 2 ^ s = X % Y := by
  have hp : 0 < 2 ^ s := Nat.pow_pos (by omega)
  have h1 : u = (X - q * Y) * 2 ^ s := by rw [Nat.sub_mul]; have : q * Y * 2 ^ s = q * (Y * 2 ^ s) := by rw [Nat.mul_assoc]
                                          omega
  have h2 : q * Y ≤ X := by
    refine Nat.le_of_mul_le_mul_right (c := 2 ^ s) ?_ hp
    rw [Nat.mul_assoc]; omega
  have h3 : X - q * Y < Y := by
    refine Nat.lt_of_mul_lt_mul_right (a := 2 ^ s) ?_
    omega
  have h4 : X = q * Y + (X - q * Y) := by omega
  refine ⟨?_, ?_⟩
  · generalize X - q * Y = r at *
    rw [h4, Nat.mul_comm q Y, Nat.mul_add_div hY, Nat.div_eq_of_lt h3]; omega
  · rw [h1, Nat.mul_div_cancel _ hp]
    generalize X - q * Y = r at *
    rw [h4, Nat.mul_comm q Y, Nat.mul_add_mod, Nat.mod_eq_of_lt h3]
theorem est_pred {x v r t : Nat} (h : x * v + r = t) (hx : 1 ≤ x) : (x - 1) * v + (r + v) = t := by
  obtain ⟨y, rfl⟩ : ∃ y, x = y + 1 := ⟨x - 1, by omega⟩
  rw [Nat.add_mul, Nat.one_mul] at h
  rw [Nat.add_sub_cancel]
  omega
theorem est_le {x v r t : Nat} (h : x * v + r = t) (ht : t ≤ v * 4294967296 + 4294967295) (hv : 2147483648 ≤ v) : x ≤ 4294967297 := by
  refine Classical.byContradiction fun hc => ?_
  have := Nat.mul_le_mul_right v (show 4294967298 ≤ x by omega)
  omega
theorem ms_step {B p q vt vt' vu x yT Y X y' c b c' b' l : Nat} (h : vt + p * (x * yT) = vu + p * q * (c + b)) (h1 : vt' + p * q * X = vt + p * q * y') (e1 : y' + l + b = X + B * b') (e2 : B * c' + l = c + x * Y) : vt' + p * (x * (yT + q * Y)) = vu + p * q * B * (c' + b') := by grind
theorem ms_end {B p q vt vt' vu xV X y' c b b' : Nat} (h : vt + p * xV = vu + p * q * (c + b)) (h1 : vt' + p * q * X = vt + p * q * y') (e1 : y' + c + b = X + B * b') : vt' + p * xV = vu + p * q * B * b' := by grind
theorem ab_step {B p q vt vt' vu yT Y X y' c c' : Nat} (h : vt + p * q * c = vu + p * yT) (h1 : vt' + p * q * X = vt + p * q * y') (e : B * c' + y' = c + (X + Y)) : vt' + p * q * B * c' = vu + p * (yT + q * Y) := by grind
theorem ab_end {B p q vt vt' vu V X y' c c' : Nat} (h : vt + p * q * c = vu + p * V) (h1 : vt' + p * q * X = vt + p * q * y') (e : B * c' + y' = X + c) : vt' + p * q * B * c' = vu + p * V := by grind
theorem q_step {B p vu vr vq x V U : Nat} (h : vu + p * B * (vq * V) = U) (h2 : vr + p * (x * V) = vu) : vr + p * ((x + B * vq) * V) = U := by grind
theorem val_one {xs : List Nat} (h : xs.length = 1) : val xs = xs.getD 0 0 := by
  match xs, h with
  | [x], _ => simp [val]
def shrD (s : Nat) (xs : List Nat) (i : Nat) : Nat := val (xs.drop i) / 2 ^ s % 4294967296
def shrM (s : Nat) (xs : List Nat) (i : Nat) : List Nat := (List.range i).map (shrD s xs) ++ xs.drop i
theorem shrM_zero (s : Nat) (xs : List Nat) : shrM s xs 0 = xs := by simp [shrM]
theorem shrM_len {s : Nat} {xs : List Nat} {i : Nat} (h : i ≤ xs.length) : (shrM s xs i).length = xs.length := by simp [shrM]; omega
theorem shrM_get {s : Nat} {xs : List Nat} {i k : Nat} (h : i ≤ k) : (shrM s xs i).getD k 0 = xs.getD k 0 := by
  rw [List.getD_eq_getElem?_getD, shrM, List.getElem?_append_right (by simpa using h), List.length_map, List.length_range, List.getElem?_drop, ← List.getD_eq_getElem?_getD, show i + (k - i) = k by omega]
theorem shrM_set {s : Nat} {xs : List Nat} {i : Nat} (h : i < xs.length) : (shrM s xs i).set i (shrD s xs i) = shrM s xs (i + 1) := by
  rw [shrM, shrM, List.set_append_right _ _ (by simp), List.length_map, List.length_range, Nat.sub_self, drop_eq_cons xs i h, List.range_succ]
  simp
theorem shrD_lt (s : Nat) (xs : List Nat) (i : Nat) : shrD s xs i < 4294967296 := Nat.mod_lt _ (by omega)
theorem fit_shrM {s : Nat} {xs : List Nat} {i : Nat} (h : Fit xs) : Fit (shrM s xs i) := uF (fun x hx => by obtain ⟨k, _, rfl⟩ := List.mem_map.1 hx; exact shrD_lt s xs k) (fit_drop h i)
theorem val_shrM_take {s : Nat} {xs : List Nat} (hf : Fit xs) (i : Nat) : val ((List.range i).map (shrD s xs)) = val xs / 2 ^ s % 4294967296 ^ i := by
  induction i with
  | zero => simp [val, Nat.mod_one]
  | succ i ih =>
    rw [List.range_succ, List.map_append, List.map_singleton, val_snoc, ih, List.length_map, List.length_range, Nat.pow_succ, Nat.mod_mul, shrD, jL hf, Nat.div_div_eq_div_mul, Nat.div_div_eq_div_mul, Nat.mul_comm (2 ^ s)]
theorem val_shrM {s : Nat} {xs : List Nat} (hf : Fit xs) : val (shrM s xs xs.length) = val xs / 2 ^ s := by
  rw [shrM, List.drop_of_length_le (Nat.le_refl _), List.append_nil, val_shrM_take hf]
  exact Nat.mod_eq_of_lt (Nat.lt_of_le_of_lt (Nat.div_le_self _ _) (jV hf))
theorem shrD_zero {xs : List Nat} {i : Nat} (hf : Fit xs) (h : i < xs.length) : shrD 0 xs i = xs.getD i 0 := by
  have := uY hf i
  rw [shrD, jB xs i h, Nat.pow_zero, Nat.div_one]
  omega
theorem shrD_last {s : Nat} {xs : List Nat} {i : Nat} (hf : Fit xs) (h : i + 1 = xs.length) : shrD s xs i = xs.getD i 0 / 2 ^ s := by
  have h1 := uY hf i
  rw [shrD, jB xs i (by omega), List.drop_of_length_le (by omega)]
  show (xs.getD i 0 + 4294967296 * 0) / 2 ^ s % 4294967296 = _
  rw [Nat.mul_zero, Nat.add_zero]
  exact Nat.mod_eq_of_lt (Nat.lt_of_le_of_lt (Nat.div_le_self _ _) h1)
theorem shrD_or {s : Nat} {xs : List Nat} {i : Nat} (hf : Fit xs) (hs : s ≤ 32) (h : i + 1 < xs.length) : xs.getD i 0 / 2 ^ s ||| xs.getD (i + 1) 0 * 2 ^ (32 - s) % 4294967296 = shrD s xs i := by
  have h1 := uY hf i
  have e : (4294967296 : Nat) = 2 ^ s * 2 ^ (32 - s) := by rw [← Nat.pow_add, show s + (32 - s) = 32 by omega]
  have hp : 0 < 2 ^ s := Nat.pow_pos (by omega)
  have h2 : xs.getD i 0 / 2 ^ s < 2 ^ (32 - s) := Nat.div_lt_of_lt_mul (by rw [← e]; exact h1)
  have h3 : xs.getD (i + 1) 0 * 2 ^ (32 - s) % 4294967296 = (xs.getD (i + 1) 0 % 2 ^ s) * 2 ^ (32 - s) := by
    conv => lhs; rw [e]
    rw [Nat.mul_mod_mul_right]
  rw [h3, or_low h2, shrD, jB xs i (by omega), jB xs (i + 1) h]
  generalize xs.getD i 0 = a at *
  generalize xs.getD (i + 1) 0 = b at *
  generalize val (List.drop (i + 1 + 1) xs) = c at *
  have h4 : (a + 4294967296 * (b + 4294967296 * c)) / 2 ^ s = a / 2 ^ s + 2 ^ (32 - s) * (b + 4294967296 * c) := by
    conv => lhs; rw [show a + 4294967296 * (b + 4294967296 * c) = a + 2 ^ s * (2 ^ (32 - s) * (b + 4294967296 * c)) by rw [← Nat.mul_assoc, ← e]]
    rw [Nat.add_mul_div_left _ _ hp]
  have h5 : 2 ^ (32 - s) * (b + 4294967296 * c) = 2 ^ (32 - s) * (b % 2 ^ s) + 4294967296 * (b / 2 ^ s + 2 ^ (32 - s) * c) := by
    have h6 := Nat.div_add_mod b (2 ^ s)
    conv => lhs; rw [← h6]
    generalize b / 2 ^ s = p at *
    generalize b % 2 ^ s = r at *
    rw [e]
    generalize 2 ^ s = u
    generalize 2 ^ (32 - s) = v
    grind
  have h7 : a / 2 ^ s + 2 ^ (32 - s) * (b % 2 ^ s) < 4294967296 := by
    have h8 : b % 2 ^ s < 2 ^ s := Nat.mod_lt _ hp
    have h9 : 2 ^ (32 - s) * (b % 2 ^ s + 1) ≤ 2 ^ (32 - s) * 2 ^ s := Nat.mul_le_mul_left _ h8
    rw [Nat.mul_comm (2 ^ (32 - s)) (2 ^ s), ← e] at h9
    rw [Nat.mul_add] at h9
    omega
  rw [h4, h5, ← Nat.add_assoc, Nat.add_mul_mod_self_left, Nat.mod_eq_of_lt h7, Nat.mul_comm]
  omega
end Bk
namespace Go.Proofs.YtghhjjmjpeehdaaGreat
open Bk Go Tryz
set_option linter.unusedVariables false
set_option linter.unusedSimpArgs false
set_option maxRecDepth 10000
set_option maxHeartbeats 2000000 in
theorem nat_div {w0 : World} {h0 : Mem}  (hs : MLe h0 (mem w0)) {v v' : Value} {xs ys : List Nat} (hv : Us .u32 h0 v xs) (hv' : Us .u32 h0 v' ys) (hl : xs.length ≤ 1099511627776) (hl' : ys.length ≤ 1099511627776) :
    Calls Tryz.prog 133 #[v, v'] w0 (Ret w0 h0 (fun h z => ∃ q r, z = .tuple #[q, r, vI (if val ys = 0 then 3 else 0)] ∧ Us .u32 h q (zF (val xs / val ys)) ∧ Us .u32 h r (zF (if val ys = 0 then 0 else val xs % val ys)))) := by
 have hfx : Fit xs := hv.lt
 have hfy : Fit ys := hv'.lt
 have hlx := uN hfx
 have hly := uN hfy
 refine zM (n := 300) (e := [(0, v), (1, v')]) (vs := [v, v']) func133 rfl rfl (bL rfl) hs e2z (zC (zA (asg rfl rfl (asg rfl rfl (asg (v := vI (0)) rfl rfl (zD (zB (zC (zA (mv rfl rfl ?_))))))))))
 refine zO (vs := [_]) rfl rfl rfl rfl call145 ⟨rfl, trivial⟩ (fun w hs => qU hs hv) ?_
 intro v27 h1 hh1 hr27
 replace hr27 := hr27.2
 refine mv rfl rfl ?_
 replace hv' := hv'.mono hh1
 refine zO (vs := [_]) rfl rfl rfl rfl call145 ⟨rfl, trivial⟩ (fun w hs => qU hs hv') ?_
 intro v29 h2 hh2 hr29
 replace hr29 := hr29.2
 refine asg rfl rfl (asg rfl rfl (zD (zB (zC (zP (zC (zA (mv rfl rfl (gv (zZ underlying28 rfl hr29) rfl (gv (xU (q := 0) rfl rfl) rfl (asg rfl rfl (zD (zJ (e' := [(0, _), (1, _), (30, _)]) e3z ?_)))))))))))))
 refine zB ?_
 refine zN rfl (fun hc30 => ?_) (fun hc30 => ?_)
 ·
  have hy0 : val ys = 0 := Classical.byContradiction fun hne => by have := wF.2 hne; omega
  refine zC (zA (asg rfl rfl (asg rfl rfl (asg (v := vI (3)) rfl rfl (zD (zB (zQ (vC (zV (qL rfl rfl rfl rfl ?_))))))))))
  rw [hy0, Nat.div_zero, if_pos rfl, if_pos rfl, wD]
  exact ⟨_, _, rfl, Us.nil _ _, Us.nil _ _⟩
 have hyne : val ys ≠ 0 := wF.1 (by omega)
 refine zC (zA (mv rfl rfl (mv rfl rfl ?_)))
 replace hr27 := hr27.mono hh2
 refine zO (vs := [_, _]) rfl rfl rfl rfl call129 e2z (fun w hs => nat_cmp hs hr27 hr29) ?_
 intro v37 h3 hh3 hr37
 subst hr37
 rw [zU, zU]
 refine gv (zW (q := 0) rfl rfl) rfl (asg rfl rfl (zD (zB ?_)))
 refine zN rfl (fun hc34 => ?_) (fun hc34 => ?_)
 ·
  have hlt := cmpN_neg.1 hc34
  refine zC (zA (mv rfl rfl ?_))
  replace hr27 := hr27.mono hh3
  refine gl_call_own (vs := [_]) rfl rfl rfl rfl call130 ⟨rfl, trivial⟩ (fun w hs => sl_clone hs hr27 (by omega)) ?_
  intro v40 h4 L40 hh4 hr40
  obtain rfl := hr40
  refine asg rfl rfl (asg rfl rfl (xT (by exact vG _) ?_))
  intro h5 hh5 ho
  refine asg (v := vI (0)) rfl rfl (zD (zJ (e' := [(4, _), (5, _), (6, _)]) e3z (zB (zQ (vC (zV (qL rfl rfl rfl rfl ?_)))))))
  rw [Nat.div_eq_of_lt hlt, Nat.mod_eq_of_lt hlt, if_neg (by omega), if_neg (by omega), wD]
  exact ⟨_, _, rfl, Us.nil _ _, ho⟩
 have hge : val ys ≤ val xs := Nat.le_of_not_lt fun hc => hc34 (cmpN_neg.2 hc)
 refine zC (zA (mv rfl rfl ?_))
 replace hr29 := hr29.mono hh3
 refine gv (zZ underlying28 rfl hr29) rfl (gv (xU (q := 1) rfl rfl) rfl (asg rfl rfl (zD (zB ?_))))
 refine zN rfl (fun hc41 => ?_) (fun hc41 => ?_)
 ·
  have hone : (zF (val ys)).length = 1 := by omega
  have hb0 : (zF (val ys)).getD 0 0 ≠ 0 := by have := limbs_top_ne (n := val ys) (by omega); rwa [hone] at this
  have hvy := val_one hone
  rw [zU] at hvy
  refine wJ (e' := [(0, _), (1, _)]) e2z (zC (zA (mv rfl rfl (mv rfl rfl (gv (yN (q := 0) (0) underlying28 sizeOf124 rfl rfl hr29 rfl (by omega)) rfl (gv (yQ isAgg124 rfl hr29 (by omega)) rfl ?_))))))
  have hb1 := hr29.get32 0
  replace hr27 := hr27.mono hh3
  refine zO (vs := [_, _]) rfl rfl rfl rfl call150 e2z (fun w hs => nat_small hs hr27 (by omega) (by omega) (by omega)) ?_
  intro v50 h4 hh4 hr50
  obtain ⟨u50, rfl, hu50⟩ := hr50
  refine mv rfl rfl (gv (zL (vs := [_, _]) rfl rfl) rfl (gv (zL (vs := [_, _]) rfl rfl) rfl (asg rfl rfl (asg rfl rfl (zD (zJ (e' := [(7, _), (8, _)]) e2z (zB (zC (zA (mv rfl rfl (mv rfl rfl (zI (new_build1 (kd := .u32) underlying28 uJ rfl rfl rfl) rfl rfl rfl ?_))))))))))))
  intro v55 r55 hr55
  obtain rfl := hr55
  refine xT (by intro z hz; simp only [List.mem_singleton] at hz; subst hz; exact Nat.lt_trans (Nat.mod_lt _ (by omega)) hb1) ?_
  intro h5 hh5 hfx1
  refine zO (vs := [_]) rfl rfl rfl rfl call145 ⟨rfl, trivial⟩ (fun w hs => qU hs hfx1) ?_
  intro v56 h6 hh6 hr56
  replace hr56 := hr56.2
  refine asg rfl rfl (asg rfl rfl (asg (v := vI (0)) rfl rfl (zD (zB (zQ (vC (zV (qL rfl rfl rfl rfl ?_))))))))
  replace hu50 := hu50.mono (hh5.trans hh6)
  rw [zU, ← hvy] at hu50
  rw [val_one rfl, List.getD_cons_zero, zU, ← hvy] at hr56
  rw [if_neg (by omega), if_neg (by omega)]
  exact ⟨_, _, rfl, hu50, hr56⟩
 have hn2 : 2 ≤ (zF (val ys)).length := by omega
 refine wJ (e' := [(0, _), (1, _)]) e2z (zK (xC (zB (zC (zA (mv rfl rfl (mv rfl rfl (gv (zZ underlying28 rfl hr29) rfl (gv (xO (q := 1) rfl rfl (by omega) (by omega)) rfl (gv (yN ((zF (val ys)).length - 1) underlying28 sizeOf124 rfl rfl hr29 (by omega) (by omega)) rfl (gv (yQ isAgg124 rfl hr29 (by omega)) rfl ?_)))))))))))
 have hgt := hr29.get32 ((zF (val ys)).length - 1)
 refine zO (vs := [_]) rfl rfl rfl rfl call151 ⟨rfl, trivial⟩ (fun w hs => bits_lz32 hs (by omega)) ?_
 intro v63 h4 hh4 hr63
 subst hr63
 obtain ⟨s, hsd⟩ : ∃ s, s = 32 - vZ ((zF (val ys)).getD ((zF (val ys)).length - 1) 0) := ⟨_, rfl⟩
 rw [← hsd]
 obtain ⟨hs32, hvl, hv1⟩ := norm_limbs (k := (zF (val ys)).length - 1) hyne (by omega) hsd
 refine asg rfl rfl (zD (zB (zC (zA (mv rfl rfl (mv rfl rfl ?_))))))
 replace hr27 := hr27.mono (hh3.trans hh4)
 refine gl_call_own (vs := [_, _]) rfl rfl rfl rfl call152 e2z (fun w hs => nat_raise hs hr27 (by omega) (by omega)) ?_
 intro v66 h5 L66 hh5 hr66
 obtain ⟨us66, rfl, hul66, huf66, huv66⟩ := hr66
 refine mv rfl rfl (mv rfl rfl ?_)
 replace hr29 := hr29.mono (hh4.trans hh5)
 refine gl_call_own (vs := [_, _]) rfl rfl rfl rfl call152 e2z (fun w hs => nat_raise hs hr29 (by omega) (by omega)) ?_
 intro v69 h6 L69 hh6 hr69
 obtain ⟨us69, rfl, hul69, huf69, huv69⟩ := hr69
 refine xT (by exact huf69) ?_
 intro h7 hh7 hvb
 refine zO (vs := [_]) rfl rfl rfl rfl call145 ⟨rfl, trivial⟩ (fun w hs => qU hs hvb) ?_
 intro v70 h8 hh8 hr70
 replace hr70 := hr70.2
 rw [huv69, zU] at hr70
 refine asg rfl rfl (asg rfl rfl ?_)
 rw [zU] at huv66
 have hnla := xD hge
 have hXla := jV (vG (val xs))
 rw [zU] at hXla
 have hYn := pow_le_of_limbs_len (n := val ys) (k := (zF (val ys)).length - 1) (by omega)
 have hst := div_start huf66 hXla huv66 (k := (zF (val ys)).length - 1) (by omega) hYn
 rw [show (zF (val xs)).length - ((zF (val ys)).length - 1) = (zF (val xs)).length + 1 - (zF (val ys)).length by omega] at hst
 have hvv := zU (val ys * 2 ^ s)
 have hfv : Fit (zF (val ys * 2 ^ s)) := vG _
 replace hvl : (zF (val ys * 2 ^ s)).length = (zF (val ys)).length := by omega
 generalize zF (val ys * 2 ^ s) = vs at *
 generalize hnd : (zF (val ys)).length = n at *
 generalize hlad : (zF (val xs)).length = la at *
 obtain ⟨V, hV⟩ : ∃ V, V = val ys * 2 ^ s := ⟨_, rfl⟩
 obtain ⟨U, hU⟩ : ∃ U, U = val xs * 2 ^ s := ⟨_, rfl⟩
 rw [← hV] at hvv hst
 rw [← hU] at huv66
 have hVn : V < 4294967296 ^ n := by rw [← hvv, ← hvl]; exact jV hfv
 have hVd := val_two hn2 hvl
 rw [hvv] at hVd
 have hvr := jV (kU hfv (n - 2))
 rw [List.length_take, Nat.min_eq_left (by omega)] at hvr
 have hv2 := uY hfv (n - 2)
 have hv1b := uY hfv (n - 1)
 refine zD (zJ (e' := [(9, _), (10, _), (11, _)]) e3z (zB (zC (zA (mv rfl rfl (gv (zZ underlying28 rfl hr70) rfl ?_))))))
 rw [hvl]
 refine asg rfl rfl (zD (zB (zC (zA (mv rfl rfl (gv (ov_len_ous (A := []) underlying28 rfl) rfl ?_))))))
 rw [hul66]
 refine mv rfl rfl (gv (xO rfl rfl (by omega) (by omega)) rfl (qM (kd := .u32) (by' := 4) (la + 1 - n) underlying28 uJ rfl rfl rfl rfl rfl (by omega) (by omega) (by omega) (by omega) rfl ?_))
 intro v77
 refine asg rfl rfl (zD (zB (zC (zC (zA (mv rfl rfl (gv (ov_len_ous (A := []) underlying28 rfl) rfl ?_)))))))
 rw [lR]
 refine gv (xO (q := 1) rfl rfl (by omega) (by omega)) rfl (asg rfl rfl (zD (zJ (e' := [(9, _), (10, _), (11, _), (12, _), (4, _), (13, _)]) e6 (zB (zP ?_)))))
 refine wE (ι := Nat × List Nat × List Nat) (fun (J, us, qs) => J ≤ la + 1 - n ∧ qs.length = la + 1 - n - J ∧ Fit qs ∧ us.length = la + 1 ∧ Fit us ∧ val us + 4294967296 ^ J * (val qs * V) = U ∧ val (us.drop J) < V) (fun (J, us, qs) => [(4, v77), (9, vI ↑s), (10, v66), (11, v70), (12, vI ↑n), (13, vI (↑J - 1))]) (fun (J, us, qs) => [.us 124 .u32 v77 (uV J qs), .us 124 .u32 v66 us]) (fun (J, us, qs) => h8) (fun (J, us, qs) => J) (la + 1 - n, us66, []) ?_ e6 ?_ rfl ?_
 ·
  exact ⟨Nat.le_refl _, by simp, fun x hx => by simp at hx, hul66, huf66, by rw [huv66]; simp [val], hst⟩
 ·
  try dsimp only [List.nil_append, List.cons_append]
  exact congrArg (fun z => [Res.us 124 .u32 v77 z, Res.us 124 .u32 v66 us66]) (fillDn_nil _)
 intro x hx
 obtain ⟨J, us, qs⟩ := x
 obtain ⟨hJle, hql, hfq, hul, hfu, hval, hdr⟩ := hx
 show GC _ _ _ _ _ _ [(4, v77), (9, vI ↑s), (10, v66), (11, v70), (12, vI ↑n), (13, vI (↑J - 1))] [.us 124 .u32 v77 (uV J qs), .us 124 .u32 v66 us] h8
 refine zC (zC (zA (mv rfl rfl (gv (qT (q := 0) rfl rfl) rfl (zD (zB ?_))))))
 refine zN rfl (fun hc82 => ?_) (fun hc82 => ?_)
 ·
  refine zK (zB (zC (zP (zC ?_))))
  have hJ : 1 ≤ J := by omega
  have hz0 : ∀ i, J + n ≤ i → us.getD i 0 = 0 := fun i hi => getD_zero_of_lt (val_lt_of_drop hfu (Nat.lt_trans hdr hVn)) hi
  obtain ⟨wr, hW, hwr⟩ := val_three (j := J - 1) hn2 (fun i hi => hz0 i (by omega)) hfu
  have ha1 := uY hfu (J - 1 + n)
  have ha2 := uY hfu (J - 1 + n - 1)
  have ha3 := uY hfu (J - 1 + n - 2)
  have ha0 := uY hfu (J - 1)
  have hWV : val (us.drop (J - 1)) < 4294967296 * V := by
    rw [jB us (J - 1) (by omega), Nat.sub_add_cancel hJ]
    omega
  refine yF 18 _ [] [(0, .q), (1, .q), (2, .q), (3, .q), (4, .q), (5, .q), (6, .q), (7, .q), (8, .q), (9, .q), (10, .q), (11, .q), (12, .q), (13, .q), (14, .q), (15, .q), (16, .q), (17, .q)] xH nX (by kernel_rfl) nX (fun r hr => hr) (yH rfl rfl rfl (yH rfl rfl rfl (yH rfl rfl rfl (yK rfl (fun _ _ => zS rfl rfl (by omega) (by omega)) rfl (w_q rfl (fun h' L' hh hR => kK (hR _ mh1) (J - 1 + n) underlying28 sizeOf124 rfl rfl (by omega) (by omega)) rfl (w_q rfl (fun h' L' hh hR => ov_load_ousM (hR _ mh1) isAgg124 rfl (by omega)) rfl (yK rfl (fun _ _ => xA (k := .u32) (k' := .u64) (W := 18446744073709551616) underlying124 underlying122 rfl rfl rfl (by omega)) rfl (yK rfl (fun _ _ => kT (k := .u64) (s := 32) (yk := .u64) (W := 18446744073709551616) rfl rfl rfl rfl) rfl (yH rfl rfl rfl (yH rfl rfl rfl (yH rfl rfl rfl (yK rfl (fun _ _ => zS rfl rfl (by omega) (by omega)) rfl (yK rfl (fun _ _ => xO (q := 1) rfl rfl (by omega) (by omega)) rfl ?_)))))))))))))
  refine w_q rfl (fun h' L' hh hR => kK (hR _ mh1) (J - 1 + n - 1) underlying28 sizeOf124 rfl rfl (by omega) (by omega)) rfl (w_q rfl (fun h' L' hh hR => ov_load_ousM (hR _ mh1) isAgg124 rfl (by omega)) rfl (yK rfl (fun _ _ => xA (k := .u32) (k' := .u64) (W := 18446744073709551616) underlying124 underlying122 rfl rfl rfl (by omega)) rfl (yK rfl (fun _ _ => ov_or_u (k := .u64) rfl rfl rfl (by simp only [ub]; omega) (by simp only [ub]; omega)) rfl ?_)))
  rw [or_shift (by omega) (by omega)]
  obtain ⟨top, htop⟩ : ∃ t, t = us.getD (J - 1 + n) 0 * 4294967296 + us.getD (J - 1 + n - 1) 0 := ⟨_, rfl⟩
  rw [← htop]
  rw [← htop] at hW
  have htop2 := est_top hVd hW hvr hv2 hWV
  refine uG rfl rfl rfl (xB (zJ (e' := [(4, _), (9, _), (10, _), (11, _), (12, _), (13, _), (14, _)]) e7 (zB (zC ?_))))
  refine yF 18 _ [] [(0, .q), (1, .q), (2, .q), (3, .q), (4, .q), (5, .q), (6, .q), (7, .q), (8, .q), (9, .q), (10, .q), (11, .q), (12, .q), (13, .q), (14, .q), (15, .q), (16, .q), (17, .q)] xH nX (by kernel_rfl) nX (fun r hr => hr) (yH rfl rfl rfl (yH rfl rfl rfl (yH rfl rfl rfl (yK rfl (fun _ _ => xO (q := 1) rfl rfl (by omega) (by omega)) rfl (w_q rfl (fun h' L' hh hR => yN (n - 1) underlying28 sizeOf124 rfl rfl (hr70.mono hh) (by omega) (by omega)) rfl (w_q rfl (fun h' L' hh hR => yQ isAgg124 rfl (hr70.mono hh) (by omega)) rfl (yK rfl (fun _ _ => xA (k := .u32) (k' := .u64) (W := 18446744073709551616) underlying124 underlying122 rfl rfl rfl (by omega)) rfl (yK rfl (fun _ _ => ov_quo_u (k := .u64) (W := 18446744073709551616) rfl rfl rfl rfl (by omega) (by omega)) rfl (yH rfl rfl rfl (yH rfl rfl rfl (yH rfl rfl rfl (yK rfl (fun _ _ => xO (q := 1) rfl rfl (by omega) (by omega)) rfl (w_q rfl (fun h' L' hh hR => yN (n - 1) underlying28 sizeOf124 rfl rfl (hr70.mono hh) (by omega) (by omega)) rfl ?_)))))))))))))
  refine w_q rfl (fun h' L' hh hR => yQ isAgg124 rfl (hr70.mono hh) (by omega)) rfl (yK rfl (fun _ _ => xA (k := .u32) (k' := .u64) (W := 18446744073709551616) underlying124 underlying122 rfl rfl rfl (by omega)) rfl (yK rfl (fun _ _ => ov_rem_u (k := .u64) rfl rfl (by omega)) rfl (uG rfl rfl rfl (uG rfl rfl rfl (xB (zJ (e' := [(4, _), (9, _), (10, _), (11, _), (12, _), (13, _), (15, _), (16, _)]) e8 (zB ?_)))))))
  refine jX (ι := Nat) (fun (x1 : (Nat)) => x1 < 4294967296 ∧ val (us.drop (J - 1)) < (x1 + 1) * V ∧ x1 * V < val (us.drop (J - 1)) + V) (fun (x1 : (Nat)) => [(4, v77), (9, vI ↑s), (10, v66), (11, v70), (12, vI ↑n), (13, vI (↑J - 1)), (15, vU .u64 x1)]) (fun (x1 : (Nat)) => [.us 124 .u32 v77 (uV J qs), .us 124 .u32 v66 us]) (fun (x1 : (Nat)) => h8) ?_ ?_
  ·
   refine zP ?_
   refine wE (ι := Nat × Nat) (fun (x, r) => x * vs.getD (n - 1) 0 + r = top ∧ val (us.drop (J - 1)) < (x + 1) * V ∧ r < 4294967296) (fun (x, r) => [(4, v77), (9, vI ↑s), (10, v66), (11, v70), (12, vI ↑n), (13, vI (↑J - 1)), (15, vU .u64 x), (16, vU .u64 r)]) (fun (x, r) => [.us 124 .u32 v77 (uV J qs), .us 124 .u32 v66 us]) (fun (x, r) => h8) (fun (x, r) => x) (top / vs.getD (n - 1) 0, top % vs.getD (n - 1) 0) ?_ e8 rfl rfl ?_
   ·
    exact ⟨by rw [Nat.mul_comm]; exact Nat.div_add_mod _ _, est_init hVd hW ha3 hwr (by omega), Nat.lt_trans (Nat.mod_lt _ (by omega)) hv1b⟩
   intro x hx
   obtain ⟨x, r⟩ := x
   obtain ⟨hxt, hxl, hrb⟩ := hx
   show GC _ _ _ _ _ _ [(4, v77), (9, vI ↑s), (10, v66), (11, v70), (12, vI ↑n), (13, vI (↑J - 1)), (15, vU .u64 x), (16, vU .u64 r)] [.us 124 .u32 v77 (uV J qs), .us 124 .u32 v66 us] h8
   have hxb := est_le hxt htop2 hv1
   have hxv : x * vs.getD (n - 2) 0 ≤ 4294967297 * 4294967295 := Nat.mul_le_mul hxb (by omega)
   refine zC (zC ?_)
   refine gc_cases (4294967296 ≤ x) (fun hg => ?_) (fun hg => ?_)
   ·
    have hx1 : 1 ≤ x := by omega
    have hlow : val (us.drop (J - 1)) < x * V := Nat.lt_of_lt_of_le hWV (Nat.mul_le_mul_right _ hg)
    refine yF 24 _ [] [(0, .q), (1, .q), (2, .q), (3, .q), (4, .q), (5, .q), (6, .q), (7, .q), (8, .q), (9, .q), (10, .q), (11, .q), (12, .q), (13, .q), (14, .q), (15, .q), (16, .q), (17, .q), (18, .q), (19, .q), (20, .q), (21, .q), (22, .q), (23, .q)] xH nX (by kernel_rfl) nX (fun r hr => hr) (yH rfl rfl rfl (yK rfl (fun _ _ => ov_geq_u (k := .u64) (q := 4294967296) rfl rfl) rfl (yK rfl (fun _ _ => yO (v := .bool true) (congrArg some (xL hg))) rfl (jE rfl rfl rfl rfl rfl (jE rfl rfl rfl rfl rfl (jE rfl rfl rfl rfl rfl (jE rfl rfl rfl rfl rfl (jE rfl rfl rfl rfl rfl (jE rfl rfl rfl rfl rfl (jE rfl rfl rfl rfl rfl (jE rfl rfl rfl rfl rfl (jE rfl rfl rfl rfl rfl (jE rfl rfl rfl rfl rfl ?_)))))))))))))
    refine jE rfl rfl rfl rfl rfl (jE rfl rfl rfl rfl rfl (jE rfl rfl rfl rfl rfl (jE rfl rfl rfl rfl rfl (jE rfl rfl rfl rfl rfl (jE rfl rfl rfl rfl rfl (jE rfl rfl rfl rfl rfl (jE rfl rfl rfl rfl rfl (jE rfl rfl rfl rfl rfl (jE rfl rfl rfl rfl rfl (yK rfl (fun _ _ => xM rfl rfl) rfl (xB (zJ (e' := [(4, _), (9, _), (10, _), (11, _), (12, _), (13, _), (15, _), (16, _), (141, _)]) e9 (zB ?_)))))))))))))
    refine xZ rfl (zK (zB (zP (zC (zA (mv rfl rfl (gv (ov_sub_u (k := .u64) (q := 1) (W := 18446744073709551616) rfl rfl rfl rfl (by omega) (by omega)) rfl (asg rfl rfl (zD (zB (zC (zA (mv rfl rfl ?_)))))))))))))
    refine mv rfl rfl (mv rfl rfl (gv (xO (q := 1) rfl rfl (by omega) (by omega)) rfl (gv (yN (n - 1) underlying28 sizeOf124 rfl rfl hr70 (by omega) (by omega)) rfl (gv (yQ isAgg124 rfl hr70 (by omega)) rfl (gv (xA (k := .u32) (k' := .u64) (W := 18446744073709551616) underlying124 underlying122 rfl rfl rfl (by omega)) rfl (gv (jD (k := .u64) (W := 18446744073709551616) rfl rfl rfl rfl (by omega)) rfl (asg rfl rfl (zD (zJ (e' := [(4, _), (9, _), (10, _), (11, _), (12, _), (13, _), (15, _), (16, _)]) e8 (zB (zC (zA (mv rfl rfl ?_)))))))))))))
    refine gv (ov_geq_u (k := .u64) (q := 4294967296) rfl rfl) rfl (zD (zB ?_))
    refine zN rfl (fun hc153 => ?_) (fun hc153 => ?_)
    ·
     refine xG (gx_past rfl (yB (xF ?_)))
     refine yM (x - 1) ?_ e7 rfl rfl
     obtain ⟨b1, b2⟩ := est_break (x := x - 1) hVd hW hvr hv2 (est_pred hxt hx1) hc153 htop2 (by omega)
     exact ⟨b1, by rw [Nat.sub_add_cancel hx1]; exact hlow, by omega⟩
    refine zK (xC ?_)
    refine yV (x - 1, r + vs.getD (n - 1) 0) ?_ ?_ e8 rfl rfl
    ·
     exact ⟨est_pred hxt hx1, by rw [Nat.sub_add_cancel hx1]; exact hlow, by omega⟩
    dsimp only
    omega
   refine yF 24 _ [] [(0, .q), (1, .q), (2, .q), (3, .q), (4, .q), (5, .q), (6, .q), (7, .q), (8, .q), (9, .q), (10, .q), (11, .q), (12, .q), (13, .q), (14, .q), (15, .q), (16, .q), (17, .q), (18, .q), (19, .q), (20, .q), (21, .q), (22, .q), (23, .q)] xH nX (by kernel_rfl) nX (fun r hr => hr) (yH rfl rfl rfl (yK rfl (fun _ _ => ov_geq_u (k := .u64) (q := 4294967296) rfl rfl) rfl (yK rfl (fun _ _ => yO (v := .bool false) (congrArg some (yX hg))) rfl (jA rfl rfl rfl (fun h' L' hh hR => yO rfl) rfl (jA rfl rfl rfl (fun h' L' hh hR => yO rfl) rfl (jA rfl rfl rfl (fun h' L' hh hR => yO rfl) rfl (jA rfl rfl rfl (fun h' L' hh hR => xO (q := 2) rfl rfl (by omega) (by omega)) rfl (jA rfl rfl rfl (fun h' L' hh hR => yN (n - 2) underlying28 sizeOf124 rfl rfl (hr70.mono hh) (by omega) (by omega)) rfl (jA rfl rfl rfl (fun h' L' hh hR => yQ isAgg124 rfl (hr70.mono hh) (by omega)) rfl (jA rfl rfl rfl (fun h' L' hh hR => xA (k := .u32) (k' := .u64) (W := 18446744073709551616) underlying124 underlying122 rfl rfl rfl (by omega)) rfl (jA rfl rfl rfl (fun h' L' hh hR => jC (k := .u64) (W := 18446744073709551616) rfl rfl rfl rfl (by omega)) rfl (jA rfl rfl rfl (fun h' L' hh hR => yO rfl) rfl (jA rfl rfl rfl (fun h' L' hh hR => kT (k := .u64) (s := 32) (yk := .u64) (W := 18446744073709551616) rfl rfl rfl rfl) rfl ?_)))))))))))))
   refine jA rfl rfl rfl (fun h' L' hh hR => yO rfl) rfl (jA rfl rfl rfl (fun h' L' hh hR => yO rfl) rfl (jA rfl rfl rfl (fun h' L' hh hR => yO rfl) rfl (jA rfl rfl rfl (fun h' L' hh hR => zS rfl rfl (by omega) (by omega)) rfl (jA rfl rfl rfl (fun h' L' hh hR => xO (q := 2) rfl rfl (by omega) (by omega)) rfl (jA rfl rfl rfl (fun h' L' hh hR => kK (hR _ mh1) (J - 1 + n - 2) underlying28 sizeOf124 rfl rfl (by omega) (by omega)) rfl (jA rfl rfl rfl (fun h' L' hh hR => ov_load_ousM (hR _ mh1) isAgg124 rfl (by omega)) rfl (jA rfl rfl rfl (fun h' L' hh hR => xA (k := .u32) (k' := .u64) (W := 18446744073709551616) underlying124 underlying122 rfl rfl rfl (by omega)) rfl (jA rfl rfl rfl (fun h' L' hh hR => ov_or_u (k := .u64) rfl rfl rfl (by simp only [ub]; omega) (by simp only [ub]; omega)) rfl ?_))))))))
   rw [or_shift (by omega) (by omega)]
   refine jA rfl rfl rfl (fun h' L' hh hR => ov_gtr_u (k := .u64) rfl rfl) rfl (yK rfl (fun _ _ => xW rfl rfl) rfl (xB (zJ (e' := [(4, _), (9, _), (10, _), (11, _), (12, _), (13, _), (15, _), (16, _), (141, _)]) e9 (zB ?_))))
   refine zN rfl (fun hc141 => ?_) (fun hc141 => ?_)
   ·
    have hx1 : 1 ≤ x := Nat.pos_of_ne_zero fun h0 => by rw [h0, Nat.zero_mul] at hc141; omega
    have hlow : val (us.drop (J - 1)) < x * V := est_dec hVd hW hwr hxt hc141
    refine zK (zB (zP (zC (zA (mv rfl rfl (gv (ov_sub_u (k := .u64) (q := 1) (W := 18446744073709551616) rfl rfl rfl rfl (by omega) (by omega)) rfl (asg rfl rfl (zD (zB (zC (zA (mv rfl rfl (mv rfl rfl ?_)))))))))))))
    refine mv rfl rfl (gv (xO (q := 1) rfl rfl (by omega) (by omega)) rfl (gv (yN (n - 1) underlying28 sizeOf124 rfl rfl hr70 (by omega) (by omega)) rfl (gv (yQ isAgg124 rfl hr70 (by omega)) rfl (gv (xA (k := .u32) (k' := .u64) (W := 18446744073709551616) underlying124 underlying122 rfl rfl rfl (by omega)) rfl (gv (jD (k := .u64) (W := 18446744073709551616) rfl rfl rfl rfl (by omega)) rfl (asg rfl rfl (zD (zJ (e' := [(4, _), (9, _), (10, _), (11, _), (12, _), (13, _), (15, _), (16, _)]) e8 (zB (zC (zA (mv rfl rfl (gv (ov_geq_u (k := .u64) (q := 4294967296) rfl rfl) rfl ?_)))))))))))))
    refine zD (zB ?_)
    refine zN rfl (fun hc153 => ?_) (fun hc153 => ?_)
    ·
     refine xG (gx_past rfl (yB (xF ?_)))
     refine yM (x - 1) ?_ e7 rfl rfl
     obtain ⟨b1, b2⟩ := est_break (x := x - 1) hVd hW hvr hv2 (est_pred hxt hx1) hc153 htop2 (by omega)
     exact ⟨b1, by rw [Nat.sub_add_cancel hx1]; exact hlow, by omega⟩
    refine zK (xC ?_)
    refine yV (x - 1, r + vs.getD (n - 1) 0) ?_ ?_ e8 rfl rfl
    ·
     exact ⟨est_pred hxt hx1, by rw [Nat.sub_add_cancel hx1]; exact hlow, by omega⟩
    dsimp only
    omega
   refine xG (yB (yB (xF ?_)))
   refine yM (x) ?_ e7 rfl rfl
   exact ⟨by omega, hxl, est_exit hVd hW hvr (by omega) hxt (by omega) (by omega)⟩
  intro x1 hx
  obtain ⟨hx1b, hxlo, hxhi⟩ := hx
  show GC _ _ _ _ _ _ [(4, v77), (9, vI ↑s), (10, v66), (11, v70), (12, vI ↑n), (13, vI (↑J - 1)), (15, vU .u64 x1)] [.us 124 .u32 v77 (uV J qs), .us 124 .u32 v66 us] h8
  refine zC (zA (asg (v := vU .u64 0) rfl rfl (asg (v := vU .u64 0) rfl rfl (zD (zB (zC (zC (zA (mv rfl rfl (gv (zZ underlying28 rfl hr70) rfl ?_))))))))))
  rw [hvl]
  refine mv (v := vI (0)) rfl rfl (zD (zB (zP ?_)))
  refine wE (ι := Nat × List Nat × Nat × Nat) (fun (i, ts, b, c) => i ≤ n ∧ ts.length = la + 1 ∧ Fit ts ∧ c < 4294967296 ∧ b ≤ 1 ∧ val ts + 4294967296 ^ (J - 1) * (x1 * val (vs.take i)) = val us + 4294967296 ^ (J - 1 + i) * (c + b) ∧ ∀ k, J - 1 + i ≤ k → ts.getD k 0 = us.getD k 0) (fun (i, ts, b, c) => [(4, v77), (9, vI ↑s), (10, v66), (11, v70), (12, vI ↑n), (13, vI (↑J - 1)), (15, vU .u64 x1), (17, vU .u64 b), (18, vU .u64 c), (154, v70), (155, vI ↑n), (156, vI ↑i)]) (fun (i, ts, b, c) => [.us 124 .u32 v77 (uV J qs), .us 124 .u32 v66 ts]) (fun (i, ts, b, c) => h8) (fun (i, ts, b, c) => n - i) (0, us, 0, 0) ?_ e12 rfl rfl ?_
  ·
   exact ⟨by omega, hul, hfu, by omega, by omega, by simp [val], fun _ _ => rfl⟩
  intro x hx
  obtain ⟨i, ts, b, c⟩ := x
  obtain ⟨hin, htl, hft, hcb, hbb, hms, htk⟩ := hx
  show GC _ _ _ _ _ _ [(4, v77), (9, vI ↑s), (10, v66), (11, v70), (12, vI ↑n), (13, vI (↑J - 1)), (15, vU .u64 x1), (17, vU .u64 b), (18, vU .u64 c), (154, v70), (155, vI ↑n), (156, vI ↑i)] [.us 124 .u32 v77 (uV J qs), .us 124 .u32 v66 ts] h8
  refine zC (zA (gv (zW rfl rfl) rfl (zD (zB (zC ?_)))))
  refine zN rfl (fun hc157 => ?_) (fun hc157 => ?_)
  ·
   refine zK (zB (zC (zP (zC (zA (mv rfl rfl (gv (yN _ underlying28 sizeOf124 rfl rfl hr70 rfl (by omega)) rfl (gv (yQ isAgg124 rfl hr70 (by omega)) rfl ?_))))))))
   have hyb := hr70.get32 i
   have hxy : x1 * vs.getD i 0 ≤ 4294967295 * 4294967295 := Nat.mul_le_mul (by omega) (by omega)
   refine asg rfl rfl (asg rfl rfl (zD (zB (zC (zA (mv rfl rfl (mv rfl rfl (mv rfl rfl (gv (xA (k := .u32) (k' := .u64) (W := 18446744073709551616) underlying124 underlying122 rfl rfl rfl (by omega)) rfl (gv (jC (k := .u64) (W := 18446744073709551616) rfl rfl rfl rfl (by omega)) rfl (gv (jD (k := .u64) (W := 18446744073709551616) rfl rfl rfl rfl (by omega)) rfl (asg rfl rfl (zD ?_)))))))))))))
   refine zJ (e' := [(4, _), (9, _), (10, _), (11, _), (12, _), (13, _), (15, _), (17, _), (154, _), (155, _), (156, _), (19, _), (18, _)]) ⟨rfl, rfl, rfl, rfl, rfl, rfl, rfl, rfl, rfl, rfl, rfl, rfl, rfl, trivial⟩ (zB (zC (zA (mv rfl rfl (mv rfl rfl (mv rfl rfl (gv (zS rfl rfl (by omega) (by omega)) rfl (gv (wC (A := [_]) (J - 1 + i) underlying28 sizeOf124 rfl rfl (by omega) (by omega)) rfl (gv (ov_load_ous (A := [_]) isAgg124 rfl (by omega)) rfl ?_)))))))))
   have htx := uY hft (J - 1 + i)
   refine gv (xA (k := .u32) (k' := .u64) (W := 18446744073709551616) underlying124 underlying122 rfl rfl rfl (by omega)) rfl (mv rfl rfl (gv (ov_and_u (k := .u64) (q := 4294967295) rfl rfl rfl (by simp only [ub]; omega) (by simp only [ub]; omega)) rfl ?_))
   rw [and_mask]
   refine gv (ov_subw_u (k := .u64) (W := 18446744073709551616) rfl rfl rfl rfl (by omega)) rfl (mv rfl rfl (gv (ov_subw_u (k := .u64) (W := 18446744073709551616) rfl rfl rfl rfl (by omega)) rfl (asg rfl rfl (zD (zJ (e' := [(4, _), (9, _), (10, _), (11, _), (12, _), (13, _), (15, _), (154, _), (155, _), (156, _), (19, _), (18, _), (21, _)]) ⟨rfl, rfl, rfl, rfl, rfl, rfl, rfl, rfl, rfl, rfl, rfl, rfl, rfl, trivial⟩ (zB (zC (zA (mv rfl rfl (mv rfl rfl (mv rfl rfl (gv (zS rfl rfl (by omega) (by omega)) rfl (mv rfl rfl ?_)))))))))))))
   refine gv (vH (k := .u64) (k' := .u32) (W := 4294967296) underlying122 underlying124 rfl rfl rfl) rfl (gv (wC (A := [_]) (J - 1 + i) underlying28 sizeOf124 rfl rfl (by omega) (by omega)) rfl (gl_store_ous1 sizeOf124 rfl rfl (by omega) (zD (zB (zC (zA (mv rfl rfl (gv (qD (k := .u64) (s := 63) (yk := .u64) rfl rfl rfl (by simp only [ub]; omega)) rfl (asg rfl rfl (zD (zJ (e' := [(4, _), (9, _), (10, _), (11, _), (12, _), (13, _), (15, _), (154, _), (155, _), (156, _), (18, _), (17, _)]) e12 (zB (zA ?_)))))))))))))
   refine mv rfl rfl (gv (qD (k := .u64) (s := 32) (yk := .u64) rfl rfl rfl (by simp only [ub]; omega)) rfl (asg rfl rfl (zD (xC (zB (zA (gv (zS (q := 1) rfl rfl (by omega) (by omega)) rfl (mv rfl rfl (zD ?_)))))))))
   generalize hX : ts.getD (J - 1 + i) 0 = X at *
   generalize hY : vs.getD i 0 = Y at *
   refine yV (i + 1, ts.set (J - 1 + i) (((X + 18446744073709551616 - (c + x1 * Y) % 4294967296) % 18446744073709551616 + 18446744073709551616 - b) % 18446744073709551616 % 4294967296), ((X + 18446744073709551616 - (c + x1 * Y) % 4294967296) % 18446744073709551616 + 18446744073709551616 - b) % 18446744073709551616 / 2 ^ 63, (c + x1 * Y) / 2 ^ 32) ?_ ?_ e12 rfl rfl
   ·
    refine ⟨by omega, by simp [htl], fit_set hft _ (by omega), by omega, by omega, ?_, fun k hk => ?_⟩
    · have h1 := val_set (xs := ts) (i := J - 1 + i) (by omega) (((X + 18446744073709551616 - (c + x1 * Y) % 4294967296) % 18446744073709551616 + 18446744073709551616 - b) % 18446744073709551616 % 4294967296)
      rw [hX] at h1
      rw [uK vs i (by omega), hY, ← Nat.add_assoc (J - 1), Nat.pow_succ, Nat.pow_add]
      rw [Nat.pow_add] at h1 hms
      exact ms_step (l := (c + x1 * Y) % 4294967296) hms h1 (by omega) (by omega)
    · rw [qO (by omega)]; exact htk k (by omega)
   dsimp only
   omega
  refine xG (yB (yB (xF (zB (zC (zA (mv rfl rfl (mv rfl rfl (mv rfl rfl (gv (zS rfl rfl (by omega) (by omega)) rfl (gv (wC (A := [_]) (J - 1 + n) underlying28 sizeOf124 rfl rfl (by omega) (by omega)) rfl (gv (ov_load_ous (A := [_]) isAgg124 rfl (by omega)) rfl ?_))))))))))))
  have htx := uY hft (J - 1 + n)
  refine gv (xA (k := .u32) (k' := .u64) (W := 18446744073709551616) underlying124 underlying122 rfl rfl rfl (by omega)) rfl (mv rfl rfl (gv (ov_subw_u (k := .u64) (W := 18446744073709551616) rfl rfl rfl rfl (by omega)) rfl (mv rfl rfl (gv (ov_subw_u (k := .u64) (W := 18446744073709551616) rfl rfl rfl rfl (by omega)) rfl ?_))))
  obtain ⟨d2, hd2⟩ : ∃ d, d = ((ts.getD (J - 1 + n) 0 + 18446744073709551616 - c) % 18446744073709551616 + 18446744073709551616 - b) % 18446744073709551616 := ⟨_, rfl⟩
  rw [← hd2]
  refine asg rfl rfl (zD (zJ (e' := [(4, _), (9, _), (10, _), (11, _), (12, _), (13, _), (15, _), (22, _)]) e8 (zB (zC (zA (mv rfl rfl (mv rfl rfl (mv rfl rfl (gv (zS rfl rfl (by omega) (by omega)) rfl (mv rfl rfl (gv (vH (k := .u64) (k' := .u32) (W := 4294967296) underlying122 underlying124 rfl rfl rfl) rfl (gv (wC (A := [_]) (J - 1 + n) underlying28 sizeOf124 rfl rfl (by omega) (by omega)) rfl (gl_store_ous1 sizeOf124 rfl rfl (by omega) ?_)))))))))))))
  have hin : i = n := by omega
  rw [hin, wU (by omega), hvv] at hms
  have hvs := val_set (xs := ts) (i := J - 1 + n) (by omega) (d2 % 4294967296)
  have htl2 : (ts.set (J - 1 + n) (d2 % 4294967296)).length = la + 1 := by simp [htl]
  have hft2 : Fit (ts.set (J - 1 + n) (d2 % 4294967296)) := fit_set hft _ (by omega)
  have hz2 : ∀ k, J - 1 + n + 1 ≤ k → (ts.set (J - 1 + n) (d2 % 4294967296)).getD k 0 = 0 := fun k hk => by rw [qO (by omega), htk k (by omega)]; exact hz0 k (by omega)
  generalize ts.set (J - 1 + n) (d2 % 4294967296) = ts2 at *
  have hval2 : val ts2 + 4294967296 ^ (J - 1) * (x1 * V) = val us + 4294967296 ^ (J - 1 + n + 1) * (d2 / 2 ^ 63) := by
    rw [Nat.pow_succ, Nat.pow_add]
    rw [Nat.pow_add] at hvs hms
    exact ms_end hms hvs (by omega)
  have hlt2 := val_lt_of_zero hft2 hz2
  refine zD (zB ?_)
  refine jX (ι := Nat × List Nat) (fun (x2, rs) => x2 < 4294967296 ∧ rs.length = la + 1 ∧ Fit rs ∧ val rs + 4294967296 ^ (J - 1) * (x2 * V) = val us ∧ val (rs.drop (J - 1)) < V) (fun (x2, rs) => [(4, v77), (9, vI ↑s), (10, v66), (11, v70), (12, vI ↑n), (13, vI (↑J - 1)), (15, vU .u64 x2)]) (fun (x2, rs) => [.us 124 .u32 v77 (uV J qs), .us 124 .u32 v66 rs]) (fun (x2, rs) => h8) ?_ ?_
  ·
   refine zC (zA (mv rfl rfl (gv (qD (k := .u64) (s := 63) (yk := .u64) rfl rfl rfl (by simp only [ub]; omega)) rfl (gv (ov_neq_u (k := .u64) (q := 0) rfl rfl) rfl (zD (zJ (e' := [(4, _), (9, _), (10, _), (11, _), (12, _), (13, _), (15, _), (211, _)]) e8 (zB ?_)))))))
   refine zN rfl (fun hc211 => ?_) (fun hc211 => ?_)
   ·
    have hx1p : 1 ≤ x1 := Nat.pos_of_ne_zero fun h0 => by
      have hb1 : d2 / 2 ^ 63 = 1 := by omega
      rw [h0, hb1, Nat.zero_mul, Nat.mul_zero, Nat.mul_one] at hval2
      omega
    refine zC (zA (mv rfl rfl (gv (ov_sub_u (k := .u64) (q := 1) (W := 18446744073709551616) rfl rfl rfl rfl (by omega) (by omega)) rfl (asg rfl rfl (zD (zB (zC (zA (asg (v := vU .u64 0) rfl rfl (zD (zB (zC (zC ?_)))))))))))))
    refine zA (mv rfl rfl (gv (zZ underlying28 rfl hr70) rfl ?_))
    rw [hvl]
    refine mv (v := vI (0)) rfl rfl (zD (zB (zP ?_)))
    refine wE (ι := Nat × List Nat × Nat) (fun (i2, rs, c2) => i2 ≤ n ∧ rs.length = la + 1 ∧ Fit rs ∧ c2 ≤ 1 ∧ val rs + 4294967296 ^ (J - 1 + i2) * c2 = val ts2 + 4294967296 ^ (J - 1) * val (vs.take i2) ∧ ∀ k, J - 1 + i2 ≤ k → rs.getD k 0 = ts2.getD k 0) (fun (i2, rs, c2) => [(4, v77), (9, vI ↑s), (10, v66), (11, v70), (12, vI ↑n), (13, vI (↑J - 1)), (15, vU .u64 (x1 - 1)), (18, vU .u64 c2), (214, v70), (215, vI ↑n), (216, vI ↑i2)]) (fun (i2, rs, c2) => [.us 124 .u32 v77 (uV J qs), .us 124 .u32 v66 rs]) (fun (i2, rs, c2) => h8) (fun (i2, rs, c2) => n - i2) (0, ts2, 0) ?_ e11 rfl rfl ?_
    ·
     exact ⟨by omega, htl2, hft2, by omega, by simp [val], fun _ _ => rfl⟩
    intro x hx
    obtain ⟨i2, rs, c2⟩ := x
    obtain ⟨hi2, hrl, hfr, hc2, hab, hrk⟩ := hx
    show GC _ _ _ _ _ _ [(4, v77), (9, vI ↑s), (10, v66), (11, v70), (12, vI ↑n), (13, vI (↑J - 1)), (15, vU .u64 (x1 - 1)), (18, vU .u64 c2), (214, v70), (215, vI ↑n), (216, vI ↑i2)] [.us 124 .u32 v77 (uV J qs), .us 124 .u32 v66 rs] h8
    refine zC (zA (gv (zW rfl rfl) rfl (zD (zB (zC ?_)))))
    refine zN rfl (fun hc217 => ?_) (fun hc217 => ?_)
    ·
     refine zK (zB (zC (zP (zC (zA (mv rfl rfl (gv (yN _ underlying28 sizeOf124 rfl rfl hr70 rfl (by omega)) rfl (gv (yQ isAgg124 rfl hr70 (by omega)) rfl ?_))))))))
     have hyb := hr70.get32 i2
     refine asg rfl rfl (asg rfl rfl (zD (zB (zC (zA (mv rfl rfl (mv rfl rfl (mv rfl rfl (mv rfl rfl (gv (zS rfl rfl (by omega) (by omega)) rfl (gv (wC (A := [_]) (J - 1 + i2) underlying28 sizeOf124 rfl rfl (by omega) (by omega)) rfl (gv (ov_load_ous (A := [_]) isAgg124 rfl (by omega)) rfl ?_))))))))))))
     have htx := uY hfr (J - 1 + i2)
     refine gv (xA (k := .u32) (k' := .u64) (W := 18446744073709551616) underlying124 underlying122 rfl rfl rfl (by omega)) rfl (mv rfl rfl (gv (xA (k := .u32) (k' := .u64) (W := 18446744073709551616) underlying124 underlying122 rfl rfl rfl (by omega)) rfl (gv (jD (k := .u64) (W := 18446744073709551616) rfl rfl rfl rfl (by omega)) rfl (gv (jD (k := .u64) (W := 18446744073709551616) rfl rfl rfl rfl (by omega)) rfl (asg rfl rfl (zD (zJ (e' := [(4, _), (9, _), (10, _), (11, _), (12, _), (13, _), (15, _), (214, _), (215, _), (216, _), (23, _), (18, _)]) e12 (zB (zC (zA (mv rfl rfl (mv rfl rfl (mv rfl rfl ?_)))))))))))))
     refine gv (zS rfl rfl (by omega) (by omega)) rfl (mv rfl rfl (gv (vH (k := .u64) (k' := .u32) (W := 4294967296) underlying122 underlying124 rfl rfl rfl) rfl (gv (wC (A := [_]) (J - 1 + i2) underlying28 sizeOf124 rfl rfl (by omega) (by omega)) rfl (gl_store_ous1 sizeOf124 rfl rfl (by omega) (zD (zB (zA (mv rfl rfl (gv (qD (k := .u64) (s := 32) (yk := .u64) rfl rfl rfl (by simp only [ub]; omega)) rfl (asg rfl rfl (zD (xC (zJ (e' := [(4, _), (9, _), (10, _), (11, _), (12, _), (13, _), (15, _), (214, _), (215, _), (216, _), (18, _)]) e11 ?_)))))))))))))
     refine zB (zA (gv (zS (q := 1) rfl rfl (by omega) (by omega)) rfl (mv rfl rfl (zD ?_))))
     generalize hX : rs.getD (J - 1 + i2) 0 = X at *
     generalize hY : vs.getD i2 0 = Y at *
     refine yV (i2 + 1, rs.set (J - 1 + i2) ((c2 + (X + Y)) % 4294967296), (c2 + (X + Y)) / 2 ^ 32) ?_ ?_ e11 rfl rfl
     ·
      refine ⟨by omega, by simp [hrl], fit_set hfr _ (by omega), by omega, ?_, fun k hk => ?_⟩
      · have h1 := val_set (xs := rs) (i := J - 1 + i2) (by omega) ((c2 + (X + Y)) % 4294967296)
        rw [hX] at h1
        rw [uK vs i2 (by omega), hY, ← Nat.add_assoc (J - 1), Nat.pow_succ, Nat.pow_add]
        rw [Nat.pow_add] at h1 hab
        exact ab_step hab h1 (by omega)
      · rw [qO (by omega)]; exact hrk k (by omega)
     dsimp only
     omega
    refine xG (yB (yB (xF (zB (zA (mv rfl rfl (mv rfl rfl (mv rfl rfl (gv (zS rfl rfl (by omega) (by omega)) rfl (gv (wC (A := [_]) (J - 1 + n) underlying28 sizeOf124 rfl rfl (by omega) (by omega)) rfl (gv (ov_load_ous (A := [_]) isAgg124 rfl (by omega)) rfl (mv rfl rfl (gv (vH (k := .u64) (k' := .u32) (W := 4294967296) underlying122 underlying124 rfl rfl rfl) rfl ?_)))))))))))))
    have htx := uY hfr (J - 1 + n)
    refine gv (ov_addw_u (k := .u32) (W := 4294967296) rfl rfl rfl rfl) rfl (gv (wC (A := [_]) (J - 1 + n) underlying28 sizeOf124 rfl rfl (by omega) (by omega)) rfl (gl_store_ous1 sizeOf124 rfl rfl (by omega) (zD ?_)))
    generalize hX : rs.getD (J - 1 + n) 0 = X at *
    refine yM (x1 - 1, rs.set (J - 1 + n) ((X + c2 % 4294967296) % 4294967296)) ?_ e7 rfl rfl
    have hin2 : i2 = n := by omega
    rw [hin2, wU (by omega), hvv] at hab
    have h1 := val_set (xs := rs) (i := J - 1 + n) (by omega) ((X + c2 % 4294967296) % 4294967296)
    rw [hX] at h1
    have hfr2 : Fit (rs.set (J - 1 + n) ((X + c2 % 4294967296) % 4294967296)) := fit_set hfr _ (by omega)
    have hzr : ∀ k, J - 1 + n + 1 ≤ k → (rs.set (J - 1 + n) ((X + c2 % 4294967296) % 4294967296)).getD k 0 = 0 := fun k hk => by
      rw [qO (by omega), hrk k (by omega)]; exact hz2 k hk
    have ho : val (rs.set (J - 1 + n) ((X + c2 % 4294967296) % 4294967296)) + 4294967296 ^ (J - 1 + n + 1) * ((X + c2) / 4294967296) = val ts2 + 4294967296 ^ (J - 1) * V := by
      rw [Nat.pow_succ, Nat.pow_add]
      rw [Nat.pow_add] at h1 hab
      exact ab_end hab h1 (by omega)
    obtain ⟨z1, z2, z3⟩ := round_one hfu hfr2 hlt2 (val_lt_of_zero hfr2 hzr) (b := d2 / 2 ^ 63) (by omega) hval2 hxhi ho (by omega)
    exact ⟨by omega, by simp [hrl], hfr2, z2, z3⟩
   refine zK ?_
   refine yM (x1, ts2) ?_ e7 rfl rfl
   have hb0 : d2 / 2 ^ 63 = 0 := by omega
   rw [hb0, Nat.mul_zero, Nat.add_zero] at hval2
   exact ⟨hx1b, htl2, hft2, hval2, round_zero hfu hft2 hval2 hxlo⟩
  intro x hx
  obtain ⟨x2, rs⟩ := x
  obtain ⟨hx2b, hrl, hfr, hrv, hrdr⟩ := hx
  show GC _ _ _ _ _ _ [(4, v77), (9, vI ↑s), (10, v66), (11, v70), (12, vI ↑n), (13, vI (↑J - 1)), (15, vU .u64 x2)] [.us 124 .u32 v77 (uV J qs), .us 124 .u32 v66 rs] h8
  refine zA (mv rfl rfl (mv rfl rfl (mv rfl rfl (gv (xA (k := .u64) (k' := .u32) (W := 4294967296) underlying122 underlying124 rfl rfl rfl (by omega)) rfl (gv (wC (A := []) (J - 1) underlying28 sizeOf124 rfl rfl (by omega) (by rw [jP]; omega)) rfl (vN sizeOf124 rfl rfl (by rw [jP]; omega) (zD (xC (zB (zA (mv rfl rfl (gv (xO (q := 1) rfl rfl (by omega) (by omega)) rfl (asg rfl rfl ?_)))))))))))))
  refine zD ?_
  refine yV (J - 1, rs, x2 :: qs) ?_ ?_ ⟨rfl, rfl, rfl, rfl, rfl, ?_, trivial⟩ ?_ rfl
  ·
   refine ⟨by omega, by simp only [lC]; omega, fit_cons.2 ⟨hx2b, hfq⟩, hrl, hfr, ?_, hrdr⟩
   have eJ : (4294967296 : Nat) ^ J = 4294967296 ^ (J - 1) * 4294967296 := by rw [← Nat.pow_succ, Nat.succ_eq_add_one, Nat.sub_add_cancel hJ]
   rw [eJ] at hval
   exact q_step hval hrv
  ·
   dsimp only
   omega
  · exact congrArg some (congrArg vI (by omega))
  try dsimp only [List.nil_append, List.cons_append]
  rw [fillDn_set (by omega)]
 refine xG (yB (yB (xF (zB (zC ?_)))))
 have hJ0 : J = 0 := by omega
 subst hJ0
 rw [fillDn_zero]
 rw [List.drop_zero] at hdr
 rw [Nat.pow_zero, Nat.one_mul] at hval
 have hlu : (zF (val us)).length ≤ us.length := uN hfu
 refine zA (mv rfl rfl ?_)
 refine gl_call_read (R := fun h r => r = subSl 1 v66 0 (zF (val us)).length ∧ Us .u32 h r (zF (val us))) (vs := [_]) rfl rfl rfl rfl call145 ⟨rfl, trivial⟩ (fun w hw => qU (MLe.refl _) (hw.own_us (A := [_]) hfu)) ?_
 rintro v259 ⟨_, e259, _⟩
 subst e259
 refine gl_shrink (A := [_]) (zF (val us)).length hlu ?_
 rw [take_limbs hfu]
 generalize subSl 1 v66 0 (zF (val us)).length = vr
 have hRf := vG (val us)
 have hRv := zU (val us)
 generalize zF (val us) = Rs at *
 refine asg rfl rfl (zD (zB (zC (zC (zA (mv rfl rfl (gv (ov_len_ous (A := [_]) underlying28 rfl) rfl (mv (v := vI (0)) rfl rfl (zD (zB (zP ?_)))))))))))
 refine wE (ι := Nat) (fun (k : (Nat)) => k ≤ Rs.length) (fun (k : (Nat)) => [(4, v77), (5, vr), (9, vI ↑s), (261, vI ↑Rs.length), (262, vI ↑k)]) (fun (k : (Nat)) => [.us 124 .u32 v77 qs, .us 124 .u32 vr (shrM s Rs k)]) (fun (k : (Nat)) => h8) (fun (k : (Nat)) => Rs.length - k) 0 ?_ e5z ?_ rfl ?_
 ·
  exact Nat.zero_le _
 ·
  try dsimp only [List.nil_append, List.cons_append]
  exact congrArg (fun z => [Res.us 124 .u32 v77 qs, Res.us 124 .u32 vr z]) (shrM_zero s Rs)
 intro k hx
 obtain hk := hx
 show GC _ _ _ _ _ _ [(4, v77), (5, vr), (9, vI ↑s), (261, vI ↑Rs.length), (262, vI ↑k)] [.us 124 .u32 v77 qs, .us 124 .u32 vr (shrM s Rs k)] h8
 refine zC (zA (gv (zW rfl rfl) rfl (zD (zB (zC ?_)))))
 refine zN rfl (fun hc263 => ?_) (fun hc263 => ?_)
 ·
  refine zK (zB ?_)
  refine jX (ι := Unit) (fun (_u : (Unit)) => True) (fun (_u : (Unit)) => [(4, v77), (5, vr), (9, vI ↑s), (261, vI ↑Rs.length), (262, vI ↑k)]) (fun (_u : (Unit)) => [.us 124 .u32 v77 qs, .us 124 .u32 vr (shrM s Rs (k + 1))]) (fun (_u : (Unit)) => h8) ?_ ?_
  ·
   refine zP (zC (zA (mv rfl rfl (asg rfl rfl (zD (zB (zC (zA (mv rfl rfl (mv rfl rfl (gv (wC (A := [_]) (k) underlying28 sizeOf124 rfl rfl (by omega) (by rw [shrM_len (by omega)]; omega)) rfl (gv (ov_load_ous (A := [_]) isAgg124 rfl (by rw [shrM_len (by omega)]; omega)) rfl ?_))))))))))))
   rw [shrM_get (Nat.le_refl _)]
   have hgr := uY hRf k
   refine mv rfl rfl (gv (qD (k := .u32) (s := s) (yk := .i64) rfl rfl rfl (by simp only [ub]; omega)) rfl ?_)
   have hq1 : Rs.getD k 0 / 2 ^ s < 4294967296 := Nat.lt_of_le_of_lt (Nat.div_le_self _ _) hgr
   refine gv (wC (A := [_]) (k) underlying28 sizeOf124 rfl rfl (by omega) (by rw [shrM_len (by omega)]; omega)) rfl (gl_store_ous1 sizeOf124 rfl rfl (by rw [shrM_len (by omega)]; omega) (zD (zB (zC (zA (mv rfl rfl (gv (uH (q := 0) rfl rfl) rfl ?_)))))))
   refine vY (ι := Unit) 7 (fun _ => True) (fun _ => [(280, vB (((0 : Int) < ↑s) ∧ ((↑k : Int) + 1 < ↑Rs.length))), (4, v77), (5, vr), (9, vI ↑s), (261, vI ↑Rs.length), (262, vI ↑k), (25, vI ↑k)]) (fun _ => [.us 124 .u32 v77 qs, .us 124 .u32 vr ((shrM s Rs k).set k (Rs.getD k 0 / 2 ^ s))]) (fun _ => h8) ?_ ?_
   ·
    refine wL ((0 : Int) < ↑s) (fun hg => ?_) (fun hg => ?_)
    ·
     refine xE (yO (v := .bool true) (congrArg some (xL hg))) rfl rfl rfl (yY rfl rfl rfl (mv rfl rfl (yY rfl rfl rfl (gv (zS (q := 1) rfl rfl (by omega) (by omega)) rfl (yY rfl rfl rfl (mv rfl rfl (yY rfl rfl rfl (gv (ov_len_ous (A := [_]) underlying28 rfl) rfl ?_))))))))
     rw [lS, shrM_len (by omega)]
     refine yY rfl rfl rfl (gv (zW rfl rfl) rfl (gv (xM rfl rfl) rfl (zD ?_)))
     refine yM () trivial ⟨?_, rfl, rfl, rfl, rfl, rfl, rfl, trivial⟩ rfl rfl
     exact congrArg some (uC hg)
    refine xE (yO (v := .bool false) (congrArg some (yX hg))) rfl rfl rfl (yI rfl rfl rfl rfl rfl rfl (yI rfl rfl rfl rfl rfl rfl (yI rfl rfl rfl rfl rfl rfl (yI rfl rfl rfl rfl rfl rfl (yI rfl rfl rfl rfl rfl rfl (gv (xW rfl rfl) rfl (zD ?_)))))))
    refine yM () trivial ⟨?_, rfl, rfl, rfl, rfl, rfl, rfl, trivial⟩ rfl rfl
    exact congrArg some (uD hg)
   intro _ _
   show GL _ _ _ _ _ _ _ [(280, vB (((0 : Int) < ↑s) ∧ ((↑k : Int) + 1 < ↑Rs.length))), (4, v77), (5, vr), (9, vI ↑s), (261, vI ↑Rs.length), (262, vI ↑k), (25, vI ↑k)] [.us 124 .u32 v77 qs, .us 124 .u32 vr ((shrM s Rs k).set k (Rs.getD k 0 / 2 ^ s))] h8
   refine zD (zB ?_)
   refine zN rfl (fun hc280 => ?_) (fun hc280 => ?_)
   ·
    refine yF 14 _ [] [(0, .q), (1, .q), (2, .q), (3, .q), (4, .q), (5, .q), (6, .q), (7, .q), (8, .q), (9, .q), (10, .q), (11, .q), (12, .q), (13, .q), (14, .t)] xH nX (by kernel_rfl) nX (fun r hr => hr) (yH rfl rfl rfl (yH rfl rfl rfl (w_q rfl (fun h' L' hh hR => kK (hR _ mh1) (k) underlying28 sizeOf124 rfl rfl (by omega) (by rw [lS, shrM_len (by omega)]; omega)) rfl (w_q rfl (fun h' L' hh hR => ov_load_ousM (hR _ mh1) isAgg124 rfl (by rw [lS, shrM_len (by omega)]; omega)) rfl ?_))))
    rw [getD_set_self (by rw [shrM_len (by omega)]; omega)]
    refine yH rfl rfl rfl (yH rfl rfl rfl (yK rfl (fun _ _ => zS (q := 1) rfl rfl (by omega) (by omega)) rfl (w_q rfl (fun h' L' hh hR => kK (hR _ mh1) (k + 1) underlying28 sizeOf124 rfl rfl (by omega) (by rw [lS, shrM_len (by omega)]; omega)) rfl (w_q rfl (fun h' L' hh hR => ov_load_ousM (hR _ mh1) isAgg124 rfl (by rw [lS, shrM_len (by omega)]; omega)) rfl ?_))))
    rw [qO (by omega), shrM_get (by omega)]
    refine yH rfl rfl rfl (yK rfl (fun _ _ => xO (p := 32) rfl rfl (by omega) (by omega)) rfl ?_)
    rw [show ((32 : Int) - ↑s) = ↑(32 - s) by omega]
    refine yK rfl (fun _ _ => kT (k := .u32) (s := 32 - s) (yk := .i64) (W := 4294967296) rfl rfl rfl rfl) rfl (yK rfl (fun _ _ => ov_or_u (k := .u32) rfl rfl rfl (by simp only [ub]; omega) (by simp only [ub]; omega)) rfl ?_)
    rw [shrD_or hRf (by omega) (by omega)]
    refine w_q rfl (fun h' L' hh hR => kK (hR _ mh1) (k) underlying28 sizeOf124 rfl rfl (by omega) (by rw [lS, shrM_len (by omega)]; omega)) rfl (w_t_upd (A := [_]) rfl (upd_store_ous sizeOf124 rfl rfl (by rw [lS, shrM_len (by omega)]; omega)) rfl (xB (xC ?_)))
    refine yM (()) ?_ e5z ?_ rfl
    ·
     trivial
    try dsimp only [List.nil_append, List.cons_append]
    rw [List.set_set, shrM_set (by omega)]; try rfl
   refine zK (xC ?_)
   have hlast : Rs.getD k 0 / 2 ^ s = shrD s Rs k := by
     by_cases h0 : s = 0
     · rw [h0, shrD_zero hRf (by omega), Nat.pow_zero, Nat.div_one]
     · exact (shrD_last hRf (by omega)).symm
   refine yM (()) ?_ e5z ?_ rfl
   ·
    trivial
   try dsimp only [List.nil_append, List.cons_append]
   rw [hlast, shrM_set (by omega)]
  intro _u hx
  obtain hcut := hx
  show GC _ _ _ _ _ _ [(4, v77), (5, vr), (9, vI ↑s), (261, vI ↑Rs.length), (262, vI ↑k)] [.us 124 .u32 v77 qs, .us 124 .u32 vr (shrM s Rs (k + 1))] h8
  refine zA (gv (zS (q := 1) rfl rfl (by omega) (by omega)) rfl (mv rfl rfl (zD ?_)))
  refine yV (k + 1) ?_ ?_ e5z rfl rfl
  ·
   omega
  omega
 refine xG (yB (yB (xF (zB (zC (zA (mv rfl rfl (xT (by exact hfq) ?_))))))))
 intro h9 hh9 hq
 refine zO (vs := [_]) rfl rfl rfl rfl call145 ⟨rfl, trivial⟩ (fun w hs => qU hs hq) ?_
 intro v297 h10 hh10 hr297
 replace hr297 := hr297.2
 refine mv rfl rfl (xT (by exact fit_shrM hRf) ?_)
 intro h11 hh11 hrr
 refine zO (vs := [_]) rfl rfl rfl rfl call145 ⟨rfl, trivial⟩ (fun w hs => qU hs hrr) ?_
 intro v299 h12 hh12 hr299
 replace hr299 := hr299.2
 refine asg rfl rfl (asg rfl rfl (asg (v := vI (0)) rfl rfl (zD (zB (zQ (qL rfl rfl rfl rfl ?_))))))
 replace hr297 := hr297.mono (hh11.trans hh12)
 have hkR : k = Rs.length := by omega
 rw [hkR, val_shrM hRf, hRv] at hr299
 obtain ⟨e1, e2⟩ := div_end (X := val xs) (Y := val ys) (s := s) (u := val us) (q := val qs) (by omega) (by rw [← hV, ← hU]; exact hval) (by rw [← hV]; exact hdr)
 rw [e1] at hr297
 rw [e2] at hr299
 rw [if_neg hyne, if_neg hyne]
 exact ⟨_, _, rfl, hr297, hr299⟩
end Go.Proofs.YtghhjjmjpeehdaaGreat
namespace Go.Proofs.YtghhjjmjpeehdaaGreat
open Bk Go Tryz
set_option linter.unusedVariables false
set_option linter.unusedSimpArgs false
set_option maxRecDepth 10000
theorem ref_trim {w0 : World} {h0 : Mem}  (hs : MLe h0 (mem w0)) {v : Value} {xs : List Nat} (hv : Us .u32 h0 v xs) (hl : xs.length ≤ 17592186044416) :
    Calls Tryz.prog 118 #[v] w0 (Ret w0 h0 (fun h r => Us .u32 h r (zF (val xs)))) := by
 refine zM (n := 23) (e := [(0, v)]) (vs := [v]) func118 rfl rfl (bL rfl) hs ⟨rfl, trivial⟩ (zC (zA (asg rfl rfl (zD (zB (zC (zA (mv rfl rfl (gv (zZ underlying28 rfl hv) rfl (asg rfl rfl (zD (zB (zC ?_)))))))))))))
 refine zP ?_
 refine wE (ι := Nat) (fun (k : (Nat)) => k ≤ xs.length ∧ ∀ i, k ≤ i → xs.getD i 0 = 0) (fun (k : (Nat)) => [(0, v), (3, vI ↑k)]) (fun (k : (Nat)) => []) (fun (k : (Nat)) => h0) (fun (k : (Nat)) => k) xs.length ?_ e2z rfl rfl ?_
 ·
  exact ⟨Nat.le_refl _, fun i hi => by rw [List.getD_eq_getElem?_getD, List.getElem?_eq_none hi]; rfl⟩
 intro k hx
 obtain ⟨hk, hz⟩ := hx
 show GC _ _ _ _ _ _ [(0, v), (3, vI ↑k)] [] h0
 refine zC (zC (zA (mv rfl rfl (gv (uH (q := 0) rfl rfl) rfl ?_))))
 refine vY (ι := Unit) 8 (fun _ => True) (fun _ => [(15, vB (((0 : Int) < ↑k) ∧ (xs.getD (k - 1) 0 = 0))), (0, v), (3, vI ↑k)]) (fun _ => []) (fun _ => h0) ?_ ?_
 ·
  refine wL ((0 : Int) < ↑k) (fun hg => ?_) (fun hg => ?_)
  ·
   refine xE (yO (v := .bool true) (congrArg some (xL hg))) rfl rfl rfl (yY rfl rfl rfl (mv rfl rfl (yY rfl rfl rfl (mv rfl rfl (yY rfl rfl rfl (gv (xO (q := 1) rfl rfl (by omega) (by omega)) rfl (yY rfl rfl rfl (gv (yN (k - 1) underlying28 sizeOf124 rfl rfl hv (by omega) (by omega)) rfl (yY rfl rfl rfl (gv (yQ isAgg124 rfl hv (by omega)) rfl (yY rfl rfl rfl (gv (ov_eql_u (k := .u32) (q := 0) rfl rfl) rfl (gv (xM rfl rfl) rfl ?_)))))))))))))
   refine zD ?_
   refine yM () trivial ⟨?_, rfl, rfl, trivial⟩ rfl rfl
   exact congrArg some (uC hg)
  refine xE (yO (v := .bool false) (congrArg some (yX hg))) rfl rfl rfl (yI rfl rfl rfl rfl rfl rfl (yI rfl rfl rfl rfl rfl rfl (yI rfl rfl rfl rfl rfl rfl (yI rfl rfl rfl rfl rfl rfl (yI rfl rfl rfl rfl rfl rfl (yI rfl rfl rfl rfl rfl rfl (gv (xW rfl rfl) rfl (zD ?_))))))))
  refine yM () trivial ⟨?_, rfl, rfl, trivial⟩ rfl rfl
  exact congrArg some (uD hg)
 intro _ _
 show GL _ _ _ _ _ _ _ [(15, vB (((0 : Int) < ↑k) ∧ (xs.getD (k - 1) 0 = 0))), (0, v), (3, vI ↑k)] [] h0
 refine zD (zB ?_)
 refine zN rfl (fun hc15 => ?_) (fun hc15 => ?_)
 ·
  refine zK (zB (zP (zA (mv rfl rfl (gv (xO (q := 1) rfl rfl (by omega) (by omega)) rfl (asg rfl rfl (zD (xC ?_))))))))
  refine yV (k - 1) ?_ ?_ ⟨rfl, ?_, trivial⟩ rfl rfl
  ·
   exact ⟨by omega, fun i hi => by
     by_cases e : i = k - 1
     · rw [e]; exact hc15.2
     · exact hz i (by omega)⟩
  ·
   have := hc15.1; omega
  · exact congrArg some (congrArg vI (by have := hc15.1; omega))
 refine xG (yB (yB (xF (zB (zC (zA (zI (new_build0 (kd := .u32) underlying28 uJ rfl rfl) rfl rfl rfl ?_)))))))
 intro v18 r18 hr18
 obtain rfl := hr18
 refine mv rfl rfl (mv rfl rfl (gv (ov_slice_h _ underlying28 sizeOf124 rfl rfl hv.shape rfl (by omega)) rfl ?_))
 have hsl21 := hv.sub (lo := 0) (hi := _) (by omega) (by omega)
 refine qH (A := []) (rep_append_us (kd := .u32) (bytes := 4) underlying28 uJ rfl rfl rfl rfl rfl hsl21 (by simp; omega) (by simp; omega)) rfl rfl rfl ?_
 intro v22 r22 hr22
 obtain rfl := hr22
 rw [List.nil_append, List.drop_zero, Nat.sub_zero]
 refine xT (by exact kU hv.lt k) ?_
 intro h1 hh1 ho
 refine asg rfl rfl (zD (zB (zQ (yC rfl rfl ?_))))
 replace hv := hv.mono hh1
 have e : xs.take k = zF (val xs) := trim_spec hv.lt hk hz (by
   by_cases h0 : k = 0
   · exact .inl h0
   · exact .inr fun h1 => hc15 ⟨by omega, h1⟩)
 rw [← e]
 exact ho
end Go.Proofs.YtghhjjmjpeehdaaGreat
namespace Go.Proofs.YtghhjjmjpeehdaaGreat
open Bk Go Tryz
set_option linter.unusedVariables false
set_option linter.unusedSimpArgs false
set_option maxRecDepth 10000
theorem nat_gcd {w0 : World} {h0 : Mem}  (hs : MLe h0 (mem w0)) {v v' : Value} {xs ys : List Nat} (hv : Us .u32 h0 v xs) (hv' : Us .u32 h0 v' ys) (hl : xs.length ≤ 1099511627776) (hl' : ys.length ≤ 1099511627776) :
    Calls Tryz.prog 132 #[v, v'] w0 (Ret w0 h0 (fun h r => Us .u32 h r (zF (Nat.gcd (val xs) (val ys))))) := by
 have hlx := uN hv.lt
 have hly := uN hv'.lt
 obtain ⟨G, hG⟩ : ∃ G, G = Nat.gcd (val xs) (val ys) := ⟨_, rfl⟩
 rw [← hG]
 refine zM (n := 61) (e := [(0, v), (1, v')]) (vs := [v, v']) func132 rfl rfl (bL rfl) hs e2z (zC (zA (asg rfl rfl (zD (zB (zC (zA (mv rfl rfl ?_))))))))
 refine zO (vs := [_]) rfl rfl rfl rfl call145 ⟨rfl, trivial⟩ (fun w hs => qU hs hv) ?_
 intro v16 h1 hh1 hr16
 replace hr16 := hr16.2
 refine gl_call_own (vs := [_]) rfl rfl rfl rfl call130 ⟨rfl, trivial⟩ (fun w hs => sl_clone hs hr16 (by omega)) ?_
 intro v17 h2 L17 hh2 hr17
 obtain rfl := hr17
 refine xT (by exact vG _) ?_
 intro h3 hh3 hcx
 refine mv rfl rfl ?_
 replace hv' := hv'.mono ((hh1.trans hh2).trans hh3)
 refine zO (vs := [_]) rfl rfl rfl rfl call145 ⟨rfl, trivial⟩ (fun w hs => qU hs hv') ?_
 intro v19 h4 hh4 hr19
 replace hr19 := hr19.2
 refine gl_call_own (vs := [_]) rfl rfl rfl rfl call130 ⟨rfl, trivial⟩ (fun w hs => sl_clone hs hr19 (by omega)) ?_
 intro v20 h5 L20 hh5 hr20
 obtain rfl := hr20
 refine xT (by exact vG _) ?_
 intro h6 hh6 hcy
 refine asg rfl rfl (asg rfl rfl (zD (zB (zC (zP ?_)))))
 refine wE (ι := Value × Nat × Value × Nat × Mem) (fun (vx, X, vy, Y, k1) => MLe h6 k1 ∧ (Us .u32 k1 vx (zF X) ∧ Us .u32 k1 vy (zF Y) ∧ Nat.gcd X Y = G ∧ (zF X).length ≤ 1099511627776 ∧ (zF Y).length ≤ 1099511627776)) (fun (vx, X, vy, Y, k1) => [(5, vx), (6, vy)]) (fun (vx, X, vy, Y, k1) => []) (fun (vx, X, vy, Y, k1) => k1) (fun (vx, X, vy, Y, k1) => Y) (v17, val xs, v20, val ys, h6) ?_ e2z rfl rfl ?_
 ·
  refine ⟨MLe.refl _, ?_⟩
  replace hcx := hcx.mono ((hh4.trans hh5).trans hh6)
  exact ⟨hcx, hcy, hG.symm, by omega, by omega⟩
 intro x hx
 obtain ⟨vx, X, vy, Y, k1⟩ := x
 obtain ⟨hmk1, ⟨ha, hb, hg, hlX, hlY⟩⟩ := hx
 show GC _ _ _ _ _ _ [(5, vx), (6, vy)] [] k1
 refine zC (zC (zA (mv rfl rfl (gv (zZ underlying28 rfl hb) rfl (gv (uH (q := 2) rfl rfl) rfl (zD (zB ?_)))))))
 refine zN rfl (fun hc23 => ?_) (fun hc23 => ?_)
 ·
  refine zK (zB (zP (zC (zA (mv rfl rfl (mv rfl rfl ?_))))))
  have hY0 : Y ≠ 0 := wF.1 (by omega)
  refine zO (vs := [_, _]) rfl rfl rfl rfl call133 e2z (fun w hs => nat_div hs ha hb (by omega) (by omega)) ?_
  intro v27 h7 hh7 hr27
  obtain ⟨q27, r27, rfl, hq27, hr27⟩ := hr27
  simp only [zU] at hq27 hr27
  rw [if_neg hY0] at hr27
  have hlm := xD (Nat.le_of_lt (Nat.mod_lt X (Nat.pos_of_ne_zero hY0)))
  refine mv rfl rfl (gv (zL (vs := [_, _, _]) rfl rfl) rfl (gv (zL (vs := [_, _, _]) rfl rfl) rfl (gv (zL (vs := [_, _, _]) rfl rfl) rfl (asg rfl rfl (asg rfl rfl (asg rfl rfl (zD (zJ (e' := [(6, _), (8, _)]) e2z (zB (zA (mv rfl rfl (mv rfl rfl (asg rfl rfl ?_)))))))))))))
  refine asg rfl rfl (zD (xC ?_))
  refine yV (vy, Y, r27, X % Y, h7) ?_ ?_ e2z rfl rfl
  ·
   refine ⟨(hmk1.trans hh7), ?_⟩
   replace hb := hb.mono hh7
   exact ⟨hb, hr27, by rw [gcd_step]; exact hg, hlY, by omega⟩
  dsimp only
  exact Nat.mod_lt _ (Nat.pos_of_ne_zero hY0)
 refine xG (yB (yB (xF (zB (zC (zC (zA (mv rfl rfl (gv (zZ underlying28 rfl hb) rfl (gv (xU (q := 0) rfl rfl) rfl (zD (zB ?_))))))))))))
 refine zN rfl (fun hc35 => ?_) (fun hc35 => ?_)
 ·
  have hY0 : Y = 0 := Classical.byContradiction fun hne => by have := wF.2 hne; omega
  refine zC (zA (mv rfl rfl (asg rfl rfl (zD (zB (zQ (zV (yC rfl rfl ?_))))))))
  rw [hY0, Nat.gcd_zero_right] at hg
  rw [← hg]
  exact ha
 have hY0 : Y ≠ 0 := wF.1 (by omega)
 refine zK (zB ?_)
 refine jX (ι := Value × Nat × Value × Nat × Mem) (fun (vx2, X2, vy2, Y2, k2) => MLe k1 k2 ∧ (Us .u32 k2 vx2 (zF X2) ∧ Us .u32 k2 vy2 (zF Y2) ∧ Nat.gcd X2 Y2 = G ∧ (zF X2).length ≤ 2 ∧ (zF Y2).length ≤ 2)) (fun (vx2, X2, vy2, Y2, k2) => [(5, vx2), (6, vy2)]) (fun (vx2, X2, vy2, Y2, k2) => []) (fun (vx2, X2, vy2, Y2, k2) => k2) ?_ ?_
 ·
  refine zC (zA (mv rfl rfl (gv (zZ underlying28 rfl ha) rfl (gv (uH (q := 2) rfl rfl) rfl (zD (zB ?_))))))
  refine zN rfl (fun hc39 => ?_) (fun hc39 => ?_)
  ·
   refine zC (zA (mv rfl rfl (mv rfl rfl ?_)))
   refine zO (vs := [_, _]) rfl rfl rfl rfl call133 e2z (fun w hs => nat_div hs ha hb (by omega) (by omega)) ?_
   intro v43 h7 hh7 hr43
   obtain ⟨q43, r43, rfl, hq43, hr43⟩ := hr43
   simp only [zU] at hq43 hr43
   rw [if_neg hY0] at hr43
   have hlm := xD (Nat.le_of_lt (Nat.mod_lt X (Nat.pos_of_ne_zero hY0)))
   refine mv rfl rfl (gv (zL (vs := [_, _, _]) rfl rfl) rfl (gv (zL (vs := [_, _, _]) rfl rfl) rfl (gv (zL (vs := [_, _, _]) rfl rfl) rfl (asg rfl rfl (asg rfl rfl (asg rfl rfl (zD (zJ (e' := [(6, _), (11, _)]) e2z (zB (zA (mv rfl rfl (mv rfl rfl (asg rfl rfl ?_)))))))))))))
   refine asg rfl rfl (zD ?_)
   refine yM (vy, Y, r43, X % Y, h7) ?_ e2z rfl rfl
   refine ⟨hh7, ?_⟩
   replace hb := hb.mono hh7
   exact ⟨hb, hr43, by rw [gcd_step]; exact hg, by omega, by omega⟩
  refine zK ?_
  refine yM (vx, X, vy, Y, k1) ?_ e2z rfl rfl
  refine ⟨MLe.refl _, ?_⟩
  exact ⟨ha, hb, hg, by omega, by omega⟩
 intro x hx
 obtain ⟨vx2, X2, vy2, Y2, k2⟩ := x
 obtain ⟨hmk2, ⟨ha2, hb2, hg2, hx2, hy2⟩⟩ := hx
 show GC _ _ _ _ _ _ [(5, vx2), (6, vy2)] [] k2
 refine zC (zA (mv rfl rfl ?_))
 refine zO (vs := [_]) rfl rfl rfl rfl call149 ⟨rfl, trivial⟩ (fun w hs => nat_word hs ha2 (by omega)) ?_
 intro v50 h7 hh7 hr50
 subst hr50
 rw [zU]
 have hwx := lt_word hx2
 refine mv rfl rfl ?_
 replace hb2 := hb2.mono hh7
 refine zO (vs := [_]) rfl rfl rfl rfl call149 ⟨rfl, trivial⟩ (fun w hs => nat_word hs hb2 (by omega)) ?_
 intro v52 h8 hh8 hr52
 subst hr52
 rw [zU]
 have hwy := lt_word hy2
 refine asg rfl rfl (asg rfl rfl (zD (zB (zC (zP ?_)))))
 refine wE (ι := Nat × Nat) (fun (m, n) => Nat.gcd m n = G ∧ m < 18446744073709551616 ∧ n < 18446744073709551616) (fun (m, n) => [(13, vU .u64 m), (14, vU .u64 n)]) (fun (m, n) => []) (fun (m, n) => h8) (fun (m, n) => n) (X2, Y2) ?_ e2z rfl rfl ?_
 ·
  exact ⟨hg2, hwx, hwy⟩
 intro x hx
 obtain ⟨m, n⟩ := x
 obtain ⟨hg3, hm, hn⟩ := hx
 show GC _ _ _ _ _ _ [(13, vU .u64 m), (14, vU .u64 n)] [] h8
 refine zC (zC (zA (mv rfl rfl (gv (ov_neq_u (k := .u64) (q := 0) rfl rfl) rfl (zD (zB ?_))))))
 refine zN rfl (fun hc54 => ?_) (fun hc54 => ?_)
 ·
  refine zK (zB (zP ?_))
  refine yF 6 _ [] [(0, .q), (1, .q), (2, .q), (3, .q), (4, .q), (5, .q)] xH nX (by kernel_rfl) nX (fun r hr => hr) (yH rfl rfl rfl (yH rfl rfl rfl (yH rfl rfl rfl (yK rfl (fun _ _ => ov_rem_u (k := .u64) rfl rfl (by omega)) rfl (uG rfl rfl rfl (uG rfl rfl rfl (xB (xC ?_))))))))
  refine yV (n, m % n) ?_ ?_ e2z rfl rfl
  ·
   have hlt := Nat.mod_lt m (Nat.pos_of_ne_zero hc54)
   exact ⟨by rw [gcd_step]; exact hg3, hn, by omega⟩
  dsimp only
  exact Nat.mod_lt _ (Nat.pos_of_ne_zero hc54)
 refine xG (yB (yB (xF (zB (zC (zA (mv rfl rfl ?_)))))))
 refine zO (vs := [_]) rfl rfl rfl rfl call135 ⟨rfl, trivial⟩ (fun w hs => nat_of hs (by omega)) ?_
 intro v60 h9 hh9 hr60
 refine asg rfl rfl (zD (zB (zQ (yC rfl rfl ?_))))
 have hn0 : n = 0 := Classical.not_not.1 hc54
 rw [hn0, Nat.gcd_zero_right] at hg3
 rw [← hg3]
 exact hr60
theorem ref_of {w0 : World} {h0 : Mem}  (hs : MLe h0 (mem w0)) {n : Nat} (hn : n < 18446744073709551616) :
    Calls Tryz.prog 116 #[vU .u64 n] w0 (Ret w0 h0 (fun h r => Us .u32 h r (zF n))) := by
 refine zM (n := 10) (e := [(0, vU .u64 n)]) (vs := [vU .u64 n]) func116 rfl rfl (bL rfl) hs ⟨rfl, trivial⟩ (zC (zA (asg rfl rfl (zD (zB (zC (zA (mv rfl rfl (gv (vH (k := .u64) (k' := .u32) (W := 4294967296) underlying122 underlying124 rfl rfl rfl) rfl (mv rfl rfl (gv (qD (k := .u64) (s := 32) (yk := .u64) rfl rfl rfl (by simp only [ub]; omega)) rfl (gv (vH (k := .u64) (k' := .u32) (W := 4294967296) underlying122 underlying124 rfl rfl rfl) rfl (zI (new_build2 (kd := .u32) underlying28 uJ rfl rfl rfl rfl) rfl rfl rfl ?_)))))))))))))
 intro v8 r8 hr8
 obtain rfl := hr8
 refine xT (by intro x hx; simp only [List.mem_cons, List.not_mem_nil, or_false] at hx; simp only [ub]; omega) ?_
 intro h1 hh1 hb
 refine zO (vs := [_]) rfl rfl rfl rfl call118 ⟨rfl, trivial⟩ (fun w hs => ref_trim hs hb (by simp)) ?_
 intro v9 h2 hh2 hr9
 refine asg rfl rfl (zD (zB (zQ (yC rfl rfl ?_))))
 have e : val [n % 4294967296, n / 2 ^ 32 % 4294967296] = n := by simp only [val]; omega
 rw [e] at hr9
 exact hr9
theorem ref_cmp {w0 : World} {h0 : Mem}  (hs : MLe h0 (mem w0)) {v v' : Value} {X Y : Nat} (hv : Us .u32 h0 v (zF X)) (hv' : Us .u32 h0 v' (zF Y)) :
    Calls Tryz.prog 93 #[v, v'] w0 (Ret w0 h0 (fun _ r => r = vI (cmpN X Y))) := by
 have vA := zU X
 have vB' := zU Y
 generalize hA : zF X = AA at *
 generalize hB : zF Y = BB at *
 have fA : Fit AA := hv.lt
 have fB : Fit BB := hv'.lt
 have lA := hv.lt63
 have lB := hv'.lt63
 refine zM (n := 41) (e := [(0, v), (1, v')]) (vs := [v, v']) func93 rfl rfl (bL rfl) hs e2z (zC (zA (asg (v := vI (0)) rfl rfl (zD (zB (zC (zC (zA (mv rfl rfl (gv (zZ underlying28 rfl hv) rfl (mv rfl rfl (gv (zZ underlying28 rfl hv') rfl (gv (ov_neq_i rfl rfl) rfl ?_)))))))))))))
 refine zD (zB ?_)
 refine zN rfl (fun hc10 => ?_) (fun hc10 => ?_)
 ·
  refine zC (zC (zA (mv rfl rfl (gv (zZ underlying28 rfl hv) rfl (mv rfl rfl (gv (zZ underlying28 rfl hv') rfl (gv (zW rfl rfl) rfl (zD (zJ (e' := [(15, _)]) ⟨rfl, trivial⟩ (zB ?_))))))))))
  refine zN rfl (fun hc15 => ?_) (fun hc15 => ?_)
  ·
   refine zC (zA (asg (v := vI (-1)) rfl rfl (zD (zB (zQ (zV (zV (yC rfl rfl ?_))))))))
   rw [cmpN_lt (lt_of_limbs_len (by rw [hA, hB]; omega))]
  refine zK (zB (zC (zA (asg (v := vI (1)) rfl rfl (zD (zB (zQ (zV (yC rfl rfl ?_)))))))))
  rw [cmpN_gt (lt_of_limbs_len (by rw [hA, hB]; omega))]
 have hl : AA.length = BB.length := by omega
 refine zK (zB (zC (zC (zA (mv rfl rfl (gv (zZ underlying28 rfl hv) rfl (gv (xO (q := 1) rfl rfl (by omega) (by omega)) rfl (asg rfl rfl (zD (zB (zP ?_)))))))))))
 refine wE (ι := Nat) (fun (j : (Nat)) => j ≤ AA.length ∧ AA.drop j = BB.drop j) (fun (j : (Nat)) => [(0, v), (1, v'), (5, vI (↑j - 1))]) (fun (j : (Nat)) => []) (fun (j : (Nat)) => h0) (fun (j : (Nat)) => j) AA.length ?_ e3z rfl rfl ?_
 ·
  exact ⟨Nat.le_refl _, by rw [List.drop_of_length_le (Nat.le_refl _), List.drop_of_length_le (by omega)]⟩
 intro j hx
 obtain ⟨hj, hd⟩ := hx
 show GC _ _ _ _ _ _ [(0, v), (1, v'), (5, vI (↑j - 1))] [] h0
 refine zC (zC (zA (mv rfl rfl (gv (qT (q := 0) rfl rfl) rfl (zD (zB ?_))))))
 refine zN rfl (fun hc20 => ?_) (fun hc20 => ?_)
 ·
  refine zK (zB (zC (zP (zC (zC ?_)))))
  refine yF 9 _ [] [(0, .q), (1, .q), (2, .q), (3, .q), (4, .q), (5, .q), (6, .q), (7, .q), (8, .q)] xH nX (by kernel_rfl) nX (fun r hr => hr) (yH rfl rfl rfl (yH rfl rfl rfl (w_q rfl (fun h' L' hh hR => yN (j - 1) underlying28 sizeOf124 rfl rfl (hv.mono hh) (by omega) (by omega)) rfl (w_q rfl (fun h' L' hh hR => yQ isAgg124 rfl (hv.mono hh) (by omega)) rfl (yH rfl rfl rfl (yH rfl rfl rfl (w_q rfl (fun h' L' hh hR => yN (j - 1) underlying28 sizeOf124 rfl rfl (hv'.mono hh) (by omega) (by omega)) rfl (w_q rfl (fun h' L' hh hR => yQ isAgg124 rfl (hv'.mono hh) (by omega)) rfl (yK rfl (fun _ _ => ov_lss_u (k := .u32) rfl rfl) rfl (xB (zJ (e' := [(0, _), (1, _), (5, _), (31, _)]) e4z (zB ?_))))))))))))
  refine zN rfl (fun hc31 => ?_) (fun hc31 => ?_)
  ·
   refine zC (zA (asg (v := vI (-1)) rfl rfl (zD (zB (zQ (zV (vC (zV (zV (vC (zV (yC rfl rfl ?_))))))))))))
   rw [← vA, ← vB', cmpN_lt (val_top fA hl (by omega) hj hd hc31)]
  refine zK (zB (zC ?_))
  refine yF 9 _ [] [(0, .q), (1, .q), (2, .q), (3, .q), (4, .q), (5, .q), (6, .q), (7, .q), (8, .q)] xH nX (by kernel_rfl) nX (fun r hr => hr) (yH rfl rfl rfl (yH rfl rfl rfl (w_q rfl (fun h' L' hh hR => yN (j - 1) underlying28 sizeOf124 rfl rfl (hv.mono hh) (by omega) (by omega)) rfl (w_q rfl (fun h' L' hh hR => yQ isAgg124 rfl (hv.mono hh) (by omega)) rfl (yH rfl rfl rfl (yH rfl rfl rfl (w_q rfl (fun h' L' hh hR => yN (j - 1) underlying28 sizeOf124 rfl rfl (hv'.mono hh) (by omega) (by omega)) rfl (w_q rfl (fun h' L' hh hR => yQ isAgg124 rfl (hv'.mono hh) (by omega)) rfl (yK rfl (fun _ _ => ov_gtr_u (k := .u32) rfl rfl) rfl (xB (zB ?_)))))))))))
  refine zN rfl (fun hc40 => ?_) (fun hc40 => ?_)
  ·
   refine wJ (e' := []) trivial (zC (zA (asg (v := vI (1)) rfl rfl (zD (zB (zQ (vC (zV (zV (vC (zV (yC rfl rfl ?_))))))))))))
   rw [← vA, ← vB', cmpN_gt (val_top fB hl.symm (by omega) (by omega) hd.symm (by omega))]
  refine wJ (e' := [(0, _), (1, _), (5, _)]) e3z (zK (xC (zB (zA (mv rfl rfl (gv (xO (q := 1) rfl rfl (by omega) (by omega)) rfl (asg rfl rfl (zD ?_))))))))
  refine yV (j - 1) ?_ ?_ ⟨rfl, rfl, ?_, trivial⟩ rfl rfl
  ·
   refine ⟨by omega, ?_⟩
   rw [drop_eq_cons AA (j - 1) (by omega), drop_eq_cons BB (j - 1) (by omega)]
   have e : j - 1 + 1 = j := by omega
   rw [e, hd, Classical.not_not.1 (show ¬ ¬ AA.getD (j - 1) 0 = BB.getD (j - 1) 0 by omega)]
  ·
   omega
  · exact congrArg some (congrArg vI (by omega))
 refine xG (yB (yB (xF (zB (zC (zA (asg (v := vI (0)) rfl rfl (zD (zB (zQ (yC rfl rfl ?_)))))))))))
 have h0 : j = 0 := by omega
 subst h0
 simp only [List.drop_zero] at hd
 rw [← vA, ← vB', hd, cmpN_eq]
theorem ref_bits {w0 : World} {h0 : Mem}  (hs : MLe h0 (mem w0)) {v : Value} {X : Nat} (hv : Us .u32 h0 v (zF X)) (hl : (zF X).length ≤ 1099511627776) :
    Calls Tryz.prog 140 #[v] w0 (Ret w0 h0 (fun _ r => r = vI ↑(vZ X))) := by
 refine zM (n := 25) (e := [(0, v)]) (vs := [v]) func140 rfl rfl (bL rfl) hs ⟨rfl, trivial⟩ (zC (zA (asg (v := vI (0)) rfl rfl (zD (zB (zC (zC (zA (mv rfl rfl (gv (zZ underlying28 rfl hv) rfl (gv (xU (q := 0) rfl rfl) rfl (zD (zB ?_)))))))))))))
 refine zN rfl (fun hc7 => ?_) (fun hc7 => ?_)
 ·
  refine zC (zA (asg (v := vI (0)) rfl rfl (zD (zB (zQ (zV (yC rfl rfl ?_)))))))
  have h0 : X = 0 := Classical.byContradiction fun hne => by have := wF.2 hne; omega
  rw [h0]; rfl
 have hpos : 0 < (zF X).length := by omega
 have hb := bitsN_top (vG X) (k := (zF X).length - 1) (by omega) (limbs_top_ne hpos)
 rw [zU] at hb
 refine zK (zB (zC (zA (mv rfl rfl (gv (zZ underlying28 rfl hv) rfl (gv (xO (q := 1) rfl rfl (by omega) (by omega)) rfl (gv (ov_mul_i (p := 32) rfl rfl (by omega) (by omega)) rfl (asg rfl rfl (zD (zB (zC (zC (zA ?_)))))))))))))
 refine mv rfl rfl (mv rfl rfl (gv (zZ underlying28 rfl hv) rfl (gv (xO (q := 1) rfl rfl (by omega) (by omega)) rfl (gv (yN ((zF X).length - 1) underlying28 sizeOf124 rfl rfl hv (by omega) (by omega)) rfl (gv (yQ isAgg124 rfl hv (by omega)) rfl ?_)))))
 have hx1 := hv.get32 ((zF X).length - 1)
 refine asg rfl rfl (zD (zJ (e' := [(3, _), (4, _)]) e2z (zB (zP ?_))))
 refine wE (ι := Nat × Nat) (fun (c, x) => x < 4294967296 ∧ vZ ((zF X).getD ((zF X).length - 1) 0) = c + vZ x ∧ c ≤ 32) (fun (c, x) => [(3, vI (32 * (↑(zF X).length - 1) + ↑c)), (4, vU .u32 x)]) (fun (c, x) => []) (fun (c, x) => h0) (fun (c, x) => x) (0, (zF X).getD ((zF X).length - 1) 0) ?_ ⟨?_, ?_, trivial⟩ rfl rfl ?_
 ·
  exact ⟨hx1, by omega, by omega⟩
 · exact congrArg some (congrArg vI (by omega))
 · exact rfl
 intro x hx
 obtain ⟨c, x⟩ := x
 obtain ⟨hx, hcx, hc32⟩ := hx
 show GC _ _ _ _ _ _ [(3, vI (32 * (↑(zF X).length - 1) + ↑c)), (4, vU .u32 x)] [] h0
 have hb32 := bitsN_le (n := (zF X).getD ((zF X).length - 1) 0) (k := 32) hx1
 refine zC (zC (zA (mv rfl rfl (gv (ov_neq_u (k := .u32) (q := 0) rfl rfl) rfl (zD (zB ?_))))))
 refine zN rfl (fun hc19 => ?_) (fun hc19 => ?_)
 ·
  refine zK (zB (zC (zP (zA (mv rfl rfl (gv (zS (q := 1) rfl rfl (by omega) (by omega)) rfl (asg rfl rfl (zD (xC (zB (zA (mv rfl rfl (gv (qD (k := .u32) (s := 1) (yk := .u64) rfl rfl rfl (by simp only [ub]; omega)) rfl ?_)))))))))))))
  refine asg rfl rfl (zD ?_)
  refine yV (c + 1, x / 2 ^ 1) ?_ ?_ ⟨?_, rfl, trivial⟩ rfl rfl
  ·
   have h1 := bitsN_half hc19
   exact ⟨by omega, by rw [hcx, h1, show x / 2 ^ 1 = x / 2 from rfl]; omega, by omega⟩
  ·
   dsimp only
   omega
  · exact congrArg some (congrArg vI (by omega))
 refine xG (yB (yB (xF (zB (zC (zA (mv rfl rfl (asg rfl rfl (zD (zB (zQ (yC rfl rfl ?_))))))))))))
 have hx0 : x = 0 := Classical.not_not.1 hc19
 rw [hx0, bitsN_zero] at hcx
 exact congrArg vI (by omega)
end Go.Proofs.YtghhjjmjpeehdaaGreat
namespace Go.Proofs.YtghhjjmjpeehdaaGreat
open Bk Go Tryz
set_option linter.unusedVariables false
set_option linter.unusedSimpArgs false
set_option maxRecDepth 10000
theorem ref_add {w0 : World} {h0 : Mem}  (hs : MLe h0 (mem w0)) {v v' : Value} {X Y : Nat} (hv : Us .u32 h0 v (zF X)) (hv' : Us .u32 h0 v' (zF Y)) (hl : (zF X).length ≤ 1099511627776) (hl' : (zF Y).length ≤ 1099511627776) :
    Calls Tryz.prog 92 #[v, v'] w0 (Ret w0 h0 (fun h r => Us .u32 h r (zF (X + Y)))) := by
 have hlA := xD (Nat.le_add_right X Y)
 have hlB := xD (Nat.le_add_left Y X)
 have hls := jO X Y
 refine zM (n := 54) (e := [(0, v), (1, v')]) (vs := [v, v']) func92 rfl rfl (bL rfl) hs e2z (zC (zA (asg rfl rfl (zD (zB (zC (zA (xE (ov_assign (v := .slice none 0 0) rfl) rfl rfl rfl (gl_addnil (E := 124) (k := .u32) (zD (zB (zC (zA ?_)))))))))))))
 refine asg (v := vU .u64 0) rfl rfl (zD (zB (zC (zC (zA (asg (v := vI (0)) rfl rfl (zD (zB (zP ?_)))))))))
 refine wE (ι := Value × List Nat × Nat × Mem) (fun (vo, ss, c, k1) => MLe h0 k1 ∧ (ss.length ≤ (zF (X + Y)).length ∧ Fit ss ∧ c ≤ 1 ∧ val ss + 4294967296 ^ ss.length * c = val ((zF X).take ss.length) + val ((zF Y).take ss.length))) (fun (vo, ss, c, k1) => [(0, v), (1, v'), (5, vo), (6, vU .u64 c), (7, vI ↑ss.length)]) (fun (vo, ss, c, k1) => [.us 124 .u32 vo ss]) (fun (vo, ss, c, k1) => k1) (fun (vo, ss, c, k1) => (zF (X + Y)).length - ss.length) (.slice none 0 0, [], 0, h0) ?_ e5z rfl rfl ?_
 ·
  refine ⟨MLe.refl _, ?_⟩
  exact ⟨by simp, fun x hx => by simp at hx, by omega, by simp [val]⟩
 intro x hx
 obtain ⟨vo, ss, c, k1⟩ := x
 obtain ⟨hmk1, ⟨hss, hfs, hc1, hval⟩⟩ := hx
 show GC _ _ _ _ _ _ [(0, v), (1, v'), (5, vo), (6, vU .u64 c), (7, vI ↑ss.length)] [.us 124 .u32 vo ss] k1
 replace hv := hv.mono hmk1
 replace hv' := hv'.mono hmk1
 have hx1 := hv.get32 ss.length
 have hx2 := hv'.get32 ss.length
 refine zC (zC (zA (mv rfl rfl (mv rfl rfl (gv (zZ underlying28 rfl hv) rfl (gv (zW rfl rfl) rfl ?_))))))
 refine vY (ι := Unit) 6 (fun _ => True) (fun _ => [(17, vB (((↑ss.length : Int) < ↑(zF X).length) ∨ ((↑ss.length : Int) < ↑(zF Y).length))), (0, v), (1, v'), (5, vo), (6, vU .u64 c), (7, vI ↑ss.length)]) (fun _ => [.us 124 .u32 vo ss]) (fun _ => k1) ?_ ?_
 ·
  refine wL ((↑ss.length : Int) < ↑(zF X).length) (fun hg => ?_) (fun hg => ?_)
  ·
   refine xE (yO (v := .bool true) (congrArg some (xL hg))) rfl rfl rfl (yI rfl rfl rfl rfl rfl rfl (yI rfl rfl rfl rfl rfl rfl (yI rfl rfl rfl rfl rfl rfl (yI rfl rfl rfl rfl rfl rfl (gv (xM rfl rfl) rfl (zD ?_))))))
   refine yM () trivial ⟨?_, rfl, rfl, rfl, rfl, rfl, trivial⟩ rfl rfl
   exact congrArg some (jZ hg)
  refine xE (yO (v := .bool false) (congrArg some (yX hg))) rfl rfl rfl (yY rfl rfl rfl (mv rfl rfl (yY rfl rfl rfl (mv rfl rfl (yY rfl rfl rfl (gv (zZ underlying28 rfl hv') rfl (yY rfl rfl rfl (gv (zW rfl rfl) rfl (gv (xW rfl rfl) rfl (zD ?_))))))))))
  refine yM () trivial ⟨?_, rfl, rfl, rfl, rfl, rfl, trivial⟩ rfl rfl
  exact congrArg some (kA hg)
 intro _ _
 show GL _ _ _ _ _ _ _ [(17, vB (((↑ss.length : Int) < ↑(zF X).length) ∨ ((↑ss.length : Int) < ↑(zF Y).length))), (0, v), (1, v'), (5, vo), (6, vU .u64 c), (7, vI ↑ss.length)] [.us 124 .u32 vo ss] k1
 refine vY (ι := Unit) 4 (fun _ => True) (fun _ => [(21, vB (((↑ss.length : Int) < ↑(zF X).length ∨ (↑ss.length : Int) < ↑(zF Y).length) ∨ (c ≠ 0))), (0, v), (1, v'), (5, vo), (6, vU .u64 c), (7, vI ↑ss.length)]) (fun _ => [.us 124 .u32 vo ss]) (fun _ => k1) ?_ ?_
 ·
  refine wL ((↑ss.length : Int) < ↑(zF X).length ∨ (↑ss.length : Int) < ↑(zF Y).length) (fun hg => ?_) (fun hg => ?_)
  ·
   refine xE (yO (v := .bool true) (congrArg some (xL hg))) rfl rfl rfl (yI rfl rfl rfl rfl rfl rfl (yI rfl rfl rfl rfl rfl rfl (gv (xM rfl rfl) rfl (zD ?_))))
   refine yM () trivial ⟨?_, rfl, rfl, rfl, rfl, rfl, trivial⟩ rfl rfl
   exact congrArg some (jZ hg)
  refine xE (yO (v := .bool false) (congrArg some (yX hg))) rfl rfl rfl (yY rfl rfl rfl (mv rfl rfl (yY rfl rfl rfl (gv (ov_neq_u (k := .u64) (q := 0) rfl rfl) rfl (gv (xW rfl rfl) rfl (zD ?_))))))
  refine yM () trivial ⟨?_, rfl, rfl, rfl, rfl, rfl, trivial⟩ rfl rfl
  exact congrArg some (kA hg)
 intro _ _
 show GL _ _ _ _ _ _ _ [(21, vB (((↑ss.length : Int) < ↑(zF X).length ∨ (↑ss.length : Int) < ↑(zF Y).length) ∨ (c ≠ 0))), (0, v), (1, v'), (5, vo), (6, vU .u64 c), (7, vI ↑ss.length)] [.us 124 .u32 vo ss] k1
 refine zD (zB ?_)
 refine zN rfl (fun hc21 => ?_) (fun hc21 => ?_)
 ·
  refine zK (zB (zC (zP ?_)))
  refine jX (ι := Unit) (fun (_u : (Unit)) => True) (fun (_u : (Unit)) => [(0, v), (1, v'), (5, vo), (6, vU .u64 (c + (zF X).getD ss.length 0)), (7, vI ↑ss.length)]) (fun (_u : (Unit)) => [.us 124 .u32 vo ss]) (fun (_u : (Unit)) => k1) ?_ ?_
  ·
   refine zC (zA (mv rfl rfl (mv rfl rfl (gv (zZ underlying28 rfl hv) rfl (gv (zW rfl rfl) rfl (zD (zB ?_)))))))
   refine zN rfl (fun hc27 => ?_) (fun hc27 => ?_)
   ·
    refine zA (mv rfl rfl (mv rfl rfl (mv rfl rfl (gv (yN (ss.length) underlying28 sizeOf124 rfl rfl hv (by omega) (by omega)) rfl (gv (yQ isAgg124 rfl hv (by omega)) rfl (gv (xA (k := .u32) (k' := .u64) (W := 18446744073709551616) underlying124 underlying122 rfl rfl rfl (by omega)) rfl (gv (jD (k := .u64) (W := 18446744073709551616) rfl rfl rfl rfl (by omega)) rfl (asg rfl rfl (zD ?_)))))))))
    refine yM (()) ?_ e5z rfl rfl
    trivial
   refine zK ?_
   refine yM (()) ?_ ⟨rfl, rfl, rfl, ?_, rfl, trivial⟩ rfl rfl
   ·
    trivial
   · exact congrArg some (congrArg (vU .u64) (by rw [getD_out (xs := zF X) (by omega)]; omega))
  intro _u hx
  obtain hcut := hx
  show GC _ _ _ _ _ _ [(0, v), (1, v'), (5, vo), (6, vU .u64 (c + (zF X).getD ss.length 0)), (7, vI ↑ss.length)] [.us 124 .u32 vo ss] k1
  refine jX (ι := Unit) (fun (_u : (Unit)) => True) (fun (_u : (Unit)) => [(0, v), (1, v'), (5, vo), (6, vU .u64 (c + (zF X).getD ss.length 0 + (zF Y).getD ss.length 0)), (7, vI ↑ss.length)]) (fun (_u : (Unit)) => [.us 124 .u32 vo ss]) (fun (_u : (Unit)) => k1) ?_ ?_
  ·
   refine zC (zA (mv rfl rfl (mv rfl rfl (gv (zZ underlying28 rfl hv') rfl (gv (zW rfl rfl) rfl (zD (zB ?_)))))))
   refine zN rfl (fun hc38 => ?_) (fun hc38 => ?_)
   ·
    refine zA (mv rfl rfl (mv rfl rfl (mv rfl rfl (gv (yN (ss.length) underlying28 sizeOf124 rfl rfl hv' (by omega) (by omega)) rfl (gv (yQ isAgg124 rfl hv' (by omega)) rfl (gv (xA (k := .u32) (k' := .u64) (W := 18446744073709551616) underlying124 underlying122 rfl rfl rfl (by omega)) rfl (gv (jD (k := .u64) (W := 18446744073709551616) rfl rfl rfl rfl (by omega)) rfl (asg rfl rfl (zD ?_)))))))))
    refine yM (()) ?_ e5z rfl rfl
    trivial
   refine zK ?_
   refine yM (()) ?_ ⟨rfl, rfl, rfl, ?_, rfl, trivial⟩ rfl rfl
   ·
    trivial
   · exact congrArg some (congrArg (vU .u64) (by rw [getD_out (xs := zF Y) (by omega)]; omega))
  intro _u hx
  obtain hcut := hx
  show GC _ _ _ _ _ _ [(0, v), (1, v'), (5, vo), (6, vU .u64 (c + (zF X).getD ss.length 0 + (zF Y).getD ss.length 0)), (7, vI ↑ss.length)] [.us 124 .u32 vo ss] k1
  refine zC (zA (mv rfl rfl (mv rfl rfl (gv (vH (k := .u64) (k' := .u32) (W := 4294967296) underlying122 underlying124 rfl rfl rfl) rfl (zI (new_build1 (kd := .u32) underlying28 uJ rfl rfl rfl) rfl rfl rfl ?_)))))
  intro v49 r49 hr49
  obtain rfl := hr49
  refine xT (by intro z hz; simp only [List.mem_singleton] at hz; subst hz; simp only [ub]; omega) ?_
  intro h1 hh1 hch
  refine qH (A := []) (rep_append_us (kd := .u32) (bytes := 4) underlying28 uJ rfl rfl rfl rfl rfl hch (by simp only [List.length_singleton]; omega) (by simp only [List.length_singleton]; omega)) rfl rfl rfl ?_
  intro v50 r50 hr50
  obtain rfl := hr50
  refine asg rfl rfl (zD (zB (zA (mv rfl rfl (gv (qD (k := .u64) (s := 32) (yk := .u64) rfl rfl rfl (by simp only [ub]; omega)) rfl (asg rfl rfl (zD (xC (zB (zA (mv rfl rfl (gv (zS (q := 1) rfl rfl (by omega) (by omega)) rfl (asg rfl rfl ?_)))))))))))))
  refine zD ?_
  generalize hXi : (zF X).getD ss.length 0 = p at *
  generalize hYi : (zF Y).getD ss.length 0 = q at *
  have hgrow : ss.length < (zF (X + Y)).length := by
    rcases hc21 with (h | h) | h
    · omega
    · omega
    · by_cases h1 : ss.length < (zF X).length
      · omega
      · by_cases h2 : ss.length < (zF Y).length
        · omega
        · rw [wU (by omega), wU (by omega), zU, zU] at hval
          refine limbs_len_gt ?_
          have := Nat.le_mul_of_pos_right (4294967296 ^ ss.length) (Nat.pos_of_ne_zero h)
          omega
  refine yV (v50, ss ++ [(c + p + q) % 4294967296], (c + p + q) / 2 ^ 32, h1) ?_ ?_ ⟨rfl, rfl, rfl, rfl, ?_, trivial⟩ rfl rfl
  ·
   refine ⟨(hmk1.trans hh1), ?_⟩
   refine ⟨by simp; omega, uF hfs (fit_one (by omega)), by omega, ?_⟩
   rw [lAz, List.length_singleton, uA, uA, hXi, hYi, val_snoc, Nat.pow_succ]
   have e := Nat.div_add_mod (c + p + q) 4294967296
   rw [show (2 : Nat) ^ 32 = 4294967296 from rfl]
   generalize (c + p + q) / 4294967296 = s at *
   generalize (c + p + q) % 4294967296 = r at *
   grind
  ·
   dsimp only
   simp; omega
  · exact congrArg some (congrArg vI (by simp))
 refine xG (yB (yB (xF (zB (zC (zA (mv rfl rfl (xT (by exact hfs) ?_))))))))
 intro h1 hh1 ho
 refine asg rfl rfl (zD (zB (zQ (yC rfl rfl ?_))))
 have h1 : ¬ ss.length < (zF X).length := fun h => hc21 (.inl (.inl (by omega)))
 have h2 : ¬ ss.length < (zF Y).length := fun h => hc21 (.inl (.inr (by omega)))
 have h3 : c = 0 := Classical.byContradiction fun h => hc21 (.inr h)
 rw [wU (by omega), wU (by omega), zU, zU, h3] at hval
 have e : val ss = X + Y := by omega
 rw [← e, limbs_eq hfs (by rw [e]; exact hss)]
 exact ho
theorem ref_minus {w0 : World} {h0 : Mem}  (hs : MLe h0 (mem w0)) {v v' : Value} {X Y : Nat} (hv : Us .u32 h0 v (zF X)) (hv' : Us .u32 h0 v' (zF Y)) (hle : Y ≤ X) (hl : (zF X).length ≤ 1099511627776) :
    Calls Tryz.prog 121 #[v, v'] w0 (Ret w0 h0 (fun h r => Us .u32 h r (zF (X - Y)))) := by
 have hlm := xD hle
 refine zM (n := 50) (e := [(0, v), (1, v')]) (vs := [v, v']) func121 rfl rfl (bL rfl) hs e2z (zC (zA (asg rfl rfl (zD (zB (zC (zA (mv rfl rfl (gv (zZ underlying28 rfl hv) rfl (qM (kd := .u32) (by' := 4) _ underlying28 uJ rfl rfl rfl rfl rfl rfl rfl (by omega) (by omega) rfl ?_))))))))))
 intro v12
 refine asg rfl rfl (zD (zB (zC (zA (asg (v := vU .u64 0) rfl rfl (zD (zB (zC (zC (zA (asg (v := vI (0)) rfl rfl (zD (zB ?_)))))))))))))
 refine zP ?_
 refine wE (ι := List Nat × Nat) (fun (ss, c) => ss.length ≤ (zF X).length ∧ Fit ss ∧ c ≤ 1 ∧ val ss + val ((zF Y).take ss.length) = val ((zF X).take ss.length) + 4294967296 ^ ss.length * c) (fun (ss, c) => [(0, v), (1, v'), (5, v12), (6, vU .u64 c), (7, vI ↑ss.length)]) (fun (ss, c) => [.us 124 .u32 v12 (qS ss (zF X).length)]) (fun (ss, c) => h0) (fun (ss, c) => (zF X).length - ss.length) ([], 0) ?_ e5z rfl rfl ?_
 ·
  exact ⟨by simp, fun x hx => by simp at hx, by omega, by simp [val]⟩
 intro x hx
 obtain ⟨ss, c⟩ := x
 obtain ⟨hss, hfs, hc1, hval⟩ := hx
 show GC _ _ _ _ _ _ [(0, v), (1, v'), (5, v12), (6, vU .u64 c), (7, vI ↑ss.length)] [.us 124 .u32 v12 (qS ss (zF X).length)] h0
 have hx1 := hv.get32 ss.length
 have hx2 := hv'.get32 ss.length
 refine zC (zC (zA (mv rfl rfl (mv rfl rfl (gv (zZ underlying28 rfl hv) rfl (gv (zW rfl rfl) rfl (zD (zB ?_))))))))
 refine zN rfl (fun hc16 => ?_) (fun hc16 => ?_)
 ·
  refine zK (zB (zC (zP (zC (zA (mv rfl rfl (asg rfl rfl (zD (zB ?_)))))))))
  refine jX (ι := Unit) (fun (_u : (Unit)) => True) (fun (_u : (Unit)) => [(0, v), (1, v'), (5, v12), (7, vI ↑ss.length), (8, vU .u64 (c + (zF Y).getD ss.length 0))]) (fun (_u : (Unit)) => [.us 124 .u32 v12 (qS ss (zF X).length)]) (fun (_u : (Unit)) => h0) ?_ ?_
  ·
   refine zC (zA (mv rfl rfl (mv rfl rfl (gv (zZ underlying28 rfl hv') rfl (gv (zW rfl rfl) rfl (zD (zB ?_)))))))
   refine zN rfl (fun hc23 => ?_) (fun hc23 => ?_)
   ·
    refine wJ (e' := [(0, _), (1, _), (5, _), (7, _), (8, _)]) e5z (zA (mv rfl rfl (mv rfl rfl (mv rfl rfl (gv (yN (ss.length) underlying28 sizeOf124 rfl rfl hv' (by omega) (by omega)) rfl (gv (yQ isAgg124 rfl hv' (by omega)) rfl (gv (xA (k := .u32) (k' := .u64) (W := 18446744073709551616) underlying124 underlying122 rfl rfl rfl (by omega)) rfl (gv (jD (k := .u64) (W := 18446744073709551616) rfl rfl rfl rfl (by omega)) rfl (asg rfl rfl (zD ?_))))))))))
    refine yM (()) ?_ e5z rfl rfl
    trivial
   refine wJ (e' := [(0, _), (1, _), (5, _), (7, _), (8, _)]) e5z (zK ?_)
   refine yM (()) ?_ ⟨rfl, rfl, rfl, rfl, ?_, trivial⟩ rfl rfl
   ·
    trivial
   · exact congrArg some (congrArg (vU .u64) (by rw [getD_out (xs := zF Y) (by omega)]; omega))
  intro _u hx
  obtain hcut := hx
  show GC _ _ _ _ _ _ [(0, v), (1, v'), (5, v12), (7, vI ↑ss.length), (8, vU .u64 (c + (zF Y).getD ss.length 0))] [.us 124 .u32 v12 (qS ss (zF X).length)] h0
  refine zC (zA (mv rfl rfl (mv rfl rfl (gv (yN (ss.length) underlying28 sizeOf124 rfl rfl hv (by omega) (by omega)) rfl (gv (yQ isAgg124 rfl hv (by omega)) rfl (gv (xA (k := .u32) (k' := .u64) (W := 18446744073709551616) underlying124 underlying122 rfl rfl rfl (by omega)) rfl (asg rfl rfl (zD (zB (zC (zA (asg (v := vU .u64 0) rfl rfl (zD ?_)))))))))))))
  refine zB ?_
  refine jX (ι := Nat) (fun (d : (Nat)) => d ≤ 1 ∧ c + (zF Y).getD ss.length 0 ≤ (zF X).getD ss.length 0 + 4294967296 * d ∧ (zF X).getD ss.length 0 + 4294967296 * d < c + (zF Y).getD ss.length 0 + 4294967296) (fun (d : (Nat)) => [(0, v), (1, v'), (5, v12), (6, vU .u64 d), (7, vI ↑ss.length), (8, vU .u64 (c + (zF Y).getD ss.length 0)), (9, vU .u64 ((zF X).getD ss.length 0 + 4294967296 * d))]) (fun (d : (Nat)) => [.us 124 .u32 v12 (qS ss (zF X).length)]) (fun (d : (Nat)) => h0) ?_ ?_
  ·
   refine zC (zA (mv rfl rfl (mv rfl rfl (gv (ov_lss_u (k := .u64) rfl rfl) rfl (zD (zB ?_))))))
   refine zN rfl (fun hc38 => ?_) (fun hc38 => ?_)
   ·
    refine zC (zA (mv rfl rfl (gv (jD (k := .u64) (q := 4294967296) (W := 18446744073709551616) rfl rfl rfl rfl (by omega)) rfl (asg rfl rfl (zD (zJ (e' := [(0, _), (1, _), (5, _), (7, _), (8, _), (9, _)]) e6 (zB (zA (asg (v := vU .u64 1) rfl rfl (zD ?_))))))))))
    refine yM (1) ?_ e7 rfl rfl
    exact ⟨by omega, by omega, by omega⟩
   refine zK ?_
   refine yM (0) ?_ e7 rfl rfl
   exact ⟨by omega, by omega, by omega⟩
  intro d hx
  obtain ⟨hd1, hd2, hd3⟩ := hx
  show GC _ _ _ _ _ _ [(0, v), (1, v'), (5, v12), (6, vU .u64 d), (7, vI ↑ss.length), (8, vU .u64 (c + (zF Y).getD ss.length 0)), (9, vU .u64 ((zF X).getD ss.length 0 + 4294967296 * d))] [.us 124 .u32 v12 (qS ss (zF X).length)] h0
  refine zA (mv rfl rfl (mv rfl rfl (mv rfl rfl (mv rfl rfl (gv (ov_sub_u (k := .u64) (W := 18446744073709551616) rfl rfl rfl rfl (by omega) (by omega)) rfl (gv (xA (k := .u64) (k' := .u32) (W := 4294967296) underlying122 underlying124 rfl rfl rfl (by omega)) rfl (gv (wC (A := []) (ss.length) underlying28 sizeOf124 rfl rfl (by omega) (by rw [uB (by omega)]; omega)) rfl (vN sizeOf124 rfl rfl (by rw [uB (by omega)]; omega) (zD (xC (zB (zA (mv rfl rfl ?_)))))))))))))
  refine gv (zS (q := 1) rfl rfl (by omega) (by omega)) rfl (asg rfl rfl (zD ?_))
  generalize hXi : (zF X).getD ss.length 0 = p at *
  generalize hYi : (zF Y).getD ss.length 0 = q at *
  refine yV (ss ++ [p + 4294967296 * d - (c + q)], d) ?_ ?_ ⟨rfl, rfl, rfl, rfl, ?_, trivial⟩ ?_ rfl
  ·
   refine ⟨by simp; omega, uF hfs (fit_one (by omega)), hd1, ?_⟩
   rw [lAz, List.length_singleton, uA, uA, hXi, hYi, val_snoc, Nat.pow_succ]
   have e : p + 4294967296 * d - (c + q) + c + q = p + 4294967296 * d := by omega
   generalize p + 4294967296 * d - (c + q) = r at *
   grind
  ·
   dsimp only
   simp; omega
  · exact congrArg some (congrArg vI (by simp))
  try dsimp only [List.nil_append, List.cons_append]
  rw [fillTo_set (by omega)]
 refine xG (yB (yB (xF (zB (zC (zA (mv rfl rfl ?_)))))))
 have hk : ss.length = (zF X).length := by omega
 rw [fillTo_full hk]
 refine xT (by exact hfs) ?_
 intro h1 hh1 ho
 refine zO (vs := [_]) rfl rfl rfl rfl call118 ⟨rfl, trivial⟩ (fun w hs => ref_trim hs ho (by omega)) ?_
 intro v49 h2 hh2 hr49
 refine asg rfl rfl (zD (zJ (e' := [(4, _)]) ⟨rfl, trivial⟩ (zB (zQ (yC rfl rfl ?_)))))
 have hk : ss.length = (zF X).length := by omega
 rw [wU (by omega), wU (by omega), zU, zU] at hval
 have h1 := jV hfs
 have h2 : c = 0 := Classical.byContradiction fun hne => by
   have : c = 1 := by omega
   subst this
   omega
 subst h2
 have e : val ss = X - Y := by omega
 rw [e] at hr49
 exact hr49
theorem ref_sub {w0 : World} {h0 : Mem}  (hs : MLe h0 (mem w0)) {v v' : Value} {X Y : Nat} (hv : Us .u32 h0 v (zF X)) (hv' : Us .u32 h0 v' (zF Y)) (hl : (zF X).length ≤ 1099511627776) :
    Calls Tryz.prog 94 #[v, v'] w0 (Ret w0 h0 (fun h r => ∃ u, r = .tuple #[u, vI (if X < Y then 7 else 0)] ∧ Us .u32 h u (zF (X - Y)))) := by
 refine zM (n := 13) (e := [(0, v), (1, v')]) (vs := [v, v']) func94 rfl rfl (bL rfl) hs e2z (zC (zA (asg rfl rfl (asg (v := vI (0)) rfl rfl (zD (zB (zC (zC (zA (mv rfl rfl (mv rfl rfl ?_)))))))))))
 refine zO (vs := [_, _]) rfl rfl rfl rfl call93 e2z (fun w hs => ref_cmp hs hv hv') ?_
 intro v8 h1 hh1 hr8
 subst hr8
 refine gv (zW (q := 0) rfl rfl) rfl (zD (zB ?_))
 refine zN rfl (fun hc9 => ?_) (fun hc9 => ?_)
 ·
  have hlt := cmpN_neg.1 hc9
  refine zC (zA (asg rfl rfl (asg (v := vI (7)) rfl rfl (zD (zB (zQ (zV (vK rfl rfl rfl ?_))))))))
  rw [if_pos hlt, Nat.sub_eq_zero_of_le (Nat.le_of_lt hlt), wD]
  exact ⟨_, rfl, Us.nil _ _⟩
 have hge : Y ≤ X := Nat.le_of_not_lt fun hc => hc9 (cmpN_neg.2 hc)
 refine zK (zB (zC (zA (mv rfl rfl (mv rfl rfl ?_)))))
 replace hv := hv.mono hh1
 replace hv' := hv'.mono hh1
 refine zO (vs := [_, _]) rfl rfl rfl rfl call121 e2z (fun w hs => ref_minus hs hv hv' (by omega) (by omega)) ?_
 intro v12 h2 hh2 hr12
 refine asg rfl rfl (asg (v := vI (0)) rfl rfl (zD (zB (zQ (vK rfl rfl rfl ?_)))))
 rw [if_neg (by omega)]
 exact ⟨_, rfl, hr12⟩
theorem ref_mul {w0 : World} {h0 : Mem}  (hs : MLe h0 (mem w0)) {v v' : Value} {xs ys : List Nat} (hv : Us .u32 h0 v xs) (hv' : Us .u32 h0 v' ys) (hl : xs.length ≤ 1099511627776) (hl' : ys.length ≤ 1099511627776) :
    Calls Tryz.prog 90 #[v, v'] w0 (Ret w0 h0 (fun h r => Us .u32 h r (zF (val xs * val ys)))) := by
 have hfx : Fit xs := hv.lt
 have hfy : Fit ys := hv'.lt
 refine zM (n := 67) (e := [(0, v), (1, v')]) (vs := [v, v']) func90 rfl rfl (bL rfl) hs e2z (zC (zA (asg rfl rfl (zD (zB (zC (zA (mv rfl rfl (gv (zZ underlying28 rfl hv) rfl (mv rfl rfl (gv (zZ underlying28 rfl hv') rfl (gv (zS rfl rfl (by omega) (by omega)) rfl (qM (kd := .u32) (by' := 4) (xs.length + ys.length) underlying28 uJ rfl rfl rfl rfl rfl (by omega) (by omega) (by omega) (by omega) rfl ?_)))))))))))))
 intro v14
 refine asg rfl rfl (zD (zB (zC (zC (zA (asg (v := vI (0)) rfl rfl (zD (zB (zP ?_)))))))))
 refine wE (ι := Nat × List Nat) (fun (k, os) => k ≤ xs.length ∧ os.length = xs.length + ys.length ∧ Fit os ∧ val os = val (xs.take k) * val ys ∧ ∀ i, k + ys.length ≤ i → os.getD i 0 = 0) (fun (k, os) => [(0, v), (1, v'), (5, v14), (6, vI ↑k)]) (fun (k, os) => [.us 124 .u32 v14 os]) (fun (k, os) => h0) (fun (k, os) => xs.length - k) (0, List.replicate (xs.length + ys.length) 0) ?_ e4z rfl rfl ?_
 ·
  exact ⟨Nat.zero_le _, by simp, qZ _, by rw [val_replicate]; simp [val], fun i _ => getD_replicate _ _⟩
 intro x hx
 obtain ⟨k, os⟩ := x
 obtain ⟨hk, hos, hfo, hval, hz⟩ := hx
 show GC _ _ _ _ _ _ [(0, v), (1, v'), (5, v14), (6, vI ↑k)] [.us 124 .u32 v14 os] h0
 refine zC (zC (zA (mv rfl rfl (mv rfl rfl (gv (zZ underlying28 rfl hv) rfl (gv (zW rfl rfl) rfl (zD (zB ?_))))))))
 refine zN rfl (fun hc18 => ?_) (fun hc18 => ?_)
 ·
  refine zK (zB (zC (zP (zC (zA (asg (v := vU .u64 0) rfl rfl (zD (zB (zC (zC (zA (asg (v := vI (0)) rfl rfl (zD ?_)))))))))))))
  refine zB (zP ?_)
  refine wE (ι := Nat × List Nat × Nat) (fun (j, ts, c) => j ≤ ys.length ∧ ts.length = xs.length + ys.length ∧ Fit ts ∧ c < 4294967296 ∧ val ts + 4294967296 ^ (k + j) * c = val os + 4294967296 ^ k * (xs.getD k 0 * val (ys.take j)) ∧ ∀ i, k + ys.length ≤ i → ts.getD i 0 = 0) (fun (j, ts, c) => [(0, v), (1, v'), (5, v14), (6, vI ↑k), (7, vU .u64 c), (8, vI ↑j)]) (fun (j, ts, c) => [.us 124 .u32 v14 ts]) (fun (j, ts, c) => h0) (fun (j, ts, c) => ys.length - j) (0, os, 0) ?_ e6 rfl rfl ?_
  ·
   exact ⟨Nat.zero_le _, hos, hfo, by omega, by simp [val], hz⟩
  intro x hx
  obtain ⟨j, ts, c⟩ := x
  obtain ⟨hj, hts, hft, hcb, htv, htz⟩ := hx
  show GC _ _ _ _ _ _ [(0, v), (1, v'), (5, v14), (6, vI ↑k), (7, vU .u64 c), (8, vI ↑j)] [.us 124 .u32 v14 ts] h0
  have hx1 := hv.get32 k
  have hx2 := hv'.get32 j
  have hx3 := uY hft (k + j)
  have hxy : xs.getD k 0 * ys.getD j 0 ≤ 4294967295 * 4294967295 := Nat.mul_le_mul (by omega) (by omega)
  refine zC (zC (zA (mv rfl rfl (mv rfl rfl (gv (zZ underlying28 rfl hv') rfl (gv (zW rfl rfl) rfl (zD (zB ?_))))))))
  refine zN rfl (fun hc24 => ?_) (fun hc24 => ?_)
  ·
   refine zK (zB (zC (zP (zC ?_))))
   refine yF 22 _ [] [(0, .q), (1, .q), (2, .q), (3, .q), (4, .q), (5, .q), (6, .q), (7, .q), (8, .q), (9, .q), (10, .q), (11, .q), (12, .q), (13, .q), (14, .q), (15, .q), (16, .q), (17, .q), (18, .q), (19, .q), (20, .q), (21, .q)] xH nX (by kernel_rfl) nX (fun r hr => hr) (yH rfl rfl rfl (yH rfl rfl rfl (yH rfl rfl rfl (w_q rfl (fun h' L' hh hR => yN (k) underlying28 sizeOf124 rfl rfl (hv.mono hh) (by omega) (by omega)) rfl (w_q rfl (fun h' L' hh hR => yQ isAgg124 rfl (hv.mono hh) (by omega)) rfl (yK rfl (fun _ _ => xA (k := .u32) (k' := .u64) (W := 18446744073709551616) underlying124 underlying122 rfl rfl rfl (by omega)) rfl (yH rfl rfl rfl (yH rfl rfl rfl (w_q rfl (fun h' L' hh hR => yN (j) underlying28 sizeOf124 rfl rfl (hv'.mono hh) (by omega) (by omega)) rfl (w_q rfl (fun h' L' hh hR => yQ isAgg124 rfl (hv'.mono hh) (by omega)) rfl (yK rfl (fun _ _ => xA (k := .u32) (k' := .u64) (W := 18446744073709551616) underlying124 underlying122 rfl rfl rfl (by omega)) rfl (yK rfl (fun _ _ => jC (k := .u64) (W := 18446744073709551616) rfl rfl rfl rfl (by omega)) rfl (yH rfl rfl rfl ?_)))))))))))))
   refine yH rfl rfl rfl (yH rfl rfl rfl (yK rfl (fun _ _ => zS rfl rfl (by omega) (by omega)) rfl (w_q rfl (fun h' L' hh hR => kK (hR _ mh0) (k + j) underlying28 sizeOf124 rfl rfl (by omega) (by omega)) rfl (w_q rfl (fun h' L' hh hR => ov_load_ousM (hR _ mh0) isAgg124 rfl (by omega)) rfl (yK rfl (fun _ _ => xA (k := .u32) (k' := .u64) (W := 18446744073709551616) underlying124 underlying122 rfl rfl rfl (by omega)) rfl (yK rfl (fun _ _ => jD (k := .u64) (W := 18446744073709551616) rfl rfl rfl rfl (by omega)) rfl (yK rfl (fun _ _ => jD (k := .u64) (W := 18446744073709551616) rfl rfl rfl rfl (by omega)) rfl (uG rfl rfl rfl (xB (zJ (e' := [(0, _), (1, _), (5, _), (6, _), (8, _), (7, _)]) e6 (zB (zC (zA ?_)))))))))))))
   refine mv rfl rfl (mv rfl rfl (mv rfl rfl (gv (zS rfl rfl (by omega) (by omega)) rfl (mv rfl rfl (gv (vH (k := .u64) (k' := .u32) (W := 4294967296) underlying122 underlying124 rfl rfl rfl) rfl (gv (wC (A := []) (k + j) underlying28 sizeOf124 rfl rfl (by omega) (by omega)) rfl (vN sizeOf124 rfl rfl (by omega) (zD (zB (zA (mv rfl rfl (gv (qD (k := .u64) (s := 32) (yk := .u64) rfl rfl rfl (by simp only [ub]; omega)) rfl (asg rfl rfl ?_)))))))))))))
   refine zD (xC (zB (zA (mv rfl rfl (gv (zS (q := 1) rfl rfl (by omega) (by omega)) rfl (asg rfl rfl (zD ?_)))))))
   refine yV (j + 1, ts.set (k + j) ((c + (xs.getD k 0 * ys.getD j 0 + ts.getD (k + j) 0)) % 4294967296), (c + (xs.getD k 0 * ys.getD j 0 + ts.getD (k + j) 0)) / 2 ^ 32) ?_ ?_ e6 rfl rfl
   ·
    refine ⟨by omega, by simp [hts], fit_set hft _ (by omega), by omega, ?_, fun i hi => ?_⟩
    · have h1 := val_set (xs := ts) (i := k + j) (by omega) ((c + (xs.getD k 0 * ys.getD j 0 + ts.getD (k + j) 0)) % 4294967296)
      have e := Nat.div_add_mod (c + (xs.getD k 0 * ys.getD j 0 + ts.getD (k + j) 0)) 4294967296
      have e2 : (2 : Nat) ^ 32 = 4294967296 := rfl
      rw [uK ys j (by omega), e2]
      have ep : (4294967296 : Nat) ^ (k + (j + 1)) = 4294967296 ^ k * 4294967296 ^ j * 4294967296 := by rw [← Nat.add_assoc, Nat.pow_succ, Nat.pow_add]
      rw [ep]
      rw [Nat.pow_add] at h1 htv
      generalize (c + (xs.getD k 0 * ys.getD j 0 + ts.getD (k + j) 0)) / 4294967296 = q at *
      generalize (c + (xs.getD k 0 * ys.getD j 0 + ts.getD (k + j) 0)) % 4294967296 = r at *
      grind
    · rw [qO (by omega)]; exact htz i hi
   dsimp only
   omega
  refine xG (yB (yB (xF (zB (zA (mv rfl rfl (mv rfl rfl (mv rfl rfl (gv (zZ underlying28 rfl hv') rfl (gv (zS rfl rfl (by omega) (by omega)) rfl (mv rfl rfl (gv (vH (k := .u64) (k' := .u32) (W := 4294967296) underlying122 underlying124 rfl rfl rfl) rfl (gv (wC (A := []) (k + ys.length) underlying28 sizeOf124 rfl rfl (by omega) (by omega)) rfl ?_)))))))))))))
  refine vN sizeOf124 rfl rfl (by omega) (zD (xC (zJ (e' := [(0, _), (1, _), (5, _), (6, _)]) e4z (zB (zA (mv rfl rfl (gv (zS (q := 1) rfl rfl (by omega) (by omega)) rfl (asg rfl rfl (zD ?_)))))))))
  refine yV (k + 1, ts.set (k + ys.length) (c % 4294967296)) ?_ ?_ e4z rfl rfl
  ·
   have hj : j = ys.length := by omega
   subst hj
   refine ⟨by omega, by simp [hts], fit_set hft _ (by omega), ?_, fun i hi => ?_⟩
   · have h1 := val_set (xs := ts) (i := k + ys.length) (by omega) (c % 4294967296)
     rw [htz _ (Nat.le_refl _)] at h1
     rw [wU (Nat.le_refl _)] at htv
     rw [Nat.mod_eq_of_lt hcb] at h1 ⊢
     rw [uK xs k (by omega)]
     grind
   · rw [qO (by omega)]; exact htz i (by omega)
  dsimp only
  omega
 refine xG (yB (yB (xF (zB (zC (zA (mv rfl rfl (xT (by exact hfo) ?_))))))))
 intro h1 hh1 ho
 refine zO (vs := [_]) rfl rfl rfl rfl call118 ⟨rfl, trivial⟩ (fun w hs => ref_trim hs ho (by omega)) ?_
 intro v66 h2 hh2 hr66
 refine asg rfl rfl (zD (zJ (e' := [(4, _)]) ⟨rfl, trivial⟩ (zB (zQ (yC rfl rfl ?_)))))
 rw [hval, wU (by omega)] at hr66
 exact hr66
theorem ref_times {w0 : World} {h0 : Mem}  (hs : MLe h0 (mem w0)) {v : Value} {X d : Nat} (hv : Us .u32 h0 v (zF X)) (hd : d < 4294967296) (hl : (zF X).length ≤ 1099511627776) :
    Calls Tryz.prog 143 #[v, vU .u32 d] w0 (Ret w0 h0 (fun h r => Us .u32 h r (zF (X * d)))) := by
 refine zM (n := 10) (e := [(0, v), (1, vU .u32 d)]) (vs := [v, vU .u32 d]) func143 rfl rfl (bL rfl) hs e2z (zC (zA (asg rfl rfl (zD (zB (zC (zA (mv rfl rfl (mv rfl rfl (gv (xA (k := .u32) (k' := .u64) (W := 18446744073709551616) underlying124 underlying122 rfl rfl rfl (by omega)) rfl ?_))))))))))
 refine zO (vs := [_]) rfl rfl rfl rfl call116 ⟨rfl, trivial⟩ (fun w hs => ref_of hs (by omega)) ?_
 intro v8 h1 hh1 hr8
 have hdl := jU (n := d) (by omega)
 replace hv := hv.mono hh1
 refine zO (vs := [_, _]) rfl rfl rfl rfl call90 e2z (fun w hs => ref_mul hs hv hr8 (by omega) (by omega)) ?_
 intro v9 h2 hh2 hr9
 simp only [zU] at hr9
 refine asg rfl rfl (zD (zB (zQ (yC rfl rfl ?_))))
 exact hr9
end Go.Proofs.YtghhjjmjpeehdaaGreat
namespace Bk
set_option linter.unusedVariables false
set_option linter.unusedSimpArgs false
def mixA (ps os : List Nat) : List Nat := ps ++ os.drop ps.length
def digB (bs : List Nat) : Bool := bs.all fun b => decide (48 ≤ b) && decide (b ≤ 57)
def hor (bs : List Nat) : Nat := bs.foldl (fun a b => 10 * a + (b - 48)) 0
def perr (bs : List Nat) : Int := if 4096 < bs.length then 2 else if bs.length = 0 then 4 else if digB bs = true then 0 else 4
def pval (bs : List Nat) : Nat := if 4096 < bs.length then 0 else if digB bs = true then hor bs else 0
def shN (X : Nat) (n : Int) : Nat := if 16384 < n then 0 else if 0 ≤ n then X * 2 ^ n.toNat else X / 2 ^ (-n).toNat
def shE (n : Int) : Int := if 16384 < n then 2 else 0
theorem div_pow_zero {X k : Nat} (h : 32 * (zF X).length ≤ k) : X / 2 ^ k = 0 := by
  refine Nat.div_eq_of_lt (Nat.lt_of_lt_of_le (uL X) ?_)
  rw [show (4294967296 : Nat) = 2 ^ 32 by decide, ← Nat.pow_mul]
  exact Nat.pow_le_pow_right (by decide) h
theorem div_pow_split (X k s : Nat) : X / 4294967296 ^ k / 2 ^ s = X / 2 ^ (32 * k + s) := by
  rw [Nat.div_div_eq_div_mul, Nat.pow_add, Nat.pow_mul]
theorem mul_pow_split (X k s : Nat) : 4294967296 ^ k * (X * 2 ^ s) = X * 2 ^ (32 * k + s) := by
  rw [Nat.pow_add, Nat.pow_mul]
  grind
theorem shrD_two {s : Nat} {xs : List Nat} {i : Nat} (hs : s ≤ 32) (h : i < xs.length) : (xs.getD i 0 + 4294967296 * xs.getD (i + 1) 0) / 2 ^ s % 4294967296 = shrD s xs i := by
  have e : (4294967296 : Nat) = 2 ^ s * 2 ^ (32 - s) := by rw [← Nat.pow_add, show s + (32 - s) = 32 by omega]
  have hp : 0 < 2 ^ s := Nat.pow_pos (by omega)
  rw [shrD, jB xs i h]
  by_cases h2 : i + 1 < xs.length
  · rw [jB xs (i + 1) h2]
    generalize xs.getD i 0 = a
    generalize xs.getD (i + 1) 0 = b
    generalize val (List.drop (i + 1 + 1) xs) = c
    have h4 : a + 4294967296 * (b + 4294967296 * c) = (a + 4294967296 * b) + 2 ^ s * (4294967296 * (2 ^ (32 - s) * c)) := by
      have : 4294967296 * (4294967296 * c) = 2 ^ s * (4294967296 * (2 ^ (32 - s) * c)) := by
        conv => lhs; lhs; rw [e]
        generalize 2 ^ s = u
        generalize 2 ^ (32 - s) = v
        generalize (4294967296 : Nat) = B
        grind
      omega
    rw [h4, Nat.add_mul_div_left _ _ hp, Nat.add_mul_mod_self_left]
  · rw [getD_out (xs := xs) (i := i + 1) (by omega), List.drop_of_length_le (by omega)]
    rfl
theorem shrD_take {s : Nat} {xs : List Nat} (hf : Fit xs) : val ((List.range xs.length).map (shrD s xs)) = val xs / 2 ^ s := by
  rw [val_shrM_take hf]
  exact Nat.mod_eq_of_lt (Nat.lt_of_le_of_lt (Nat.div_le_self _ _) (jV hf))
theorem limbs_shift {X : Nat} (hX : X ≠ 0) (k : Nat) : List.replicate k 0 ++ zF X = zF (X * 4294967296 ^ k) := by
  have hv : val (List.replicate k 0 ++ zF X) = X * 4294967296 ^ k := by rw [val_append, val_replicate, lR, zU, Nat.zero_add, Nat.mul_comm]
  have hf : Fit (List.replicate k 0 ++ zF X) := uF (qZ _) (vG _)
  rw [← hv, limbs_eq hf]
  rw [hv, lAz, lR]
  have hp := wF.2 hX
  have h1 := pow_le_of_limbs_len (n := X) (k := (zF X).length - 1) (by omega)
  have h2 : 4294967296 ^ (k + ((zF X).length - 1)) ≤ X * 4294967296 ^ k := by
    rw [Nat.pow_add, Nat.mul_comm]
    exact Nat.mul_le_mul_right _ h1
  have h3 := limbs_len_gt h2
  omega
theorem jY {t : Nat} (h0 : t ≠ 0) (h : t < 4294967296) : zF t = [t] := by
  rw [jS (by omega), Nat.mod_eq_of_lt h, Nat.div_eq_of_lt h, wD]
theorem limbs_last {Y : Nat} (h : 0 < (zF Y).length) : (zF Y).drop ((zF Y).length - 1) = zF ((zF Y).getD ((zF Y).length - 1) 0) := by
  rw [jY (limbs_top_ne h) (uY (vG Y) _), drop_eq_cons _ _ (by omega), List.drop_of_length_le (by omega)]
theorem limbs_len_shl (X k : Nat) : (zF (X * 4294967296 ^ k)).length ≤ (zF X).length + k := by
  refine uR ?_
  rw [Nat.pow_add]
  exact Nat.mul_lt_mul_of_pos_right (uL X) (Nat.pow_pos (by decide))
theorem rdiv_est {V W P v1 v2 vr top u3 wr : Nat} (hV : V = (v1 * 4294967296 + v2) * P + vr) (hW : W = (top * 4294967296 + u3) * P + wr) (hu : u3 < 4294967296) (hw : wr < P) (h1 : 0 < v1) (hWV : W < 4294967296 * V) : W < (min (top / v1) 4294967295 + 1) * V := by
  by_cases h : top / v1 ≤ 4294967295
  · rw [Nat.min_eq_left h]; exact est_init hV hW hu hw h1
  · rw [Nat.min_eq_right (by omega)]; exact hWV
theorem lt_of_div {R k m V : Nat} (h : R / 4294967296 ^ k < m * V) : R < V * m * 4294967296 ^ k := by
  have := Nat.lt_mul_of_div_lt h (Nat.pow_pos (by decide))
  rw [Nat.mul_comm V m]
  exact this
theorem rdiv_low {R V k : Nat} (h : R < 4294967296 ^ (k + 1) * V) : R / 4294967296 ^ k < 4294967296 * V := by
  refine Nat.div_lt_of_lt_mul ?_
  rw [Nat.pow_succ, Nat.mul_assoc] at h
  exact h
theorem rq_step {B p R q d V U : Nat} (h : R + p * B * (q * V) = U) (hle : V * d * p ≤ R) : R - V * d * p + p * ((d + B * q) * V) = U := by
  obtain ⟨t, rfl⟩ : ∃ t, R = V * d * p + t := ⟨R - V * d * p, by omega⟩
  rw [Nat.add_sub_cancel_left]
  grind
theorem rq_lt {R V d p : Nat} (h : R < V * (d + 1) * p) (hle : V * d * p ≤ R) : R - V * d * p < p * V := by
  have : V * (d + 1) * p = V * d * p + p * V := by grind
  omega
theorem rq_back {V d p : Nat} (h : 1 ≤ d) : V * d * p - V * p = V * (d - 1) * p ∧ V * p ≤ V * d * p := by
  obtain ⟨e, rfl⟩ : ∃ e, d = e + 1 := ⟨d - 1, by omega⟩
  have : V * (e + 1) * p = V * e * p + V * p := by grind
  rw [Nat.add_sub_cancel]
  omega
theorem rdiv_start {U V r n : Nat} (hU : U < 4294967296 ^ r) (hV : 4294967296 ^ (n - 1) ≤ V) (hn : 1 ≤ n) (hr : n ≤ r) : U < 4294967296 ^ (r - n + 1) * V := by
  refine Nat.lt_of_lt_of_le hU ?_
  have h1 : (4294967296 : Nat) ^ r = 4294967296 ^ (r - n + 1) * 4294967296 ^ (n - 1) := by rw [← Nat.pow_add, show r - n + 1 + (n - 1) = r by omega]
  rw [h1]
  exact Nat.mul_le_mul_left _ hV
end Bk
namespace Go.Proofs.YtghhjjmjpeehdaaGreat
open Bk Go Tryz
set_option linter.unusedVariables false
set_option linter.unusedSimpArgs false
set_option maxRecDepth 10000
end Go.Proofs.YtghhjjmjpeehdaaGreat
namespace Go.Proofs.YtghhjjmjpeehdaaGreat
open Bk Go Tryz
set_option linter.unusedVariables false
set_option linter.unusedSimpArgs false
set_option maxRecDepth 10000
theorem ref_bylimb {w0 : World} {h0 : Mem}  (hs : MLe h0 (mem w0)) {v : Value} {xs : List Nat} {b : Nat} (hv : Us .u32 h0 v xs) (hb : 0 < b) (hb' : b < 4294967296) (hl : xs.length ≤ 1099511627776) :
    Calls Tryz.prog 139 #[v, vU .u32 b] w0 (Ret w0 h0 (fun h r => ∃ u, r = .tuple #[u, vU .u32 (val xs % b)] ∧ Us .u32 h u (zF (val xs / b)))) := by
 have hf : Fit xs := hv.lt
 refine zM (n := 43) (e := [(0, v), (1, vU .u32 b)]) (vs := [v, vU .u32 b]) func139 rfl rfl (bL rfl) hs e2z (zC (zA (asg rfl rfl (asg (v := vU .u32 0) rfl rfl (zD (zB (zC (zA (mv rfl rfl (gv (zZ underlying28 rfl hv) rfl (qM (kd := .u32) (by' := 4) _ underlying28 uJ rfl rfl rfl rfl rfl rfl rfl (by omega) (by omega) rfl ?_)))))))))))
 intro v11
 refine asg rfl rfl (zD (zB (zC (zA (asg (v := vU .u64 0) rfl rfl (zD (zB (zC (zC (zA (mv rfl rfl (gv (zZ underlying28 rfl hv) rfl (gv (xO (q := 1) rfl rfl (by omega) (by omega)) rfl ?_)))))))))))))
 refine asg rfl rfl (zD (zB (zP ?_)))
 refine wE (ι := Nat × List Nat × Nat) (fun (j, qs, r) => j ≤ xs.length ∧ qs.length = xs.length - j ∧ Fit qs ∧ r < b ∧ val (xs.drop j) = b * val qs + r) (fun (j, qs, r) => [(0, v), (1, vU .u32 b), (6, v11), (7, vU .u64 r), (8, vI (↑j - 1))]) (fun (j, qs, r) => [.us 124 .u32 v11 (uV j qs)]) (fun (j, qs, r) => h0) (fun (j, qs, r) => j) (xs.length, [], 0) ?_ e5z ?_ rfl ?_
 ·
  exact ⟨Nat.le_refl _, by simp, fun x hx => by simp at hx, hb, by rw [List.drop_of_length_le (Nat.le_refl _)]; rfl⟩
 ·
  try dsimp only [List.nil_append, List.cons_append]
  exact congrArg (fun z => [Res.us 124 .u32 v11 z]) (fillDn_nil _)
 intro x hx
 obtain ⟨j, qs, r⟩ := x
 obtain ⟨hj, hql, hfq, hr, hval⟩ := hx
 show GC _ _ _ _ _ _ [(0, v), (1, vU .u32 b), (6, v11), (7, vU .u64 r), (8, vI (↑j - 1))] [.us 124 .u32 v11 (uV j qs)] h0
 refine zC (zC (zA (mv rfl rfl (gv (qT (q := 0) rfl rfl) rfl (zD (zB ?_))))))
 refine zN rfl (fun hc16 => ?_) (fun hc16 => ?_)
 ·
  refine zK (zB (zC (zP (zC (zA (mv rfl rfl (gv (kT (k := .u64) (s := 32) (yk := .u64) (W := 18446744073709551616) rfl rfl rfl rfl) rfl (mv rfl rfl (mv rfl rfl (gv (yN (j - 1) underlying28 sizeOf124 rfl rfl hv (by omega) (by omega)) rfl (gv (yQ isAgg124 rfl hv (by omega)) rfl ?_)))))))))))
  have hx1 := hv.get32 (j - 1)
  refine gv (xA (k := .u32) (k' := .u64) (W := 18446744073709551616) underlying124 underlying122 rfl rfl rfl (by omega)) rfl (gv (ov_or_u (k := .u64) rfl rfl rfl (by simp only [ub]; omega) (by simp only [ub]; omega)) rfl ?_)
  rw [or_shift (by omega) hx1]
  generalize ht : r * 4294967296 + xs.getD (j - 1) 0 = t at *
  have hq : t / b < 4294967296 := Nat.div_lt_of_lt_mul (by rw [← ht]; have h1 : (r + 1) * 4294967296 ≤ b * 4294967296 := Nat.mul_le_mul_right _ hr; omega)
  refine asg rfl rfl (zD (zJ (e' := [(0, _), (1, _), (6, _), (8, _), (7, _)]) e5z (zB (zC (zA (mv rfl rfl (mv rfl rfl (mv rfl rfl (mv rfl rfl (gv (xA (k := .u32) (k' := .u64) (W := 18446744073709551616) underlying124 underlying122 rfl rfl rfl (by omega)) rfl (gv (ov_quo_u (k := .u64) (W := 18446744073709551616) rfl rfl rfl rfl (by omega) (by omega)) rfl (gv (xA (k := .u64) (k' := .u32) (W := 4294967296) underlying122 underlying124 rfl rfl rfl (by omega)) rfl (gv (wC (A := []) (j - 1) underlying28 sizeOf124 rfl rfl (by omega) (by rw [jP]; omega)) rfl ?_)))))))))))))
  refine vN sizeOf124 rfl rfl (by rw [jP]; omega) (zD (zB (zA (mv rfl rfl (mv rfl rfl (gv (xA (k := .u32) (k' := .u64) (W := 18446744073709551616) underlying124 underlying122 rfl rfl rfl (by omega)) rfl (gv (ov_rem_u (k := .u64) rfl rfl (by omega)) rfl (asg rfl rfl (zD (xC (zJ (e' := [(0, _), (1, _), (6, _), (8, _), (7, _)]) e5z (zB (zA ?_)))))))))))))
  refine mv rfl rfl (gv (xO (q := 1) rfl rfl (by omega) (by omega)) rfl (asg rfl rfl (zD ?_)))
  refine yV (j - 1, t / b :: qs, t % b) ?_ ?_ ⟨rfl, rfl, rfl, rfl, ?_, trivial⟩ ?_ rfl
  ·
   refine ⟨by omega, by simp only [lC]; omega, fit_cons.2 ⟨hq, hfq⟩, Nat.mod_lt _ hb, ?_⟩
   rw [jB xs (j - 1) (by omega), show j - 1 + 1 = j by omega, val]
   exact small_step hval ht.symm rfl rfl
  ·
   dsimp only
   omega
  · exact congrArg some (congrArg vI (by omega))
  try dsimp only [List.nil_append, List.cons_append]
  rw [fillDn_set (by omega)]
 refine xG (yB (yB (xF (zB (zC (zA (mv rfl rfl ?_)))))))
 have hj0 : j = 0 := by omega
 subst hj0
 rw [fillDn_zero]
 refine xT (by exact hfq) ?_
 intro h1 hh1 ho
 refine zO (vs := [_]) rfl rfl rfl rfl call118 ⟨rfl, trivial⟩ (fun w hs => ref_trim hs ho (by omega)) ?_
 intro v40 h2 hh2 hr40
 refine mv rfl rfl (gv (xA (k := .u64) (k' := .u32) (W := 4294967296) underlying122 underlying124 rfl rfl rfl (by omega)) rfl (asg rfl rfl (asg rfl rfl (zD (zJ (e' := [(4, _), (5, _)]) e2z (zB (zQ (vK rfl rfl rfl ?_))))))))
 simp only [List.drop_zero] at hval
 have e1 : val xs / b = val qs := by rw [hval, Nat.mul_add_div hb, Nat.div_eq_of_lt hr]; omega
 have e2 : val xs % b = r := by rw [hval, Nat.mul_add_mod, Nat.mod_eq_of_lt hr]
 rw [e1, e2]
 exact ⟨_, rfl, hr40⟩
end Go.Proofs.YtghhjjmjpeehdaaGreat
namespace Go.Proofs.YtghhjjmjpeehdaaGreat
open Bk Go Tryz
set_option linter.unusedVariables false
set_option linter.unusedSimpArgs false
set_option maxRecDepth 10000
theorem ref_up {w0 : World} {h0 : Mem}  (hs : MLe h0 (mem w0)) {v : Value} {X n : Nat} (hv : Us .u32 h0 v (zF X)) (hn : n ≤ 16384) (hl : (zF X).length ≤ 1099511627776) :
    Calls Tryz.prog 141 #[v, vI ↑n] w0 (Ret w0 h0 (fun h r => Us .u32 h r (zF (X * 2 ^ n)))) := by
 obtain ⟨s, hsd⟩ : ∃ s, s = n % 32 := ⟨_, rfl⟩
 have hp : 2 ^ s ≤ 2147483648 := Nat.pow_le_pow_right (n := 2) (by omega) (show s ≤ 31 by omega)
 have hp0 : 0 < 2 ^ s := Nat.pow_pos (by omega)
 refine zM (n := 40) (e := [(0, v), (1, vI ↑n)]) (vs := [v, vI ↑n]) func141 rfl rfl (bL rfl) hs e2z (zC (zA (asg rfl rfl (zD (zB (zC (zA (mv rfl rfl (gv (ov_quo_i (q := 32) rfl rfl (by omega) (by omega) (by omega)) rfl (qM (kd := .u32) (by' := 4) (n / 32) underlying28 uJ rfl rfl rfl rfl rfl (by omega) (by omega) (by omega) (by omega) rfl ?_))))))))))
 intro v10
 refine asg rfl rfl (zD (zB (zC (zA (asg (v := vU .u64 0) rfl rfl (zD (zB (zC (zC (zA (asg (v := vI (0)) rfl rfl (zD (zB ?_)))))))))))))
 refine zP ?_
 refine wE (ι := Value × List Nat × Nat × Mem) (fun (vo, ss, c, k1) => MLe h0 k1 ∧ (ss.length ≤ (zF X).length ∧ Fit ss ∧ c < 2 ^ s ∧ val ss + 4294967296 ^ ss.length * c = val ((zF X).take ss.length) * 2 ^ s)) (fun (vo, ss, c, k1) => [(0, v), (1, vI ↑n), (5, vo), (6, vU .u64 c), (7, vI ↑ss.length)]) (fun (vo, ss, c, k1) => [.us 124 .u32 vo (List.replicate (n / 32) 0 ++ ss)]) (fun (vo, ss, c, k1) => k1) (fun (vo, ss, c, k1) => (zF X).length - ss.length) (v10, [], 0, h0) ?_ e5z ?_ rfl ?_
 ·
  refine ⟨MLe.refl _, ?_⟩
  exact ⟨by simp, fun x hx => by simp at hx, hp0, by simp [val]⟩
 ·
  try dsimp only [List.nil_append, List.cons_append]
  rw [List.append_nil]
 intro x hx
 obtain ⟨vo, ss, c, k1⟩ := x
 obtain ⟨hmk1, ⟨hss, hfs, hc, hval⟩⟩ := hx
 show GC _ _ _ _ _ _ [(0, v), (1, vI ↑n), (5, vo), (6, vU .u64 c), (7, vI ↑ss.length)] [.us 124 .u32 vo (List.replicate (n / 32) 0 ++ ss)] k1
 refine zC (zC (zA (mv rfl rfl (mv rfl rfl ?_))))
 replace hv := hv.mono hmk1
 refine gv (zZ underlying28 rfl hv) rfl (gv (zW rfl rfl) rfl (zD (zB ?_)))
 refine zN rfl (fun hc14 => ?_) (fun hc14 => ?_)
 ·
  refine zK (zB (zC (zP (zC (zA (mv rfl rfl (mv rfl rfl (mv rfl rfl (gv (yN (ss.length) underlying28 sizeOf124 rfl rfl hv (by omega) (by omega)) rfl (gv (yQ isAgg124 rfl hv (by omega)) rfl ?_))))))))))
  have hx1 := hv.get32 ss.length
  have hxs : (zF X).getD ss.length 0 * 2 ^ s < 18446744073709551616 - 4294967296 := by
    have := Nat.mul_le_mul (show (zF X).getD ss.length 0 ≤ 4294967295 by omega) hp
    omega
  refine gv (xA (k := .u32) (k' := .u64) (W := 18446744073709551616) underlying124 underlying122 rfl rfl rfl (by omega)) rfl (mv rfl rfl (gv (uU (q := 32) rfl rfl (by omega) (by omega)) rfl ?_))
  rw [show (↑n : Int) % 32 = ↑s by omega]
  refine gv (kT (k := .u64) (s := s) (yk := .i64) (W := 18446744073709551616) rfl rfl rfl rfl) rfl ?_
  rw [Nat.mod_eq_of_lt (by omega)]
  refine gv (ov_or_u (k := .u64) rfl rfl rfl (by simp only [ub]; omega) (by simp only [ub]; omega)) rfl ?_
  rw [or_low hc]
  refine asg rfl rfl (zD (zJ (e' := [(0, _), (1, _), (5, _), (7, _), (6, _)]) e5z (zB (zC (zA (mv rfl rfl (mv rfl rfl (gv (vH (k := .u64) (k' := .u32) (W := 4294967296) underlying122 underlying124 rfl rfl rfl) rfl (zI (new_build1 (kd := .u32) underlying28 uJ rfl rfl rfl) rfl rfl rfl ?_)))))))))
  intro v30 r30 hr30
  obtain rfl := hr30
  refine xT (by intro z hz; simp only [List.mem_singleton] at hz; subst hz; simp only [ub]; omega) ?_
  intro h1 hh1 hch
  refine qH (A := []) (rep_append_us (kd := .u32) (bytes := 4) underlying28 uJ rfl rfl rfl rfl rfl hch (by simp only [List.length_singleton, lAz, lR]; omega) (by simp only [List.length_singleton, lAz, lR]; omega)) rfl rfl rfl ?_
  intro v31 r31 hr31
  obtain rfl := hr31
  refine asg rfl rfl (zD (zB (zA (mv rfl rfl (gv (qD (k := .u64) (s := 32) (yk := .u64) rfl rfl rfl (by simp only [ub]; omega)) rfl (asg rfl rfl (zD (xC (zB (zA (mv rfl rfl (gv (zS (q := 1) rfl rfl (by omega) (by omega)) rfl (asg rfl rfl ?_)))))))))))))
  refine zD ?_
  refine yV (v31, ss ++ [((zF X).getD ss.length 0 * 2 ^ s + c) % 4294967296], ((zF X).getD ss.length 0 * 2 ^ s + c) / 2 ^ 32, h1) ?_ ?_ ⟨rfl, rfl, rfl, rfl, ?_, trivial⟩ ?_ rfl
  ·
   refine ⟨(hmk1.trans hh1), ?_⟩
   refine ⟨by simp; omega, uF hfs (fit_one (by omega)), ?_, ?_⟩
   · refine Nat.div_lt_of_lt_mul ?_
     have := Nat.mul_le_mul_right (2 ^ s) (show (zF X).getD ss.length 0 + 1 ≤ 2 ^ 32 by omega)
     rw [Nat.add_mul] at this
     omega
   · have e := Nat.div_add_mod ((zF X).getD ss.length 0 * 2 ^ s + c) 4294967296
     have e2 : (2 : Nat) ^ 32 = 4294967296 := rfl
     rw [lAz, List.length_singleton, uK (zF X) _ (by omega), val_snoc, Nat.pow_succ, e2]
     generalize ((zF X).getD ss.length 0 * 2 ^ s + c) / 4294967296 = q at *
     generalize ((zF X).getD ss.length 0 * 2 ^ s + c) % 4294967296 = r at *
     grind
  ·
   dsimp only
   simp; omega
  · exact congrArg some (congrArg vI (by simp))
  try dsimp only [List.nil_append, List.cons_append]
  rw [List.append_assoc]
 refine xG (yB (yB (xF (zB (zC (zA (mv rfl rfl (mv rfl rfl (gv (vH (k := .u64) (k' := .u32) (W := 4294967296) underlying122 underlying124 rfl rfl rfl) rfl (zI (new_build1 (kd := .u32) underlying28 uJ rfl rfl rfl) rfl rfl rfl ?_))))))))))
 intro v37 r37 hr37
 obtain rfl := hr37
 refine xT (by intro z hz; simp only [List.mem_singleton] at hz; subst hz; simp only [ub]; omega) ?_
 intro h1 hh1 hch2
 refine qH (A := []) (rep_append_us (kd := .u32) (bytes := 4) underlying28 uJ rfl rfl rfl rfl rfl hch2 (by simp only [List.length_singleton, lAz, lR]; omega) (by simp only [List.length_singleton, lAz, lR]; omega)) rfl rfl rfl ?_
 intro v38 r38 hr38
 obtain rfl := hr38
 refine xT (by exact uF (uF (qZ _) hfs) (fit_one (by omega))) ?_
 intro h2 hh2 ho
 refine zO (vs := [_]) rfl rfl rfl rfl call118 ⟨rfl, trivial⟩ (fun w hs => ref_trim hs ho (by simp; omega)) ?_
 intro v39 h3 hh3 hr39
 refine asg rfl rfl (zD (zJ (e' := [(4, _)]) ⟨rfl, trivial⟩ (zB (zQ (yC rfl rfl ?_)))))
 have hk : ss.length = (zF X).length := by omega
 rw [wU (by omega), zU] at hval
 rw [Nat.mod_eq_of_lt (by omega), List.append_assoc, val_append, val_replicate, lR, val_snoc, hval, mul_pow_split, Nat.zero_add, show 32 * (n / 32) + s = n by omega] at hr39
 exact hr39
theorem ref_down {w0 : World} {h0 : Mem}  (hs : MLe h0 (mem w0)) {v : Value} {X n : Nat} (hv : Us .u32 h0 v (zF X)) (hn : n < 9223372036854775808) (hl : (zF X).length ≤ 1099511627776) :
    Calls Tryz.prog 144 #[v, vI ↑n] w0 (Ret w0 h0 (fun h r => Us .u32 h r (zF (X / 2 ^ n)))) := by
 obtain ⟨s, hsd⟩ : ∃ s, s = n % 32 := ⟨_, rfl⟩
 refine zM (n := 55) (e := [(0, v), (1, vI ↑n)]) (vs := [v, vI ↑n]) func144 rfl rfl (bL rfl) hs e2z (zC (zA (asg rfl rfl (zD (zB (zC (zC (zA (mv rfl rfl (gv (ov_quo_i (q := 32) rfl rfl (by omega) (by omega) (by omega)) rfl (mv rfl rfl (gv (zZ underlying28 rfl hv) rfl (gv (qT rfl rfl) rfl ?_)))))))))))))
 refine zD (zB ?_)
 refine zN rfl (fun hc12 => ?_) (fun hc12 => ?_)
 ·
  refine zC (zA (asg rfl rfl (zD (zB (zQ (zV (yC rfl rfl ?_)))))))
  rw [show X / 2 ^ n = 0 from div_pow_zero (by omega), wD]
  exact Us.nil _ _
 refine zK (zB (zC (zA (mv rfl rfl (mv rfl rfl (gv (ov_quo_i (q := 32) rfl rfl (by omega) (by omega) (by omega)) rfl ?_))))))
 rw [show (↑n : Int) / 32 = ↑(n / 32) by omega]
 refine gv (ov_slice_l (n / 32) underlying28 sizeOf124 rfl rfl hv.shape (by omega) (by omega)) rfl ?_
 have hsl16 := hv.sub (lo := n / 32) (hi := (zF X).length) (by omega) (by omega)
 rw [List.take_of_length_le (by rw [List.length_drop]; omega)] at hsl16
 have hdl : (List.drop (n / 32) (zF X)).length = (zF X).length - n / 32 := List.length_drop
 refine asg rfl rfl ?_
 have hRf : Fit (List.drop (n / 32) (zF X)) := fit_drop (vG _) _
 have hRv := jL (vG X) (n / 32)
 rw [zU] at hRv
 obtain ⟨vR, hvR⟩ : ∃ z, z = subSl 1 v (n / 32) (zF X).length := ⟨_, rfl⟩
 rw [← hvR] at hsl16 ⊢
 generalize List.drop (n / 32) (zF X) = Rs at *
 refine zD (zJ (e' := [(1, _), (0, _)]) e2z (zB (zC (zA (mv rfl rfl (gv (zZ underlying28 rfl hsl16) rfl (qM (kd := .u32) (by' := 4) (Rs.length) underlying28 uJ rfl rfl rfl rfl rfl (by omega) (by omega) (by omega) (by omega) rfl ?_)))))))
 intro v19
 refine asg rfl rfl (zD (zB (zC (zC (zA (asg (v := vI (0)) rfl rfl (zD (zB (zP ?_)))))))))
 refine wE (ι := List Nat) (fun (ss : (List Nat)) => ss.length ≤ Rs.length ∧ ss = (List.range ss.length).map (shrD s Rs)) (fun (ss : (List Nat)) => [(0, vR), (1, vI ↑n), (5, v19), (6, vI ↑ss.length)]) (fun (ss : (List Nat)) => [.us 124 .u32 v19 (qS ss Rs.length)]) (fun (ss : (List Nat)) => h0) (fun (ss : (List Nat)) => Rs.length - ss.length) [] ?_ e4z rfl rfl ?_
 ·
  exact ⟨by simp, rfl⟩
 intro ss hx
 obtain ⟨hss, hsv⟩ := hx
 show GC _ _ _ _ _ _ [(0, vR), (1, vI ↑n), (5, v19), (6, vI ↑ss.length)] [.us 124 .u32 v19 (qS ss Rs.length)] h0
 refine zC (zC (zA (mv rfl rfl (mv rfl rfl (gv (zZ underlying28 rfl hsl16) rfl (gv (zW rfl rfl) rfl (zD (zB ?_))))))))
 refine zN rfl (fun hc23 => ?_) (fun hc23 => ?_)
 ·
  refine zK (zB (zC (zP (zC (zA (mv rfl rfl (mv rfl rfl (gv (yN (ss.length) underlying28 sizeOf124 rfl rfl hsl16 (by omega) (by omega)) rfl (gv (yQ isAgg124 rfl hsl16 (by omega)) rfl ?_)))))))))
  have hg1 := uY hRf ss.length
  have hg2 := uY hRf (ss.length + 1)
  refine gv (xA (k := .u32) (k' := .u64) (W := 18446744073709551616) underlying124 underlying122 rfl rfl rfl (by omega)) rfl (asg rfl rfl (zD (zB ?_)))
  refine jX (ι := Unit) (fun (_u : (Unit)) => True) (fun (_u : (Unit)) => [(0, vR), (1, vI ↑n), (5, v19), (6, vI ↑ss.length), (7, vU .u64 (Rs.getD ss.length 0 + 4294967296 * Rs.getD (ss.length + 1) 0))]) (fun (_u : (Unit)) => [.us 124 .u32 v19 (qS ss Rs.length)]) (fun (_u : (Unit)) => h0) ?_ ?_
  ·
   refine zC (zA (mv rfl rfl (gv (zS (q := 1) rfl rfl (by omega) (by omega)) rfl (mv rfl rfl (gv (zZ underlying28 rfl hsl16) rfl (gv (zW rfl rfl) rfl (zD (zJ (e' := [(0, _), (1, _), (5, _), (6, _), (7, _), (35, _)]) e6 (zB ?_)))))))))
   refine zN rfl (fun hc35 => ?_) (fun hc35 => ?_)
   ·
    refine zA (mv rfl rfl (mv rfl rfl (mv rfl rfl (gv (zS (q := 1) rfl rfl (by omega) (by omega)) rfl (gv (yN (ss.length + 1) underlying28 sizeOf124 rfl rfl hsl16 (by omega) (by omega)) rfl (gv (yQ isAgg124 rfl hsl16 (by omega)) rfl (gv (xA (k := .u32) (k' := .u64) (W := 18446744073709551616) underlying124 underlying122 rfl rfl rfl (by omega)) rfl (gv (kT (k := .u64) (s := 32) (yk := .u64) (W := 18446744073709551616) rfl rfl rfl rfl) rfl (gv (ov_or_u (k := .u64) rfl rfl rfl (by simp only [ub]; omega) (by simp only [ub]; omega)) rfl ?_)))))))))
    rw [Nat.or_comm, or_shift (by omega) (by omega)]
    refine asg rfl rfl (zD ?_)
    refine yM (()) ?_ ⟨rfl, rfl, rfl, rfl, ?_, trivial⟩ rfl rfl
    ·
     trivial
    · exact congrArg some (congrArg (vU .u64) (by omega))
   refine zK ?_
   refine yM (()) ?_ ⟨rfl, rfl, rfl, rfl, ?_, trivial⟩ rfl rfl
   ·
    trivial
   · exact congrArg some (congrArg (vU .u64) (by rw [getD_out (xs := Rs) (i := ss.length + 1) (by omega)]; omega))
  intro _u hx
  obtain hcut := hx
  show GC _ _ _ _ _ _ [(0, vR), (1, vI ↑n), (5, v19), (6, vI ↑ss.length), (7, vU .u64 (Rs.getD ss.length 0 + 4294967296 * Rs.getD (ss.length + 1) 0))] [.us 124 .u32 v19 (qS ss Rs.length)] h0
  refine zA (mv rfl rfl (mv rfl rfl (mv rfl rfl (mv rfl rfl (gv (uU (q := 32) rfl rfl (by omega) (by omega)) rfl ?_)))))
  rw [show (↑n : Int) % 32 = ↑s by omega]
  refine gv (qD (k := .u64) (s := s) (yk := .i64) rfl rfl rfl (by simp only [ub]; omega)) rfl (gv (vH (k := .u64) (k' := .u32) (W := 4294967296) underlying122 underlying124 rfl rfl rfl) rfl ?_)
  rw [shrD_two (by omega) (by omega)]
  refine gv (wC (A := []) (ss.length) underlying28 sizeOf124 rfl rfl (by omega) (by rw [uB (by omega)]; omega)) rfl (vN sizeOf124 rfl rfl (by rw [uB (by omega)]; omega) (zD (xC (zB (zA (mv rfl rfl (gv (zS (q := 1) rfl rfl (by omega) (by omega)) rfl (asg rfl rfl (zD ?_)))))))))
  refine yV (ss ++ [shrD s Rs ss.length]) ?_ ?_ ⟨rfl, rfl, rfl, ?_, trivial⟩ ?_ rfl
  ·
   refine ⟨by simp; omega, ?_⟩
   rw [lAz, List.length_singleton, List.range_succ, List.map_append, List.map_singleton, ← hsv]
  ·
   simp; omega
  · exact congrArg some (congrArg vI (by simp))
  try dsimp only [List.nil_append, List.cons_append]
  rw [fillTo_set (by omega)]
 refine xG (yB (yB (xF (zB (zC (zA (mv rfl rfl ?_)))))))
 have hk : ss.length = Rs.length := by omega
 rw [fillTo_full hk]
 refine xT (by rw [hsv]; intro z hz; obtain ⟨w, _, rfl⟩ := List.mem_map.1 hz; exact shrD_lt s Rs w) ?_
 intro h1 hh1 ho
 refine zO (vs := [_]) rfl rfl rfl rfl call118 ⟨rfl, trivial⟩ (fun w hs => ref_trim hs ho (by omega)) ?_
 intro v54 h2 hh2 hr54
 refine asg rfl rfl (zD (zJ (e' := [(4, _)]) ⟨rfl, trivial⟩ (zB (zQ (yC rfl rfl ?_)))))
 rw [hsv, hk, shrD_take hRf, hRv, div_pow_split, show 32 * (n / 32) + s = n by omega] at hr54
 exact hr54
end Go.Proofs.YtghhjjmjpeehdaaGreat
namespace Go.Proofs.YtghhjjmjpeehdaaGreat
open Bk Go Tryz
set_option linter.unusedVariables false
set_option linter.unusedSimpArgs false
set_option maxRecDepth 10000
theorem ref_small {w0 : World} {h0 : Mem}  (hs : MLe h0 (mem w0)) {v : Value} {X : Nat} (hv : Us .u32 h0 v (zF X)) :
    Calls Tryz.prog 138 #[v] w0 (Ret w0 h0 (fun _ r => r = .tuple #[vU .u64 (if (zF X).length ≤ 2 then X else 0), vB ((zF X).length ≤ 2)])) := by
 have hx0 := hv.get32 0
 have hx1 := hv.get32 1
 have hvl := zU X
 have hlen := hv.lt63
 refine zM (n := 26) (e := [(0, v)]) (vs := [v]) func138 rfl rfl (bL rfl) hs ⟨rfl, trivial⟩ (zC (zA (asg (v := vU .u64 0) rfl rfl (asg rfl rfl (zD (zB (zC (zC (zA (mv rfl rfl (gv (zZ underlying28 rfl hv) rfl (zD (zB ?_)))))))))))))
 refine zP (zC (zA (gv (xU (q := 0) rfl rfl) rfl (asg rfl rfl (zD (zB ?_))))))
 refine zN rfl (fun hc6 => ?_) (fun hc6 => ?_)
 ·
  refine zC (zA (asg (v := vU .u64 0) rfl rfl (asg rfl rfl (zD (zB (zQ (vC (zV (vK rfl rfl rfl ?_)))))))))
  have h0 : X = 0 := Classical.byContradiction fun hne => by have := wF.2 hne; omega
  rw [xL (by omega), if_pos (by omega), h0]
 refine zC (zA (gv (xU (q := 1) rfl rfl) rfl (asg rfl rfl (zD (zB ?_)))))
 refine zN rfl (fun hc8 => ?_) (fun hc8 => ?_)
 ·
  have hvo := val_one (xs := zF X) (by omega)
  refine zC (zA (mv rfl rfl (gv (yN (q := 0) (0) underlying28 sizeOf124 rfl rfl hv rfl (by omega)) rfl (gv (yQ isAgg124 rfl hv (by omega)) rfl (gv (xA (k := .u32) (k' := .u64) (W := 18446744073709551616) underlying124 underlying122 rfl rfl rfl (by omega)) rfl (asg rfl rfl (asg rfl rfl (zD (zJ (e' := [(2, _), (3, _)]) e2z (zB (zQ (vC (zV ?_)))))))))))))
  refine vK rfl rfl rfl ?_
  rw [xL (by omega), if_pos (by omega), ← hvo, zU]
 refine zC (zA (gv (xU (q := 2) rfl rfl) rfl (asg rfl rfl (zD (zB ?_)))))
 refine zN rfl (fun hc14 => ?_) (fun hc14 => ?_)
 ·
  refine wJ (e' := [(0, _)]) ⟨rfl, trivial⟩ (zC ?_)
  refine yF 12 _ [] [(0, .q), (1, .q), (2, .q), (3, .q), (4, .q), (5, .q), (6, .q), (7, .q), (8, .q), (9, .q), (10, .q), (11, .q)] xH nX (by kernel_rfl) nX (fun r hr => hr) (yH rfl rfl rfl (w_q rfl (fun h' L' hh hR => yN (q := 0) (0) underlying28 sizeOf124 rfl rfl (hv.mono hh) rfl (by omega)) rfl (w_q rfl (fun h' L' hh hR => yQ isAgg124 rfl (hv.mono hh) (by omega)) rfl (yK rfl (fun _ _ => xA (k := .u32) (k' := .u64) (W := 18446744073709551616) underlying124 underlying122 rfl rfl rfl (by omega)) rfl (yH rfl rfl rfl (w_q rfl (fun h' L' hh hR => yN (q := 1) (1) underlying28 sizeOf124 rfl rfl (hv.mono hh) rfl (by omega)) rfl (w_q rfl (fun h' L' hh hR => yQ isAgg124 rfl (hv.mono hh) (by omega)) rfl (yK rfl (fun _ _ => xA (k := .u32) (k' := .u64) (W := 18446744073709551616) underlying124 underlying122 rfl rfl rfl (by omega)) rfl (yK rfl (fun _ _ => kT (k := .u64) (s := 32) (yk := .u64) (W := 18446744073709551616) rfl rfl rfl rfl) rfl (yK rfl (fun _ _ => ov_or_u (k := .u64) rfl rfl rfl (by simp only [ub]; omega) (by simp only [ub]; omega)) rfl ?_))))))))))
  rw [Nat.or_comm, or_shift (by omega) (by omega)]
  refine uG rfl rfl rfl (uG rfl rfl rfl (xB (zJ (e' := [(2, _), (3, _)]) e2z (zB (zQ (vC (zV (vK rfl rfl rfl ?_))))))))
  have h1 := uA (zF X) 1
  have h2 := uA (zF X) 0
  rw [wU (by omega), zU] at h1
  rw [List.take_zero] at h2
  simp only [val, Nat.zero_add] at h2
  rw [xL (by omega), if_pos (by omega)]
  have e : (zF X).getD 1 0 * 4294967296 + (zF X).getD 0 0 = X := by omega
  rw [e]
 refine wJ (e' := []) trivial (zK (xC (zB (zC (zA (asg (v := vU .u64 0) rfl rfl (asg rfl rfl (zD (zB (zQ (vK rfl rfl rfl ?_)))))))))))
 rw [yX (by omega), if_neg (by omega)]
theorem ref_shifted {w0 : World} {h0 : Mem}  (hs : MLe h0 (mem w0)) {v : Value} {X k : Nat} (hv : Us .u32 h0 v (zF X)) (hk : k ≤ 4398046511104) (hl : (zF X).length ≤ 4398046511104) :
    Calls Tryz.prog 142 #[v, vI ↑k] w0 (Ret w0 h0 (fun h r => Us .u32 h r (zF (X * 4294967296 ^ k)))) := by
 refine zM (n := 12) (e := [(0, v), (1, vI ↑k)]) (vs := [v, vI ↑k]) func142 rfl rfl (bL rfl) hs e2z (zC (zA (asg rfl rfl (zD (zB (zC (zC (zA (mv rfl rfl (gv (zZ underlying28 rfl hv) rfl (gv (xU (q := 0) rfl rfl) rfl (zD (zB ?_)))))))))))))
 refine zN rfl (fun hc7 => ?_) (fun hc7 => ?_)
 ·
  have h0 : X = 0 := Classical.byContradiction fun hne => by have := wF.2 hne; omega
  refine zC (zA (asg rfl rfl (zD (zB (zQ (zV (yC rfl rfl ?_)))))))
  rw [h0, Nat.zero_mul, wD]
  exact Us.nil _ _
 have h0 : X ≠ 0 := wF.1 (by omega)
 refine zK (zB (zC (zA (mv rfl rfl (qM (kd := .u32) (by' := 4) (k) underlying28 uJ rfl rfl rfl rfl rfl (by omega) (by omega) (by omega) (by omega) rfl ?_)))))
 intro v9
 refine mv rfl rfl (qH (A := []) (rep_append_us (kd := .u32) (bytes := 4) underlying28 uJ rfl rfl rfl rfl rfl hv (by rw [lR]; omega) (by rw [lR]; omega)) rfl rfl rfl ?_)
 intro v11 r11 hr11
 obtain rfl := hr11
 refine xT (by exact uF (qZ _) (vG _)) ?_
 intro h1 hh1 ho
 refine asg rfl rfl (zD (zB (zQ (yC rfl rfl ?_))))
 rw [← limbs_shift h0]
 exact ho
set_option maxHeartbeats 1000000 in
theorem ref_div {w0 : World} {h0 : Mem}  (hs : MLe h0 (mem w0)) {v v' : Value} {X Y : Nat} (hv : Us .u32 h0 v (zF X)) (hv' : Us .u32 h0 v' (zF Y)) (hl : (zF X).length ≤ 549755813888) (hl' : (zF Y).length ≤ 549755813888) :
    Calls Tryz.prog 120 #[v, v'] w0 (Ret w0 h0 (fun h z => ∃ q r, z = .tuple #[q, r, vI (if Y = 0 then 3 else 0)] ∧ Us .u32 h q (zF (X / Y)) ∧ Us .u32 h r (zF (if Y = 0 then 0 else X % Y)))) := by
 refine zM (n := 163) (e := [(0, v), (1, v')]) (vs := [v, v']) func120 rfl rfl (bL rfl) hs e2z (zC (zA (asg rfl rfl (asg rfl rfl (asg (v := vI (0)) rfl rfl (zD (zB (zC (zC (zA (mv rfl rfl (gv (zZ underlying28 rfl hv') rfl (gv (xU (q := 0) rfl rfl) rfl ?_)))))))))))))
 refine zD (zB ?_)
 refine zN rfl (fun hc21 => ?_) (fun hc21 => ?_)
 ·
  have hy0 : Y = 0 := Classical.byContradiction fun hne => by have := wF.2 hne; omega
  refine zC (zA (asg rfl rfl (asg rfl rfl (asg (v := vI (3)) rfl rfl (zD (zB (zQ (zV (qL rfl rfl rfl rfl ?_)))))))))
  rw [hy0, Nat.div_zero, if_pos rfl, if_pos rfl, wD]
  exact ⟨_, _, rfl, Us.nil _ _, Us.nil _ _⟩
 have hyne : Y ≠ 0 := wF.1 (by omega)
 refine zK (zB (zC (zC (zA (mv rfl rfl (mv rfl rfl ?_))))))
 refine zO (vs := [_, _]) rfl rfl rfl rfl call93 e2z (fun w hs => ref_cmp hs hv hv') ?_
 intro v24 h1 hh1 hr24
 subst hr24
 refine gv (zW (q := 0) rfl rfl) rfl (zD (zB ?_))
 refine zN rfl (fun hc25 => ?_) (fun hc25 => ?_)
 ·
  have hlt := cmpN_neg.1 hc25
  refine wJ (e' := [(0, _)]) ⟨rfl, trivial⟩ (zC (zA (mv rfl rfl ?_)))
  replace hv := hv.mono hh1
  refine zO (vs := [_]) rfl rfl rfl rfl call118 ⟨rfl, trivial⟩ (fun w hs => ref_trim hs hv (by omega)) ?_
  intro v27 h2 hh2 hr27
  rw [zU] at hr27
  refine asg rfl rfl (asg rfl rfl (asg (v := vI (0)) rfl rfl (zD (zB (zQ (zV (qL rfl rfl rfl rfl ?_)))))))
  rw [Nat.div_eq_of_lt hlt, Nat.mod_eq_of_lt hlt, if_neg hyne, if_neg hyne, wD]
  exact ⟨_, _, rfl, Us.nil _ _, hr27⟩
 have hge : Y ≤ X := Nat.le_of_not_lt fun hc => hc25 (cmpN_neg.2 hc)
 have hlm := xD hge
 refine wJ (e' := [(0, _), (1, _)]) e2z (zK (zB (zC (zC (zA (mv rfl rfl ?_))))))
 replace hv := hv.mono hh1
 refine zO (vs := [_]) rfl rfl rfl rfl call138 ⟨rfl, trivial⟩ (fun w hs => ref_small hs hv) ?_
 intro v30 h2 hh2 hr30
 subst hr30
 refine mv rfl rfl (gv (zL (vs := [_, _]) rfl rfl) rfl (gv (zL (vs := [_, _]) rfl rfl) rfl (asg rfl rfl (asg rfl rfl (zD (zB (zC (zA (mv rfl rfl (zD (zB ?_)))))))))))
 refine zN rfl (fun hc33 => ?_) (fun hc33 => ?_)
 ·
  have hw := lt_word hc33
  have hyw := lt_word (n := Y) (by omega)
  refine zC (zA (mv rfl rfl ?_))
  replace hv' := hv'.mono (hh1.trans hh2)
  refine zO (vs := [_]) rfl rfl rfl rfl call138 ⟨rfl, trivial⟩ (fun w hs => ref_small hs hv') ?_
  intro v36 h3 hh3 hr36
  subst hr36
  refine mv rfl rfl (gv (zL (vs := [_, _]) rfl rfl) rfl ?_)
  rw [if_pos hc33, if_pos (show (zF Y).length ≤ 2 by omega)]
  refine gv (zL (vs := [_, _]) rfl rfl) rfl (asg rfl rfl (asg rfl rfl (zD (zJ (e' := [(7, _), (9, _)]) e2z (zB (zC ?_))))))
  refine yF 11 _ [] [(0, .q), (1, .q), (2, .q), (4, .q), (5, .q), (6, .q), (3, .c), (7, .c), (8, .q), (9, .q), (10, .q)] xH nX (by kernel_rfl) nX (fun r hr => hr) (yH rfl rfl rfl (yH rfl rfl rfl (yK rfl (fun _ _ => ov_quo_u (k := .u64) (W := 18446744073709551616) rfl rfl rfl rfl (by omega) (by omega)) rfl (yH rfl rfl rfl (yH rfl rfl rfl (yK rfl (fun _ _ => ov_rem_u (k := .u64) rfl rfl (by omega)) rfl ?_))))))
  refine w_c rfl ?_
  have hqle := Nat.div_le_self X Y
  have hrlt := Nat.mod_lt X (Nat.pos_of_ne_zero hyne)
  refine zY (vs := [_]) call116 ⟨rfl, trivial⟩ (fun w hs => ref_of hs (by omega)) rfl ?_
  intro v42 h4 hh4 hr42
  refine w_c rfl ?_
  refine zY (vs := [_]) call116 ⟨rfl, trivial⟩ (fun w hs => ref_of hs (by omega)) rfl ?_
  intro v46 h5 hh5 hr46
  refine uG rfl rfl rfl (uG rfl rfl rfl (uG (v := vI (0)) rfl rfl rfl (xB (zJ (e' := [(4, _), (5, _), (6, _)]) e3z (zB (zQ (zV (qL rfl rfl rfl rfl ?_))))))))
  replace hr42 := hr42.mono hh5
  rw [if_neg hyne, if_neg hyne]
  exact ⟨_, _, rfl, hr42, hr46⟩
 refine zK (zB (zC (zC (zA (mv rfl rfl ?_)))))
 replace hv' := hv'.mono (hh1.trans hh2)
 refine gv (zZ underlying28 rfl hv') rfl (gv (xU (q := 1) rfl rfl) rfl (zD (zJ (e' := [(0, _), (1, _), (49, _)]) e3z (zB ?_))))
 refine zN rfl (fun hc49 => ?_) (fun hc49 => ?_)
 ·
  have hone : (zF Y).length = 1 := by omega
  have hb0 : (zF Y).getD 0 0 ≠ 0 := by have := limbs_top_ne (n := Y) (by omega); rwa [hone] at this
  have hvy := val_one hone
  rw [zU] at hvy
  refine zC (zA (mv rfl rfl (mv rfl rfl (gv (yN (q := 0) (0) underlying28 sizeOf124 rfl rfl hv' rfl (by omega)) rfl (gv (yQ isAgg124 rfl hv' (by omega)) rfl ?_)))))
  have hb1 := hv'.get32 0
  replace hv := hv.mono hh2
  refine zO (vs := [_, _]) rfl rfl rfl rfl call139 e2z (fun w hs => ref_bylimb hs hv (by omega) (by omega) (by omega)) ?_
  intro v55 h3 hh3 hr55
  obtain ⟨u55, rfl, hu55⟩ := hr55
  rw [zU] at hu55 ⊢
  have hrlt := Nat.mod_lt X (Nat.pos_of_ne_zero hb0)
  refine mv rfl rfl (gv (zL (vs := [_, _]) rfl rfl) rfl (gv (zL (vs := [_, _]) rfl rfl) rfl (asg rfl rfl (asg rfl rfl (zD (zJ (e' := [(11, _), (12, _)]) e2z (zB (zC (zA (mv rfl rfl (mv rfl rfl (gv (xA (k := .u32) (k' := .u64) (W := 18446744073709551616) underlying124 underlying122 rfl rfl rfl (by omega)) rfl ?_))))))))))))
  refine zO (vs := [_]) rfl rfl rfl rfl call116 ⟨rfl, trivial⟩ (fun w hs => ref_of hs (by omega)) ?_
  intro v61 h4 hh4 hr61
  refine asg rfl rfl (asg rfl rfl (asg (v := vI (0)) rfl rfl (zD (zB (zQ (zV (qL rfl rfl rfl rfl ?_)))))))
  replace hu55 := hu55.mono hh4
  rw [← hvy] at hu55 hr61
  rw [if_neg hyne, if_neg hyne]
  exact ⟨_, _, rfl, hu55, hr61⟩
 have hn2 : 2 ≤ (zF Y).length := by omega
 refine zK (zB (zC (zA (mv rfl rfl (mv rfl rfl (gv (zZ underlying28 rfl hv') rfl (gv (xO (q := 1) rfl rfl (by omega) (by omega)) rfl (gv (ov_slice_l ((zF Y).length - 1) underlying28 sizeOf124 rfl rfl hv'.shape (by omega) (by omega)) rfl ?_))))))))
 have hsl66 := hv'.sub (lo := (zF Y).length - 1) (hi := (zF Y).length) (by omega) (by omega)
 rw [List.take_of_length_le (by rw [List.length_drop]; omega), limbs_last (by omega)] at hsl66
 have hgt := hv'.get32 ((zF Y).length - 1)
 have htw := jU (n := (zF Y).getD ((zF Y).length - 1) 0) (by omega)
 have hb32 := bitsN_le (n := (zF Y).getD ((zF Y).length - 1) 0) (k := 32) hgt
 refine zO (vs := [_]) rfl rfl rfl rfl call140 ⟨rfl, trivial⟩ (fun w hs => ref_bits hs hsl66 (by omega)) ?_
 intro v67 h3 hh3 hr67
 subst hr67
 refine gv (xO (p := 32) rfl rfl (by omega) (by omega)) rfl ?_
 obtain ⟨s, hsd⟩ : ∃ s, s = 32 - vZ ((zF Y).getD ((zF Y).length - 1) 0) := ⟨_, rfl⟩
 rw [show (32 : Int) - ↑(vZ ((zF Y).getD ((zF Y).length - 1) 0)) = ↑s by omega]
 obtain ⟨hs32, hvl, hv1⟩ := norm_limbs (k := (zF Y).length - 1) hyne (by omega) hsd
 refine asg rfl rfl (zD (zB (zC (zA (mv rfl rfl (mv rfl rfl ?_))))))
 replace hv' := hv'.mono hh3
 refine zO (vs := [_, _]) rfl rfl rfl rfl call141 e2z (fun w hs => ref_up hs hv' (by omega) (by omega)) ?_
 intro v71 h4 hh4 hr71
 refine mv rfl rfl (mv rfl rfl ?_)
 replace hv := hv.mono ((hh2.trans hh3).trans hh4)
 refine zO (vs := [_, _]) rfl rfl rfl rfl call141 e2z (fun w hs => ref_up hs hv (by omega) (by omega)) ?_
 intro v74 h5 hh5 hr74
 refine asg rfl rfl (asg rfl rfl ?_)
 replace hr71 := hr71.mono hh5
 replace hvl : (zF (Y * 2 ^ s)).length = (zF Y).length := by omega
 have hYn := pow_le_of_limbs_len (n := Y * 2 ^ s) (k := (zF Y).length - 1) (by omega)
 generalize hnd : (zF Y).length = n at *
 obtain ⟨V, hV⟩ : ∃ V, V = Y * 2 ^ s := ⟨_, rfl⟩
 obtain ⟨U, hU⟩ : ∃ U, U = X * 2 ^ s := ⟨_, rfl⟩
 rw [← hV] at hr71 hvl hv1 hYn
 rw [← hU] at hr74
 have hVd := val_two hn2 hvl
 rw [zU] at hVd
 have hvr := jV (kU (vG V) (n - 2))
 rw [List.length_take, Nat.min_eq_left (by omega)] at hvr
 have hUl : (zF U).length ≤ (zF X).length + 1 := by rw [hU]; exact Nat.le_trans (xI X (2 ^ s)) (Nat.add_le_add_left (uR (k := 1) (by rw [Nat.pow_one]; exact Nat.lt_of_lt_of_le (Nat.pow_lt_pow_right (by decide) hs32) (by decide))) _)
 have hVU : V ≤ U := by rw [hV, hU]; exact Nat.mul_le_mul_right _ hge
 have hnr := xD hVU
 rw [hvl] at hnr
 have hst := rdiv_start (uL U) hYn (by omega) hnr
 generalize hrd : (zF U).length = r at *
 have hv1b := uY (vG V) (n - 1)
 refine zD (zJ (e' := [(13, _), (1, _), (5, _)]) e3z (zB (zC (zA (mv rfl rfl (gv (zZ underlying28 rfl hr71) rfl ?_))))))
 rw [hvl]
 refine asg rfl rfl (zD (zB (zC (zA (mv rfl rfl (gv (zZ underlying28 rfl hr74) rfl ?_))))))
 rw [hrd]
 refine mv rfl rfl (gv (xO rfl rfl (by omega) (by omega)) rfl (gv (zS (q := 1) rfl rfl (by omega) (by omega)) rfl (qM (kd := .u32) (by' := 4) (r - n + 1) underlying28 uJ rfl rfl rfl rfl rfl (by omega) (by omega) (by omega) (by omega) rfl ?_)))
 intro v82
 refine asg rfl rfl (zD (zB (zC (zC (zA (mv rfl rfl (gv (zZ underlying28 rfl hr74) rfl ?_)))))))
 rw [hrd]
 refine mv rfl rfl (gv (xO rfl rfl (by omega) (by omega)) rfl (asg rfl rfl (zD (zJ (e' := [(13, _), (1, _), (5, _), (14, _), (4, _), (15, _)]) e6 (zB (zP ?_))))))
 refine wE (ι := Nat × Value × Nat × List Nat × Mem) (fun (K, vr, R, qs, k1) => MLe h5 k1 ∧ (Us .u32 k1 vr (zF R) ∧ K ≤ r - n + 1 ∧ qs.length = r - n + 1 - K ∧ Fit qs ∧ R + 4294967296 ^ K * (val qs * V) = U ∧ R < 4294967296 ^ K * V ∧ (zF R).length ≤ r)) (fun (K, vr, R, qs, k1) => [(1, v71), (4, v82), (5, vr), (13, vI ↑s), (14, vI ↑n), (15, vI (↑K - 1))]) (fun (K, vr, R, qs, k1) => [.us 124 .u32 v82 (uV K qs)]) (fun (K, vr, R, qs, k1) => k1) (fun (K, vr, R, qs, k1) => K) (r - n + 1, v74, U, [], h5) ?_ ⟨?_, ?_, ?_, ?_, ?_, ?_, trivial⟩ ?_ rfl ?_
 ·
  refine ⟨MLe.refl _, ?_⟩
  exact ⟨hr74, Nat.le_refl _, by simp, fun x hx => by simp at hx, by simp [val], hst, by omega⟩
 · exact rfl
 · exact rfl
 · exact rfl
 · exact rfl
 · exact rfl
 · exact congrArg some (congrArg vI (by omega))
 ·
  try dsimp only [List.nil_append, List.cons_append]
  exact congrArg (fun z => [Res.us 124 .u32 v82 z]) (fillDn_nil _)
 intro x hx
 obtain ⟨K, vr, R, qs, k1⟩ := x
 obtain ⟨hmk1, ⟨hR, hK, hql, hfq, hval, hlt, hRl⟩⟩ := hx
 show GC _ _ _ _ _ _ [(1, v71), (4, v82), (5, vr), (13, vI ↑s), (14, vI ↑n), (15, vI (↑K - 1))] [.us 124 .u32 v82 (uV K qs)] k1
 refine zC (zC (zA (mv rfl rfl (gv (qT (q := 0) rfl rfl) rfl (zD (zB ?_))))))
 refine zN rfl (fun hc88 => ?_) (fun hc88 => ?_)
 ·
  refine zK (zB (zC (zP (zC (zA (asg (v := vU .u64 0) rfl rfl (zD (zB ?_))))))))
  have ha1 := uY (vG R) (K - 1 + n)
  have ha2 := uY (vG R) (K - 1 + n - 1)
  have ha3 := uY (vG R) (K - 1 + n - 2)
  refine jX (ι := Unit) (fun (_u : (Unit)) => True) (fun (_u : (Unit)) => [(1, v71), (4, v82), (5, vr), (13, vI ↑s), (14, vI ↑n), (15, vI (↑K - 1)), (16, vU .u64 ((zF R).getD (K - 1 + n) 0))]) (fun (_u : (Unit)) => [.us 124 .u32 v82 (uV K qs)]) (fun (_u : (Unit)) => k1) ?_ ?_
  ·
   refine zC (zA (mv rfl rfl (mv rfl rfl (gv (zS rfl rfl (by omega) (by omega)) rfl (mv rfl rfl (gv (zZ underlying28 rfl hR) rfl (gv (zW rfl rfl) rfl (zD (zB ?_)))))))))
   refine zN rfl (fun hc96 => ?_) (fun hc96 => ?_)
   ·
    refine zA (mv rfl rfl (mv rfl rfl (mv rfl rfl (gv (zS rfl rfl (by omega) (by omega)) rfl (gv (yN (K - 1 + n) underlying28 sizeOf124 rfl rfl hR (by omega) (by omega)) rfl (gv (yQ isAgg124 rfl hR (by omega)) rfl (gv (xA (k := .u32) (k' := .u64) (W := 18446744073709551616) underlying124 underlying122 rfl rfl rfl (by omega)) rfl (asg rfl rfl (zD ?_)))))))))
    refine yM (()) ?_ e7 rfl rfl
    trivial
   refine zK ?_
   refine yM (()) ?_ ⟨rfl, rfl, rfl, rfl, rfl, rfl, ?_, trivial⟩ rfl rfl
   ·
    trivial
   · exact congrArg some (congrArg (vU .u64) (by rw [getD_out (xs := zF R) (by omega)]))
  intro _u hx
  obtain hcut := hx
  show GC _ _ _ _ _ _ [(1, v71), (4, v82), (5, vr), (13, vI ↑s), (14, vI ↑n), (15, vI (↑K - 1)), (16, vU .u64 ((zF R).getD (K - 1 + n) 0))] [.us 124 .u32 v82 (uV K qs)] k1
  refine jX (ι := Unit) (fun (_u : (Unit)) => True) (fun (_u : (Unit)) => [(1, v71), (4, v82), (5, vr), (13, vI ↑s), (14, vI ↑n), (15, vI (↑K - 1)), (16, vU .u64 ((zF R).getD (K - 1 + n) 0 * 4294967296 + (zF R).getD (K - 1 + n - 1) 0))]) (fun (_u : (Unit)) => [.us 124 .u32 v82 (uV K qs)]) (fun (_u : (Unit)) => k1) ?_ ?_
  ·
   refine zC (zA (mv rfl rfl (mv rfl rfl (gv (zS rfl rfl (by omega) (by omega)) rfl (gv (xO (q := 1) rfl rfl (by omega) (by omega)) rfl (mv rfl rfl (gv (zZ underlying28 rfl hR) rfl (gv (zW rfl rfl) rfl (zD (zB ?_))))))))))
   refine zN rfl (fun hc110 => ?_) (fun hc110 => ?_)
   ·
    refine zA (mv rfl rfl (gv (kT (k := .u64) (s := 32) (yk := .u64) (W := 18446744073709551616) rfl rfl rfl rfl) rfl (mv rfl rfl (mv rfl rfl (mv rfl rfl (gv (zS rfl rfl (by omega) (by omega)) rfl (gv (xO (q := 1) rfl rfl (by omega) (by omega)) rfl (gv (yN (K - 1 + n - 1) underlying28 sizeOf124 rfl rfl hR (by omega) (by omega)) rfl (gv (yQ isAgg124 rfl hR (by omega)) rfl (gv (xA (k := .u32) (k' := .u64) (W := 18446744073709551616) underlying124 underlying122 rfl rfl rfl (by omega)) rfl (gv (ov_or_u (k := .u64) rfl rfl rfl (by simp only [ub]; omega) (by simp only [ub]; omega)) rfl ?_)))))))))))
    rw [or_shift (by omega) (by omega)]
    refine asg rfl rfl (zD ?_)
    refine yM (()) ?_ e7 rfl rfl
    trivial
   refine zA (mv rfl rfl (gv (kT (k := .u64) (s := 32) (yk := .u64) (W := 18446744073709551616) rfl rfl rfl rfl) rfl (asg rfl rfl (zD ?_))))
   refine yM (()) ?_ ⟨rfl, rfl, rfl, rfl, rfl, rfl, ?_, trivial⟩ rfl rfl
   ·
    trivial
   · exact congrArg some (congrArg (vU .u64) (by rw [getD_out (xs := zF R) (i := K - 1 + n - 1) (by omega)]; omega))
  intro _u hx
  obtain hcut := hx
  show GC _ _ _ _ _ _ [(1, v71), (4, v82), (5, vr), (13, vI ↑s), (14, vI ↑n), (15, vI (↑K - 1)), (16, vU .u64 ((zF R).getD (K - 1 + n) 0 * 4294967296 + (zF R).getD (K - 1 + n - 1) 0))] [.us 124 .u32 v82 (uV K qs)] k1
  have hVn : V < 4294967296 ^ n := by rw [← hvl]; exact uL V
  have hRn : R < 4294967296 ^ (K + n) := Nat.lt_of_lt_of_le hlt (by rw [Nat.pow_add]; exact Nat.mul_le_mul_left _ (Nat.le_of_lt hVn))
  have hz0 : ∀ i, K + n ≤ i → (zF R).getD i 0 = 0 := fun i hi => getD_zero_of_lt (by rw [zU]; exact hRn) hi
  obtain ⟨wr, hW, hwr⟩ := val_three (j := K - 1) hn2 (fun i hi => hz0 i (by omega)) (vG R)
  rw [jL (vG R), zU] at hW
  have hWV := rdiv_low (R := R) (V := V) (k := K - 1) (by rw [Nat.sub_add_cancel (by omega)]; exact hlt)
  obtain ⟨top, htop⟩ : ∃ t, t = (zF R).getD (K - 1 + n) 0 * 4294967296 + (zF R).getD (K - 1 + n - 1) 0 := ⟨_, rfl⟩
  rw [← htop]
  rw [← htop] at hW
  have htb : top < 18446744073709551616 := by omega
  have hest := lt_of_div (by rw [hW] at hWV ⊢; exact rdiv_est hVd rfl ha3 hwr (by omega) hWV)
  have hv1p : 0 < (zF V).getD (n - 1) 0 := by omega
  refine zC (zA (mv rfl rfl (mv rfl rfl (mv rfl rfl (gv (xO (q := 1) rfl rfl (by omega) (by omega)) rfl ?_)))))
  replace hr71 := hr71.mono hmk1
  refine gv (yN (n - 1) underlying28 sizeOf124 rfl rfl hr71 (by omega) (by omega)) rfl (gv (yQ isAgg124 rfl hr71 (by omega)) rfl (gv (xA (k := .u32) (k' := .u64) (W := 18446744073709551616) underlying124 underlying122 rfl rfl rfl (by omega)) rfl (gv (ov_quo_u (k := .u64) (W := 18446744073709551616) rfl rfl rfl rfl (by omega) (by omega)) rfl (gv (ov_min_u (k := .u64) (q := 4294967295) rfl rfl) rfl ?_))))
  rw [Nat.min_def]
  rw [← Nat.min_def]
  refine asg rfl rfl (zD (zJ (e' := [(1, _), (4, _), (5, _), (13, _), (14, _), (15, _), (17, _)]) e7 (zB (zC (zA (mv rfl rfl (mv rfl rfl (gv (xA (k := .u64) (k' := .u32) (W := 4294967296) underlying122 underlying124 rfl rfl rfl (by omega)) rfl ?_))))))))
  refine zO (vs := [_, _]) rfl rfl rfl rfl call143 e2z (fun w hs => ref_times hs hr71 (by omega) (by omega)) ?_
  intro v136 h6 hh6 hr136
  have hlp := xI V (min (top / (zF V).getD (n - 1) 0) 4294967295)
  have hld := jU (n := min (top / (zF V).getD (n - 1) 0) 4294967295) (by omega)
  refine mv rfl rfl ?_
  rw [show (↑K : Int) - 1 = ↑(K - 1) by omega]
  refine zO (vs := [_, _]) rfl rfl rfl rfl call142 e2z (fun w hs => ref_shifted hs hr136 (by omega) (by omega)) ?_
  intro v138 h7 hh7 hr138
  refine asg rfl rfl (zD (zB (zC (zP ?_))))
  refine wE (ι := Value × Nat × Mem) (fun (vp, d, k2) => MLe h7 k2 ∧ (Us .u32 k2 vp (zF (V * d * 4294967296 ^ (K - 1))) ∧ d ≤ 4294967295 ∧ R < V * (d + 1) * 4294967296 ^ (K - 1))) (fun (vp, d, k2) => [(1, v71), (4, v82), (5, vr), (13, vI ↑s), (14, vI ↑n), (15, vI ↑(K - 1)), (17, vU .u64 d), (18, vp)]) (fun (vp, d, k2) => [.us 124 .u32 v82 (uV K qs)]) (fun (vp, d, k2) => k2) (fun (vp, d, k2) => d) (v138, min (top / (zF V).getD (n - 1) 0) 4294967295, h7) ?_ e8 rfl rfl ?_
  ·
   refine ⟨MLe.refl _, ?_⟩
   exact ⟨hr138, Nat.min_le_right _ _, hest⟩
  intro x hx
  obtain ⟨vp, d, k2⟩ := x
  obtain ⟨hmk2, ⟨hp, hdb, hdl⟩⟩ := hx
  show GC _ _ _ _ _ _ [(1, v71), (4, v82), (5, vr), (13, vI ↑s), (14, vI ↑n), (15, vI ↑(K - 1)), (17, vU .u64 d), (18, vp)] [.us 124 .u32 v82 (uV K qs)] k2
  refine zC (zC (zA (mv rfl rfl (mv rfl rfl ?_))))
  replace hR := hR.mono ((hh6.trans hh7).trans hmk2)
  refine zO (vs := [_, _]) rfl rfl rfl rfl call93 e2z (fun w hs => ref_cmp hs hp hR) ?_
  intro v141 h8 hh8 hr141
  subst hr141
  refine gv (uH (q := 0) rfl rfl) rfl (zD (zB ?_))
  refine zN rfl (fun hc142 => ?_) (fun hc142 => ?_)
  ·
   have hgt := cmpN_pos.1 hc142
   have hd1 : 1 ≤ d := Nat.pos_of_ne_zero fun h0 => by rw [h0, Nat.mul_zero, Nat.zero_mul] at hgt; omega
   obtain ⟨hbk, hbl⟩ := rq_back (V := V) (p := 4294967296 ^ (K - 1)) hd1
   refine zK (zB (zP (zC (zA (mv rfl rfl (gv (ov_sub_u (k := .u64) (q := 1) (W := 18446744073709551616) rfl rfl rfl rfl (by omega) (by omega)) rfl (asg rfl rfl (zD (zB (zA (mv rfl rfl (mv rfl rfl (mv rfl rfl ?_)))))))))))))
   replace hr71 := hr71.mono (((hh6.trans hh7).trans hmk2).trans hh8)
   refine zO (vs := [_, _]) rfl rfl rfl rfl call142 e2z (fun w hs => ref_shifted hs hr71 (by omega) (by omega)) ?_
   intro v148 h9 hh9 hr148
   have hlq := limbs_len_shl (V * d) (K - 1)
   have hlq2 := xI V d
   have hlq3 := jU (n := d) (by omega)
   replace hp := hp.mono (hh8.trans hh9)
   refine zO (vs := [_, _]) rfl rfl rfl rfl call121 e2z (fun w hs => ref_minus hs hp hr148 hbl (by omega)) ?_
   intro v149 h10 hh10 hr149
   rw [hbk] at hr149
   refine asg rfl rfl (zD (xC ?_))
   refine yV (v149, d - 1, h10) ?_ ?_ e8 rfl rfl
   ·
    refine ⟨(((hmk2.trans hh8).trans hh9).trans hh10), ?_⟩
    exact ⟨hr149, by omega, by rw [Nat.sub_add_cancel hd1]; exact hgt⟩
   dsimp only
   omega
  have hple : V * d * 4294967296 ^ (K - 1) ≤ R := Nat.le_of_not_lt fun hc => hc142 (cmpN_pos.2 hc)
  refine xG (yB (yB (xF (zB (zC (zA (mv rfl rfl (mv rfl rfl (mv rfl rfl (gv (xA (k := .u64) (k' := .u32) (W := 4294967296) underlying122 underlying124 rfl rfl rfl (by omega)) rfl (gv (wC (A := []) (K - 1) underlying28 sizeOf124 rfl rfl (by omega) (by rw [jP]; omega)) rfl (vN sizeOf124 rfl rfl (by rw [jP]; omega) (zD ?_)))))))))))))
  refine zJ (e' := [(1, _), (4, _), (5, _), (13, _), (14, _), (15, _), (18, _)]) e7 (zB (zA (mv rfl rfl (mv rfl rfl ?_))))
  replace hR := hR.mono hh8
  replace hp := hp.mono hh8
  refine zO (vs := [_, _]) rfl rfl rfl rfl call121 e2z (fun w hs => ref_minus hs hR hp hple (by omega)) ?_
  intro v157 h9 hh9 hr157
  refine asg rfl rfl (zD (xC (zB (zA (mv rfl rfl (gv (xO (q := 1) rfl rfl (by omega) (by omega)) rfl (asg rfl rfl (zD ?_))))))))
  refine yV (K - 1, v157, R - V * d * 4294967296 ^ (K - 1), d :: qs, h9) ?_ ?_ ⟨rfl, rfl, rfl, rfl, rfl, ?_, trivial⟩ ?_ rfl
  ·
   refine ⟨(((((hmk1.trans hh6).trans hh7).trans hmk2).trans hh8).trans hh9), ?_⟩
   have eK : (4294967296 : Nat) ^ K = 4294967296 ^ (K - 1) * 4294967296 := by rw [← Nat.pow_succ, Nat.succ_eq_add_one, Nat.sub_add_cancel (by omega)]
   rw [eK] at hval
   have hlm2 := xD (Nat.sub_le R (V * d * 4294967296 ^ (K - 1)))
   exact ⟨hr157, by omega, by simp only [lC]; omega, fit_cons.2 ⟨by omega, hfq⟩, rq_step hval hple, rq_lt hdl hple, by omega⟩
  ·
   dsimp only
   omega
  · exact congrArg some (congrArg vI (by omega))
  try dsimp only [List.nil_append, List.cons_append]
  rw [fillDn_set (by omega)]
 refine xG (yB (yB (xF (zB (zC ?_)))))
 have hK0 : K = 0 := by omega
 subst hK0
 rw [fillDn_zero]
 rw [Nat.pow_zero, Nat.one_mul] at hval hlt
 refine zA (mv rfl rfl (xT (by exact hfq) ?_))
 intro h6 hh6 hq
 refine zO (vs := [_]) rfl rfl rfl rfl call118 ⟨rfl, trivial⟩ (fun w hs => ref_trim hs hq (by omega)) ?_
 intro v159 h7 hh7 hr159
 refine mv rfl rfl (mv rfl rfl ?_)
 replace hR := hR.mono (hh6.trans hh7)
 refine zO (vs := [_, _]) rfl rfl rfl rfl call144 e2z (fun w hs => ref_down hs hR (by omega) (by omega)) ?_
 intro v162 h8 hh8 hr162
 refine asg rfl rfl (asg rfl rfl (asg (v := vI (0)) rfl rfl (zD (zJ (e' := [(4, _), (5, _), (6, _)]) e3z (zB (zQ (qL rfl rfl rfl rfl ?_)))))))
 replace hr159 := hr159.mono hh8
 obtain ⟨e1, e2⟩ := div_end (X := X) (Y := Y) (s := s) (u := R) (q := val qs) (by omega) (by rw [← hV, ← hU]; exact hval) (by rw [← hV]; exact hlt)
 rw [e1] at hr159
 rw [e2] at hr162
 rw [if_neg hyne, if_neg hyne]
 exact ⟨_, _, rfl, hr159, hr162⟩
theorem ref_gcd {w0 : World} {h0 : Mem}  (hs : MLe h0 (mem w0)) {v v' : Value} {A B : Nat} (hv : Us .u32 h0 v (zF A)) (hv' : Us .u32 h0 v' (zF B)) (hl : (zF A).length ≤ 549755813888) (hl' : (zF B).length ≤ 549755813888) :
    Calls Tryz.prog 119 #[v, v'] w0 (Ret w0 h0 (fun h r => Us .u32 h r (zF (Nat.gcd A B)))) := by
 obtain ⟨G, hG⟩ : ∃ G, G = Nat.gcd A B := ⟨_, rfl⟩
 rw [← hG]
 refine zM (n := 51) (e := [(0, v), (1, v')]) (vs := [v, v']) func119 rfl rfl (bL rfl) hs e2z (zC (zA (asg rfl rfl (zD (zB (zC (zA (mv rfl rfl ?_))))))))
 refine zO (vs := [_]) rfl rfl rfl rfl call118 ⟨rfl, trivial⟩ (fun w hs => ref_trim hs hv (by omega)) ?_
 intro v13 h1 hh1 hr13
 rw [zU] at hr13
 refine mv rfl rfl ?_
 replace hv' := hv'.mono hh1
 refine zO (vs := [_]) rfl rfl rfl rfl call118 ⟨rfl, trivial⟩ (fun w hs => ref_trim hs hv' (by omega)) ?_
 intro v15 h2 hh2 hr15
 rw [zU] at hr15
 refine asg rfl rfl (asg rfl rfl (zD (zB (zC (zP ?_)))))
 refine wE (ι := Value × Nat × Value × Nat × Mem) (fun (vx, X, vy, Y, k1) => MLe h2 k1 ∧ (Us .u32 k1 vx (zF X) ∧ Us .u32 k1 vy (zF Y) ∧ Nat.gcd X Y = G ∧ (zF X).length ≤ 549755813888 ∧ (zF Y).length ≤ 549755813888)) (fun (vx, X, vy, Y, k1) => [(0, vx), (1, vy)]) (fun (vx, X, vy, Y, k1) => []) (fun (vx, X, vy, Y, k1) => k1) (fun (vx, X, vy, Y, k1) => Y) (v13, A, v15, B, h2) ?_ e2z rfl rfl ?_
 ·
  refine ⟨MLe.refl _, ?_⟩
  replace hr13 := hr13.mono hh2
  exact ⟨hr13, hr15, hG.symm, by omega, by omega⟩
 intro x hx
 obtain ⟨vx, X, vy, Y, k1⟩ := x
 obtain ⟨hmk1, ⟨ha, hb, hg, hlX, hlY⟩⟩ := hx
 show GC _ _ _ _ _ _ [(0, vx), (1, vy)] [] k1
 refine zC (zC (zA (mv rfl rfl (gv (zZ underlying28 rfl hb) rfl (gv (uH (q := 0) rfl rfl) rfl (zD (zB ?_)))))))
 refine zN rfl (fun hc18 => ?_) (fun hc18 => ?_)
 ·
  have hY0 : Y ≠ 0 := wF.1 (by omega)
  refine zK (zB (zP (zC (zA (mv rfl rfl ?_)))))
  refine zO (vs := [_]) rfl rfl rfl rfl call138 ⟨rfl, trivial⟩ (fun w hs => ref_small hs ha) ?_
  intro v21 h3 hh3 hr21
  subst hr21
  refine mv rfl rfl (gv (zL (vs := [_, _]) rfl rfl) rfl (gv (zL (vs := [_, _]) rfl rfl) rfl (asg rfl rfl (asg rfl rfl (zD (zB (zC (zA (mv rfl rfl ?_)))))))))
  replace hb := hb.mono hh3
  refine zO (vs := [_]) rfl rfl rfl rfl call138 ⟨rfl, trivial⟩ (fun w hs => ref_small hs hb) ?_
  intro v26 h4 hh4 hr26
  subst hr26
  refine mv rfl rfl (gv (zL (vs := [_, _]) rfl rfl) rfl (gv (zL (vs := [_, _]) rfl rfl) rfl (asg rfl rfl (asg rfl rfl (zD (zJ (e' := [(0, _), (1, _), (5, _), (6, _), (7, _), (8, _)]) e6 (zB (zC (zC (zA (mv rfl rfl ?_)))))))))))
  refine vY (ι := Unit) 3 (fun _ => True) (fun _ => [(32, vB (((zF X).length ≤ 2) ∧ ((zF Y).length ≤ 2))), (0, vx), (1, vy), (5, vU .u64 (if (zF X).length ≤ 2 then X else 0)), (7, vU .u64 (if (zF Y).length ≤ 2 then Y else 0))]) (fun _ => []) (fun _ => h4) ?_ ?_
  ·
   refine wL ((zF X).length ≤ 2) (fun hg => ?_) (fun hg => ?_)
   ·
    refine xE (yO (v := .bool true) (congrArg some (xL hg))) rfl rfl rfl (yY rfl rfl rfl (mv rfl rfl (gv (xM rfl rfl) rfl (zD ?_))))
    refine yM () trivial ⟨?_, rfl, rfl, rfl, rfl, trivial⟩ rfl rfl
    exact congrArg some (uC hg)
   refine xE (yO (v := .bool false) (congrArg some (yX hg))) rfl rfl rfl (yI rfl rfl rfl rfl rfl rfl (gv (xW rfl rfl) rfl (zD ?_)))
   refine yM () trivial ⟨?_, rfl, rfl, rfl, rfl, trivial⟩ rfl rfl
   exact congrArg some (uD hg)
  intro _ _
  show GL _ _ _ _ _ _ _ [(32, vB (((zF X).length ≤ 2) ∧ ((zF Y).length ≤ 2))), (0, vx), (1, vy), (5, vU .u64 (if (zF X).length ≤ 2 then X else 0)), (7, vU .u64 (if (zF Y).length ≤ 2 then Y else 0))] [] h4
  refine zD (zB ?_)
  refine zN rfl (fun hc32 => ?_) (fun hc32 => ?_)
  ·
   rw [if_pos hc32.1, if_pos hc32.2]
   have hwx := lt_word hc32.1
   have hwy := lt_word hc32.2
   refine zC (zP ?_)
   refine wE (ι := Nat × Nat) (fun (m, n) => Nat.gcd m n = G ∧ m < 18446744073709551616 ∧ n < 18446744073709551616) (fun (m, n) => [(5, vU .u64 m), (7, vU .u64 n)]) (fun (m, n) => []) (fun (m, n) => h4) (fun (m, n) => n) (X, Y) ?_ e2z rfl rfl ?_
   ·
    exact ⟨hg, hwx, hwy⟩
   intro x hx
   obtain ⟨m, n⟩ := x
   obtain ⟨hg3, hm, hn⟩ := hx
   show GC _ _ _ _ _ _ [(5, vU .u64 m), (7, vU .u64 n)] [] h4
   refine zC (zC (zA (mv rfl rfl (gv (ov_neq_u (k := .u64) (q := 0) rfl rfl) rfl (zD (zB ?_))))))
   refine zN rfl (fun hc34 => ?_) (fun hc34 => ?_)
   ·
    refine zK (zB (zP ?_))
    refine yF 6 _ [] [(0, .q), (1, .q), (2, .q), (3, .q), (4, .q), (5, .q)] xH nX (by kernel_rfl) nX (fun r hr => hr) (yH rfl rfl rfl (yH rfl rfl rfl (yH rfl rfl rfl (yK rfl (fun _ _ => ov_rem_u (k := .u64) rfl rfl (by omega)) rfl (uG rfl rfl rfl (uG rfl rfl rfl (xB (xC ?_))))))))
    refine yV (n, m % n) ?_ ?_ e2z rfl rfl
    ·
     have hlt := Nat.mod_lt m (Nat.pos_of_ne_zero hc34)
     exact ⟨by rw [gcd_step]; exact hg3, hn, by omega⟩
    dsimp only
    exact Nat.mod_lt _ (Nat.pos_of_ne_zero hc34)
   refine xG (yB (yB (xF (zB (zC (zA (mv rfl rfl ?_)))))))
   refine zO (vs := [_]) rfl rfl rfl rfl call116 ⟨rfl, trivial⟩ (fun w hs => ref_of hs (by omega)) ?_
   intro v40 h5 hh5 hr40
   refine asg rfl rfl (zD (zB (zQ (zV (vC (zV (vC (zV (yC rfl rfl ?_)))))))))
   have hn0 : n = 0 := Classical.not_not.1 hc34
   rw [hn0, Nat.gcd_zero_right] at hg3
   rw [← hg3]
   exact hr40
  refine zK (zB (zC (zA (mv rfl rfl (mv rfl rfl ?_)))))
  replace ha := ha.mono (hh3.trans hh4)
  replace hb := hb.mono hh4
  refine zO (vs := [_, _]) rfl rfl rfl rfl call120 e2z (fun w hs => ref_div hs ha hb (by omega) (by omega)) ?_
  intro v44 h5 hh5 hr44
  obtain ⟨q44, r44, rfl, hq44, hr44⟩ := hr44
  rw [if_neg hY0] at hr44
  have hlm := xD (Nat.le_of_lt (Nat.mod_lt X (Nat.pos_of_ne_zero hY0)))
  refine mv rfl rfl (gv (zL (vs := [_, _, _]) rfl rfl) rfl (gv (zL (vs := [_, _, _]) rfl rfl) rfl (gv (zL (vs := [_, _, _]) rfl rfl) rfl (asg rfl rfl (asg rfl rfl (asg rfl rfl (zD (zJ (e' := [(1, _), (10, _)]) e2z (zB (zA (mv rfl rfl (mv rfl rfl (asg rfl rfl ?_)))))))))))))
  refine asg rfl rfl (zD (xC ?_))
  refine yV (vy, Y, r44, X % Y, h5) ?_ ?_ e2z rfl rfl
  ·
   refine ⟨(((hmk1.trans hh3).trans hh4).trans hh5), ?_⟩
   replace hb := hb.mono hh5
   exact ⟨hb, hr44, by rw [gcd_step]; exact hg, hlY, by omega⟩
  dsimp only
  exact Nat.mod_lt _ (Nat.pos_of_ne_zero hY0)
 have hY0 : Y = 0 := Classical.byContradiction fun hne => by have := wF.2 hne; omega
 refine xG (yB (yB (xF (zB (zC (zA (mv rfl rfl (asg rfl rfl (zD (zB (zQ (yC rfl rfl ?_))))))))))))
 rw [hY0, Nat.gcd_zero_right] at hg
 rw [← hg]
 exact ha
end Go.Proofs.YtghhjjmjpeehdaaGreat
namespace Bk
set_option linter.unusedVariables false
set_option linter.unusedSimpArgs false
open Go Go.RowKit
section
variable {P : Program} {n : Nat} {w0 : World} {h0 : Mem} {e : List (Nat × Value)} {L : List Res} {h : Mem} {Q : Exit → Act → World → Prop}
variable {ds : Option Tmp} {ty : TypeId} {ps : String} {af : Array Edge} {gd : Option (Nat × Bool)}
abbrev Res.var (b : Nat) (E : TypeId) (cs : List Value) : Res := .blk b (.cells cs.toArray E)
abbrev vP (b k : Nat) : Value := .pointer (some ⟨b, k, none⟩)
theorem heap_last (w : World) (o : Obj) : (w.alloc o).heap[w.heap.size]? = some o := by
  show (w.heap.push o)[w.heap.size]? = some o
  exact Array.getElem?_push_size
theorem wZ {E : TypeId} {x : Operand} {v : Value} {cs : List Value} (hx : yG e x = some v) (hc : v.cells = cs.toArray) :
    NewOp P n w0 h0 ⟨ds, .box E x, ty, ps, af, gd⟩ e L h (fun u r => ∃ b, u = vP b 0 ∧ r = .var b E cs) := by
  intro a w Ev S
  refine ⟨_, w.alloc (.cells cs.toArray E), .var w.heap.size E cs, ?_, World.grownBy_alloc w _ none, ?_, fun b hb => ?_, _, rfl, rfl⟩
  · simp [execOp, Ev.eval hx, Instr.box, newVar, newRow, newObj, Sem.run, hc]
  · exact heap_last w _
  · simp only [Res.fp, Option.some.injEq] at hb
    omega
theorem vV {E : TypeId} {i : TypeInfo} {z : Value} {cs : List Value} (hi : P.info? E = some i) (hz : i.zero = some z) (hc : z.cells = cs.toArray) :
    NewOp P n w0 h0 ⟨ds, .alloc E, ty, ps, af, gd⟩ e L h (fun u r => ∃ b, u = vP b 0 ∧ r = .var b E cs) := by
  intro a w Ev S
  refine ⟨_, w.alloc (.cells cs.toArray E), .var w.heap.size E cs, ?_, World.grownBy_alloc w _ none, ?_, fun b hb => ?_, _, rfl, rfl⟩
  · have hz' : (zeroValue E).run P w = .ok z w := by simp [zeroValue, typeInfo, hi, hz]
    simp [execOp, Instr.alloc, hz', newVar, newRow, newObj, Sem.run, hc]
  · exact heap_last w _
  · simp only [Res.fp, Option.some.injEq] at hb
    omega
theorem zG {t : TypeId} {x : Operand} {f b k : Nat} {fs : Array Field} {fl : Field} {m : Nat} (ht : P.underlying t = some (.struct fs)) (hf : fs[f]? = some fl) (hsz : ∀ w, (Go.sizeOf fl.type).run P w = .ok (m + 1) w) (hx : yG e x = some (vP b k)) :
    OpV P n w0 h0 ⟨ds, .fieldAddr t x f, ty, ps, af, gd⟩ e L h (vP b (k + fl.offset)) := by
  intro a w Ev S
  simp [execOp, Ev.eval hx, Instr.fieldAt, run_underlying ht, hf, Instr.sureAddr, fieldPlace, hsz, kG]
theorem var_range {b : Nat} {E : TypeId} {cs : List Value} {w : World} (hw : w.heap[b]? = some (.cells cs.toArray E)) (k : Nat) (vs : List Value) (hv : (cs.drop k).take vs.length = vs) : w.rangeAt b k vs := by
  intro j v hj
  have hjl : j < vs.length := (List.getElem?_eq_some_iff.1 hj).1
  have h1 : cs[k + j]? = some v := by
    rw [← hv, List.getElem?_take, if_pos hjl, List.getElem?_drop] at hj
    exact hj
  unfold World.cell?
  simp [hw, h1]
theorem zR {t : TypeId} {x : Operand} {b k : Nat} {E : TypeId} {cs : List Value} {v : Value} (hm : .var b E cs ∈ L) (ha : ∀ w, (isAgg t).run P w = .ok false w) (hx : yG e x = some (vP b k)) (hv : cs[k]? = some v) :
    OpV P n w0 h0 ⟨ds, .load t x, ty, ps, af, gd⟩ e L h v := by
  intro a w Ev S
  have hw : w.heap[b]? = some (.cells cs.toArray E) := S.ok _ hm
  have hc : w.cell? ⟨b, k, none⟩ = some v := by unfold World.cell?; simp [hw, hv]
  simp [execOp, Ev.eval hx, Instr.loadAt, Instr.sureAddr, loadVar, ha, Go.load, Sem.run, hc]
theorem yE {t : TypeId} {x : Operand} {b k : Nat} {E : TypeId} {cs vs : List Value} {d : TypeDesc} (hm : .var b E cs ∈ L) (hu : P.underlying t = some d) (hd : d.isRow = true) (hi : (P.info? t).map (·.size) = some vs.length) (hx : yG e x = some (vP b k)) (hv : (cs.drop k).take vs.length = vs) :
    OpV P n w0 h0 ⟨ds, .load t x, ty, ps, af, gd⟩ e L h (.agg vs.toArray) := by
  intro a w Ev S
  have hw : w.heap[b]? = some (.cells cs.toArray E) := S.ok _ hm
  simp only [execOp, Ev.eval hx]
  rw [Sem.run_bind, run_loadAt_mid w b k t vs d (var_range hw k vs hv) hu hd hi]
  rfl
theorem setCells_var {b : Nat} {E : TypeId} : ∀ (vs : List Value) (k : Nat) (cs : List Value) (w : World), w.heap[b]? = some (.cells cs.toArray E) →
    (w.setCells b k vs).heap[b]? = some (.cells (vs.zipIdx.foldl (fun c p => c.set (k + p.2) p.1) cs).toArray E) ∧ w.grownBy (w.setCells b k vs) (some b)
  | [], k, cs, w, hw => ⟨hw, ⟨rfl, rfl, rfl, Nat.le_refl _, fun _ _ _ => rfl⟩⟩
  | v :: r, k, cs, w, hw => by
    have h1 : (w.setCell ⟨b, k, none⟩ v).heap[b]? = some (.cells (cs.set k v).toArray E) := by
      simp [World.setCell, Array.getElem?_modify, hw]
    obtain ⟨h2, h3⟩ := setCells_var r (k + 1) (cs.set k v) _ h1
    have e1 : ((v :: r).zipIdx.foldl (fun c p => c.set (k + p.2) p.1) cs) = (r.zipIdx.foldl (fun c p => c.set (k + 1 + p.2) p.1) (cs.set k v)) := by
      rw [List.zipIdx_cons, List.foldl_cons, Nat.add_zero, List.zipIdx_succ, List.foldl_map]
      congr 1
      funext c p
      rw [show k + (p.2 + 1) = k + 1 + p.2 by omega]
    refine ⟨?_, ?_⟩
    · rw [World.setCells, e1]; exact h2
    · have hlt : b < w.heap.size := (Array.getElem?_eq_some_iff.1 hw).1
      refine ⟨?_, ?_, ?_, ?_, ?_⟩
      · exact h3.os
      · exact h3.tape
      · exact h3.output
      · have := h3.size
        simpa [World.setCells, World.setCell] using this
      · intro b' hb' hne
        have h4 := h3.block b' (by simpa [World.setCell] using hb') hne
        rw [World.setCells, h4]
        have : b ≠ b' := fun hh => hne (by rw [hh])
        simp [World.setCell, Array.getElem?_modify, this]
def putAt (cs : List Value) (k : Nat) (vs : List Value) : List Value := vs.zipIdx.foldl (fun c p => c.set (k + p.2) p.1) cs
theorem yA {A B : List Res} {E t : TypeId} {b k : Nat} {cs vs : List Value} {v : Value} {x y : Operand} (hx : yG e x = some (vP b k)) (hy : yG e y = some v) (hv : v.cells = vs.toArray) (h1 : vs.all (·.oneCell') = true)
    (hi : (P.info? t).map (·.size) = some vs.length) (hk : k + vs.length ≤ cs.length) : Upd P n w0 h0 ⟨ds, .store t x y, ty, ps, af, gd⟩ e A (.var b E cs) B h (.var b E (putAt cs k vs)) := by
  intro a w Ev S
  have hw : w.heap[b]? = some (.cells cs.toArray E) := S.ok (.var b E cs) (by simp)
  obtain ⟨h2, h3⟩ := setCells_var vs k cs w hw
  refine ⟨w.setCells b k vs, ?_, h3, h2⟩
  have hthere : w.there b k vs.length := by
    intro j hj
    have : k + j < cs.length := by omega
    refine ⟨?_, ?_⟩
    · unfold World.cell?
      simp [hw, this]
    · simp [World.frozen?, hw]
  have hrun := run_storeCells_cells (P := P) b k vs 0 w (fun j hj => by simpa using (hthere j hj).1) (fun j hj => by simpa using (hthere j hj).2) (fun u hu => List.all_eq_true.1 h1 u hu)
  have hsz : (Go.sizeOf t).run P w = .ok vs.length w := by
    cases hq : P.info? t with
    | none => simp [hq] at hi
    | some i =>
      have : i.size = vs.length := by simpa [hq] using hi
      simp [Go.sizeOf, typeInfo, hq, this]
  simp only [Nat.add_zero] at hrun
  simp [execOp, Ev.eval hx, Ev.eval hy, Instr.storeAt, Instr.sureAddr, storeVar, hsz, hv, hrun]
def PartsV (e : List (Nat × Value)) : List (Nat × Operand) → List (Nat × Value) → Prop
  | [], [] => True
  | (i, x) :: r, (j, v) :: s => i = j ∧ yG e x = some v ∧ PartsV e r s
  | _, _ => False
theorem PartsV.eval {a : Act} (Ev : Env n e a) : ∀ {ps : List (Nat × Operand)} {vs : List (Nat × Value)}, PartsV e ps vs → (ps.map fun p => (p.1, a.eval p.2)) = vs
  | [], [], _ => rfl
  | (i, x) :: r, (j, v) :: s, h => by
    obtain ⟨rfl, h2, h3⟩ := h
    rw [List.map_cons, PartsV.eval Ev h3, Ev.eval h2]
  | [], _ :: _, h => h.elim
  | _ :: _, [], h => h.elim
theorem Us.oneCell {k : IntKind} {v : Value} {xs : List Nat} (s : Us k h v xs) : v.oneCell' = true := by
  obtain ⟨_, _, rfl⟩ := s.one
  rfl
theorem Us.cells {k : IntKind} {v : Value} {xs : List Nat} (s : Us k h v xs) : v.cells = [v].toArray := by
  obtain ⟨_, _, rfl⟩ := s.one
  rfl
theorem oc0 : ([] : List Value).all (·.oneCell') = true := rfl
theorem ocu {k : IntKind} {h : Mem} {v : Value} {xs : List Nat} {cs : List Value} (s : Us k h v xs) (r : cs.all (·.oneCell') = true) : (v :: cs).all (·.oneCell') = true := by
  rw [List.all_cons, s.oneCell, r]; rfl
theorem ocr {v : Value} {cs : List Value} (s : v.oneCell' = true) (r : cs.all (·.oneCell') = true) : (v :: cs).all (·.oneCell') = true := by
  rw [List.all_cons, s, r]; rfl
theorem setAll_mid : ∀ (cs B A C : List Value), cs.length = B.length → (cs.zipIdx.foldl (fun (a : Array Value) (p : Value × Nat) => a.setIfInBounds (A.length + p.2) p.1) (A ++ B ++ C).toArray) = (A ++ cs ++ C).toArray := by
  have key : ∀ (cs B A C : List Value) (k : Nat) (A0 : Nat), A.length = A0 + k → cs.length = B.length → ((cs.zipIdx k).foldl (fun (a : Array Value) (p : Value × Nat) => a.setIfInBounds (A0 + p.2) p.1) (A ++ B ++ C).toArray) = (A ++ cs ++ C).toArray := by
    intro cs
    induction cs with
    | nil =>
      intro B A C k A0 hA hB
      have : B = [] := List.eq_nil_of_length_eq_zero hB.symm
      subst this; rfl
    | cons c cs ih =>
      intro B A C k A0 hA hB
      cases B with
      | nil => simp at hB
      | cons b B =>
        have e : (A ++ b :: B ++ C).toArray.setIfInBounds (A0 + k) c = ((A ++ [c]) ++ B ++ C).toArray := by
          rw [← hA]
          simp [List.set_append]
        rw [List.zipIdx_cons, List.foldl_cons]
        show List.foldl _ ((A ++ b :: B ++ C).toArray.setIfInBounds (A0 + k) c) _ = _
        rw [e, ih B (A ++ [c]) C (k + 1) A0 (by simp; omega) (by simpa using hB)]
        simp
  intro cs B A C h
  exact key cs B A C 0 A.length rfl h
theorem vD {place : Nat → Option (Nat × Nat)} {i off size : Nat} {A B C cs : List Value} {v : Value} {rest : List (Nat × Value)} {r : Option (Array Value)} (hp : place i = some (off, size)) (hA : A.length = off) (hB : B.length = size) (hs : cs.length = size) (hc : v.cells = cs.toArray)
    (k : Instr.fill place (A ++ cs ++ C).toArray rest = r) : Instr.fill place (A ++ B ++ C).toArray ((i, v) :: rest) = r := by
  subst hA
  have h1 : v.cells.size = size := by rw [hc]; simpa using hs
  have h3 : (decide (v.cells.size ≠ size) || decide (A.length + v.cells.size > (A ++ B ++ C).toArray.size)) = false := by
    rw [h1]; simp; omega
  simp only [Instr.fill, hp]
  rw [h3, if_neg (by decide), hc, ← Array.foldl_toList, Array.toList_zipIdx, setAll_mid cs B A C (by omega)]
  exact k
theorem qI {place : Nat → Option (Nat × Nat)} {vs : List Value} : Instr.fill place vs.toArray [] = some vs.toArray := rfl
theorem wK {t : TypeId} {i : TypeInfo} {z : Value} {fs : Array Field} {places : Array (Nat × Nat)} {parts : List (Nat × Operand)} {ps' : List (Nat × Value)} {vs : List Value} (ht : P.underlying t = some (.struct fs)) (hi : P.info? t = some i) (hz : i.zero = some z)
    (hpl : ∀ w, (fs.mapM fun (f : Field) => do pure (f.offset, ← Go.sizeOf f.type)).run P w = .ok places w) (hp : PartsV e parts ps') (hf : Instr.fill (places[·]?) z.cells ps' = some vs.toArray) :
    OpV P n w0 h0 ⟨ds, .build t parts.toArray, ty, ps, af, gd⟩ e L h (.agg vs.toArray) := by
  intro a w Ev S
  have hpa : (parts.toArray.map fun (p : Nat × Operand) => (p.1, a.eval p.2)).toList = ps' := by
    rw [List.map_toArray]
    exact hp.eval Ev
  have hz' : (zeroValue t).run P w = .ok z w := by simp [zeroValue, typeInfo, hi, hz]
  simp only [execOp, Instr.build]
  rw [show (parts.toArray.map fun (i, x) => (i, a.eval x)).toList = ps' from hpa]
  simp only [Sem.run_bind, hz', Result.andThen_ok, run_underlying ht, hpl, hf]
  rfl
def resRun (tmps : Array Value) : ResultVar → Sem Value
  | .tmp t => pure (tmps.getD t undef)
  | .cell a t => do loadVar t (← asAddr (tmps.getD a undef))
def RV (P : Program) (n : Nat) (w0 : World) (h0 : Mem) (r : ResultVar) (e : List (Nat × Value)) (L : List Res) (h : Mem) (v : Value) : Prop := ∀ a w, Env n e a → St w0 h0 L h w → (resRun a.tmps r).run P w = .ok v w
theorem rv_tmp {t : Nat} {v : Value} (hv : yG e (.tmp t) = some v) : RV P n w0 h0 (.tmp t) e L h v := by
  intro a w E S
  have := E.eval hv
  simp only [Act.eval] at this
  simp [resRun, this]
theorem wX {t : Nat} {T E : TypeId} {b : Nat} {cs : List Value} {d : TypeDesc} (hm : .var b E cs ∈ L) (hu : P.underlying T = some d) (hd : d.isRow = true) (hi : (P.info? T).map (·.size) = some cs.length) (hx : yG e (.tmp t) = some (vP b 0)) : RV P n w0 h0 (.cell t T) e L h (.agg cs.toArray) := by
  intro a w Ev S
  have hw : w.heap[b]? = some (.cells cs.toArray E) := S.ok _ hm
  have := Ev.eval hx
  simp only [Act.eval] at this
  have h2 := run_loadVar_mid (P := P) w b 0 T cs d (var_range hw 0 cs (by simp)) hu hd hi
  simp [resRun, this, asAddr, h2]
theorem results_run (fn : Func) (tmps : Array Value) : results fn tmps = (do let vs ← fn.results.mapM (resRun tmps); pure (if h : vs.size = 1 then vs[0] else .tuple vs)) := by
  unfold results
  congr 1
section
variable {fn : Func} {r1 r2 r3 r4 : ResultVar} {v1 v2 v3 v4 : Value} {R : Mem → Value → Prop} {RO : Mem → Value → List Res → Prop}
theorem yS (hr : fn.results = #[r1]) (h1 : RV P n w0 h0 r1 e L h v1) {a : Act} {w : World} (Ev : Env n e a) (S : St w0 h0 L h w) : (results fn a.tmps).run P w = .ok v1 w := by
  simp [results_run, hr, h1 a w Ev S]
theorem run_res2 (hr : fn.results = #[r1, r2]) (h1 : RV P n w0 h0 r1 e L h v1) (h2 : RV P n w0 h0 r2 e L h v2) {a : Act} {w : World} (Ev : Env n e a) (S : St w0 h0 L h w) : (results fn a.tmps).run P w = .ok (.tuple #[v1, v2]) w := by
  simp [results_run, hr, h1 a w Ev S, h2 a w Ev S]
theorem xQ {v : Value} (hres : ∀ {a : Act} {w : World}, Env n e a → St w0 h0 L h w → (results fn a.tmps).run P w = .ok v w) (hR : R h v) : GQ n w0 h0 (bodyPost P fn (Ret w0 h0 R)) .ret e L h := by
  intro a w E S
  exact bodyPost_ret (hres E S) E.defers ⟨_, h, rfl, hR, S.sublist (List.nil_sublist _)⟩
theorem gq_res_own {v : Value} (hres : ∀ {a : Act} {w : World}, Env n e a → St w0 h0 L h w → (results fn a.tmps).run P w = .ok v w) (hR : RO h v L) : GQ n w0 h0 (bodyPost P fn (RetOwn w0 h0 RO)) .ret e L h := by
  intro a w E S
  exact bodyPost_ret (hres E S) E.defers ⟨_, h, L, rfl, hR, S⟩
end
end
end Bk
namespace Bk
set_option linter.unusedVariables false
set_option linter.unusedSimpArgs false
open Go Go.RowKit
def jW (k : Nat) (v : Value) (lo hi mx : Nat) : Value :=
  match v with
  | .slice a _ _ => .slice (if mx = lo then a else a.map (·.add (lo * k))) (hi - lo) (mx - lo)
  | _ => undef
section
variable {P : Program} {n : Nat} {w0 : World} {h0 : Mem} {e : List (Nat × Value)} {L : List Res} {h : Mem} {Q : Exit → Act → World → Prop}
variable {ds : Option Tmp} {ty : TypeId} {ps : String} {af : Array Edge} {gd : Option (Nat × Bool)}
theorem Sl.sub3 {h : Mem} {k : Nat} {v : Value} {m : Nat} {cs : List Value} (s : Sl h k v m cs) {lo hi mx : Nat} (h1 : lo ≤ hi) (h2 : hi ≤ mx) (h3 : mx ≤ m) : Sl h k (jW k v lo hi mx) (hi - lo) ((cs.drop (lo * k)).take ((hi - lo) * k)) := by
  obtain ⟨a, cap, rfl, h4, h5, h6, h7⟩ := s
  refine ⟨_, _, rfl, by omega, by omega, ?_, fun i hi' => ?_⟩
  · rw [List.length_take, List.length_drop, h6]
    have := Nat.mul_le_mul_right k (show lo + (hi - lo) ≤ m by omega)
    rw [Nat.add_mul] at this
    omega
  · rw [List.length_take, List.length_drop] at hi'
    have hlt : i < (hi - lo) * k := by omega
    have hpos : 0 < (hi - lo) * k := by omega
    have hlohi : lo < hi := by
      rcases Nat.lt_or_ge lo hi with h' | h'
      · exact h'
      · rw [show hi - lo = 0 by omega, Nat.zero_mul] at hpos; omega
    obtain ⟨b, o, ha, hc⟩ := h7 (lo * k + i) (by omega)
    subst ha
    refine ⟨b, o + lo * k, by rw [if_neg (by omega)]; simp [kG], ?_⟩
    rw [List.getElem?_take, if_pos hlt, List.getElem?_drop, ← hc, Nat.add_assoc]
theorem Us.sub3 {k : IntKind} {h : Mem} {v : Value} {xs : List Nat} (s : Us k h v xs) {lo hi mx : Nat} (h1 : lo ≤ hi) (h2 : hi ≤ mx) (h3 : mx ≤ xs.length) : Us k h (jW 1 v lo hi mx) ((xs.drop lo).take (hi - lo)) := by
  have := s.sl.sub3 h1 h2 h3
  simp only [Nat.mul_one] at this
  refine ⟨?_, fun x hx => s.lt x (List.mem_of_mem_drop (List.mem_of_mem_take hx))⟩
  have hl : ((xs.drop lo).take (hi - lo)).length = hi - lo := by rw [List.length_take, List.length_drop]; omega
  rw [hl]
  simpa [us] using this
theorem St.own_shape {E : Nat} {k : IntKind} {v : Value} {xs : List Nat} {w : World} (S : St w0 h0 L h w) (hm : .us E k v xs ∈ L) : ∃ a cap, v = .slice a xs.length cap ∧ xs.length ≤ cap ∧ cap ≤ maxLen ∧ (0 < xs.length → ∃ g, a = some ⟨g, 0, none⟩) := by
  obtain ⟨hl, hr⟩ := S.ok _ hm
  rcases hr with ⟨rfl, h0'⟩ | ⟨g, cap, cur, rfl, hb, hg, hn, hcm, hcs, ht⟩
  · exact ⟨none, 0, by rw [h0'], by omega, by omega, fun h => by omega⟩
  · exact ⟨_, cap, rfl, hn, hcm, fun _ => ⟨g, rfl⟩⟩
theorem St.own_self {E : Nat} {k : IntKind} {v : Value} {xs : List Nat} {w : World} (S : St w0 h0 L h w) (hm : .us E k v xs ∈ L) : v = subSl 1 v 0 xs.length := by
  obtain ⟨a, cap, rfl, h1, h2, h3⟩ := S.own_shape hm
  simp only [subSl, Nat.zero_mul, Nat.sub_zero]
  by_cases hc : cap = 0
  · rw [if_pos hc]
  · rw [if_neg hc]
    cases a with
    | none => rfl
    | some x =>
      obtain ⟨b, o, sp⟩ := x
      simp [Addr.add]
theorem ov_slice_own_l {E : Nat} {k : IntKind} {v : Value} {xs : List Nat} {t E' : TypeId} {x lo : Operand} {p : Int} (hm : .us E k v xs ∈ L) (i : Nat) (ht : P.underlying t = some (.slice E')) (hsz : ∀ w, (Go.sizeOf E').run P w = .ok 1 w) (hx : yG e x = some v) (hl : yG e lo = some (vI p))
    (hp : p = (i : Int)) (h1 : i ≤ xs.length) : OpV P n w0 h0 ⟨ds, .slice t x (some lo) none none, ty, ps, af, gd⟩ e L h (subSl 1 v i xs.length) := by
  intro a w Ev S
  obtain ⟨ad, cap, hv, hc, _⟩ := S.own_shape hm
  exact ov_slice_l i ht hsz hx hl ⟨ad, cap, hv, hc⟩ hp h1 a w Ev S
theorem run_slice3 {t E : TypeId} {w : World} (ht : P.underlying t = some (.slice E)) (hsz : ∀ w, (Go.sizeOf E).run P w = .ok 1 w) (a : Option Addr) (m cap lo hi mx : Nat) (h1 : lo ≤ hi) (h2 : hi ≤ mx) (h3 : mx ≤ cap) :
    (Instr.sliceAt t (.slice a m cap) (some (vI lo)) (some (vI hi)) (some (vI mx))).run P w = .ok (jW 1 (.slice a m cap) lo hi mx) w := by
  simp [Instr.sliceAt, Instr.slice, run_underlying ht, Instr.sliceBounds, Instr.sliceBound, asIntOf, vI, hsz, jW, h1, h2, h3]
theorem run_slice30 {t E : TypeId} {w : World} (ht : P.underlying t = some (.slice E)) (hsz : ∀ w, (Go.sizeOf E).run P w = .ok 1 w) (a : Option Addr) (m cap hi mx : Nat) (h2 : hi ≤ mx) (h3 : mx ≤ cap) :
    (Instr.sliceAt t (.slice a m cap) none (some (vI hi)) (some (vI mx))).run P w = .ok (jW 1 (.slice a m cap) 0 hi mx) w := by
  simp [Instr.sliceAt, Instr.slice, run_underlying ht, Instr.sliceBounds, Instr.sliceBound, asIntOf, vI, hsz, jW, h2, h3]
theorem ov_slice_own3 {E : Nat} {k : IntKind} {v : Value} {xs : List Nat} {t E' : TypeId} {x lo hi mx : Operand} {p q r : Int} (hm : .us E k v xs ∈ L) (i j l : Nat) (ht : P.underlying t = some (.slice E')) (hsz : ∀ w, (Go.sizeOf E').run P w = .ok 1 w) (hx : yG e x = some v) (hl : yG e lo = some (vI p)) (hh : yG e hi = some (vI q)) (hmx : yG e mx = some (vI r))
    (hp : p = (i : Int)) (hq : q = (j : Int)) (hr : r = (l : Int)) (h1 : i ≤ j) (h2 : j ≤ l) (h3 : l ≤ xs.length) : OpV P n w0 h0 ⟨ds, .slice t x (some lo) (some hi) (some mx), ty, ps, af, gd⟩ e L h (jW 1 v i j l) := by
  subst hp; subst hq; subst hr
  intro a w Ev S
  obtain ⟨ad, cap, rfl, hc, _⟩ := S.own_shape hm
  have := run_slice3 (P := P) (w := w) ht hsz ad xs.length cap i j l h1 h2 (by omega)
  simp [execOp, Ev.eval hx, Ev.eval hl, Ev.eval hh, Ev.eval hmx, this]
theorem ov_slice_own30 {E : Nat} {k : IntKind} {v : Value} {xs : List Nat} {t E' : TypeId} {x hi mx : Operand} {q r : Int} (hm : .us E k v xs ∈ L) (j l : Nat) (ht : P.underlying t = some (.slice E')) (hsz : ∀ w, (Go.sizeOf E').run P w = .ok 1 w) (hx : yG e x = some v) (hh : yG e hi = some (vI q)) (hmx : yG e mx = some (vI r))
    (hq : q = (j : Int)) (hr : r = (l : Int)) (h2 : j ≤ l) (h3 : l ≤ xs.length) : OpV P n w0 h0 ⟨ds, .slice t x none (some hi) (some mx), ty, ps, af, gd⟩ e L h (jW 1 v 0 j l) := by
  subst hq; subst hr
  intro a w Ev S
  obtain ⟨ad, cap, rfl, hc, _⟩ := S.own_shape hm
  have := run_slice30 (P := P) (w := w) ht hsz ad xs.length cap j l h2 (by omega)
  simp [execOp, Ev.eval hx, Ev.eval hh, Ev.eval hmx, this]
theorem ov_index_osub {E : Nat} {k : IntKind} {v u : Value} {xs : List Nat} {t E' : TypeId} {x y : Operand} {q : Int} {lo : Nat} (hm : .us E k v xs ∈ L) (hu : u = subSl 1 v lo xs.length) (i : Nat) (ht : P.underlying t = some (.slice E')) (hsz : ∀ w, (Go.sizeOf E').run P w = .ok 1 w) (hx : yG e x = some u) (hy : yG e y = some (vI q))
    (hq : q = (i : Int)) (hi : lo + i < xs.length) : OpV P n w0 h0 ⟨ds, .indexAddr t x y, ty, ps, af, gd⟩ e L h (xY 1 v (lo + i)) := by
  subst hq; subst hu
  intro a w Ev S
  obtain ⟨ad, cap, rfl, hc, hc2, hg⟩ := S.own_shape hm
  obtain ⟨g, rfl⟩ := hg (by omega)
  have hcl : ¬ cap = lo := by omega
  have h2 : (i : Int) < ((xs.length - lo : Nat) : Int) := by omega
  have h3 : (0 : Int) ≤ (i : Int) := by omega
  simp only [subSl, if_neg hcl, Option.map_some, kG, Nat.mul_one, Nat.zero_add] at hx
  simp [execOp, Ev.eval hx, Ev.eval hy, Instr.indexAt, asIntOf, vI, run_underlying ht, h2, h3, hsz, xY, kG]
  intro hge
  omega
theorem gl_shape {ops : Array Oper} {l : List Oper} {E : Nat} {k : IntKind} {v : Value} {xs : List Nat} (hm : .us E k v xs ∈ L) (k' : ∀ a cap, v = .slice a xs.length cap → xs.length ≤ cap → GL P n w0 h0 ops Q l e L h) : GL P n w0 h0 ops Q l e L h := by
  intro a w Ev S
  obtain ⟨ad, cap, hv, hc, _⟩ := S.own_shape hm
  exact k' ad cap hv hc a w Ev S
theorem gl_front {ops : Array Oper} {l : List Oper} {A B : List Res} {r : Res} (k' : GL P n w0 h0 ops Q l e (r :: (A ++ B)) h) : GL P n w0 h0 ops Q l e (A ++ r :: B) h :=
  fun a w Ev S => k' a w Ev (S.perm List.perm_middle)
theorem ov_callx {f : Nat} {xs : List Operand} {ts : Array TypeId} {vs : List Value} {v : Value} (hcall : ∀ w, (callFunc f vs.toArray).run P w = .ok (.value v) w) (hvs : Evals e xs vs) :
    OpV P n w0 h0 ⟨ds, .call { callee := .value (.func f), args := xs.toArray, argTypes := ts }, ty, ps, af, gd⟩ e L h v := by
  intro a w Ev S
  have hargs : xs.toArray.map a.eval = vs.toArray := by rw [List.map_toArray, Ev.evals hvs]
  simp only [execOp, resolve, Act.eval]
  simp [Deferred.ofValue, invoke, hcall, hargs]
theorem jK.nil {ops : Array Oper} : jK P n ops [] := fun x hx => by cases hx
theorem jK.cons {ops : Array Oper} {i d E : Nat} {cs : List Value} {al : Als} (hop : (ops.getD i default).op = .alloc E) (hd : Nat.ble (d + 1) n = true) (hz : ∀ w, ∃ z, (zeroValue E).run P w = .ok z w ∧ z.cells = cs.toArray) (h : jK P n ops al) : jK P n ops ((i, (d, E, cs)) :: al) := by
  intro x hx
  rcases List.mem_cons.1 hx with rfl | hx
  · refine ⟨Nat.le_of_ble_eq_true hd, fun a w => ?_, fun len hl => ?_⟩
    · obtain ⟨z, hz1, hz2⟩ := hz w
      simp only [execOp, hop, Instr.alloc, valA, isSl]
      simp [hz1, newVar, newRow, newObj, Sem.run, hz2]
    · simp only [hop, isSl] at hl
      cases hl
  · exact h x hx
theorem qB {E : TypeId} {i : TypeInfo} {z : Value} {cs : List Value} (hi : P.info? E = some i) (hz : i.zero = some z) (hc : z.cells = cs.toArray) (w : World) : ∃ z, (zeroValue E).run P w = .ok z w ∧ z.cells = cs.toArray :=
  ⟨z, by simp [zeroValue, typeInfo, hi, hz], hc⟩
theorem kQ {e : List (Nat × Value)} {al : Als} : ∀ x ∈ ([] : Als), al.lookup x.1 = some x.2 ∧ e.lookup x.2.1 = none := fun x hx => by cases hx
theorem qG {e : List (Nat × Value)} {al al' : Als} {y : Nat × (Nat × TypeId × List Value)} (h1 : al.lookup y.1 = some y.2) (h2 : e.lookup y.2.1 = none) (h : ∀ x ∈ al', al.lookup x.1 = some x.2 ∧ e.lookup x.2.1 = none) : ∀ x ∈ y :: al', al.lookup x.1 = some x.2 ∧ e.lookup x.2.1 = none := by
  intro x hx
  rcases List.mem_cons.1 hx with rfl | hx
  · exact ⟨h1, h2⟩
  · exact h x hx
end
end Bk
namespace Bk
set_option linter.unusedVariables false
set_option linter.unusedSimpArgs false
open Go Go.RowKit
open Classical
noncomputable def sg (s : Prop) (n : Nat) : Int := if s then -(n : Int) else n
theorem sg_t {s : Prop} (h : s) (n : Nat) : sg s n = -(n : Int) := if_pos h
theorem sg_f {s : Prop} (h : ¬ s) (n : Nat) : sg s n = n := if_neg h
theorem sg_natAbs (s : Prop) (n : Nat) : (sg s n).natAbs = n := by
  by_cases h : s
  · rw [sg_t h]; omega
  · rw [sg_f h]; omega
theorem sg_zero (s : Prop) : sg s 0 = 0 := by
  by_cases h : s
  · rw [sg_t h]; omega
  · rw [sg_f h]; omega
theorem sg_neg (s : Prop) (n : Nat) : sg s n < 0 ↔ s ∧ n ≠ 0 := by
  by_cases h : s
  · rw [sg_t h]; exact ⟨fun h1 => ⟨h, by omega⟩, fun h1 => by omega⟩
  · rw [sg_f h]; exact ⟨fun h1 => by omega, fun h1 => absurd h1.1 h⟩
theorem sg_div (s : Prop) {n g : Nat} (h : g ∣ n) : sg s n / (g : Int) = sg s (n / g) := by
  by_cases hs : s
  · rw [sg_t hs, sg_t hs]
    obtain ⟨k, rfl⟩ := h
    rcases Nat.eq_zero_or_pos g with h0 | h0
    · subst h0; simp
    · rw [Nat.mul_div_cancel_left _ h0, Int.natCast_mul, ← Int.mul_neg, Int.mul_ediv_cancel_left _ (by omega)]
  · rw [sg_f hs, sg_f hs]; omega
theorem sg_num (q : Rat) : sg (q.num < 0) q.num.natAbs = q.num := by
  by_cases h : q.num < 0
  · rw [sg_t h]; omega
  · rw [sg_f h]; omega
def vO (d : Nat) : Nat := if d = 1 then 0 else d
theorem denN_one : vO 1 = 0 := rfl
theorem denN_ne {d : Nat} (h : d ≠ 1) : vO d = d := if_neg h
theorem denL_nil_iff {d : Nat} (h0 : d ≠ 0) : zF (vO d) = [] ↔ d = 1 := by
  by_cases h : d = 1
  · subst h; rw [denN_one, wD]; simp
  · rw [denN_ne h]
    exact ⟨fun e => by have := wF.2 h0; rw [e] at this; simp at this, fun e => absurd e h⟩
theorem uP (q : Rat) : (if zF (vO q.den) = [] then [1] else zF (vO q.den)) = zF q.den := by
  by_cases h : q.den = 1
  · rw [if_pos ((denL_nil_iff q.den_nz).2 h), h, jY (by omega) (by omega)]
  · rw [if_neg (fun e => h ((denL_nil_iff q.den_nz).1 e)), denN_ne h]
def vX (h : Mem) (v : Value) (q : Rat) : Prop := ∃ vn vd, v = .agg #[vB (q.num < 0), vn, vd] ∧ Us .u32 h vn (zF q.num.natAbs) ∧ Us .u32 h vd (zF (vO q.den))
theorem zb : vB ((0 : Rat).num < 0) = .bool false := yX (by decide)
theorem us_zero_num (h : Mem) : Us .u32 h (.slice none 0 0) (zF (0 : Rat).num.natAbs) := by
  have : zF (0 : Rat).num.natAbs = [] := wD
  rw [this]; exact Us.nil _ _
theorem us_zero_den (h : Mem) : Us .u32 h (.slice none 0 0) (zF (vO (0 : Rat).den)) := by
  have : zF (vO (0 : Rat).den) = [] := wD
  rw [this]; exact Us.nil _ _
theorem vX.zero (h : Mem) : vX h (.agg #[vB ((0 : Rat).num < 0), .slice none 0 0, .slice none 0 0]) 0 := ⟨_, _, rfl, us_zero_num _, us_zero_den _⟩
theorem mkRat_num {s : Prop} {n d : Nat} (hd : d ≠ 0) : (mkRat (sg s n) d).num = sg s (n / Nat.gcd n d) := by
  rw [Rat.num_mkRat, if_neg hd, sg_natAbs, Nat.gcd_comm]
  exact sg_div s (Nat.gcd_dvd_left n d)
theorem mkRat_den {s : Prop} {n d : Nat} (hd : d ≠ 0) : (mkRat (sg s n) d).den = d / Nat.gcd n d := by
  rw [Rat.den_mkRat, if_neg hd, sg_natAbs, Nat.gcd_comm]
theorem vX.make {h : Mem} {s : Prop} {n d : Nat} {vn vd : Value} (hn0 : n ≠ 0) (hd0 : d ≠ 0) (hn : Us .u32 h vn (zF (n / Nat.gcd n d))) (hd : Us .u32 h vd (zF (vO (d / Nat.gcd n d)))) : vX h (.agg #[vB s, vn, vd]) (mkRat (sg s n) d) := by
  have hg : n / Nat.gcd n d ≠ 0 := by
    have h1 := Nat.gcd_dvd_left n d
    have h2 := Nat.gcd_pos_of_pos_left d (Nat.pos_of_ne_zero hn0)
    exact Nat.ne_of_gt (Nat.div_pos (Nat.le_of_dvd (Nat.pos_of_ne_zero hn0) h1) h2)
  refine ⟨vn, vd, ?_, ?_, ?_⟩
  · have : vB ((mkRat (sg s n) d).num < 0) = vB s := by
      rw [mkRat_num hd0]
      exact vB_iff ⟨fun h => ((sg_neg _ _).1 h).1, fun h => (sg_neg _ _).2 ⟨h, hg⟩⟩
    rw [this]
  · rw [mkRat_num hd0, sg_natAbs]; exact hn
  · rw [mkRat_den hd0]; exact hd
noncomputable def absQ (q : Rat) : Rat := if q.num < 0 then -q else q
theorem vX.negB {h : Mem} {q : Rat} {vn vd : Value} (hn : Us .u32 h vn (zF q.num.natAbs)) (hd : Us .u32 h vd (zF (vO q.den))) : vX h (.agg #[vB (¬ q.num < 0 ∧ (0 : Int) < ↑(zF q.num.natAbs).length), vn, vd]) (-q) := by
  refine ⟨vn, vd, ?_, ?_, ?_⟩
  · have : vB ((-q).num < 0) = vB (¬ q.num < 0 ∧ (0 : Int) < ↑(zF q.num.natAbs).length) := by
      have h1 := wF (n := q.num.natAbs)
      rw [Rat.neg_num]
      exact vB_iff ⟨fun h => ⟨by omega, by omega⟩, fun h => by omega⟩
    rw [this]
  · rw [Rat.neg_num, Int.natAbs_neg]; exact hn
  · rw [Rat.neg_den]; exact hd
theorem limbs_len_add' {m n k : Nat} (h1 : (zF m).length ≤ k) (h2 : (zF n).length ≤ k) : (zF (m + n)).length ≤ k + 1 := by
  refine uR ?_
  have a1 := Nat.lt_of_lt_of_le (uL m) (Nat.pow_le_pow_right (by decide) h1)
  have a2 := Nat.lt_of_lt_of_le (uL n) (Nat.pow_le_pow_right (by decide) h2)
  rw [Nat.pow_succ]
  generalize 4294967296 ^ k = p at *
  omega
theorem putL {xs : List Nat} {lo n : Nat} (h : lo + 1 ≤ xs.length) (h0 : n ≠ 0) (hn : n < 4294967296) : xs.set lo n = xs.take lo ++ zF n ++ xs.drop (lo + (zF n).length) := by
  rw [jY h0 hn, List.set_eq_take_append_cons_drop, if_pos (by omega)]
  simp
theorem putL2 {xs : List Nat} {lo n : Nat} (h : lo + 2 ≤ xs.length) (hn : n < 18446744073709551616) (hn' : 4294967296 ≤ n) : (xs.set lo (n % 4294967296)).set (lo + 1) (n / 4294967296) = xs.take lo ++ zF n ++ xs.drop (lo + (zF n).length) := by
  have e : zF n = [n % 4294967296, n / 4294967296] := by rw [jS (by omega), jY (t := n / 4294967296) (by omega) (by omega)]
  rw [e]
  apply List.ext_getElem?
  intro i
  simp only [List.getElem?_set, lS, List.getElem?_append, lAz, List.length_take, lC, lN, List.getElem?_take, List.getElem?_drop]
  rcases Nat.lt_trichotomy i lo with hi | hi | hi
  · rw [if_neg (by omega), if_neg (by omega), if_pos (by omega), if_pos (by omega), if_pos (by omega)]
  · subst hi
    rw [if_neg (by omega), if_pos rfl, if_pos (by omega), if_pos (by omega), if_neg (by omega)]
    simp [show min i xs.length = i by omega]
  · by_cases h1 : i = lo + 1
    · subst h1
      rw [if_pos rfl, if_pos (by omega), if_pos (by omega), if_neg (by omega)]
      simp [show min lo xs.length = lo by omega]
    · rw [if_neg (by omega), if_neg (by omega), if_neg (by omega)]
      congr 1
      omega
noncomputable def rz (s : Prop) (n : Rat) : Rat := if s then -n else n
theorem rz_t {s : Prop} (h : s) (n : Rat) : rz s n = -n := if_pos h
theorem rz_f {s : Prop} (h : ¬ s) (n : Rat) : rz s n = n := if_neg h
theorem mk_div (s : Prop) (n d : Nat) : mkRat (sg s n) d = rz s n / d := by
  rw [Rat.mkRat_eq_div]
  by_cases h : s
  · rw [sg_t h, rz_t h, Rat.intCast_neg]; rfl
  · rw [sg_f h, rz_f h]; rfl
theorem jF (q : Rat) : mkRat (sg (q.num < 0) q.num.natAbs) q.den = q := by rw [sg_num, Rat.mkRat_self]
theorem cast_ne {d : Nat} (h : d ≠ 0) : (d : Rat) ≠ 0 := fun e => h (Rat.natCast_eq_zero_iff.1 e)
theorem mk_zero (s : Prop) (d : Nat) : mkRat (sg s 0) d = 0 := by rw [sg_zero, Rat.zero_mkRat]
theorem mk_zero' (s : Prop) (n : Nat) : mkRat (sg s n) 0 = 0 := by rw [Rat.mkRat_zero]
theorem mk_iff {s t : Prop} (h : s ↔ t) (n d : Nat) : mkRat (sg s n) d = mkRat (sg t n) d := by rw [propext h]
theorem mk_add (s : Prop) {n m d e : Nat} (hd : d ≠ 0) (he : e ≠ 0) : mkRat (sg s n) d + mkRat (sg s m) e = mkRat (sg s (n * e + m * d)) (d * e) := by
  rw [mk_div, mk_div, mk_div, Rat.natCast_mul, Rat.natCast_add, Rat.natCast_mul, Rat.natCast_mul]
  have h1 := cast_ne hd
  have h2 := cast_ne he
  generalize (d : Rat) = D at *
  generalize (e : Rat) = E at *
  generalize (n : Rat) = N at *
  generalize (m : Rat) = M at *
  by_cases h : s
  · rw [rz_t h, rz_t h, rz_t h]; grind
  · rw [rz_f h, rz_f h, rz_f h]; grind
theorem mk_sub {s t : Prop} (hst : ¬ (s ↔ t)) {n m d e : Nat} (hd : d ≠ 0) (he : e ≠ 0) (hle : m * d ≤ n * e) : mkRat (sg s n) d + mkRat (sg t m) e = mkRat (sg s (n * e - m * d)) (d * e) := by
  have hsub : ((n * e - m * d : Nat) : Rat) = n * e - m * d := by
    have h3 : n * e - m * d + m * d = n * e := by omega
    have h4 : ((n * e - m * d + m * d : Nat) : Rat) = ((n * e : Nat) : Rat) := by rw [h3]
    rw [Rat.natCast_add, Rat.natCast_mul, Rat.natCast_mul] at h4
    generalize ((n * e - m * d : Nat) : Rat) = X at *
    grind
  rw [mk_div, mk_div, mk_div, hsub, Rat.natCast_mul]
  have h1 := cast_ne hd
  have h2 := cast_ne he
  generalize (d : Rat) = D at *
  generalize (e : Rat) = E at *
  generalize (n : Rat) = N at *
  generalize (m : Rat) = M at *
  by_cases h : s
  · have ht : ¬ t := fun ht => hst ⟨fun _ => ht, fun _ => h⟩
    rw [rz_t h, rz_f ht, rz_t h]; grind
  · have ht : t := Classical.byContradiction fun ht => hst ⟨fun a => absurd a h, fun a => absurd a ht⟩
    rw [rz_f h, rz_t ht, rz_f h]; grind
theorem mk_sub' {s t : Prop} (hst : ¬ (s ↔ t)) {n m d e : Nat} (hd : d ≠ 0) (he : e ≠ 0) (hle : n * e ≤ m * d) : mkRat (sg s n) d + mkRat (sg t m) e = mkRat (sg t (m * d - n * e)) (d * e) := by
  rw [Rat.add_comm, mk_sub (fun h => hst h.symm) he hd hle, Nat.mul_comm e d]
theorem mk_mul (s t : Prop) (n m d e : Nat) : mkRat (sg s n) d * mkRat (sg t m) e = mkRat (sg (¬ (s ↔ t)) (n * m)) (d * e) := by
  rw [Rat.mkRat_mul_mkRat]
  congr 1
  by_cases h : s <;> by_cases h' : t
  · rw [sg_t h, sg_t h', sg_f (by simp [h, h']), Int.natCast_mul, Int.neg_mul_neg]
  · rw [sg_t h, sg_f h', sg_t (by simp [h, h']), Int.natCast_mul, Int.neg_mul]
  · rw [sg_f h, sg_t h', sg_t (by simp [h, h']), Int.natCast_mul, Int.mul_neg]
  · rw [sg_f h, sg_f h', sg_f (by simp [h, h']), Int.natCast_mul]
theorem mk_quo (s t : Prop) {n m d e : Nat} (hd : d ≠ 0) (hm : m ≠ 0) (he : e ≠ 0) : mkRat (sg s n) d / mkRat (sg t m) e = mkRat (sg (¬ (s ↔ t)) (n * e)) (d * m) := by
  rw [mk_div, mk_div, mk_div, Rat.natCast_mul, Rat.natCast_mul]
  have h1 := cast_ne hd
  have h2 := cast_ne hm
  have h3 := cast_ne he
  generalize (d : Rat) = D at *
  generalize (e : Rat) = E at *
  generalize (n : Rat) = N at *
  generalize (m : Rat) = M at *
  by_cases h : s <;> by_cases h' : t
  · rw [rz_t h, rz_t h', rz_f (by simp [h, h'])]; grind
  · rw [rz_t h, rz_f h', rz_t (by simp [h, h'])]; grind
  · rw [rz_f h, rz_t h', rz_t (by simp [h, h'])]; grind
  · rw [rz_f h, rz_f h', rz_f (by simp [h, h'])]; grind
theorem mk_neg (s : Prop) (n d : Nat) : -mkRat (sg s n) d = mkRat (sg (¬ s) n) d := by
  rw [Rat.neg_mkRat]
  congr 1
  by_cases h : s
  · rw [sg_t h, sg_f (by simp [h])]; omega
  · rw [sg_f h, sg_t h]
theorem mk_scale (s : Prop) (n d : Nat) {k : Nat} (hk : k ≠ 0) : mkRat (sg s (n * k)) (d * k) = mkRat (sg s n) d := by
  rw [mk_div, mk_div, Rat.natCast_mul, Rat.natCast_mul]
  have h1 := cast_ne hk
  by_cases hd : d = 0
  · subst hd
    have : ((0 : Nat) : Rat) = 0 := rfl
    rw [this]
    grind
  have h2 := cast_ne hd
  generalize (d : Rat) = D at *
  generalize (k : Rat) = K at *
  generalize (n : Rat) = N at *
  by_cases h : s
  · rw [rz_t h, rz_t h]; grind
  · rw [rz_f h, rz_f h]; grind
def lq (q : Rat) : Nat := max (zF q.num.natAbs).length (zF q.den).length
theorem vM (q : Rat) : (zF q.num.natAbs).length ≤ lq q := Nat.le_max_left _ _
theorem vS (q : Rat) : (zF q.den).length ≤ lq q := Nat.le_max_right _ _
theorem denL_len (d : Nat) : (zF (vO d)).length ≤ (zF d).length := by
  by_cases h : d = 1
  · subst h; rw [denN_one, wD]; simp
  · rw [denN_ne h]; exact Nat.le_refl _
theorem vE (q : Rat) : (zF (vO q.den)).length ≤ lq q := Nat.le_trans (denL_len _) (vS q)
theorem lq_pos (q : Rat) : 0 < lq q := Nat.lt_of_lt_of_le (wF.2 q.den_nz) (vS q)
theorem lq_mk {s : Prop} {n d k : Nat} (hn : (zF n).length ≤ k) (hd : (zF d).length ≤ k) (hk : 0 < k) : lq (mkRat (sg s n) d) ≤ k := by
  by_cases h0 : d = 0
  · subst h0
    rw [mk_zero']
    refine Nat.max_le.2 ⟨?_, ?_⟩
    · have : (zF (0 : Rat).num.natAbs) = [] := wD
      rw [this]; simp
    · have : zF (0 : Rat).den = [1] := by rw [show (0 : Rat).den = 1 from rfl, jS (by omega), wD]
      rw [this]; exact hk
  · refine Nat.max_le.2 ⟨?_, ?_⟩
    · rw [mkRat_num h0, sg_natAbs]
      exact Nat.le_trans (xD (Nat.div_le_self _ _)) hn
    · rw [mkRat_den h0]
      exact Nat.le_trans (xD (Nat.div_le_self _ _)) hd
theorem lq_zero : lq 0 = 1 := by
  have h := lq_mk (s := False) (n := 0) (d := 0) (k := 1) (by rw [wD]; simp) (by rw [wD]; simp) (by omega)
  rw [mk_zero'] at h
  have := lq_pos 0
  omega
theorem lq_neg (q : Rat) : lq (-q) = lq q := by unfold lq; rw [Rat.neg_num, Rat.neg_den, Int.natAbs_neg]
theorem lq_mul (a b : Rat) : lq (a * b) ≤ lq a + lq b := by
  rw [← jF a, ← jF b, mk_mul, jF, jF]
  have h1 := vM a; have h2 := vM b; have h3 := vS a; have h4 := vS b; have h5 := lq_pos a
  exact lq_mk (Nat.le_trans (xI _ _) (by omega)) (Nat.le_trans (xI _ _) (by omega)) (by omega)
theorem lq_add (a b : Rat) : lq (a + b) ≤ lq a + lq b + 1 := by
  have h1 := vM a; have h2 := vM b; have h3 := vS a; have h4 := vS b; have h5 := lq_pos a
  have h6 := xI a.num.natAbs b.den
  have h7 := xI b.num.natAbs a.den
  have h8 := xI a.den b.den
  have e : a + b = mkRat (sg (a.num < 0) a.num.natAbs) a.den + mkRat (sg (b.num < 0) b.num.natAbs) b.den := by rw [jF, jF]
  rw [e]
  by_cases h : (a.num < 0) ↔ (b.num < 0)
  · rw [mk_iff h, mk_add _ a.den_nz b.den_nz]
    refine lq_mk (Nat.le_trans (limbs_len_add' ?_ ?_) (Nat.le_refl _)) (by omega) (by omega)
    · omega
    · omega
  · rcases Nat.le_total (b.num.natAbs * a.den) (a.num.natAbs * b.den) with hle | hle
    · rw [mk_sub h a.den_nz b.den_nz hle]
      exact lq_mk (Nat.le_trans (xD (Nat.sub_le _ _)) (by omega)) (by omega) (by omega)
    · rw [mk_sub' h a.den_nz b.den_nz hle]
      exact lq_mk (Nat.le_trans (xD (Nat.sub_le _ _)) (by omega)) (by omega) (by omega)
theorem lq_sub (a b : Rat) : lq (a - b) ≤ lq a + lq b + 1 := by
  rw [Rat.sub_eq_add_neg]
  have := lq_add a (-b)
  rw [lq_neg] at this
  exact this
theorem num_ne {q : Rat} : q.num.natAbs ≠ 0 ↔ q ≠ 0 := by
  rw [Int.natAbs_ne_zero]; exact not_congr Rat.num_eq_zero
theorem lq_quo (a b : Rat) : lq (a / b) ≤ lq a + lq b := by
  have h1 := vM a; have h2 := vM b; have h3 := vS a; have h4 := vS b; have h5 := lq_pos a
  by_cases hb : b = 0
  · subst hb
    have : a / 0 = 0 := by grind
    rw [this, lq_zero]
    omega
  have e : a / b = mkRat (sg (a.num < 0) a.num.natAbs) a.den / mkRat (sg (b.num < 0) b.num.natAbs) b.den := by rw [jF, jF]
  rw [e, mk_quo _ _ a.den_nz (num_ne.2 hb) b.den_nz]
  exact lq_mk (Nat.le_trans (xI _ _) (by omega)) (Nat.le_trans (xI _ _) (by omega)) (by omega)
noncomputable def kO (a b : Rat) : Int := if a < b then -1 else if a = b then 0 else 1
noncomputable def uT (q : Rat) : Int := if q = 0 then 0 else if q.num < 0 then -1 else 1
theorem lt_mk (s : Prop) {n m d e : Nat} (hd : d ≠ 0) (he : e ≠ 0) : mkRat (sg s n) d < mkRat (sg s m) e ↔ if s then m * d < n * e else n * e < m * d := by
  have e1 : ∀ x y : Nat, (x : Rat) < (y : Rat) ↔ x < y := fun x y => by rw [Rat.natCast_lt_natCast]
  have h1 : (0 : Rat) < (d : Rat) := by rw [show (0 : Rat) = ((0 : Nat) : Rat) from rfl, e1]; omega
  have h2 : (0 : Rat) < (e : Rat) := by rw [show (0 : Rat) = ((0 : Nat) : Rat) from rfl, e1]; omega
  rw [mk_div, mk_div, ← e1, ← e1, Rat.natCast_mul, Rat.natCast_mul, Rat.div_lt_iff h1]
  generalize (d : Rat) = D at *
  generalize (e : Rat) = E at *
  generalize (n : Rat) = N at *
  generalize (m : Rat) = M at *
  have e3 : ∀ X : Rat, X / E * D = X * D / E := fun X => by grind
  rw [e3, Rat.lt_div_iff h2]
  by_cases h : s
  · rw [rz_t h, rz_t h, if_pos h]; grind
  · rw [rz_f h, rz_f h, if_neg h]
theorem eq_mk (s : Prop) {n m d e : Nat} (hd : d ≠ 0) (he : e ≠ 0) : mkRat (sg s n) d = mkRat (sg s m) e ↔ n * e = m * d := by
  rw [Rat.mkRat_eq_iff hd he]
  by_cases h : s
  · rw [sg_t h, sg_t h]
    rw [Int.neg_mul, Int.neg_mul, Int.neg_inj, ← Int.natCast_mul, ← Int.natCast_mul]
    omega
  · rw [sg_f h, sg_f h, ← Int.natCast_mul, ← Int.natCast_mul]; omega
theorem cmp_mk (s : Prop) {n m d e : Nat} (hd : d ≠ 0) (he : e ≠ 0) : kO (mkRat (sg s n) d) (mkRat (sg s m) e) = if s then -(cmpN (n * e) (m * d)) else cmpN (n * e) (m * d) := by
  unfold kO cmpN
  by_cases h : s
  · simp only [lt_mk s hd he, eq_mk s hd he, if_pos h]
    by_cases h1 : m * d < n * e
    · rw [if_pos h1, if_neg (by omega), if_neg (by omega)]
    · rw [if_neg h1]
      by_cases h2 : n * e = m * d
      · rw [if_pos h2, if_neg (by omega)]; rfl
      · rw [if_neg h2, if_pos (by omega)]; rfl
  · simp only [lt_mk s hd he, eq_mk s hd he, if_neg h]
theorem cmpQ_num (a b : Rat) (h : (a.num < 0) ↔ (b.num < 0)) : kO a b = if a.num < 0 then -(cmpN (a.num.natAbs * b.den) (b.num.natAbs * a.den)) else cmpN (a.num.natAbs * b.den) (b.num.natAbs * a.den) := by
  have := cmp_mk (a.num < 0) (n := a.num.natAbs) (m := b.num.natAbs) a.den_nz b.den_nz
  rw [jF, mk_iff h, jF] at this
  rw [this]
  by_cases h : a.num < 0
  · rw [if_pos h, if_pos h]
  · rw [if_neg h, if_neg h]
theorem num_neg_iff (q : Rat) : q.num < 0 ↔ q < 0 := by
  have := Rat.num_nonneg (q := q)
  rw [← Rat.not_le, ← this]; omega
theorem cmpQ_sgn {a b : Rat} (h : uT a ≠ uT b) : kO a b = if uT a < uT b then -1 else 1 := by
  have ea : uT a = if a = 0 then 0 else if a < 0 then -1 else 1 := by unfold uT; simp only [num_neg_iff]
  have eb : uT b = if b = 0 then 0 else if b < 0 then -1 else 1 := by unfold uT; simp only [num_neg_iff]
  rw [ea, eb] at h ⊢
  unfold kO
  clear ea eb
  grind
theorem uE (q : Rat) : -1 ≤ uT q ∧ uT q ≤ 1 := by
  unfold uT
  split
  · omega
  · split <;> omega
theorem cmpQ_range (a b : Rat) : -1 ≤ kO a b ∧ kO a b ≤ 1 := by
  unfold kO
  split
  · omega
  · split <;> omega
theorem cmpQ_neg {a b : Rat} : kO a b < 0 ↔ a < b := by
  unfold kO
  by_cases h : a < b
  · simp [h]
  · by_cases h' : a = b
    · simp [h']
    · simp [h, h']
theorem cmpQ_pos {a b : Rat} : 0 < kO a b ↔ b < a := by
  unfold kO
  by_cases h : a < b
  · simp [h]; grind
  · by_cases h' : a = b
    · simp [h']
    · simp [h, h']; grind
theorem cmpQ_zero {a b : Rat} : kO a b = 0 ↔ a = b := by
  unfold kO
  by_cases h : a < b
  · simp [h]; grind
  · by_cases h' : a = b
    · simp [h']
    · simp [h, h']
def kZ (q : Rat) : Prop := (zF q.num.natAbs).length ≤ 1 ∧ (zF (vO q.den)).length ≤ 1
theorem smallQ_not {q : Rat} (h : (1 : Int) < ↑(zF q.num.natAbs).length ∨ (1 : Int) < ↑(zF (vO q.den)).length) : ¬ kZ q := fun ⟨h1, h2⟩ => by omega
theorem smallQ_of {q : Rat} (h : ¬ ((1 : Int) < ↑(zF q.num.natAbs).length ∨ (1 : Int) < ↑(zF (vO q.den)).length)) : kZ q := ⟨by omega, by omega⟩
theorem lt_one_limb {n : Nat} (h : (zF n).length ≤ 1) : n < 4294967296 := by
  have := Nat.lt_of_lt_of_le (uL n) (Nat.pow_le_pow_right (by decide) h)
  omega
theorem denL_one {d : Nat} (h : (↑(zF (vO d)).length : Int) = 1) : (zF (vO d)).getD 0 0 = d := by
  by_cases h1 : d = 1
  · subst h1; rw [denN_one, wD] at h; simp at h
  · rw [denN_ne h1] at h ⊢
    have h3 := lt_one_limb (n := d) (by omega)
    have h4 : d ≠ 0 := wF.1 (by omega)
    rw [jY h4 h3]; rfl
theorem denL_zero {d : Nat} (h0 : d ≠ 0) (h : ¬ (↑(zF (vO d)).length : Int) = 1) (h1 : (zF (vO d)).length ≤ 1) : d = 1 := by
  by_cases h2 : d = 1
  · exact h2
  · rw [denN_ne h2] at h h1
    have := wF.2 h0
    omega
theorem denL_nil {q : Rat} (h : ¬ (↑(zF (vO q.den)).length : Int) = 1) (hs : kZ q) : q.den = 1 := denL_zero q.den_nz h hs.2
theorem kX {q : Rat} (h : kZ q) : q.num.natAbs < 4294967296 := lt_one_limb h.1
theorem kY {q : Rat} (h : kZ q) : q.den < 4294967296 := by
  by_cases h1 : q.den = 1
  · omega
  · have h2 := h.2
    rw [denN_ne h1] at h2
    exact lt_one_limb h2
noncomputable def pN (q : Rat) : Nat := if kZ q then q.num.natAbs else 0
noncomputable def pD (q : Rat) : Nat := if kZ q then q.den else 0
theorem pN_t {q : Rat} (h : kZ q) : pN q = q.num.natAbs := if_pos h
theorem pN_f {q : Rat} (h : ¬ kZ q) : pN q = 0 := if_neg h
theorem pD_t {q : Rat} (h : kZ q) : pD q = q.den := if_pos h
theorem pD_f {q : Rat} (h : ¬ kZ q) : pD q = 0 := if_neg h
theorem bitsN_eq_zero {n : Nat} : vZ n = 0 ↔ n = 0 := by
  unfold vZ
  by_cases h : n = 0
  · simp [h]
  · simp [h]
theorem limb_one_iff {Y : Nat} : ((↑(zF Y).length : Int) = 1 ∧ (zF Y).getD 0 0 = 1) ↔ Y = 1 := by
  constructor
  · intro ⟨h1, h2⟩
    have h3 := lt_one_limb (n := Y) (by omega)
    have h4 : Y ≠ 0 := wF.1 (by omega)
    rw [jY h4 h3] at h2
    exact h2
  · intro h
    subst h
    rw [jY (by omega) (by omega)]
    exact ⟨rfl, rfl⟩
theorem bitsN_one {n : Nat} (h : ¬ (1 : Int) < ↑(vZ n)) (h0 : n ≠ 0) : n = 1 := by
  have h1 := lt_pow_bitsN n
  have h2 := Nat.pow_le_pow_right (n := 2) (by decide) (show vZ n ≤ 1 by omega)
  omega
theorem vX.fin {h : Mem} {s : Prop} {n d : Nat} {vn vd : Value} (hn0 : n ≠ 0) (hd0 : d ≠ 0) (hn : Us .u32 h vn (zF (n / Nat.gcd n d))) (hd : Us .u32 h vd (zF (d / Nat.gcd n d))) (h1 : ¬ ((↑(zF (d / Nat.gcd n d)).length : Int) = 1 ∧ (zF (d / Nat.gcd n d)).getD 0 0 = 1)) : vX h (.agg #[vB s, vn, vd]) (mkRat (sg s n) d) :=
  vX.make hn0 hd0 hn (by rw [denN_ne (fun e => h1 (limb_one_iff.2 e))]; exact hd)
theorem vX.fin1 {h : Mem} {s : Prop} {n d : Nat} {vn : Value} (hn0 : n ≠ 0) (hd0 : d ≠ 0) (hn : Us .u32 h vn (zF (n / Nat.gcd n d))) (h1 : (↑(zF (d / Nat.gcd n d)).length : Int) = 1 ∧ (zF (d / Nat.gcd n d)).getD 0 0 = 1) : vX h (.agg #[vB s, vn, .slice none 0 0]) (mkRat (sg s n) d) :=
  vX.make hn0 hd0 hn (by rw [limb_one_iff.1 h1, denN_one, wD]; exact Us.nil _ _)
theorem one_limbs : [1] = zF 1 := (jY (by omega) (by omega)).symm
theorem len_one : (zF 1).length = 1 := by rw [← one_limbs]; rfl
theorem limbs_len_gcd (m n : Nat) : (zF (Nat.gcd m n)).length ≤ max (zF m).length (zF n).length := by
  by_cases h : m = 0
  · subst h; rw [Nat.gcd_zero_left]; omega
  · have := xD (Nat.gcd_le_left n (Nat.pos_of_ne_zero h))
    omega
end Bk
namespace Bk
set_option linter.unusedVariables false
set_option linter.unusedSimpArgs false
open Go Go.RowKit
open Classical
theorem sgnQ_zero {q : Rat} (h : q = 0) : uT q = 0 := if_pos h
theorem sgnQ_neg {q : Rat} (h : q.num < 0) : uT q = -1 := by
  unfold uT
  rw [if_neg (fun e => by rw [e] at h; exact absurd h (by decide)), if_pos h]
theorem sgnQ_pos {q : Rat} (h : q ≠ 0) (h' : ¬ q.num < 0) : uT q = 1 := by unfold uT; rw [if_neg h, if_neg h']
theorem num_zero_bits {q : Rat} (h : (↑(vZ q.num.natAbs) : Int) = 0) : q = 0 := by
  have := (bitsN_eq_zero (n := q.num.natAbs)).1 (by omega)
  exact Rat.num_eq_zero.1 (by omega)
theorem bits_zero_num {q : Rat} (h : q = 0) : (↑(vZ q.num.natAbs) : Int) = 0 := by subst h; decide
theorem den_eq {a b : Rat} : zF (vO a.den) = zF (vO b.den) ↔ a.den = b.den := by
  refine ⟨fun h => ?_, fun h => by rw [h]⟩
  have h1 := limbs_inj h
  have ha := a.den_nz
  have hb := b.den_nz
  unfold vO at h1
  split at h1 <;> split at h1 <;> omega
theorem rat_eq {a b : Rat} (h1 : a.num = b.num) (h2 : a.den = b.den) : a = b := by
  rw [← Rat.mkRat_self a, ← Rat.mkRat_self b, h1, h2]
theorem same_iff {a b : Rat} : (((a.num < 0 ↔ b.num < 0) ∧ zF a.num.natAbs = zF b.num.natAbs) ∧ zF (vO a.den) = zF (vO b.den)) ↔ a = b := by
  refine ⟨fun ⟨⟨h1, h2⟩, h3⟩ => rat_eq ?_ (den_eq.1 h3), fun h => by subst h; simp⟩
  have := limbs_inj h2
  omega
theorem sgn_same {a b : Rat} (h : ¬ uT a ≠ uT b) : a.num < 0 ↔ b.num < 0 := by
  have h := Classical.not_not.1 h
  by_cases h1 : a.num < 0 <;> by_cases h2 : b.num < 0
  · simp [h1, h2]
  · rw [sgnQ_neg h1] at h
    by_cases h3 : b = 0
    · rw [sgnQ_zero h3] at h; omega
    · rw [sgnQ_pos h3 h2] at h; omega
  · rw [sgnQ_neg h2] at h
    by_cases h3 : a = 0
    · rw [sgnQ_zero h3] at h; omega
    · rw [sgnQ_pos h3 h1] at h; omega
  · simp [h1, h2]
def cN (a b : Rat) : Int := cmpN (a.num.natAbs * b.den) (b.num.natAbs * a.den)
theorem cN_range (a b : Rat) : -1 ≤ cN a b ∧ cN a b ≤ 1 := by
  unfold cN cmpN
  split
  · omega
  · split <;> omega
theorem cmpQ_cN {a b : Rat} (h : a.num < 0 ↔ b.num < 0) (hn : a.num < 0) : kO a b = -(cN a b) := by rw [cmpQ_num a b h, if_pos hn]; rfl
theorem cmpQ_cN' {a b : Rat} (h : a.num < 0 ↔ b.num < 0) (hn : ¬ a.num < 0) : kO a b = cN a b := by rw [cmpQ_num a b h, if_neg hn]; rfl
theorem cN_den {a b : Rat} (h : zF (vO a.den) = zF (vO b.den)) : cN a b = cmpN a.num.natAbs b.num.natAbs := by
  unfold cN cmpN
  rw [den_eq.1 h]
  have hp := Nat.pos_of_ne_zero b.den_nz
  by_cases h1 : a.num.natAbs < b.num.natAbs
  · rw [if_pos h1, if_pos (Nat.mul_lt_mul_of_pos_right h1 hp)]
  · rw [if_neg h1, if_neg (fun e => h1 (Nat.lt_of_mul_lt_mul_right e))]
    by_cases h2 : a.num.natAbs = b.num.natAbs
    · rw [if_pos h2, h2, if_pos rfl]
    · rw [if_neg h2, if_neg (fun e => h2 (Nat.eq_of_mul_eq_mul_right hp e))]
theorem qC {m n : Nat} (hm : m < 4294967296) (hn : n < 4294967296) : m * n ≤ 18446744065119617025 := by
  have := Nat.mul_le_mul (show m ≤ 4294967295 by omega) (show n ≤ 4294967295 by omega)
  omega
noncomputable def sgd (s : Prop) (b : Rat) : Rat := mkRat (sg s b.num.natAbs) b.den
theorem sgd_self (b : Rat) : sgd (b.num < 0) b = b := jF b
theorem sgd_neg (b : Rat) : sgd (¬ b.num < 0) b = -b := by
  unfold sgd
  rw [← mk_neg, jF]
theorem lq_sgd (s : Prop) (b : Rat) : lq (sgd s b) ≤ lq b := lq_mk (vM b) (vS b) (lq_pos b)
theorem add_sgd {a b : Rat} {s : Prop} (h : (a.num < 0) ↔ s) : a + sgd s b = mkRat (sg s (a.num.natAbs * b.den + b.num.natAbs * a.den)) (a.den * b.den) := by
  have := mk_add s (n := a.num.natAbs) (m := b.num.natAbs) a.den_nz b.den_nz
  rw [← mk_iff h a.num.natAbs, jF] at this
  exact this
theorem sub_sgd {a b : Rat} {s : Prop} (h : ¬ ((a.num < 0) ↔ s)) (hle : b.num.natAbs * a.den ≤ a.num.natAbs * b.den) : a + sgd s b = mkRat (sg (a.num < 0) (a.num.natAbs * b.den - b.num.natAbs * a.den)) (a.den * b.den) := by
  have := mk_sub h (n := a.num.natAbs) (m := b.num.natAbs) a.den_nz b.den_nz hle
  rw [jF] at this
  exact this
theorem sub_sgd' {a b : Rat} {s : Prop} (h : ¬ ((a.num < 0) ↔ s)) (hle : a.num.natAbs * b.den ≤ b.num.natAbs * a.den) : a + sgd s b = mkRat (sg s (b.num.natAbs * a.den - a.num.natAbs * b.den)) (a.den * b.den) := by
  have := mk_sub' h (n := a.num.natAbs) (m := b.num.natAbs) a.den_nz b.den_nz hle
  rw [jF] at this
  exact this
theorem add_sgd1 {a b : Rat} {s : Prop} (h : (a.num < 0) ↔ s) (hd : a.den = b.den) : a + sgd s b = mkRat (sg s (a.num.natAbs + b.num.natAbs)) a.den := by
  rw [add_sgd h, ← hd, ← Nat.add_mul, mk_scale _ _ _ a.den_nz]
theorem sub_sgd1 {a b : Rat} {s : Prop} (h : ¬ ((a.num < 0) ↔ s)) (hd : a.den = b.den) (hle : b.num.natAbs ≤ a.num.natAbs) : a + sgd s b = mkRat (sg (a.num < 0) (a.num.natAbs - b.num.natAbs)) a.den := by
  rw [sub_sgd h (by rw [← hd]; exact Nat.mul_le_mul_right _ hle), ← hd, ← Nat.sub_mul, mk_scale _ _ _ a.den_nz]
theorem sub_sgd1' {a b : Rat} {s : Prop} (h : ¬ ((a.num < 0) ↔ s)) (hd : a.den = b.den) (hle : a.num.natAbs ≤ b.num.natAbs) : a + sgd s b = mkRat (sg s (b.num.natAbs - a.num.natAbs)) a.den := by
  rw [sub_sgd' h (by rw [← hd]; exact Nat.mul_le_mul_right _ hle), ← hd, ← Nat.sub_mul, mk_scale _ _ _ a.den_nz]
theorem mul_eq (a b : Rat) : mkRat (sg (¬ ((a.num < 0) ↔ (b.num < 0))) (a.num.natAbs * b.num.natAbs)) (a.den * b.den) = a * b := by
  rw [← mk_mul, jF, jF]
theorem quo_eq (a : Rat) {b : Rat} (hb : b ≠ 0) : mkRat (sg (¬ ((a.num < 0) ↔ (b.num < 0))) (a.num.natAbs * b.den)) (a.den * b.num.natAbs) = a / b := by
  rw [← mk_quo _ _ a.den_nz (num_ne.2 hb) b.den_nz, jF, jF]
theorem num_zero {q : Rat} (h : (↑(zF q.num.natAbs).length : Int) = 0) : q = 0 := by
  refine Classical.byContradiction fun hne => ?_
  have := wF.2 (num_ne.2 hne)
  omega
theorem uQ {q : Rat} : uT q = 0 ↔ q = 0 := by
  refine ⟨fun h => ?_, sgnQ_zero⟩
  unfold uT at h
  by_cases h1 : q = 0
  · exact h1
  · rw [if_neg h1] at h; split at h <;> omega
noncomputable def kM (a b : Rat) : Rat := if b < a then b else a
noncomputable def kL (a b : Rat) : Rat := if a < b then b else a
theorem minQ_t {a b : Rat} (h : kO b a < 0) : kM a b = b := if_pos (cmpQ_neg.1 h)
theorem minQ_f {a b : Rat} (h : ¬ kO b a < 0) : kM a b = a := if_neg (fun e => h (cmpQ_neg.2 e))
theorem maxQ_t {a b : Rat} (h : 0 < kO b a) : kL a b = b := if_pos (cmpQ_pos.1 h)
theorem maxQ_f {a b : Rat} (h : ¬ 0 < kO b a) : kL a b = a := if_neg (fun e => h (cmpQ_pos.2 e))
theorem lq_min (a b : Rat) : lq (kM a b) ≤ max (lq a) (lq b) := by unfold kM; split <;> omega
theorem lq_max (a b : Rat) : lq (kL a b) ≤ max (lq a) (lq b) := by unfold kL; split <;> omega
noncomputable def halfQ : Rat := mkRat (sg False 1) 2
theorem lq_half : lq halfQ ≤ 1 := lq_mk (by rw [jY (by omega) (by omega)]; simp) (by rw [jY (by omega) (by omega)]; simp) (by omega)
noncomputable def midQ (a b : Rat) : Rat := (a + b) * halfQ
noncomputable def floorQ (q : Rat) : Rat := ((q.floor : Int) : Rat)
def kN (k : Int) : Nat := (min (max k 0) 4096).toNat
noncomputable def downQ (q : Rat) (k : Int) : Rat := mkRat (q * (2 ^ kN k : Nat)).floor (2 ^ kN k)
noncomputable def upQ (q : Rat) (k : Int) : Rat := -downQ (-q) k
theorem mul_pow (q : Rat) (m : Nat) : mkRat (sg (q.num < 0) (q.num.natAbs * m)) q.den = q * (m : Rat) := by
  have e : q = mkRat (sg (q.num < 0) q.num.natAbs) q.den := (jF q).symm
  have e2 : q * (m : Rat) = mkRat (sg (q.num < 0) q.num.natAbs) q.den * (m : Rat) := by rw [← e]
  rw [e2, mk_div, mk_div, Rat.natCast_mul]
  by_cases h : q.num < 0
  · rw [rz_t h, rz_t h]; grind
  · rw [rz_f h, rz_f h]; grind
theorem lq_quo' (a b : Rat) : lq (if b = 0 then 0 else a / b) ≤ lq a + lq b := by
  have := lq_quo a b
  have h1 := lq_pos a
  split
  · rw [lq_zero]; omega
  · exact this
theorem sub_ok {p : Prop} [Decidable p] (h : (if p then 7 else 0 : Int) = 0) : ¬ p := by
  intro hp
  rw [if_pos hp] at h
  omega
theorem sub_no {p : Prop} [Decidable p] (h : ¬ (if p then 7 else 0 : Int) = 0) : p := by
  refine Classical.byContradiction fun hp => h ?_
  rw [if_neg hp]
noncomputable def bitsQ (q : Rat) : Int := max (↑(vZ q.num.natAbs) : Int) ↑(vZ q.den)
theorem limbs_len_i64 {n : Int} (h1 : -9223372036854775808 ≤ n) (h2 : n < 9223372036854775808) : (zF n.natAbs).length ≤ 2 := jU (by omega)
noncomputable def qR (n d : Int) : Rat := (n : Rat) / (d : Rat)
theorem makeQ_zero (n : Int) : qR n 0 = 0 := by
  unfold qR
  have : ((0 : Int) : Rat) = 0 := rfl
  rw [this]; grind
theorem int_eq (n : Int) : mkRat (sg (n < 0) n.natAbs) 1 = (n : Rat) := by
  have e : sg (n < 0) n.natAbs = n := by
    by_cases h : n < 0
    · rw [sg_t h]; omega
    · rw [sg_f h]; omega
  rw [e, Rat.mkRat_one]
theorem makeQ_eq {n d : Int} (hd : d ≠ 0) : mkRat (sg (¬ ((n < 0) ↔ (d < 0))) n.natAbs) d.natAbs = qR n d := by
  unfold qR
  rw [← int_eq n, ← int_eq d, mk_quo _ _ (by omega) (by omega) (by omega), Nat.mul_one, Nat.one_mul]
theorem lq_int (n : Int) (h1 : -9223372036854775808 ≤ n) (h2 : n < 9223372036854775808) : lq (n : Rat) ≤ 2 := by
  rw [← int_eq]
  exact lq_mk (limbs_len_i64 h1 h2) (by rw [len_one]; omega) (by omega)
theorem lq_make {n d : Int} (h1 : -9223372036854775808 ≤ n) (h2 : n < 9223372036854775808) (h3 : -9223372036854775808 ≤ d) (h4 : d < 9223372036854775808) : lq (qR n d) ≤ 2 := by
  by_cases hd : d = 0
  · subst hd; rw [makeQ_zero, lq_zero]; omega
  · rw [← makeQ_eq hd]; exact lq_mk (limbs_len_i64 h1 h2) (limbs_len_i64 h3 h4) (by omega)
def dV (ys : List Nat) : Nat := if ys = [] then 1 else val ys
def canon (xs : List Nat) : Prop := xs = [] ∨ xs.getD (xs.length - 1) 0 ≠ 0
def badP (xs ys : List Nat) : Prop := ((¬ canon xs) ∨ (¬ canon ys)) ∨ ((↑ys.length : Int) = 1 ∧ ys.getD 0 0 = 1)
def validP (s : Prop) (xs ys : List Nat) : Prop := ¬ badP xs ys ∧ ((xs = [] → ¬ s ∧ ys = []) ∧ (xs ≠ [] → ys = [] ∨ Nat.gcd (val xs) (val ys) = 1))
theorem len_zero {xs : List Nat} : (↑xs.length : Int) = 0 ↔ xs = [] := ⟨fun h => List.eq_nil_of_length_eq_zero (by omega), fun h => by rw [h]; rfl⟩
theorem gcd_one_of {g : Nat} (h : ¬ ((↑(zF g).length : Int) ≠ 1 ∨ (zF g).getD 0 0 ≠ 1)) : g = 1 :=
  limb_one_iff.1 ⟨Classical.not_not.1 fun e => h (.inl e), Classical.not_not.1 fun e => h (.inr e)⟩
theorem cmp_same {a b : Rat} : (((a.num < 0) ↔ (b.num < 0)) ∧ cmpN a.num.natAbs b.num.natAbs = 0) ∧ cmpN (vO a.den) (vO b.den) = 0 ↔ a = b := by
  rw [cmpN_zero, cmpN_zero, ← same_iff]
  constructor
  · rintro ⟨⟨h1, h2⟩, h3⟩
    exact ⟨⟨h1, by rw [h2]⟩, by rw [h3]⟩
  · rintro ⟨⟨h1, h2⟩, h3⟩
    exact ⟨⟨h1, limbs_inj h2⟩, limbs_inj h3⟩
theorem len_num {q : Rat} : (↑(zF q.num.natAbs).length : Int) = 0 ↔ q = 0 := by
  refine ⟨num_zero, fun h => ?_⟩
  subst h
  rw [show (0 : Rat).num.natAbs = 0 from rfl, wD]; rfl
theorem num_pos_of {q : Rat} (h : ¬ (↑(zF q.num.natAbs).length : Int) = 0) : q ≠ 0 := fun e => h (len_num.2 e)
theorem add_same {a b : Rat} (h : (a.num < 0) ↔ (b.num < 0)) : mkRat (sg (a.num < 0) (a.num.natAbs * b.den + b.num.natAbs * a.den)) (a.den * b.den) = a + b := by
  have := add_sgd (a := a) (b := b) h
  rw [sgd_self, mk_iff h.symm] at this
  exact this.symm
theorem add_ge {a b : Rat} (h : ¬ ((a.num < 0) ↔ (b.num < 0))) (hle : b.num.natAbs * a.den ≤ a.num.natAbs * b.den) : mkRat (sg (a.num < 0) (a.num.natAbs * b.den - b.num.natAbs * a.den)) (a.den * b.den) = a + b := by
  have := sub_sgd (a := a) (b := b) h hle
  rw [sgd_self] at this
  exact this.symm
theorem add_lt {a b : Rat} (h : ¬ ((a.num < 0) ↔ (b.num < 0))) (hle : a.num.natAbs * b.den ≤ b.num.natAbs * a.den) : mkRat (sg (b.num < 0) (b.num.natAbs * a.den - a.num.natAbs * b.den)) (a.den * b.den) = a + b := by
  have := sub_sgd' (a := a) (b := b) h hle
  rw [sgd_self] at this
  exact this.symm
theorem us_int_num {h : Mem} {v : Value} {n : Int} (s : Us .u32 h v (zF n.natAbs)) : Us .u32 h v (zF (n : Rat).num.natAbs) := by
  rw [Rat.num_intCast]; exact s
theorem us_int_den {h : Mem} {n : Int} : Us .u32 h (.slice none 0 0) (zF (vO (n : Rat).den)) := by
  rw [Rat.den_intCast, denN_one, wD]; exact Us.nil _ _
theorem vX.int {h : Mem} {v : Value} {n : Int} (s : Us .u32 h v (zF n.natAbs)) : vX h (.agg #[vB (n < 0), v, .slice none 0 0]) (n : Rat) :=
  ⟨v, .slice none 0 0, by rw [Rat.num_intCast], us_int_num s, us_int_den⟩
noncomputable def numQ (s : Prop) (xs ys : List Nat) : Rat := mkRat (sg s (val xs)) (dV ys)
end Bk
namespace Go.Proofs.YtghhjjmjpeehdaaGreat
open Bk Go Tryz
set_option linter.unusedVariables false
set_option linter.unusedSimpArgs false
set_option maxRecDepth 10000
theorem rat_one {w0 : World} {h0 : Mem}  (hs : MLe h0 (mem w0))  :
    Calls Tryz.prog 108 #[] w0 (Ret w0 h0 (fun h r => Us .u32 h r [1])) := by
 refine zM (n := 2) (e := []) (vs := []) func108 rfl rfl (bL rfl) hs trivial (zC (zA (asg rfl rfl (zD (zB (zC (zA (zI (new_build1 (kd := .u32) (p := 1) underlying28 uJ rfl rfl rfl) rfl rfl rfl ?_))))))))
 intro v1 r1 hr1
 obtain rfl := hr1
 refine xT (by intro z hz; simp only [List.mem_singleton] at hz; subst hz; decide) ?_
 intro h1 hh1 h1
 refine asg rfl rfl (zD (zB (zQ (yC rfl rfl ?_))))
 exact h1
theorem rat_den {w0 : World} {h0 : Mem}  (hs : MLe h0 (mem w0)) {sa : Bool} {vna vda : Value} {na da : List Nat} (hna : Us .u32 h0 vna na) (hda : Us .u32 h0 vda da) :
    Calls Tryz.prog 127 #[.agg #[.bool sa, vna, vda]] w0 (Ret w0 h0 (fun h r => Us .u32 h r (if da = [] then [1] else da))) := by
 refine zM (n := 10) (e := [(0, .agg #[.bool sa, vna, vda])]) (vs := [.agg #[.bool sa, vna, vda]]) func127 rfl rfl (bL rfl) hs ⟨rfl, trivial⟩ (zC (zA (zI (wZ (cs := [_, _, _]) rfl rfl) rfl rfl rfl ?_)))
 intro v1 r1 hr1
 obtain ⟨b1, rfl, rfl⟩ := hr1
 refine asg rfl rfl (zD (zB (zC (zC (zA (gv (zG underlying30 rfl sizeOf28 rfl) rfl (gv (zR mh0 isAgg28 rfl rfl) rfl (gv (zZ underlying28 rfl hda) rfl (gv (xU (q := 0) rfl rfl) rfl (zD (zB ?_)))))))))))
 refine zN rfl (fun hc6 => ?_) (fun hc6 => ?_)
 ·
  refine zC (zA ?_)
  refine zO (vs := []) rfl rfl rfl rfl call108 trivial (fun w hs => rat_one hs) ?_
  intro v7 h1 hh1 hr7
  rw [one_limbs] at hr7
  have hlm7 := len_one
  refine asg rfl rfl (zD (zB (zQ (zV (yC rfl rfl ?_)))))
  rw [if_pos (List.eq_nil_of_length_eq_zero (by omega)), one_limbs]
  exact hr7
 refine zK (zB (zC (zA (gv (zG underlying30 rfl sizeOf28 rfl) rfl (gv (zR mh0 isAgg28 rfl rfl) rfl (asg rfl rfl (zD (zB (zQ (yC rfl rfl ?_))))))))))
 rw [if_neg (fun h => hc6 (by rw [h]; rfl))]
 exact hda
theorem rat_copied {w0 : World} {h0 : Mem}  (hs : MLe h0 (mem w0)) {qa : Rat} {vna vda : Value} (hna : Us .u32 h0 vna (zF qa.num.natAbs)) (hda : Us .u32 h0 vda (zF (vO qa.den))) (hl : (zF qa.num.natAbs).length ≤ 1099511627776) (hl' : (zF (vO qa.den)).length ≤ 1099511627776) :
    Calls Tryz.prog 105 #[.agg #[vB (qa.num < 0), vna, vda]] w0 (Ret w0 h0 (fun h r => vX h r qa)) := by
 refine zM (n := 12) (e := [(0, .agg #[vB (qa.num < 0), vna, vda])]) (vs := [.agg #[vB (qa.num < 0), vna, vda]]) func105 rfl rfl (bL rfl) hs ⟨rfl, trivial⟩ (zC (zA (zI (wZ (cs := [_, _, _]) rfl rfl) rfl rfl rfl ?_)))
 intro v1 r1 hr1
 obtain ⟨b1, rfl, rfl⟩ := hr1
 refine zI (vV (cs := [vB ((0 : Rat).num < 0), .slice none 0 0, .slice none 0 0]) wT rfl (by simp only [zb]; rfl)) rfl rfl rfl ?_
 intro v2 r2 hr2
 obtain ⟨b2, rfl, rfl⟩ := hr2
 refine zD (zB (zC ?_))
 refine yF 9 _ [] [(0, .q), (1, .q), (2, .q), (3, .q), (5, .q), (6, .q), (4, .c), (7, .c), (8, .c), (9, .t)] xH nX (by kernel_rfl) nX (fun r hr => hr) (yK rfl (fun _ _ => zG underlying30 rfl sizeOf4 rfl) rfl (w_q rfl (fun h' L' hh hR => zR (hR _ mh1) isAgg4 rfl rfl) rfl (yK rfl (fun _ _ => zG underlying30 rfl sizeOf28 rfl) rfl (w_q rfl (fun h' L' hh hR => zR (hR _ mh1) isAgg28 rfl rfl) rfl (yK rfl (fun _ _ => zG underlying30 rfl sizeOf28 rfl) rfl (w_q rfl (fun h' L' hh hR => zR (hR _ mh1) isAgg28 rfl rfl) rfl ?_))))))
 refine w_c rfl ?_
 refine s_call_own (vs := [_]) call130 ⟨rfl, trivial⟩ (fun w hs => sl_clone hs hna (by omega)) rfl ?_
 intro v7 h1 L7 hh1 hr7
 obtain rfl := hr7
 refine w_c rfl ?_
 replace hda := hda.mono hh1
 refine s_call_own (vs := [_]) call130 ⟨rfl, trivial⟩ (fun w hs => sl_clone hs hda (by omega)) rfl ?_
 intro v10 h2 L10 hh2 hr10
 obtain rfl := hr10
 refine w_c rfl ?_
 replace hna := hna.mono (hh1.trans hh2)
 refine s_freeze (A := [_]) (by exact hna.lt) (by simp only [List.mem_cons, List.not_mem_nil, or_false]; rintro r (rfl | rfl) _ <;> simp) ?_
 intro h3 hh3 hc1
 replace hda := hda.mono (hh2.trans hh3)
 refine s_freeze (A := []) (by exact hda.lt) (by simp only [List.mem_cons, List.not_mem_nil, or_false]; rintro r (rfl | rfl) _ <;> simp) ?_
 intro h4 hh4 hc2
 replace hc1 := hc1.mono hh4
 refine s_val (fun X => wK (ps' := [(0, _), (1, _), (2, _)]) (vs := [vB (qa.num < 0), v7, v10]) underlying30 wT rfl (qK underlying30) e6 (vD (A := []) (B := [_]) (C := [_, _]) (cs := [_]) (off := 0) (size := 1) rfl rfl rfl rfl rfl (vD (A := [_]) (B := [_]) (C := [_]) (cs := [_]) (off := 1) (size := 1) rfl rfl rfl rfl hc1.cells (vD (A := [_, _]) (B := [_]) (C := []) (cs := [_]) (off := 2) (size := 1) rfl rfl rfl rfl hc2.cells qI)))) rfl (w_t_upd (A := []) (q' := .var b2 30 [vB (qa.num < 0), v7, v10]) rfl (yA (k := 0) (cs := [_, _, _]) (vs := [_, _, _]) rfl rfl rfl (ocr rfl (ocu hc1 (ocu hc2 oc0))) zX (bL rfl)) rfl (xB (zJ (e' := [(2, _)]) ⟨rfl, trivial⟩ (zB (zQ (xQ (fun E S => yS rfl (wX (cs := [_, _, _]) mh0 underlying30 rfl zX rfl) E S) ?_))))))
 exact ⟨_, _, rfl, hc1, hc2⟩
end Go.Proofs.YtghhjjmjpeehdaaGreat
namespace Go.Proofs.YtghhjjmjpeehdaaGreat
open Bk Go Tryz
set_option linter.unusedVariables false
set_option linter.unusedSimpArgs false
set_option maxRecDepth 10000
theorem rat_word {w0 : World} {h0 : Mem}  (hs : MLe h0 (mem w0)) {v : Value} {xs : List Nat} (hv : Us .u32 h0 v xs) (hl : xs.length ≤ 2) :
    Calls Tryz.prog 131 #[v] w0 (Ret w0 h0 (fun _ r => r = vU .u64 (val xs))) := by
 have hf : Fit xs := hv.lt
 refine zM (n := 21) (e := [(0, v)]) (vs := [v]) func131 rfl rfl (bL rfl) hs ⟨rfl, trivial⟩ (zC (zA (asg (v := vU .u64 0) rfl rfl (zD (zB (zC (zA (asg (v := vU .u64 0) rfl rfl (zD (zB (zC (zC (zA ?_)))))))))))))
 refine mv rfl rfl (gv (zZ underlying28 rfl hv) rfl (gv (xO (q := 1) rfl rfl (by omega) (by omega)) rfl (asg rfl rfl (zD (zB (zP ?_))))))
 have hd0 : val (xs.drop xs.length) = 0 := by rw [List.drop_of_length_le (Nat.le_refl _)]; rfl
 refine wE (ι := Nat) (fun (j : (Nat)) => j ≤ xs.length) (fun (j : (Nat)) => [(0, v), (3, vU .u64 (val (xs.drop j))), (4, vI (↑j - 1))]) (fun (j : (Nat)) => []) (fun (j : (Nat)) => h0) (fun (j : (Nat)) => j) xs.length ?_ ⟨?_, ?_, ?_, trivial⟩ rfl rfl ?_
 ·
  exact Nat.le_refl _
 · exact rfl
 · exact congrArg some (congrArg (vU .u64) hd0.symm)
 · exact rfl
 intro j hx
 obtain hj := hx
 show GC _ _ _ _ _ _ [(0, v), (3, vU .u64 (val (xs.drop j))), (4, vI (↑j - 1))] [] h0
 refine zC (zC (zA (mv rfl rfl (gv (qT (q := 0) rfl rfl) rfl (zD (zB ?_))))))
 refine zN rfl (fun hc9 => ?_) (fun hc9 => ?_)
 ·
  refine zK (zB (zC (zP (zA (mv rfl rfl (gv (kT (k := .u64) (s := 32) (yk := .u64) (W := 18446744073709551616) rfl rfl rfl rfl) rfl (mv rfl rfl (mv rfl rfl (gv (yN (j - 1) underlying28 sizeOf124 rfl rfl hv (by omega) (by omega)) rfl (gv (yQ isAgg124 rfl hv (by omega)) rfl ?_))))))))))
  have hx1 := hv.get32 (j - 1)
  refine gv (xA (k := .u32) (k' := .u64) (W := 18446744073709551616) underlying124 underlying122 rfl rfl rfl (by omega)) rfl (gv (ov_or_u (k := .u64) rfl rfl rfl (by simp only [ub]; omega) (by simp only [ub]; omega)) rfl ?_)
  rw [or_shift (by
        have h2 := jV (fit_drop hf j)
        rw [List.length_drop] at h2
        have h3 : (4294967296 : Nat) ^ (xs.length - j) ≤ 4294967296 ^ 1 := Nat.pow_le_pow_right (by omega) (by omega)
        omega) hx1]
  refine asg rfl rfl (zD (xC (zJ (e' := [(0, _), (4, _), (3, _)]) e3z (zB (zA (mv rfl rfl (gv (xO (q := 1) rfl rfl (by omega) (by omega)) rfl (asg rfl rfl (zD ?_)))))))))
  refine yV (j - 1) ?_ ?_ ⟨rfl, ?_, ?_, trivial⟩ rfl rfl
  ·
   omega
  ·
   omega
  ·
          rw [jB xs (j - 1) (by omega)]
          exact congrArg some (congrArg (vU .u64) (by rw [show j - 1 + 1 = j by omega]; omega))
  · exact congrArg some (congrArg vI (by omega))
 refine xG (yB (yB (xF (zB (zC (zA (mv rfl rfl (asg rfl rfl (zD (zB (zQ (yC rfl rfl ?_))))))))))))
 rw [show j = 0 by omega]; rfl
theorem rat_divisor {w0 : World} {h0 : Mem}  (hs : MLe h0 (mem w0)) {m n : Nat} (hm0 : m < 18446744073709551616) (hn0 : n < 18446744073709551616) :
    Calls Tryz.prog 147 #[vU .u64 m, vU .u64 n] w0 (Ret w0 h0 (fun _ r => r = vU .u64 (Nat.gcd m n))) := by
 refine zM (n := 12) (e := [(0, vU .u64 m), (1, vU .u64 n)]) (vs := [vU .u64 m, vU .u64 n]) func147 rfl rfl (bL rfl) hs e2z (zC (zA (asg (v := vU .u64 0) rfl rfl (zD (zB (zC (zP ?_)))))))
 refine wE (ι := Nat × Nat) (fun (x, y) => Nat.gcd x y = Nat.gcd m n ∧ x < 18446744073709551616 ∧ y < 18446744073709551616) (fun (x, y) => [(0, vU .u64 x), (1, vU .u64 y)]) (fun (x, y) => []) (fun (x, y) => h0) (fun (x, y) => y) (m, n) ?_ e2z rfl rfl ?_
 ·
  exact ⟨rfl, hm0, hn0⟩
 intro x hx
 obtain ⟨x, y⟩ := x
 obtain ⟨hg3, hm, hn⟩ := hx
 show GC _ _ _ _ _ _ [(0, vU .u64 x), (1, vU .u64 y)] [] h0
 refine zC (zC (zA (mv rfl rfl (gv (ov_neq_u (k := .u64) (q := 0) rfl rfl) rfl (zD (zB ?_))))))
 refine zN rfl (fun hc6 => ?_) (fun hc6 => ?_)
 ·
  refine zK (zB (zP ?_))
  refine yF 6 _ [] [(0, .q), (1, .q), (2, .q), (3, .q), (4, .q), (5, .q)] xH nX (by kernel_rfl) nX (fun r hr => hr) (yH rfl rfl rfl (yH rfl rfl rfl (yH rfl rfl rfl (yK rfl (fun _ _ => ov_rem_u (k := .u64) rfl rfl (by omega)) rfl (uG rfl rfl rfl (uG rfl rfl rfl (xB (xC ?_))))))))
  refine yV (y, x % y) ?_ ?_ e2z rfl rfl
  ·
   have hlt := Nat.mod_lt x (Nat.pos_of_ne_zero hc6)
   exact ⟨by rw [gcd_step]; exact hg3, hn, by omega⟩
  dsimp only
  exact Nat.mod_lt _ (Nat.pos_of_ne_zero hc6)
 refine xG (yB (yB (xF (zB (zC (zA (mv rfl rfl (asg rfl rfl (zD (zB (zQ (yC rfl rfl ?_))))))))))))
 have hy0 : y = 0 := Classical.not_not.1 hc6
 rw [hy0, Nat.gcd_zero_right] at hg3
 rw [hg3]
end Go.Proofs.YtghhjjmjpeehdaaGreat
