/- Plain arithmetic of numbers by limbs of 32 bits: their value, and the limbs of a number. No program in sight. -/
namespace Bk
set_option linter.unusedVariables false
set_option linter.unusedSimpArgs false

/-- The value of limbs, the lowest first. -/
def val : List Nat → Nat
  | [] => 0
  | x :: xs => x + 4294967296 * val xs

/-- The limbs of a number. -/
def limbs (n : Nat) : List Nat := if n = 0 then [] else n % 4294967296 :: limbs (n / 4294967296)
termination_by n
decreasing_by omega

/-- All limbs fit. -/
def Fit (xs : List Nat) : Prop := ∀ x ∈ xs, x < 4294967296

theorem limbs_zero : limbs 0 = [] := by unfold limbs; simp
theorem limbs_pos {n : Nat} (h : 0 < n) : limbs n = n % 4294967296 :: limbs (n / 4294967296) := by
  rw [limbs, if_neg (by omega)]

theorem val_limbs (n : Nat) : val (limbs n) = n := by
  induction n using Nat.strongRecOn with
  | _ n ih =>
    by_cases h : n = 0
    · subst h; simp [limbs_zero, val]
    · rw [limbs_pos (by omega), val, ih _ (by omega)]; omega

theorem fit_limbs (n : Nat) : Fit (limbs n) := by
  induction n using Nat.strongRecOn with
  | _ n ih =>
    by_cases h : n = 0
    · subst h; simp [limbs_zero, Fit]
    · rw [limbs_pos (by omega)]
      intro x hx
      rcases List.mem_cons.1 hx with rfl | hx
      · omega
      · exact ih _ (by omega) x hx

theorem limbs_inj {m n : Nat} (h : limbs m = limbs n) : m = n := by rw [← val_limbs m, ← val_limbs n, h]

theorem fit_cons {x : Nat} {xs : List Nat} : Fit (x :: xs) ↔ x < 4294967296 ∧ Fit xs := by simp [Fit]

theorem fit_take {xs : List Nat} (h : Fit xs) (k : Nat) : Fit (xs.take k) := fun x hx => h x (List.mem_of_mem_take hx)
theorem fit_drop {xs : List Nat} (h : Fit xs) (k : Nat) : Fit (xs.drop k) := fun x hx => h x (List.mem_of_mem_drop hx)

/-- Limbs without a zero at the top are those of their value. -/
theorem limbs_of_val {xs : List Nat} (hf : Fit xs) (hl : xs = [] ∨ 0 < xs.getD (xs.length - 1) 0) : limbs (val xs) = xs := by
  induction xs with
  | nil => simp [val, limbs_zero]
  | cons x xs ih =>
    have hx := (fit_cons.1 hf).1
    have hxs := (fit_cons.1 hf).2
    have hpos : 0 < val (x :: xs) := by
      by_cases he : xs = []
      · subst he
        simp at hl
        simp [val]; omega
      · have hne : 0 < xs.length := by cases xs with | nil => exact absurd rfl he | cons _ _ => simp
        have : 0 < val xs := by
          have := ih hxs (.inr (by
            rcases hl with hl | hl
            · simp at hl
            · have e : (x :: xs).length - 1 = (xs.length - 1) + 1 := by simp; omega
              rw [e] at hl
              simpa using hl))
          cases hv : val xs with
          | zero => rw [hv, limbs_zero] at this; exact absurd this.symm he
          | succ k => omega
        simp only [val]; omega
    rw [limbs_pos hpos]
    have e1 : val (x :: xs) % 4294967296 = x := by simp only [val]; omega
    have e2 : val (x :: xs) / 4294967296 = val xs := by simp only [val]; omega
    rw [e1, e2, ih hxs]
    rcases hl with hl | hl
    · simp at hl
    · by_cases he : xs = []
      · exact .inl he
      · have hne : 0 < xs.length := by cases xs with | nil => exact absurd rfl he | cons _ _ => simp
        have e : (x :: xs).length - 1 = (xs.length - 1) + 1 := by simp; omega
        rw [e] at hl
        exact .inr (by simpa using hl)

theorem val_append (xs ys : List Nat) : val (xs ++ ys) = val xs + 4294967296 ^ xs.length * val ys := by
  induction xs with
  | nil => simp [val]
  | cons x xs ih => simp only [List.cons_append, val, ih, List.length_cons, Nat.pow_succ]; rw [Nat.mul_add, ← Nat.mul_assoc, Nat.mul_comm 4294967296 (4294967296 ^ xs.length)]; omega

theorem val_replicate (k : Nat) : val (List.replicate k 0) = 0 := by
  induction k with
  | zero => rfl
  | succ k ih => simp [List.replicate_succ, val, ih]

theorem val_zeros {xs : List Nat} (h : ∀ x ∈ xs, x = 0) : val xs = 0 := by
  induction xs with
  | nil => rfl
  | cons x xs ih =>
    have := h x (by simp)
    rw [val, ih fun y hy => h y (by simp [hy])]; omega

/-- The value, cut at a place. -/
theorem val_split (xs : List Nat) (k : Nat) (hk : k ≤ xs.length) : val xs = val (xs.take k) + 4294967296 ^ k * val (xs.drop k) := by
  have := val_append (xs.take k) (xs.drop k)
  rw [List.take_append_drop, List.length_take, Nat.min_eq_left hk] at this
  exact this

theorem val_lt {xs : List Nat} (h : Fit xs) : val xs < 4294967296 ^ xs.length := by
  induction xs with
  | nil => simp [val]
  | cons x xs ih =>
    have h1 := ih (fit_cons.1 h).2
    have h2 := (fit_cons.1 h).1
    simp only [val, List.length_cons, Nat.pow_succ]
    have : 4294967296 * (val xs + 1) ≤ 4294967296 * 4294967296 ^ xs.length := Nat.mul_le_mul_left _ h1
    rw [Nat.mul_comm (4294967296 ^ xs.length)]
    omega

theorem drop_eq_cons (xs : List Nat) (k : Nat) (hk : k < xs.length) : xs.drop k = xs.getD k 0 :: xs.drop (k + 1) := by
  rw [List.drop_eq_getElem_cons hk]
  simp [hk]
theorem take_succ (xs : List Nat) (k : Nat) (hk : k < xs.length) : xs.take (k + 1) = xs.take k ++ [xs.getD k 0] := by
  rw [List.take_succ_eq_append_getElem hk]
  simp [hk]
theorem val_take_succ (xs : List Nat) (k : Nat) (hk : k < xs.length) : val (xs.take (k + 1)) = val (xs.take k) + 4294967296 ^ k * xs.getD k 0 := by
  rw [take_succ xs k hk, val_append, List.length_take, Nat.min_eq_left (by omega)]
  simp [val]
theorem val_drop (xs : List Nat) (k : Nat) (hk : k < xs.length) : val (xs.drop k) = xs.getD k 0 + 4294967296 * val (xs.drop (k + 1)) := by
  rw [drop_eq_cons xs k hk, val]

/-- What trim leaves. -/
theorem trim_spec {xs : List Nat} (hf : Fit xs) {k : Nat} (hk : k ≤ xs.length) (hz : ∀ i, k ≤ i → xs.getD i 0 = 0) (ht : k = 0 ∨ xs.getD (k - 1) 0 ≠ 0) : xs.take k = limbs (val xs) := by
  have h1 : val (xs.drop k) = 0 := val_zeros fun x hx => by
    obtain ⟨i, hi, rfl⟩ := List.getElem_of_mem hx
    have := hz (k + i) (by omega)
    simp only [List.length_drop] at hi
    rw [List.getD_eq_getElem?_getD, List.getElem?_eq_getElem (by omega)] at this
    simpa using this
  have h2 := val_split xs k hk
  rw [h1, Nat.mul_zero, Nat.add_zero] at h2
  rw [h2]
  refine (limbs_of_val (fit_take hf k) ?_).symm
  by_cases h0 : k = 0
  · exact .inl (by simp [h0])
  · right
    rcases ht with ht | ht
    · exact absurd ht h0
    · have hl : (xs.take k).length = k := by rw [List.length_take]; omega
      rw [hl]
      have : (xs.take k).getD (k - 1) 0 = xs.getD (k - 1) 0 := by
        simp only [List.getD_eq_getElem?_getD]
        rw [List.getElem?_take, if_pos (by omega)]
      rw [this]; omega

/-! ### Filling a list from below -/

/-- The list s, filled up with zeros to the length n. -/
def fillTo (s : List Nat) (n : Nat) : List Nat := s ++ List.replicate (n - s.length) 0

theorem fillTo_nil (n : Nat) : fillTo [] n = List.replicate n 0 := by simp [fillTo]
theorem length_fillTo {s : List Nat} {n : Nat} (h : s.length ≤ n) : (fillTo s n).length = n := by simp [fillTo]; omega
theorem fillTo_full {s : List Nat} {n : Nat} (h : s.length = n) : fillTo s n = s := by simp [fillTo, h]
theorem fillTo_set {s : List Nat} {n : Nat} (h : s.length < n) (y : Nat) : (fillTo s n).set s.length y = fillTo (s ++ [y]) n := by
  unfold fillTo
  rw [List.set_append_right _ _ (Nat.le_refl _), Nat.sub_self, List.length_append, List.length_singleton]
  have e : n - s.length = (n - (s.length + 1)) + 1 := by omega
  rw [e, List.replicate_succ]
  simp
theorem fillTo_get {s : List Nat} {n i : Nat} (h : s.length ≤ i) : (fillTo s n).getD i 0 = 0 := by
  unfold fillTo
  rw [List.getD_eq_getElem?_getD, List.getElem?_append_right h, List.getElem?_replicate]
  split <;> rfl
theorem fit_append {xs ys : List Nat} (h : Fit xs) (k : Fit ys) : Fit (xs ++ ys) := fun x hx => (List.mem_append.1 hx).elim (h x) (k x)
theorem fit_one {x : Nat} (h : x < 4294967296) : Fit [x] := fun y hy => by simp at hy; omega
theorem val_snoc (s : List Nat) (y : Nat) : val (s ++ [y]) = val s + 4294967296 ^ s.length * y := by rw [val_append]; simp [val]
theorem fit_get {xs : List Nat} (h : Fit xs) (i : Nat) : xs.getD i 0 < 4294967296 := by
  by_cases hi : i < xs.length
  · rw [List.getD_eq_getElem?_getD, List.getElem?_eq_getElem hi]; exact h _ (List.getElem_mem hi)
  · rw [List.getD_eq_getElem?_getD, List.getElem?_eq_none (by omega)]; decide
theorem getD_out {xs : List Nat} {i : Nat} (h : xs.length ≤ i) : xs.getD i 0 = 0 := by rw [List.getD_eq_getElem?_getD, List.getElem?_eq_none h]; rfl
theorem val_take_getD (xs : List Nat) (k : Nat) : val (xs.take (k + 1)) = val (xs.take k) + 4294967296 ^ k * xs.getD k 0 := by
  by_cases hk : k < xs.length
  · exact val_take_succ xs k hk
  · rw [getD_out (by omega), List.take_of_length_le (by omega), List.take_of_length_le (by omega)]; omega
theorem val_take_all {xs : List Nat} {k : Nat} (h : xs.length ≤ k) : val (xs.take k) = val xs := by rw [List.take_of_length_le h]

/-! ### Order -/

def cmpN (m n : Nat) : Int := if m < n then -1 else if m = n then 0 else 1
theorem cmpN_lt {m n : Nat} (h : m < n) : cmpN m n = -1 := by simp [cmpN, h]
theorem cmpN_eq (m : Nat) : cmpN m m = 0 := by simp [cmpN]
theorem cmpN_gt {m n : Nat} (h : n < m) : cmpN m n = 1 := by
  have h1 : ¬ m < n := by omega
  have h2 : m ≠ n := by omega
  simp [cmpN, h1, h2]

theorem cmpN_neg {m n : Nat} : cmpN m n < 0 ↔ m < n := by
  unfold cmpN; split
  · simp_all
  · split <;> simp_all
theorem cmpN_pos {m n : Nat} : 0 < cmpN m n ↔ n < m := by
  unfold cmpN; split
  · simp_all; omega
  · split
    · simp_all
    · simp; omega
theorem cmpN_zero {m n : Nat} : cmpN m n = 0 ↔ m = n := by
  unfold cmpN; split
  · simp; omega
  · split <;> simp_all

theorem limbs_len_mono {m n : Nat} (h : m ≤ n) : (limbs m).length ≤ (limbs n).length := by
  induction n using Nat.strongRecOn generalizing m with
  | _ n ih =>
    by_cases hm : m = 0
    · subst hm; simp [limbs_zero]
    · rw [limbs_pos (by omega), limbs_pos (show 0 < n by omega)]
      have := ih (n / 4294967296) (by omega) (Nat.div_le_div_right (c := 4294967296) h)
      simp only [List.length_cons]; omega
theorem lt_of_limbs_len {m n : Nat} (h : (limbs m).length < (limbs n).length) : m < n := by
  rcases Nat.lt_or_ge m n with h' | h'
  · exact h'
  · have := limbs_len_mono h'; omega
theorem limbs_len_le {xs : List Nat} (h : Fit xs) : (limbs (val xs)).length ≤ xs.length := by
  induction xs with
  | nil => simp [val, limbs_zero]
  | cons x xs ih =>
    have h2 := (fit_cons.1 h).1
    by_cases h0 : val (x :: xs) = 0
    · rw [h0, limbs_zero]; simp
    · rw [limbs_pos (by omega)]
      have e : val (x :: xs) / 4294967296 = val xs := by simp only [val]; omega
      rw [e]
      have := ih (fit_cons.1 h).2
      simp only [List.length_cons]; omega
theorem limbs_len_of_lt {n k : Nat} (h : n < 4294967296 ^ k) : (limbs n).length ≤ k := by
  induction k generalizing n with
  | zero => simp at h; subst h; simp [limbs_zero]
  | succ k ih =>
    by_cases h0 : n = 0
    · subst h0; simp [limbs_zero]
    · rw [limbs_pos (by omega), List.length_cons]
      have := ih (n := n / 4294967296) (by rw [Nat.pow_succ] at h; omega)
      omega
theorem pow_le_of_limbs_len {n k : Nat} (h : k < (limbs n).length) : 4294967296 ^ k ≤ n := by
  rcases Nat.lt_or_ge n (4294967296 ^ k) with h' | h'
  · have := limbs_len_of_lt h'; omega
  · exact h'

theorem val_top {A B : List Nat} (hA : Fit A) (hl : A.length = B.length) {j : Nat} (h1 : 1 ≤ j) (hj : j ≤ A.length) (hd : A.drop j = B.drop j) (hlt : A.getD (j - 1) 0 < B.getD (j - 1) 0) : val A < val B := by
  have sA := val_split A (j - 1) (by omega)
  have sB := val_split B (j - 1) (by omega)
  rw [val_drop A (j - 1) (by omega)] at sA
  rw [val_drop B (j - 1) (by omega)] at sB
  have e : j - 1 + 1 = j := by omega
  rw [e] at sA sB
  rw [hd] at sA
  have hlow := val_lt (fit_take hA (j - 1))
  rw [List.length_take, Nat.min_eq_left (by omega)] at hlow
  have hmul : 4294967296 ^ (j - 1) * (A.getD (j - 1) 0 + 4294967296 * val (B.drop j) + 1) ≤ 4294967296 ^ (j - 1) * (B.getD (j - 1) 0 + 4294967296 * val (B.drop j)) := Nat.mul_le_mul_left _ (by omega)
  rw [Nat.mul_add, Nat.mul_one] at hmul
  omega

theorem val_getD_zero {xs : List Nat} (h : val xs = 0) (i : Nat) : xs.getD i 0 = 0 := by
  induction xs generalizing i with
  | nil => simp
  | cons x xs ih =>
    simp only [val] at h
    cases i with
    | zero => simp; omega
    | succ i => simpa using ih (by omega) i

/-! ### Binary digits -/

/-- The number of binary digits. -/
def bitsN (n : Nat) : Nat := if n = 0 then 0 else Nat.log2 n + 1

theorem bitsN_zero : bitsN 0 = 0 := rfl
theorem bitsN_le {n k : Nat} (h : n < 2 ^ k) : bitsN n ≤ k := by
  unfold bitsN
  split
  · omega
  · rename_i h0
    have := (Nat.log2_lt h0).2 h
    omega
theorem bitsN_eq {n k : Nat} (h1 : 2 ^ k ≤ n) (h2 : n < 2 ^ (k + 1)) : bitsN n = k + 1 := by
  have hpos : 0 < 2 ^ k := Nat.pow_pos (by omega)
  unfold bitsN
  rw [if_neg (by omega)]
  have a := (Nat.log2_lt (n := n) (k := k + 1) (by omega)).2 h2
  have b : ¬ Nat.log2 n < k := fun hc => by
    have := (Nat.log2_lt (n := n) (k := k) (by omega)).1 hc
    omega
  omega
theorem lt_pow_bitsN (n : Nat) : n < 2 ^ bitsN n := by
  unfold bitsN
  split
  · omega
  · rename_i h0
    exact Nat.lt_log2_self
theorem pow_le_bitsN {n : Nat} (h : n ≠ 0) : 2 ^ (bitsN n - 1) ≤ n := by
  unfold bitsN
  rw [if_neg h]
  exact Nat.log2_self_le h
theorem bitsN_pos {n : Nat} (h : n ≠ 0) : 0 < bitsN n := by unfold bitsN; rw [if_neg h]; omega
theorem bitsN_mul_pow {n : Nat} (h : n ≠ 0) (k : Nat) : bitsN (n * 2 ^ k) = bitsN n + k := by
  have h1 := pow_le_bitsN h
  have h2 := lt_pow_bitsN n
  have h3 := bitsN_pos h
  have e : bitsN n + k = (bitsN n - 1 + k) + 1 := by omega
  rw [e]
  refine bitsN_eq ?_ ?_
  · rw [Nat.pow_add]; exact Nat.mul_le_mul_right _ h1
  · have e2 : bitsN n - 1 + k + 1 = bitsN n + k := by omega
    rw [e2, Nat.pow_add]
    exact Nat.mul_lt_mul_of_pos_right h2 (Nat.pow_pos (by omega))
theorem bitsN_add_mul {n k r : Nat} (h : n ≠ 0) (hr : r < 2 ^ k) : bitsN (n * 2 ^ k + r) = bitsN n + k := by
  have h1 := pow_le_bitsN h
  have h2 := lt_pow_bitsN n
  have h3 := bitsN_pos h
  have e : bitsN n + k = (bitsN n - 1 + k) + 1 := by omega
  rw [e]
  refine bitsN_eq ?_ ?_
  · rw [Nat.pow_add]
    have := Nat.mul_le_mul_right (2 ^ k) h1
    omega
  · have e2 : bitsN n - 1 + k + 1 = bitsN n + k := by omega
    rw [e2, Nat.pow_add]
    have : (n + 1) * 2 ^ k ≤ 2 ^ bitsN n * 2 ^ k := Nat.mul_le_mul_right _ h2
    rw [Nat.add_mul] at this
    omega
/-- Shifting off digits. -/
theorem bitsN_div {n k : Nat} (h : 2 ^ k ≤ n) : bitsN n = bitsN (n / 2 ^ k) + k := by
  have hp : 0 < 2 ^ k := Nat.pow_pos (by omega)
  have h0 : n / 2 ^ k ≠ 0 := Nat.ne_of_gt (Nat.div_pos h hp)
  have e : n = n / 2 ^ k * 2 ^ k + n % 2 ^ k := (Nat.div_add_mod' n (2 ^ k)).symm
  have := bitsN_add_mul h0 (Nat.mod_lt n hp)
  rw [← e] at this
  exact this

theorem bitsN_top {xs : List Nat} (hf : Fit xs) {k : Nat} (hk : k + 1 = xs.length) (ht : xs.getD k 0 ≠ 0) : bitsN (val xs) = 32 * k + bitsN (xs.getD k 0) := by
  have e := val_split xs k (by omega)
  rw [val_drop xs k (by omega), List.drop_of_length_le (by omega)] at e
  have h1 := val_lt (fit_take hf k)
  rw [List.length_take, Nat.min_eq_left (by omega)] at h1
  have e2 : (4294967296 : Nat) ^ k = 2 ^ (32 * k) := by rw [Nat.pow_mul]
  rw [e2] at e h1
  have := bitsN_add_mul ht h1
  have e3 : val xs = xs.getD k 0 * 2 ^ (32 * k) + val (xs.take k) := by
    rw [e]; simp [val]; rw [Nat.mul_comm]; omega
  rw [e3, this]; omega

/-! ### Pieces of words -/

theorem or_shift {r x : Nat} (hr : r < 4294967296) (hx : x < 4294967296) : r * 2 ^ 32 % 18446744073709551616 ||| x = r * 4294967296 + x := by
  have e : r * 2 ^ 32 % 18446744073709551616 = 2 ^ 32 * r := by omega
  rw [e, ← Nat.two_pow_add_eq_or_of_lt (by omega)]
  omega
theorem or_low {c x s : Nat} (hc : c < 2 ^ s) : c ||| x * 2 ^ s = x * 2 ^ s + c := by
  rw [Nat.or_comm, Nat.mul_comm, ← Nat.two_pow_add_eq_or_of_lt hc]

theorem val_set {xs : List Nat} {i : Nat} (hi : i < xs.length) (y : Nat) : val (xs.set i y) + 4294967296 ^ i * xs.getD i 0 = val xs + 4294967296 ^ i * y := by
  have e1 := val_split xs i (by omega)
  have e2 := val_split (xs.set i y) i (by simp; omega)
  rw [val_drop xs i hi] at e1
  rw [val_drop (xs.set i y) i (by simpa using hi)] at e2
  have h1 : (xs.set i y).take i = xs.take i := by rw [List.take_set]; exact List.set_eq_of_length_le (by rw [List.length_take]; omega)
  have h2 : (xs.set i y).drop (i + 1) = xs.drop (i + 1) := by rw [List.drop_set, if_pos (by omega)]
  have h3 : (xs.set i y).getD i 0 = y := by simp [hi]
  rw [h1, h2, h3] at e2
  rw [e1, e2]
  grind
theorem fit_set {xs : List Nat} (h : Fit xs) (i : Nat) {y : Nat} (hy : y < 4294967296) : Fit (xs.set i y) := by
  intro x hx
  rcases List.mem_or_eq_of_mem_set hx with h1 | h1
  · exact h x h1
  · omega
theorem getD_set_self {xs : List Nat} {i : Nat} (hi : i < xs.length) (y : Nat) : (xs.set i y).getD i 0 = y := by simp [hi]
theorem getD_set_other {xs : List Nat} {i j : Nat} (h : i ≠ j) (y : Nat) : (xs.set i y).getD j 0 = xs.getD j 0 := by
  simp [List.getD_eq_getElem?_getD, List.getElem?_set_ne h]
theorem fit_replicate (n : Nat) : Fit (List.replicate n 0) := fun x hx => by rw [List.eq_of_mem_replicate hx]; omega
theorem getD_replicate (n i : Nat) : (List.replicate n 0).getD i 0 = 0 := by
  rw [List.getD_eq_getElem?_getD, List.getElem?_replicate]; split <;> rfl

/-! ### Filling a list from above -/

/-- n zeros below s. -/
def fillDn (j : Nat) (s : List Nat) : List Nat := List.replicate j 0 ++ s
theorem fillDn_nil (j : Nat) : fillDn j [] = List.replicate j 0 := by simp [fillDn]
theorem fillDn_zero (s : List Nat) : fillDn 0 s = s := rfl
theorem length_fillDn (j : Nat) (s : List Nat) : (fillDn j s).length = j + s.length := by simp [fillDn]
theorem fillDn_set {j : Nat} (h : 0 < j) (s : List Nat) (y : Nat) : (fillDn j s).set (j - 1) y = fillDn (j - 1) (y :: s) := by
  obtain ⟨k, rfl⟩ : ∃ k, j = k + 1 := ⟨j - 1, by omega⟩
  unfold fillDn
  rw [Nat.add_sub_cancel, List.replicate_succ', List.append_assoc, List.set_append_right _ _ (by simp)]
  simp

theorem small_step {X Q q r r' x b t : Nat} (h : X = b * Q + r) (ht : t = r * 4294967296 + x) (hq : q = t / b) (hr : r' = t % b) : x + 4294967296 * X = b * (q + 4294967296 * Q) + r' := by
  have : t = b * q + r' := by rw [hq, hr]; exact (Nat.div_add_mod t b).symm
  grind

theorem limbs_top_ne {n : Nat} (h : 0 < (limbs n).length) : (limbs n).getD ((limbs n).length - 1) 0 ≠ 0 := by
  induction n using Nat.strongRecOn with
  | _ n ih =>
    by_cases h0 : n = 0
    · subst h0; simp [limbs_zero] at h
    · rw [limbs_pos (by omega)]
      by_cases h1 : (limbs (n / 4294967296)).length = 0
      · have e : limbs (n / 4294967296) = [] := List.eq_nil_of_length_eq_zero h1
        rw [e]
        have : n / 4294967296 = 0 := by rw [← val_limbs (n / 4294967296), e]; rfl
        simp; omega
      · have := ih (n / 4294967296) (by omega) (by omega)
        have e : (n % 4294967296 :: limbs (n / 4294967296)).length - 1 = ((limbs (n / 4294967296)).length - 1) + 1 := by simp only [List.length_cons]; omega
        rw [e]
        simpa using this

theorem take_limbs {xs : List Nat} (h : Fit xs) : xs.take (limbs (val xs)).length = limbs (val xs) := by
  have hl := limbs_len_le h
  have e : val (xs.take (limbs (val xs)).length) = val xs := by
    have h1 := val_split xs (limbs (val xs)).length hl
    have h2 : val xs < 4294967296 ^ (limbs (val xs)).length := by
      have := val_lt (fit_limbs (val xs))
      rwa [val_limbs] at this
    have h3 : val (xs.drop (limbs (val xs)).length) = 0 := Classical.byContradiction fun hne => by
      have : 4294967296 ^ (limbs (val xs)).length * 1 ≤ 4294967296 ^ (limbs (val xs)).length * val (xs.drop (limbs (val xs)).length) := Nat.mul_le_mul_left _ (by omega)
      omega
    rw [h3] at h1
    omega
  have hlen : (xs.take (limbs (val xs)).length).length = (limbs (val xs)).length := by rw [List.length_take]; omega
  by_cases h0 : (limbs (val xs)).length = 0
  · rw [h0]; simp [List.eq_nil_of_length_eq_zero h0]
  · rw [← limbs_of_val (fit_take h _) ?_, e]
    right
    rw [hlen]
    refine Nat.pos_of_ne_zero fun hz => ?_
    have h4 := val_take_succ (xs.take (limbs (val xs)).length) ((limbs (val xs)).length - 1) (by omega)
    rw [Nat.sub_add_cancel (by omega), val_take_all (by omega), e, hz, Nat.mul_zero, Nat.add_zero] at h4
    have h5 := val_lt (fit_take (fit_take h (limbs (val xs)).length) ((limbs (val xs)).length - 1))
    rw [← h4, List.length_take, hlen, Nat.min_eq_left (by omega)] at h5
    have h6 := limbs_len_of_lt h5
    omega

/-! ### Digits -/

/-- The decimal digits, the least first. -/
def decLE (n : Nat) : List Nat := if n = 0 then [] else n % 10 :: decLE (n / 10)
termination_by n
decreasing_by omega

theorem decLE_zero : decLE 0 = [] := by unfold decLE; simp
theorem decLE_pos {n : Nat} (h : n ≠ 0) : decLE n = n % 10 :: decLE (n / 10) := by rw [decLE]; simp [h]
theorem decLE_len {n k : Nat} (h : n < 10 ^ k) : (decLE n).length ≤ k := by
  induction k generalizing n with
  | zero => have : n = 0 := by omega
            subst this; simp [decLE_zero]
  | succ k ih =>
    by_cases h0 : n = 0
    · subst h0; simp [decLE_zero]
    · rw [decLE_pos h0, List.length_cons]
      have := ih (n := n / 10) (by rw [Nat.pow_succ] at h; omega)
      omega
theorem decLE_lt (n : Nat) : ∀ d ∈ decLE n, d < 10 := by
  induction n using Nat.strongRecOn with
  | _ n ih =>
    by_cases h0 : n = 0
    · subst h0; simp [decLE_zero]
    · rw [decLE_pos h0]
      intro d hd
      rcases List.mem_cons.1 hd with rfl | hd
      · omega
      · exact ih (n / 10) (by omega) d hd
theorem decLE_len_limbs {xs : List Nat} (h : Fit xs) : (decLE (val xs)).length ≤ 10 * xs.length := by
  refine decLE_len (Nat.lt_of_lt_of_le (val_lt h) ?_)
  rw [Nat.pow_mul]
  exact Nat.pow_le_pow_left (by omega) _

/-- The characters of the digits, the least first. -/
def chLE (n : Nat) : List Nat := (decLE n).map (48 + ·)
/-- A number's text. -/
def txt (n : Nat) : List Nat := if n = 0 then [48] else (chLE n).reverse
theorem chLE_zero : chLE 0 = [] := by simp [chLE, decLE_zero]
theorem chLE_pos {n : Nat} (h : n ≠ 0) : chLE n = (48 + n % 10) :: chLE (n / 10) := by rw [chLE, decLE_pos h]; rfl
theorem chLE_lt (n : Nat) : ∀ d ∈ chLE n, d < 256 := by
  intro d hd
  obtain ⟨x, hx, rfl⟩ := List.mem_map.1 hd
  have := decLE_lt n x hx
  omega
theorem chLE_len {xs : List Nat} (h : Fit xs) : (chLE (val xs)).length ≤ 10 * xs.length := by rw [chLE, List.length_map]; exact decLE_len_limbs h

/-- One digit is struck off x + 10^(k+1) * n. -/
theorem chLE_step {x n k : Nat} (h : x ≠ 0 ∨ n ≠ 0) : chLE (x + 10 ^ (k + 1) * n) = (48 + x % 10) :: chLE (x / 10 + 10 ^ k * n) := by
  have hp : 0 < 10 ^ k := Nat.pow_pos (by omega)
  have e : 10 ^ (k + 1) * n = 10 * (10 ^ k * n) := by rw [Nat.pow_succ, Nat.mul_comm (10 ^ k) 10, Nat.mul_assoc]
  have hne : x + 10 ^ (k + 1) * n ≠ 0 := by
    rcases h with h | h
    · omega
    · have := Nat.mul_pos (Nat.pow_pos (n := k + 1) (show 0 < 10 by omega)) (Nat.pos_of_ne_zero h)
      omega
  rw [chLE_pos hne, e, show (x + 10 * (10 ^ k * n)) % 10 = x % 10 by omega, show (x + 10 * (10 ^ k * n)) / 10 = x / 10 + 10 ^ k * n by omega]

theorem reverse_of_get {xs ys : List Nat} (hl : ys.length = xs.length) (h : ∀ k, k < xs.length → ys.getD k 0 = xs.getD (xs.length - 1 - k) 0) : ys = xs.reverse := by
  apply List.ext_getElem (by simp [hl])
  intro i h1 h2
  have := h i (by omega)
  rw [List.getD_eq_getElem?_getD, List.getElem?_eq_getElem h1, List.getD_eq_getElem?_getD, List.getElem?_eq_getElem (by omega)] at this
  rw [List.getElem_reverse]
  simpa using this
theorem limbs_len_pos {n : Nat} : 0 < (limbs n).length ↔ n ≠ 0 := by
  by_cases h : n = 0
  · subst h; simp [limbs_zero]
  · rw [limbs_pos (by omega)]; simp [h]
theorem limbs_lt_pow (n : Nat) : n < 4294967296 ^ (limbs n).length := by
  have := val_lt (fit_limbs n)
  rwa [val_limbs] at this
theorem limbs_len_mul (m n : Nat) : (limbs (m * n)).length ≤ (limbs m).length + (limbs n).length := by
  refine limbs_len_of_lt ?_
  rw [Nat.pow_add]
  rcases Nat.eq_zero_or_pos n with h | h
  · subst h
    rw [Nat.mul_zero]
    exact Nat.mul_pos (Nat.pow_pos (by omega)) (Nat.pow_pos (by omega))
  · exact Nat.lt_of_lt_of_le (Nat.mul_lt_mul_of_pos_right (limbs_lt_pow m) h) (Nat.mul_le_mul_left _ (Nat.le_of_lt (limbs_lt_pow n)))
theorem limbs_len_add (m n : Nat) : (limbs (m + n)).length ≤ (limbs m).length + (limbs n).length + 1 := by
  refine limbs_len_of_lt ?_
  have h1 := limbs_lt_pow m
  have h2 := limbs_lt_pow n
  have h3 : (4294967296 : Nat) ^ (limbs m).length ≤ 4294967296 ^ ((limbs m).length + (limbs n).length) := Nat.pow_le_pow_right (by decide) (by omega)
  have h4 : (4294967296 : Nat) ^ (limbs n).length ≤ 4294967296 ^ ((limbs m).length + (limbs n).length) := Nat.pow_le_pow_right (by decide) (by omega)
  rw [Nat.pow_succ]
  omega
theorem limbs_len_word {n : Nat} (h : n < 18446744073709551616) : (limbs n).length ≤ 2 := limbs_len_of_lt h
theorem bitsN_half {x : Nat} (h : x ≠ 0) : bitsN x = bitsN (x / 2) + 1 := by
  by_cases h2 : 2 ≤ x
  · exact bitsN_div (k := 1) h2
  · have : x = 1 := by omega
    subst this
    decide
theorem gcd_step (m n : Nat) : Nat.gcd n (m % n) = Nat.gcd m n := by rw [Nat.gcd_comm, ← Nat.gcd_rec, Nat.gcd_comm]
theorem lt_word {n : Nat} (h : (limbs n).length ≤ 2) : n < 18446744073709551616 := Nat.lt_of_lt_of_le (limbs_lt_pow n) (Nat.pow_le_pow_right (by decide) h)
theorem valid_limbs (n : Nat) : limbs n = [] ∨ (limbs n).getD ((limbs n).length - 1) 0 ≠ 0 := by
  by_cases h : (limbs n).length = 0
  · exact .inl (List.eq_nil_of_length_eq_zero h)
  · exact .inr (limbs_top_ne (by omega))
theorem limbs_eq {xs : List Nat} (h : Fit xs) (hl : xs.length ≤ (limbs (val xs)).length) : limbs (val xs) = xs := by
  have := take_limbs h
  rw [List.take_of_length_le hl] at this
  exact this.symm
theorem limbs_len_gt {n i : Nat} (h : 4294967296 ^ i ≤ n) : i < (limbs n).length := by
  refine Classical.byContradiction fun hc => ?_
  have h1 := limbs_lt_pow n
  have h2 : (4294967296 : Nat) ^ (limbs n).length ≤ 4294967296 ^ i := Nat.pow_le_pow_right (by decide) (by omega)
  omega
end Bk
