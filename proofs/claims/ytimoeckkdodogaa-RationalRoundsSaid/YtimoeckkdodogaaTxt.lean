/- Reading digits, in plain numbers. -/
import Derived.Test.YtimoeckkdodogaaDiv
namespace Bk
set_option linter.unusedVariables false
set_option linter.unusedSimpArgs false

/-- The first limbs are new, the others are as they were. -/
def mixA (ps os : List Nat) : List Nat := ps ++ os.drop ps.length
theorem mixA_nil (os : List Nat) : mixA [] os = os := rfl
theorem mixA_len {ps os : List Nat} (h : ps.length ≤ os.length) : (mixA ps os).length = os.length := by simp [mixA]; omega
theorem mixA_get {ps os : List Nat} {k : Nat} (h : ps.length ≤ k) : (mixA ps os).getD k 0 = os.getD k 0 := by
  rw [List.getD_eq_getElem?_getD, mixA, List.getElem?_append_right h, List.getElem?_drop, ← List.getD_eq_getElem?_getD, show ps.length + (k - ps.length) = k by omega]
theorem mixA_set {ps os : List Nat} (h : ps.length < os.length) (y : Nat) : (mixA ps os).set ps.length y = mixA (ps ++ [y]) os := by
  rw [mixA, mixA, List.set_append_right _ _ (Nat.le_refl _), Nat.sub_self, drop_eq_cons os _ h, List.set_cons_zero, List.length_append, List.length_singleton, List.append_assoc, List.singleton_append]
theorem mixA_full {ps os : List Nat} (h : ps.length = os.length) : mixA ps os = ps := by rw [mixA, List.drop_of_length_le (by omega), List.append_nil]

/-- All are digits. -/
def digB (bs : List Nat) : Bool := bs.all fun b => decide (48 ≤ b) && decide (b ≤ 57)
/-- The number that digits stand for. -/
def hor (bs : List Nat) : Nat := bs.foldl (fun a b => 10 * a + (b - 48)) 0
theorem hor_nil : hor [] = 0 := rfl
theorem hor_snoc (bs : List Nat) (b : Nat) : hor (bs ++ [b]) = 10 * hor bs + (b - 48) := by simp [hor, List.foldl_append]
theorem digB_nil : digB [] = true := rfl
theorem digB_snoc (bs : List Nat) (b : Nat) : digB (bs ++ [b]) = (digB bs && (decide (48 ≤ b) && decide (b ≤ 57))) := by simp [digB, List.all_append]
theorem digB_bad {bs : List Nat} {i : Nat} (hi : i < bs.length) (h : bs.getD i 0 < 48 ∨ 57 < bs.getD i 0) : digB bs = false := by
  refine Bool.eq_false_iff.2 fun ht => ?_
  have h1 := List.all_eq_true.1 ht (bs.getD i 0) (by rw [List.getD_eq_getElem?_getD, List.getElem?_eq_getElem hi]; exact List.getElem_mem _)
  simp only [Bool.and_eq_true, decide_eq_true_eq] at h1
  omega
theorem digB_get {bs : List Nat} (h : digB bs = true) {i : Nat} (hi : i < bs.length) : 48 ≤ bs.getD i 0 ∧ bs.getD i 0 ≤ 57 := by
  have h1 := List.all_eq_true.1 h (bs.getD i 0) (by rw [List.getD_eq_getElem?_getD, List.getElem?_eq_getElem hi]; exact List.getElem_mem _)
  simp only [Bool.and_eq_true, decide_eq_true_eq] at h1
  omega
theorem digB_take {bs : List Nat} {i : Nat} (h : digB (bs.take i) = true) (hi : i < bs.length) (h1 : 48 ≤ bs.getD i 0) (h2 : bs.getD i 0 ≤ 57) : digB (bs.take (i + 1)) = true := by
  rw [take_succ bs i hi, digB_snoc, h]
  simp only [Bool.true_and, Bool.and_eq_true, decide_eq_true_eq]
  omega
theorem hor_take {bs : List Nat} {i : Nat} (hi : i < bs.length) : hor (bs.take (i + 1)) = 10 * hor (bs.take i) + (bs.getD i 0 - 48) := by rw [take_succ bs i hi, hor_snoc]

/-- What a text is read as, and the error. -/
def perr (bs : List Nat) : Int := if 4096 < bs.length then 2 else if bs.length = 0 then 4 else if digB bs = true then 0 else 4
def pval (bs : List Nat) : Nat := if 4096 < bs.length then 0 else if digB bs = true then hor bs else 0

theorem parse_bad {bs : List Nat} (h : bs.length ≤ 4096) (hne : bs.length ≠ 0) (hd : digB bs = false) : perr bs = 4 ∧ pval bs = 0 := by
  refine ⟨?_, ?_⟩
  · rw [perr, if_neg (by omega), if_neg hne, hd]; rfl
  · rw [pval, if_neg (by omega), hd]; rfl
theorem parse_ok {bs : List Nat} (h : bs.length ≤ 4096) (hne : bs.length ≠ 0) (hd : digB bs = true) : perr bs = 0 ∧ pval bs = hor bs := by
  refine ⟨?_, ?_⟩
  · rw [perr, if_neg (by omega), if_neg hne, if_pos hd]
  · rw [pval, if_neg (by omega), if_pos hd]

/-- A digit is laid under the limbs. -/
theorem hor_full {os ps : List Nat} {H d c : Nat} (hf : Fit ps) (hos : os = limbs H) (hl : ps.length = os.length) (hc : c < 4294967296) (hv : val ps + 4294967296 ^ ps.length * c = d + 10 * val os) :
    (0 < c → ps ++ [c % 4294967296] = limbs (10 * H + d)) ∧ (c = 0 → ps = limbs (10 * H + d)) := by
  subst hos
  rw [val_limbs] at hv
  refine ⟨fun h => ?_, fun h => ?_⟩
  · rw [Nat.mod_eq_of_lt hc]
    have e : val (ps ++ [c]) = 10 * H + d := by rw [val_snoc]; omega
    rw [← e, limbs_eq (fit_append hf (fit_one hc))]
    rw [e, List.length_append, List.length_singleton]
    refine limbs_len_gt ?_
    have := Nat.le_mul_of_pos_right (4294967296 ^ ps.length) h
    omega
  · subst h
    have e : val ps = 10 * H + d := by omega
    rw [← e, limbs_eq hf]
    rw [e, hl]
    exact limbs_len_mono (by omega)

theorem hor_len {bs : List Nat} (h : digB bs = true) : hor bs < 10 ^ bs.length := by
  have key : ∀ n, n ≤ bs.length → hor (bs.take n) < 10 ^ n := by
    intro n
    induction n with
    | zero => intro _; simp [hor]
    | succ n ih =>
      intro hn
      have h1 := ih (by omega)
      have h2 := digB_get h (i := n) (by omega)
      rw [hor_take (by omega), Nat.pow_succ]
      omega
  have := key bs.length (Nat.le_refl _)
  rwa [List.take_length] at this

/-- The text of a number is read as the number. -/
theorem hor_chLE (n : Nat) : hor (chLE n).reverse = n := by
  induction n using Nat.strongRecOn with
  | _ n ih =>
    by_cases h : n = 0
    · subst h; rw [chLE_zero]; rfl
    · rw [chLE_pos h, List.reverse_cons, hor_snoc, ih (n / 10) (by omega)]
      omega
theorem digB_chLE (n : Nat) : digB (chLE n).reverse = true := by
  refine List.all_eq_true.2 fun b hb => ?_
  obtain ⟨x, hx, rfl⟩ := List.mem_map.1 (List.mem_reverse.1 hb)
  have := decLE_lt n x hx
  simp only [Bool.and_eq_true, decide_eq_true_eq]
  omega
theorem hor_txt (n : Nat) : hor (txt n) = n := by
  unfold txt
  by_cases h : n = 0
  · rw [if_pos h, h]; rfl
  · rw [if_neg h, hor_chLE]
theorem digB_txt (n : Nat) : digB (txt n) = true := by
  unfold txt
  by_cases h : n = 0
  · rw [if_pos h]; rfl
  · rw [if_neg h, digB_chLE]
theorem txt_ne (n : Nat) : 0 < (txt n).length := by
  unfold txt
  by_cases h : n = 0
  · rw [if_pos h]; simp
  · rw [if_neg h, chLE_pos h]; simp
theorem txt_len (n : Nat) : (txt n).length ≤ 10 * (limbs n).length + 1 := by
  unfold txt
  by_cases h : n = 0
  · rw [if_pos h]; simp
  · rw [if_neg h, List.length_reverse]
    have := chLE_len (fit_limbs n)
    rw [val_limbs] at this
    omega
theorem txt_lt (n : Nat) : ∀ x ∈ txt n, x < 256 := by
  unfold txt
  by_cases h : n = 0
  · rw [if_pos h]; simp
  · rw [if_neg h]; intro x hx; exact chLE_lt n x (List.mem_reverse.1 hx)

/-! ### Shifts -/

/-- What a shift yields. -/
def shN (X : Nat) (n : Int) : Nat := if 16384 < n then 0 else if 0 ≤ n then X * 2 ^ n.toNat else X / 2 ^ (-n).toNat
def shE (n : Int) : Int := if 16384 < n then 2 else 0

theorem shN_up {X : Nat} {n : Int} (h : ¬ 16384 < n) (h0 : 0 ≤ n) : shN X n = X * 2 ^ n.toNat := by rw [shN, if_neg h, if_pos h0]
theorem shN_down {X : Nat} {n : Int} (h0 : ¬ 0 ≤ n) : shN X n = X / 2 ^ (-n).toNat := by rw [shN, if_neg (by omega), if_neg h0]
theorem div_pow_zero {X k : Nat} (h : 32 * (limbs X).length ≤ k) : X / 2 ^ k = 0 := by
  refine Nat.div_eq_of_lt (Nat.lt_of_lt_of_le (limbs_lt_pow X) ?_)
  rw [show (4294967296 : Nat) = 2 ^ 32 by decide, ← Nat.pow_mul]
  exact Nat.pow_le_pow_right (by decide) h
theorem div_pow_split (X k s : Nat) : X / 4294967296 ^ k / 2 ^ s = X / 2 ^ (32 * k + s) := by
  rw [Nat.div_div_eq_div_mul, Nat.pow_add, Nat.pow_mul]
theorem mul_pow_split (X k s : Nat) : 4294967296 ^ k * (X * 2 ^ s) = X * 2 ^ (32 * k + s) := by
  rw [Nat.pow_add, Nat.pow_mul]
  grind
theorem shrD_two {s : Nat} {xs : List Nat} {i : Nat} (hs : s ≤ 32) (h : i < xs.length) : (xs.getD i 0 + 4294967296 * xs.getD (i + 1) 0) / 2 ^ s % 4294967296 = shrD s xs i := by
  have e : (4294967296 : Nat) = 2 ^ s * 2 ^ (32 - s) := by rw [← Nat.pow_add, show s + (32 - s) = 32 by omega]
  have hp : 0 < 2 ^ s := Nat.pow_pos (by omega)
  rw [shrD, val_drop xs i h]
  by_cases h2 : i + 1 < xs.length
  · rw [val_drop xs (i + 1) h2]
    generalize xs.getD i 0 = a
    generalize xs.getD (i + 1) 0 = b
    generalize val (List.drop (i + 1 + 1) xs) = c
    have h4 : a + 4294967296 * (b + 4294967296 * c) = (a + 4294967296 * b) + 2 ^ s * (4294967296 * (2 ^ (32 - s) * c)) := by
      have : 4294967296 * (4294967296 * c) = 2 ^ s * (4294967296 * (2 ^ (32 - s) * c)) := by
        conv => lhs; lhs; rw [e]
        generalize 2 ^ s = u
        generalize 2 ^ (32 - s) = v
        generalize (4294967296 : Nat) = B
        grind
      omega
    rw [h4, Nat.add_mul_div_left _ _ hp, Nat.add_mul_mod_self_left]
  · rw [getD_out (xs := xs) (i := i + 1) (by omega), List.drop_of_length_le (by omega)]
    rfl

theorem shrD_take {s : Nat} {xs : List Nat} (hf : Fit xs) : val ((List.range xs.length).map (shrD s xs)) = val xs / 2 ^ s := by
  rw [val_shrM_take hf]
  exact Nat.mod_eq_of_lt (Nat.lt_of_le_of_lt (Nat.div_le_self _ _) (val_lt hf))
theorem bits_len (n : Nat) : bitsN n ≤ 32 * (limbs n).length := by
  refine bitsN_le ?_
  rw [Nat.pow_mul]
  exact limbs_lt_pow n
theorem shN_back (A n : Nat) : shN (A * 2 ^ n) (-(n : Int)) = A := by
  by_cases h : n = 0
  · subst h
    rw [shN_up (by omega) (by omega)]
    simp
  · rw [shN_down (by omega), show (- -(n : Int)).toNat = n by omega, Nat.mul_div_cancel _ (Nat.pow_pos (by omega))]
theorem shE_zero {n : Int} (h : n ≤ 16384) : shE n = 0 := by rw [shE, if_neg (by omega)]
theorem limbs_len_pow {n : Nat} (h : n < 256) : (limbs (2 ^ n)).length ≤ 8 := limbs_len_of_lt (Nat.lt_of_lt_of_le (Nat.pow_lt_pow_right (by decide) h) (by decide))
theorem limbs_shift {X : Nat} (hX : X ≠ 0) (k : Nat) : List.replicate k 0 ++ limbs X = limbs (X * 4294967296 ^ k) := by
  have hv : val (List.replicate k 0 ++ limbs X) = X * 4294967296 ^ k := by rw [val_append, val_replicate, List.length_replicate, val_limbs, Nat.zero_add, Nat.mul_comm]
  have hf : Fit (List.replicate k 0 ++ limbs X) := fit_append (fit_replicate _) (fit_limbs _)
  rw [← hv, limbs_eq hf]
  rw [hv, List.length_append, List.length_replicate]
  have hp := limbs_len_pos.2 hX
  have h1 := pow_le_of_limbs_len (n := X) (k := (limbs X).length - 1) (by omega)
  have h2 : 4294967296 ^ (k + ((limbs X).length - 1)) ≤ X * 4294967296 ^ k := by
    rw [Nat.pow_add, Nat.mul_comm]
    exact Nat.mul_le_mul_right _ h1
  have h3 := limbs_len_gt h2
  omega
theorem limbs_one {t : Nat} (h0 : t ≠ 0) (h : t < 4294967296) : limbs t = [t] := by
  rw [limbs_pos (by omega), Nat.mod_eq_of_lt h, Nat.div_eq_of_lt h, limbs_zero]
theorem limbs_last {Y : Nat} (h : 0 < (limbs Y).length) : (limbs Y).drop ((limbs Y).length - 1) = limbs ((limbs Y).getD ((limbs Y).length - 1) 0) := by
  rw [limbs_one (limbs_top_ne h) (fit_get (fit_limbs Y) _), drop_eq_cons _ _ (by omega), List.drop_of_length_le (by omega)]
theorem limbs_len_shl (X k : Nat) : (limbs (X * 4294967296 ^ k)).length ≤ (limbs X).length + k := by
  refine limbs_len_of_lt ?_
  rw [Nat.pow_add]
  exact Nat.mul_lt_mul_of_pos_right (limbs_lt_pow X) (Nat.pow_pos (by decide))

/-! ### Division by estimates -/

theorem rdiv_est {V W P v1 v2 vr top u3 wr : Nat} (hV : V = (v1 * 4294967296 + v2) * P + vr) (hW : W = (top * 4294967296 + u3) * P + wr) (hu : u3 < 4294967296) (hw : wr < P) (h1 : 0 < v1) (hWV : W < 4294967296 * V) : W < (min (top / v1) 4294967295 + 1) * V := by
  by_cases h : top / v1 ≤ 4294967295
  · rw [Nat.min_eq_left h]; exact est_init hV hW hu hw h1
  · rw [Nat.min_eq_right (by omega)]; exact hWV
theorem lt_of_div {R k m V : Nat} (h : R / 4294967296 ^ k < m * V) : R < V * m * 4294967296 ^ k := by
  have := Nat.lt_mul_of_div_lt h (Nat.pow_pos (by decide))
  rw [Nat.mul_comm V m]
  exact this
theorem rdiv_low {R V k : Nat} (h : R < 4294967296 ^ (k + 1) * V) : R / 4294967296 ^ k < 4294967296 * V := by
  refine Nat.div_lt_of_lt_mul ?_
  rw [Nat.pow_succ, Nat.mul_assoc] at h
  exact h
theorem rq_step {B p R q d V U : Nat} (h : R + p * B * (q * V) = U) (hle : V * d * p ≤ R) : R - V * d * p + p * ((d + B * q) * V) = U := by
  obtain ⟨t, rfl⟩ : ∃ t, R = V * d * p + t := ⟨R - V * d * p, by omega⟩
  rw [Nat.add_sub_cancel_left]
  grind
theorem rq_lt {R V d p : Nat} (h : R < V * (d + 1) * p) (hle : V * d * p ≤ R) : R - V * d * p < p * V := by
  have : V * (d + 1) * p = V * d * p + p * V := by grind
  omega
theorem rq_back {V d p : Nat} (h : 1 ≤ d) : V * d * p - V * p = V * (d - 1) * p ∧ V * p ≤ V * d * p := by
  obtain ⟨e, rfl⟩ : ∃ e, d = e + 1 := ⟨d - 1, by omega⟩
  have : V * (e + 1) * p = V * e * p + V * p := by grind
  rw [Nat.add_sub_cancel]
  omega
theorem rdiv_start {U V r n : Nat} (hU : U < 4294967296 ^ r) (hV : 4294967296 ^ (n - 1) ≤ V) (hn : 1 ≤ n) (hr : n ≤ r) : U < 4294967296 ^ (r - n + 1) * V := by
  refine Nat.lt_of_lt_of_le hU ?_
  have h1 : (4294967296 : Nat) ^ r = 4294967296 ^ (r - n + 1) * 4294967296 ^ (n - 1) := by rw [← Nat.pow_add, show r - n + 1 + (n - 1) = r by omega]
  rw [h1]
  exact Nat.mul_le_mul_left _ hV
end Bk
