/- Rational numbers: plain laws for the walks of their arithmetic. -/
import Derived.Test.YtimoeckkdodogaaRat
namespace Bk
set_option linter.unusedVariables false
set_option linter.unusedSimpArgs false
open Go Go.RowKit
open Classical

theorem sgnQ_zero {q : Rat} (h : q = 0) : sgnQ q = 0 := if_pos h
theorem sgnQ_neg {q : Rat} (h : q.num < 0) : sgnQ q = -1 := by
  unfold sgnQ
  rw [if_neg (fun e => by rw [e] at h; exact absurd h (by decide)), if_pos h]
theorem sgnQ_pos {q : Rat} (h : q ≠ 0) (h' : ¬ q.num < 0) : sgnQ q = 1 := by unfold sgnQ; rw [if_neg h, if_neg h']
theorem num_zero_bits {q : Rat} (h : (↑(bitsN q.num.natAbs) : Int) = 0) : q = 0 := by
  have := (bitsN_eq_zero (n := q.num.natAbs)).1 (by omega)
  exact Rat.num_eq_zero.1 (by omega)
theorem bits_zero_num {q : Rat} (h : q = 0) : (↑(bitsN q.num.natAbs) : Int) = 0 := by subst h; decide
theorem den_eq {a b : Rat} : limbs (denN a.den) = limbs (denN b.den) ↔ a.den = b.den := by
  refine ⟨fun h => ?_, fun h => by rw [h]⟩
  have h1 := limbs_inj h
  have ha := a.den_nz
  have hb := b.den_nz
  unfold denN at h1
  split at h1 <;> split at h1 <;> omega
theorem rat_eq {a b : Rat} (h1 : a.num = b.num) (h2 : a.den = b.den) : a = b := by
  rw [← Rat.mkRat_self a, ← Rat.mkRat_self b, h1, h2]
theorem same_iff {a b : Rat} : (((a.num < 0 ↔ b.num < 0) ∧ limbs a.num.natAbs = limbs b.num.natAbs) ∧ limbs (denN a.den) = limbs (denN b.den)) ↔ a = b := by
  refine ⟨fun ⟨⟨h1, h2⟩, h3⟩ => rat_eq ?_ (den_eq.1 h3), fun h => by subst h; simp⟩
  have := limbs_inj h2
  omega

theorem sgn_same {a b : Rat} (h : ¬ sgnQ a ≠ sgnQ b) : a.num < 0 ↔ b.num < 0 := by
  have h := Classical.not_not.1 h
  by_cases h1 : a.num < 0 <;> by_cases h2 : b.num < 0
  · simp [h1, h2]
  · rw [sgnQ_neg h1] at h
    by_cases h3 : b = 0
    · rw [sgnQ_zero h3] at h; omega
    · rw [sgnQ_pos h3 h2] at h; omega
  · rw [sgnQ_neg h2] at h
    by_cases h3 : a = 0
    · rw [sgnQ_zero h3] at h; omega
    · rw [sgnQ_pos h3 h1] at h; omega
  · simp [h1, h2]
/-- The order of the sizes of two numbers. -/
def cN (a b : Rat) : Int := cmpN (a.num.natAbs * b.den) (b.num.natAbs * a.den)
theorem cN_range (a b : Rat) : -1 ≤ cN a b ∧ cN a b ≤ 1 := by
  unfold cN cmpN
  split
  · omega
  · split <;> omega
theorem cmpQ_cN {a b : Rat} (h : a.num < 0 ↔ b.num < 0) (hn : a.num < 0) : cmpQ a b = -(cN a b) := by rw [cmpQ_num a b h, if_pos hn]; rfl
theorem cmpQ_cN' {a b : Rat} (h : a.num < 0 ↔ b.num < 0) (hn : ¬ a.num < 0) : cmpQ a b = cN a b := by rw [cmpQ_num a b h, if_neg hn]; rfl
theorem cN_den {a b : Rat} (h : limbs (denN a.den) = limbs (denN b.den)) : cN a b = cmpN a.num.natAbs b.num.natAbs := by
  unfold cN cmpN
  rw [den_eq.1 h]
  have hp := Nat.pos_of_ne_zero b.den_nz
  by_cases h1 : a.num.natAbs < b.num.natAbs
  · rw [if_pos h1, if_pos (Nat.mul_lt_mul_of_pos_right h1 hp)]
  · rw [if_neg h1, if_neg (fun e => h1 (Nat.lt_of_mul_lt_mul_right e))]
    by_cases h2 : a.num.natAbs = b.num.natAbs
    · rw [if_pos h2, h2, if_pos rfl]
    · rw [if_neg h2, if_neg (fun e => h2 (Nat.eq_of_mul_eq_mul_right hp e))]

/-- Numbers with one limb each. -/
theorem small_mul {m n : Nat} (hm : m < 4294967296) (hn : n < 4294967296) : m * n ≤ 18446744065119617025 := by
  have := Nat.mul_le_mul (show m ≤ 4294967295 by omega) (show n ≤ 4294967295 by omega)
  omega

/-- b with another sign. -/
noncomputable def sgd (s : Prop) (b : Rat) : Rat := mkRat (sg s b.num.natAbs) b.den
theorem sgd_self (b : Rat) : sgd (b.num < 0) b = b := mk_self b
theorem sgd_neg (b : Rat) : sgd (¬ b.num < 0) b = -b := by
  unfold sgd
  rw [← mk_neg, mk_self]
theorem lq_sgd (s : Prop) (b : Rat) : lq (sgd s b) ≤ lq b := lq_mk (lq_num b) (lq_den b) (lq_pos b)
theorem add_sgd {a b : Rat} {s : Prop} (h : (a.num < 0) ↔ s) : a + sgd s b = mkRat (sg s (a.num.natAbs * b.den + b.num.natAbs * a.den)) (a.den * b.den) := by
  have := mk_add s (n := a.num.natAbs) (m := b.num.natAbs) a.den_nz b.den_nz
  rw [← mk_iff h a.num.natAbs, mk_self] at this
  exact this
theorem sub_sgd {a b : Rat} {s : Prop} (h : ¬ ((a.num < 0) ↔ s)) (hle : b.num.natAbs * a.den ≤ a.num.natAbs * b.den) : a + sgd s b = mkRat (sg (a.num < 0) (a.num.natAbs * b.den - b.num.natAbs * a.den)) (a.den * b.den) := by
  have := mk_sub h (n := a.num.natAbs) (m := b.num.natAbs) a.den_nz b.den_nz hle
  rw [mk_self] at this
  exact this
theorem sub_sgd' {a b : Rat} {s : Prop} (h : ¬ ((a.num < 0) ↔ s)) (hle : a.num.natAbs * b.den ≤ b.num.natAbs * a.den) : a + sgd s b = mkRat (sg s (b.num.natAbs * a.den - a.num.natAbs * b.den)) (a.den * b.den) := by
  have := mk_sub' h (n := a.num.natAbs) (m := b.num.natAbs) a.den_nz b.den_nz hle
  rw [mk_self] at this
  exact this
/-- The same with one denominator. -/
theorem add_sgd1 {a b : Rat} {s : Prop} (h : (a.num < 0) ↔ s) (hd : a.den = b.den) : a + sgd s b = mkRat (sg s (a.num.natAbs + b.num.natAbs)) a.den := by
  rw [add_sgd h, ← hd, ← Nat.add_mul, mk_scale _ _ _ a.den_nz]
theorem sub_sgd1 {a b : Rat} {s : Prop} (h : ¬ ((a.num < 0) ↔ s)) (hd : a.den = b.den) (hle : b.num.natAbs ≤ a.num.natAbs) : a + sgd s b = mkRat (sg (a.num < 0) (a.num.natAbs - b.num.natAbs)) a.den := by
  rw [sub_sgd h (by rw [← hd]; exact Nat.mul_le_mul_right _ hle), ← hd, ← Nat.sub_mul, mk_scale _ _ _ a.den_nz]
theorem sub_sgd1' {a b : Rat} {s : Prop} (h : ¬ ((a.num < 0) ↔ s)) (hd : a.den = b.den) (hle : a.num.natAbs ≤ b.num.natAbs) : a + sgd s b = mkRat (sg s (b.num.natAbs - a.num.natAbs)) a.den := by
  rw [sub_sgd' h (by rw [← hd]; exact Nat.mul_le_mul_right _ hle), ← hd, ← Nat.sub_mul, mk_scale _ _ _ a.den_nz]
theorem mul_eq (a b : Rat) : mkRat (sg (¬ ((a.num < 0) ↔ (b.num < 0))) (a.num.natAbs * b.num.natAbs)) (a.den * b.den) = a * b := by
  rw [← mk_mul, mk_self, mk_self]
theorem quo_eq (a : Rat) {b : Rat} (hb : b ≠ 0) : mkRat (sg (¬ ((a.num < 0) ↔ (b.num < 0))) (a.num.natAbs * b.den)) (a.den * b.num.natAbs) = a / b := by
  rw [← mk_quo _ _ a.den_nz (num_ne.2 hb) b.den_nz, mk_self, mk_self]
theorem num_zero {q : Rat} (h : (↑(limbs q.num.natAbs).length : Int) = 0) : q = 0 := by
  refine Classical.byContradiction fun hne => ?_
  have := limbs_len_pos.2 (num_ne.2 hne)
  omega
theorem sgn_zero {q : Rat} : sgnQ q = 0 ↔ q = 0 := by
  refine ⟨fun h => ?_, sgnQ_zero⟩
  unfold sgnQ at h
  by_cases h1 : q = 0
  · exact h1
  · rw [if_neg h1] at h; split at h <;> omega
noncomputable def minQ (a b : Rat) : Rat := if b < a then b else a
noncomputable def maxQ (a b : Rat) : Rat := if a < b then b else a
theorem minQ_t {a b : Rat} (h : cmpQ b a < 0) : minQ a b = b := if_pos (cmpQ_neg.1 h)
theorem minQ_f {a b : Rat} (h : ¬ cmpQ b a < 0) : minQ a b = a := if_neg (fun e => h (cmpQ_neg.2 e))
theorem maxQ_t {a b : Rat} (h : 0 < cmpQ b a) : maxQ a b = b := if_pos (cmpQ_pos.1 h)
theorem maxQ_f {a b : Rat} (h : ¬ 0 < cmpQ b a) : maxQ a b = a := if_neg (fun e => h (cmpQ_pos.2 e))
theorem lq_min (a b : Rat) : lq (minQ a b) ≤ max (lq a) (lq b) := by unfold minQ; split <;> omega
theorem lq_max (a b : Rat) : lq (maxQ a b) ≤ max (lq a) (lq b) := by unfold maxQ; split <;> omega
/-- One half. -/
noncomputable def halfQ : Rat := mkRat (sg False 1) 2
theorem half_nums : halfQ.num = 1 ∧ halfQ.den = 2 := by
  unfold halfQ
  rw [mkRat_num (by omega), mkRat_den (by omega), sg_f id]
  exact ⟨rfl, rfl⟩
theorem half_num {h : Mem} {v : Value} (s : Us .u32 h v (limbs 1)) : Us .u32 h v (limbs halfQ.num.natAbs) := by
  rw [half_nums.1]; exact s
theorem half_den {h : Mem} {v : Value} (s : Us .u32 h v [2]) : Us .u32 h v (limbs (denN halfQ.den)) := by
  rw [half_nums.2, denN_ne (by omega), limbs_one (by omega) (by omega)]; exact s
theorem half_neg : vB (halfQ.num < 0) = .bool false := vB_false (by rw [half_nums.1]; decide)
theorem lq_half : lq halfQ ≤ 1 := lq_mk (by rw [limbs_one (by omega) (by omega)]; simp) (by rw [limbs_one (by omega) (by omega)]; simp) (by omega)
theorem half_val : halfQ = 1 / 2 := by
  unfold halfQ
  rw [mk_div, rz_f id]
  rfl
noncomputable def midQ (a b : Rat) : Rat := (a + b) * halfQ
theorem lq_mid (a b : Rat) : lq (midQ a b) ≤ lq a + lq b + 2 := by
  have h1 := lq_mul (a + b) halfQ
  have h2 := lq_add a b
  have h3 := lq_half
  unfold midQ
  omega

/-- The greatest integer below. -/
noncomputable def floorQ (q : Rat) : Rat := ((q.floor : Int) : Rat)
theorem floor_mk (s : Prop) {X Y : Nat} (hY : Y ≠ 0) : (mkRat (sg s X) Y).floor = sg s X / (Y : Int) := by
  rw [Rat.floor_def, mkRat_num hY, mkRat_den hY]
  have hg : 0 < Nat.gcd X Y := Nat.gcd_pos_of_pos_right _ (Nat.pos_of_ne_zero hY)
  have e1 : sg s X = sg s (X / Nat.gcd X Y) * (Nat.gcd X Y : Int) := by
    have e2 : X = X / Nat.gcd X Y * Nat.gcd X Y := (Nat.div_mul_cancel (Nat.gcd_dvd_left X Y)).symm
    by_cases h : s
    · rw [sg_t h, sg_t h, Int.neg_mul, ← Int.natCast_mul, ← e2]
    · rw [sg_f h, sg_f h, ← Int.natCast_mul, ← e2]
  have e3 : (Y : Int) = ((Y / Nat.gcd X Y : Nat) : Int) * (Nat.gcd X Y : Int) := by
    rw [← Int.natCast_mul, Nat.div_mul_cancel (Nat.gcd_dvd_right X Y)]
  generalize Nat.gcd X Y = g at *
  generalize hA : sg s (X / g) = A at *
  generalize hB : ((Y / g : Nat) : Int) = B at *
  rw [e1, e3]
  exact (Int.mul_ediv_mul_of_pos_left _ _ (by omega)).symm
theorem sg_floor (s : Prop) {X Y : Nat} (hY : Y ≠ 0) : sg s X / (Y : Int) = sg s (if s ∧ X % Y ≠ 0 then X / Y + 1 else X / Y) := by
  have hp : (0 : Int) < Y := by omega
  have e := Nat.div_add_mod X Y
  have hm := Nat.mod_lt X (Nat.pos_of_ne_zero hY)
  by_cases h : s
  · rw [sg_t h]
    by_cases h1 : X % Y = 0
    · rw [if_neg (fun e => e.2 h1), sg_t h]
      rw [Int.neg_ediv_of_dvd (Int.natCast_dvd_natCast.2 (Nat.dvd_of_mod_eq_zero h1))]
      omega
    · rw [if_pos ⟨h, h1⟩, sg_t h]
      refine (Int.ediv_eq_iff_of_pos hp).2 ?_
      have e4 : ((Y * (X / Y) + X % Y : Nat) : Int) = (X : Int) := by rw [e]
      rw [Int.natCast_add, Int.natCast_mul] at e4
      rw [Int.natCast_add]
      have hR : ((X % Y : Nat) : Int) < Y ∧ 0 < ((X % Y : Nat) : Int) := by omega
      generalize ((X / Y : Nat) : Int) = Q at *
      generalize ((X % Y : Nat) : Int) = R at *
      have e5 : -(Q + ((1 : Nat) : Int)) * (Y : Int) = -((Y : Int) * Q) - Y := by grind
      rw [e5]
      omega
  · rw [sg_f h, if_neg (fun e => h e.1), sg_f h]; omega
theorem mk_one (s : Prop) (n : Nat) : mkRat (sg s n) 1 = ((sg s n : Int) : Rat) := by
  rw [Rat.mkRat_one]
theorem floor_eq (s : Prop) {X Y : Nat} (hY : Y ≠ 0) : mkRat (sg s (if s ∧ X % Y ≠ 0 then X / Y + 1 else X / Y)) 1 = floorQ (mkRat (sg s X) Y) := by
  unfold floorQ
  rw [mk_one, floor_mk s hY, sg_floor s hY]
theorem floor_self (q : Rat) : floorQ (mkRat (sg (q.num < 0) q.num.natAbs) q.den) = floorQ q := by rw [mk_self]
theorem floorQ_num (q : Rat) : (floorQ q).num = q.floor := by unfold floorQ; rw [Rat.num_intCast]
/-- How often numbers are halved. -/
def kN (k : Int) : Nat := (min (max k 0) 4096).toNat
noncomputable def downQ (q : Rat) (k : Int) : Rat := mkRat (q * (2 ^ kN k : Nat)).floor (2 ^ kN k)
noncomputable def upQ (q : Rat) (k : Int) : Rat := -downQ (-q) k
theorem mul_pow (q : Rat) (m : Nat) : mkRat (sg (q.num < 0) (q.num.natAbs * m)) q.den = q * (m : Rat) := by
  have e : q = mkRat (sg (q.num < 0) q.num.natAbs) q.den := (mk_self q).symm
  have e2 : q * (m : Rat) = mkRat (sg (q.num < 0) q.num.natAbs) q.den * (m : Rat) := by rw [← e]
  rw [e2, mk_div, mk_div, Rat.natCast_mul]
  by_cases h : q.num < 0
  · rw [rz_t h, rz_t h]; grind
  · rw [rz_f h, rz_f h]; grind
theorem down_eq (q : Rat) (k : Int) : mkRat (sg ((floorQ (q * (2 ^ kN k : Nat))).num < 0) (floorQ (q * (2 ^ kN k : Nat))).num.natAbs) (2 ^ kN k) = downQ q k := by
  rw [sg_num, floorQ_num]; rfl
theorem lq_floor (q : Rat) : lq (floorQ q) ≤ lq q + 1 := by
  have h1 := lq_num q
  have h5 := lq_pos q
  have e := floor_eq (q.num < 0) (X := q.num.natAbs) q.den_nz
  rw [mk_self] at e
  rw [← e]
  have h2 := limbs_len_mono (Nat.div_le_self q.num.natAbs q.den)
  have h3 := limbs_len_add' (m := q.num.natAbs / q.den) (n := 1) (k := lq q) (by omega) (by rw [limbs_one (by omega) (by omega)]; exact h5)
  refine lq_mk ?_ (by rw [limbs_one (by omega) (by omega)]; simp) (by omega)
  split
  · exact h3
  · omega
theorem kN_le (k : Int) : kN k ≤ 4096 := by unfold kN; omega
theorem pow_len {k : Nat} (h : k ≤ 4096) : (limbs (2 ^ k)).length ≤ 129 := by
  have e : (4294967296 : Nat) ^ 129 = 2 ^ (32 * 129) := (Nat.pow_mul 2 32 129).symm
  have hk : k < 32 * 129 := by omega
  generalize 32 * 129 = m at *
  refine limbs_len_of_lt ?_
  rw [e]
  exact Nat.pow_lt_pow_right (by decide) hk
theorem lq_nat (m : Nat) : lq (m : Rat) = max (limbs m).length 1 := by
  have h1 : (m : Rat).num = (m : Int) := Rat.num_natCast m
  have h2 : (m : Rat).den = 1 := Rat.den_natCast m
  unfold lq
  rw [h1, h2, Int.natAbs_natCast, show limbs 1 = [1] from limbs_one (by omega) (by omega)]
  rfl
theorem lq_down (q : Rat) (k : Int) : lq (downQ q k) ≤ lq q + 130 := by
  have h1 := lq_floor (q * (2 ^ kN k : Nat))
  have h2 := lq_mul q (2 ^ kN k : Nat)
  rw [lq_nat] at h2
  have h3 := pow_len (kN_le k)
  have h4 := lq_num (floorQ (q * (2 ^ kN k : Nat)))
  rw [← down_eq]
  exact lq_mk (by omega) (by omega) (by omega)
theorem lq_up (q : Rat) (k : Int) : lq (upQ q k) ≤ lq q + 130 := by
  unfold upQ
  have := lq_down (-q) k
  rw [lq_neg] at this ⊢
  exact this
theorem lq_quo' (a b : Rat) : lq (if b = 0 then 0 else a / b) ≤ lq a + lq b := by
  have := lq_quo a b
  have h1 := lq_pos a
  split
  · rw [lq_zero]; omega
  · exact this
theorem sub_ok {p : Prop} [Decidable p] (h : (if p then 7 else 0 : Int) = 0) : ¬ p := by
  intro hp
  rw [if_pos hp] at h
  omega
theorem sub_no {p : Prop} [Decidable p] (h : ¬ (if p then 7 else 0 : Int) = 0) : p := by
  refine Classical.byContradiction fun hp => h ?_
  rw [if_neg hp]
noncomputable def bitsQ (q : Rat) : Int := max (↑(bitsN q.num.natAbs) : Int) ↑(bitsN q.den)
theorem floor_fin {s : Prop} {X Y : Nat} (hY : Y ≠ 0) (h : s ∧ (0 : Int) < ↑(bitsN (X % Y))) : mkRat (sg s (X / Y + 1)) 1 = floorQ (mkRat (sg s X) Y) := by
  rw [← floor_eq s hY, if_pos ⟨h.1, fun e => by rw [e] at h; exact absurd h.2 (by decide)⟩]
theorem floor_fin' {s : Prop} {X Y : Nat} (hY : Y ≠ 0) (h : ¬ (s ∧ (0 : Int) < ↑(bitsN (X % Y)))) : mkRat (sg s (X / Y)) 1 = floorQ (mkRat (sg s X) Y) := by
  rw [← floor_eq s hY, if_neg (fun e => h ⟨e.1, by have := bitsN_pos e.2; omega⟩)]
theorem limbs_len_i64 {n : Int} (h1 : -9223372036854775808 ≤ n) (h2 : n < 9223372036854775808) : (limbs n.natAbs).length ≤ 2 := limbs_len_word (by omega)
/-- The quotient of two integers. -/
noncomputable def makeQ (n d : Int) : Rat := (n : Rat) / (d : Rat)
theorem makeQ_zero (n : Int) : makeQ n 0 = 0 := by
  unfold makeQ
  have : ((0 : Int) : Rat) = 0 := rfl
  rw [this]; grind
theorem int_eq (n : Int) : mkRat (sg (n < 0) n.natAbs) 1 = (n : Rat) := by
  have e : sg (n < 0) n.natAbs = n := by
    by_cases h : n < 0
    · rw [sg_t h]; omega
    · rw [sg_f h]; omega
  rw [e, Rat.mkRat_one]
theorem makeQ_eq {n d : Int} (hd : d ≠ 0) : mkRat (sg (¬ ((n < 0) ↔ (d < 0))) n.natAbs) d.natAbs = makeQ n d := by
  unfold makeQ
  rw [← int_eq n, ← int_eq d, mk_quo _ _ (by omega) (by omega) (by omega), Nat.mul_one, Nat.one_mul]
theorem lq_int (n : Int) (h1 : -9223372036854775808 ≤ n) (h2 : n < 9223372036854775808) : lq (n : Rat) ≤ 2 := by
  rw [← int_eq]
  exact lq_mk (limbs_len_i64 h1 h2) (by rw [len_one]; omega) (by omega)
theorem lq_make {n d : Int} (h1 : -9223372036854775808 ≤ n) (h2 : n < 9223372036854775808) (h3 : -9223372036854775808 ≤ d) (h4 : d < 9223372036854775808) : lq (makeQ n d) ≤ 2 := by
  by_cases hd : d = 0
  · subst hd; rw [makeQ_zero, lq_zero]; omega
  · rw [← makeQ_eq hd]; exact lq_mk (limbs_len_i64 h1 h2) (limbs_len_i64 h3 h4) (by omega)
theorem shN_k (X : Nat) (k : Int) : shN X (min (max k 0) 4096) = X * 2 ^ kN k := by
  rw [shN_up (by omega) (by omega)]; rfl
theorem shN_k1 (k : Int) : shN 1 (min (max k 0) 4096) = 2 ^ kN k := by rw [shN_k, Nat.one_mul]
theorem shE_k (k : Int) : shE (min (max k 0) 4096) = 0 := shE_zero (by omega)
theorem lq_qpow (q : Rat) (k : Int) : lq (q * ((2 ^ kN k : Nat) : Rat)) ≤ lq q + 129 := by
  have h2 := lq_mul q (2 ^ kN k : Nat)
  rw [lq_nat] at h2
  have h3 := pow_len (kN_le k)
  omega
/-- The number below, 1 if there is none. -/
def dV (ys : List Nat) : Nat := if ys = [] then 1 else val ys
theorem val_dL (ys : List Nat) : val (if ys = [] then [1] else ys) = dV ys := by
  unfold dV
  split
  · rfl
  · rfl
theorem dV_zero {ys : List Nat} (h : (0 : Int) < ↑ys.length ∧ (↑(bitsN (val ys)) : Int) = 0) : dV ys = 0 := by
  unfold dV
  rw [if_neg (fun e => by rw [e] at h; simp at h)]
  exact bitsN_eq_zero.1 (by omega)
theorem dV_ne {ys : List Nat} (h : ¬ ((0 : Int) < ↑ys.length ∧ (↑(bitsN (val ys)) : Int) = 0)) : dV ys ≠ 0 := by
  unfold dV
  split
  · omega
  · rename_i h1
    intro h2
    have h3 : bitsN (val ys) = 0 := bitsN_eq_zero.2 h2
    have h4 : 0 < ys.length := List.length_pos_iff.2 h1
    exact h ⟨by omega, by omega⟩
theorem dV_zero' {ys : List Nat} (h : (0 : Int) < ↑ys.length ∧ (↑(limbs (val ys)).length : Int) = 0) : dV ys = 0 := by
  refine dV_zero ⟨h.1, ?_⟩
  have : val ys = 0 := Classical.byContradiction fun e => by have := limbs_len_pos.2 e; omega
  rw [this]; rfl
theorem dV_ne' {ys : List Nat} (h : ¬ ((0 : Int) < ↑ys.length ∧ (↑(limbs (val ys)).length : Int) = 0)) : dV ys ≠ 0 := by
  refine dV_ne fun e => h ⟨e.1, ?_⟩
  have : val ys = 0 := bitsN_eq_zero.1 (by omega)
  rw [this, limbs_zero]; rfl
theorem dL_len (ys : List Nat) : (if ys = [] then [1] else ys).length ≤ ys.length + 1 := by
  split
  · simp
  · omega
def canon (xs : List Nat) : Prop := xs = [] ∨ xs.getD (xs.length - 1) 0 ≠ 0
def badP (xs ys : List Nat) : Prop := ((¬ canon xs) ∨ (¬ canon ys)) ∨ ((↑ys.length : Int) = 1 ∧ ys.getD 0 0 = 1)
def validP (s : Prop) (xs ys : List Nat) : Prop := ¬ badP xs ys ∧ ((xs = [] → ¬ s ∧ ys = []) ∧ (xs ≠ [] → ys = [] ∨ Nat.gcd (val xs) (val ys) = 1))
theorem len_zero {xs : List Nat} : (↑xs.length : Int) = 0 ↔ xs = [] := ⟨fun h => List.eq_nil_of_length_eq_zero (by omega), fun h => by rw [h]; rfl⟩
theorem valid_nil {s : Prop} {xs ys : List Nat} (h1 : ¬ badP xs ys) (h2 : (↑xs.length : Int) = 0) : (¬ s ∧ (↑ys.length : Int) = 0) ↔ validP s xs ys := by
  have e := len_zero.1 h2
  unfold validP
  rw [len_zero]
  exact ⟨fun h => ⟨h1, fun _ => h, fun h' => absurd e h'⟩, fun h => h.2.1 e⟩
theorem valid_cons {s : Prop} {xs ys : List Nat} (h1 : ¬ badP xs ys) (h2 : ¬ (↑xs.length : Int) = 0) : ((↑ys.length : Int) = 0 ∨ (↑(bitsN (Nat.gcd (val xs) (val ys))) : Int) = 1) ↔ validP s xs ys := by
  have e := fun h => h2 (len_zero.2 h)
  have hb : ∀ n, (↑(bitsN n) : Int) = 1 ↔ n = 1 := by
    intro n
    refine ⟨fun h => bitsN_one (by omega) (fun e => by rw [e] at h; exact absurd h (by decide)), fun h => by rw [h]; rfl⟩
  unfold validP
  rw [len_zero, hb]
  exact ⟨fun h => ⟨h1, fun h' => absurd h' e, fun _ => h⟩, fun h => h.2.2 e⟩
theorem canon_limbs {xs : List Nat} (hf : Fit xs) (h : canon xs) : xs = limbs (val xs) :=
  (limbs_of_val hf (h.imp id (fun h => Nat.pos_of_ne_zero h))).symm
theorem limbs_canon (n : Nat) : canon (limbs n) := valid_limbs n
theorem dL_limbs {ys : List Nat} (hf : Fit ys) (h : canon ys) : (if ys = [] then [1] else ys) = limbs (dV ys) := by
  unfold dV
  split
  · exact one_limbs
  · exact canon_limbs hf h
theorem valid_ref {s : Prop} {xs ys : List Nat} (h : ¬ (badP xs ys ∨ ((↑xs.length : Int) = 0 ∧ (s ∨ (0 : Int) < ↑ys.length)))) : ((↑(limbs (Nat.gcd (val xs) (dV ys))).length : Int) = 1 ∧ (limbs (Nat.gcd (val xs) (dV ys))).getD 0 0 = 1) ↔ validP s xs ys := by
  have h1 : ¬ badP xs ys := fun e => h (.inl e)
  rw [limb_one_iff]
  unfold validP
  by_cases hx : xs = []
  · have hy : ¬ s ∧ ys = [] := by
      refine ⟨fun e => h (.inr ⟨len_zero.2 hx, .inl e⟩), Classical.byContradiction fun e => h (.inr ⟨len_zero.2 hx, .inr ?_⟩)⟩
      have := List.length_pos_iff.2 e
      omega
    rw [hx, hy.2]
    refine ⟨fun _ => ⟨?_, fun _ => ⟨hy.1, rfl⟩, fun e => absurd rfl e⟩, fun _ => by decide⟩
    rw [hx, hy.2] at h1; exact h1
  · have e : Nat.gcd (val xs) (dV ys) = 1 ↔ (ys = [] ∨ Nat.gcd (val xs) (val ys) = 1) := by
      unfold dV
      by_cases hy : ys = []
      · rw [if_pos hy, Nat.gcd_one_right]; simp [hy]
      · rw [if_neg hy]; simp [hy]
    rw [e]
    exact ⟨fun h2 => ⟨h1, fun e => absurd e hx, fun _ => h2⟩, fun h2 => h2.2.2 hx⟩
theorem valid_ref_f {s : Prop} {xs ys : List Nat} (h : badP xs ys ∨ ((↑xs.length : Int) = 0 ∧ (s ∨ (0 : Int) < ↑ys.length))) : ¬ validP s xs ys := by
  rintro ⟨h1, h2, h3⟩
  rcases h with h | ⟨h, h4⟩
  · exact h1 h
  · obtain ⟨h5, h6⟩ := h2 (len_zero.1 h)
    rcases h4 with h4 | h4
    · exact h5 h4
    · rw [h6] at h4; simp at h4
theorem valid_rat (q : Rat) : validP (q.num < 0) (limbs q.num.natAbs) (limbs (denN q.den)) := by
  have hz : limbs q.num.natAbs = [] ↔ q = 0 := by
    rw [← limbs_zero]
    refine ⟨fun h => Rat.num_eq_zero.1 (by have := limbs_inj h; omega), fun h => by rw [h]; rfl⟩
  refine ⟨?_, fun h => ?_, fun h => ?_⟩
  · rintro ((h | h) | h)
    · exact h (limbs_canon _)
    · exact h (limbs_canon _)
    · have h1 := limb_one_iff.1 h
      unfold denN at h1
      split at h1 <;> omega
  · rw [hz.1 h]
    exact ⟨by decide, limbs_zero⟩
  · rw [val_limbs, val_limbs]
    unfold denN
    split
    · exact .inl limbs_zero
    · exact .inr q.reduced
theorem gcd_one_of {g : Nat} (h : ¬ ((↑(limbs g).length : Int) ≠ 1 ∨ (limbs g).getD 0 0 ≠ 1)) : g = 1 :=
  limb_one_iff.1 ⟨Classical.not_not.1 fun e => h (.inl e), Classical.not_not.1 fun e => h (.inr e)⟩
theorem cmp_same {a b : Rat} : (((a.num < 0) ↔ (b.num < 0)) ∧ cmpN a.num.natAbs b.num.natAbs = 0) ∧ cmpN (denN a.den) (denN b.den) = 0 ↔ a = b := by
  rw [cmpN_zero, cmpN_zero, ← same_iff]
  constructor
  · rintro ⟨⟨h1, h2⟩, h3⟩
    exact ⟨⟨h1, by rw [h2]⟩, by rw [h3]⟩
  · rintro ⟨⟨h1, h2⟩, h3⟩
    exact ⟨⟨h1, limbs_inj h2⟩, limbs_inj h3⟩
theorem len_num {q : Rat} : (↑(limbs q.num.natAbs).length : Int) = 0 ↔ q = 0 := by
  refine ⟨num_zero, fun h => ?_⟩
  subst h
  rw [show (0 : Rat).num.natAbs = 0 from rfl, limbs_zero]; rfl
theorem num_pos_of {q : Rat} (h : ¬ (↑(limbs q.num.natAbs).length : Int) = 0) : q ≠ 0 := fun e => h (len_num.2 e)
theorem add_same {a b : Rat} (h : (a.num < 0) ↔ (b.num < 0)) : mkRat (sg (a.num < 0) (a.num.natAbs * b.den + b.num.natAbs * a.den)) (a.den * b.den) = a + b := by
  have := add_sgd (a := a) (b := b) h
  rw [sgd_self, mk_iff h.symm] at this
  exact this.symm
theorem add_ge {a b : Rat} (h : ¬ ((a.num < 0) ↔ (b.num < 0))) (hle : b.num.natAbs * a.den ≤ a.num.natAbs * b.den) : mkRat (sg (a.num < 0) (a.num.natAbs * b.den - b.num.natAbs * a.den)) (a.den * b.den) = a + b := by
  have := sub_sgd (a := a) (b := b) h hle
  rw [sgd_self] at this
  exact this.symm
theorem add_lt {a b : Rat} (h : ¬ ((a.num < 0) ↔ (b.num < 0))) (hle : a.num.natAbs * b.den ≤ b.num.natAbs * a.den) : mkRat (sg (b.num < 0) (b.num.natAbs * a.den - a.num.natAbs * b.den)) (a.den * b.den) = a + b := by
  have := sub_sgd' (a := a) (b := b) h hle
  rw [sgd_self] at this
  exact this.symm
theorem floor_rest {q : Rat} (h : (q.num < 0) ∧ (0 : Int) < ↑(limbs (q.num.natAbs % q.den)).length) : mkRat (sg (q.num < 0) (q.num.natAbs / q.den + 1)) 1 = floorQ q := by
  have e := floor_eq (q.num < 0) (X := q.num.natAbs) q.den_nz
  rw [mk_self, if_pos ⟨h.1, limbs_len_pos.1 (by omega)⟩] at e
  exact e
theorem floor_rest' {q : Rat} (h : ¬ ((q.num < 0) ∧ (0 : Int) < ↑(limbs (q.num.natAbs % q.den)).length)) : mkRat (sg (q.num < 0) (q.num.natAbs / q.den)) 1 = floorQ q := by
  have e := floor_eq (q.num < 0) (X := q.num.natAbs) q.den_nz
  rw [mk_self, if_neg (fun e => h ⟨e.1, by have := limbs_len_pos.2 e.2; omega⟩)] at e
  exact e
theorem down_over (q : Rat) (k : Int) : floorQ (q * ((2 ^ kN k : Nat) : Rat)) / ((2 ^ kN k : Nat) : Rat) = downQ q k := by
  unfold downQ floorQ
  rw [Rat.mkRat_eq_div]
theorem us_nat_num {h : Mem} {v : Value} {m : Nat} (s : Us .u32 h v (limbs m)) : Us .u32 h v (limbs (m : Rat).num.natAbs) := by
  rw [Rat.num_natCast, Int.natAbs_natCast]; exact s
theorem us_nat_den {h : Mem} {m : Nat} : Us .u32 h (.slice none 0 0) (limbs (denN (m : Rat).den)) := by
  rw [Rat.den_natCast, denN_one, limbs_zero]; exact Us.nil _ _
theorem nat_neg (m : Nat) : vB ((m : Rat).num < 0) = .bool false := vB_false (by rw [Rat.num_natCast]; omega)
theorem us_int_num {h : Mem} {v : Value} {n : Int} (s : Us .u32 h v (limbs n.natAbs)) : Us .u32 h v (limbs (n : Rat).num.natAbs) := by
  rw [Rat.num_intCast]; exact s
theorem us_int_den {h : Mem} {n : Int} : Us .u32 h (.slice none 0 0) (limbs (denN (n : Rat).den)) := by
  rw [Rat.den_intCast, denN_one, limbs_zero]; exact Us.nil _ _
theorem IsRat.int {h : Mem} {v : Value} {n : Int} (s : Us .u32 h v (limbs n.natAbs)) : IsRat h (.agg #[vB (n < 0), v, .slice none 0 0]) (n : Rat) :=
  ⟨v, .slice none 0 0, by rw [Rat.num_intCast], us_int_num s, us_int_den⟩
theorem pow_ne (k : Nat) : 2 ^ k ≠ 0 := Nat.ne_of_gt (Nat.pow_pos (by omega))
theorem pow_ratne (k : Nat) : ((2 ^ k : Nat) : Rat) ≠ 0 := cast_ne (pow_ne k)
theorem lq_pow (k : Int) : lq ((2 ^ kN k : Nat) : Rat) ≤ 129 := by
  rw [lq_nat]
  have h3 := pow_len (kN_le k)
  omega
theorem half_make : makeQ 1 2 = halfQ := by rw [half_val]; rfl
/-- The valid number of limbs; 0 if there is none. -/
noncomputable def numQ (s : Prop) (xs ys : List Nat) : Rat := mkRat (sg s (val xs)) (dV ys)
theorem lq_numQ (s : Prop) (xs ys : List Nat) : lq (numQ s xs ys) ≤ max (limbs (val xs)).length (limbs (dV ys)).length + 1 := lq_mk (by omega) (by omega) (by omega)
theorem lq_norm (s : Prop) (xs ys : List Nat) : lq (mkRat (sg s (val xs)) (dV ys)) ≤ max (limbs (val xs)).length (limbs (dV ys)).length + 1 := lq_numQ s xs ys
end Bk
