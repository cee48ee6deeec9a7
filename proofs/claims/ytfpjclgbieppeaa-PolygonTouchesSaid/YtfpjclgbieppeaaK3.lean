/- Texts that the proof needs, part 3. -/
import Derived.Test.YtfpjclgbieppeaaK2

namespace Bk
set_option linter.unusedVariables false
set_option linter.unusedSimpArgs false
open Go Go.RowKit
open Classical

theorem sgnQ_zero {q : Rat} (h : q = 0) : sgnQ q = 0 := if_pos h
theorem sgnQ_neg {q : Rat} (h : q.num < 0) : sgnQ q = -1 := by
  unfold sgnQ
  rw [if_neg (fun e => by rw [e] at h; exact absurd h (by decide)), if_pos h]
theorem sgnQ_pos {q : Rat} (h : q ≠ 0) (h' : ¬ q.num < 0) : sgnQ q = 1 := by unfold sgnQ; rw [if_neg h, if_neg h']
theorem num_zero_bits {q : Rat} (h : (↑(bitsN q.num.natAbs) : Int) = 0) : q = 0 := by
  have := (bitsN_eq_zero (n := q.num.natAbs)).1 (by omega)
  exact Rat.num_eq_zero.1 (by omega)
theorem bits_zero_num {q : Rat} (h : q = 0) : (↑(bitsN q.num.natAbs) : Int) = 0 := by subst h; decide
theorem den_eq {a b : Rat} : limbs (denN a.den) = limbs (denN b.den) ↔ a.den = b.den := by
  refine ⟨fun h => ?_, fun h => by rw [h]⟩
  have h1 := limbs_inj h
  have ha := a.den_nz
  have hb := b.den_nz
  unfold denN at h1
  split at h1 <;> split at h1 <;> omega
theorem rat_eq {a b : Rat} (h1 : a.num = b.num) (h2 : a.den = b.den) : a = b := by
  rw [← Rat.mkRat_self a, ← Rat.mkRat_self b, h1, h2]
theorem same_iff {a b : Rat} : (((a.num < 0 ↔ b.num < 0) ∧ limbs a.num.natAbs = limbs b.num.natAbs) ∧ limbs (denN a.den) = limbs (denN b.den)) ↔ a = b := by
  refine ⟨fun ⟨⟨h1, h2⟩, h3⟩ => rat_eq ?_ (den_eq.1 h3), fun h => by subst h; simp⟩
  have := limbs_inj h2
  omega

theorem sgn_same {a b : Rat} (h : ¬ sgnQ a ≠ sgnQ b) : a.num < 0 ↔ b.num < 0 := by
  have h := Classical.not_not.1 h
  by_cases h1 : a.num < 0 <;> by_cases h2 : b.num < 0
  · simp [h1, h2]
  · rw [sgnQ_neg h1] at h
    by_cases h3 : b = 0
    · rw [sgnQ_zero h3] at h; omega
    · rw [sgnQ_pos h3 h2] at h; omega
  · rw [sgnQ_neg h2] at h
    by_cases h3 : a = 0
    · rw [sgnQ_zero h3] at h; omega
    · rw [sgnQ_pos h3 h1] at h; omega
  · simp [h1, h2]
/-- The order of the sizes of two numbers. -/
def cN (a b : Rat) : Int := cmpN (a.num.natAbs * b.den) (b.num.natAbs * a.den)
theorem cN_range (a b : Rat) : -1 ≤ cN a b ∧ cN a b ≤ 1 := by
  unfold cN cmpN
  split
  · omega
  · split <;> omega
theorem cmpQ_cN {a b : Rat} (h : a.num < 0 ↔ b.num < 0) (hn : a.num < 0) : cmpQ a b = -(cN a b) := by rw [cmpQ_num a b h, if_pos hn]; rfl
theorem cmpQ_cN' {a b : Rat} (h : a.num < 0 ↔ b.num < 0) (hn : ¬ a.num < 0) : cmpQ a b = cN a b := by rw [cmpQ_num a b h, if_neg hn]; rfl
theorem cN_den {a b : Rat} (h : limbs (denN a.den) = limbs (denN b.den)) : cN a b = cmpN a.num.natAbs b.num.natAbs := by
  unfold cN cmpN
  rw [den_eq.1 h]
  have hp := Nat.pos_of_ne_zero b.den_nz
  by_cases h1 : a.num.natAbs < b.num.natAbs
  · rw [if_pos h1, if_pos (Nat.mul_lt_mul_of_pos_right h1 hp)]
  · rw [if_neg h1, if_neg (fun e => h1 (Nat.lt_of_mul_lt_mul_right e))]
    by_cases h2 : a.num.natAbs = b.num.natAbs
    · rw [if_pos h2, h2, if_pos rfl]
    · rw [if_neg h2, if_neg (fun e => h2 (Nat.eq_of_mul_eq_mul_right hp e))]

/-- Numbers with one limb each. -/
theorem small_mul {m n : Nat} (hm : m < 4294967296) (hn : n < 4294967296) : m * n ≤ 18446744065119617025 := by
  have := Nat.mul_le_mul (show m ≤ 4294967295 by omega) (show n ≤ 4294967295 by omega)
  omega

/-- b with another sign. -/
noncomputable def sgd (s : Prop) (b : Rat) : Rat := mkRat (sg s b.num.natAbs) b.den
theorem sgd_self (b : Rat) : sgd (b.num < 0) b = b := mk_self b
theorem sgd_neg (b : Rat) : sgd (¬ b.num < 0) b = -b := by
  unfold sgd
  rw [← mk_neg, mk_self]
theorem lq_sgd (s : Prop) (b : Rat) : lq (sgd s b) ≤ lq b := lq_mk (lq_num b) (lq_den b) (lq_pos b)
theorem add_sgd {a b : Rat} {s : Prop} (h : (a.num < 0) ↔ s) : a + sgd s b = mkRat (sg s (a.num.natAbs * b.den + b.num.natAbs * a.den)) (a.den * b.den) := by
  have := mk_add s (n := a.num.natAbs) (m := b.num.natAbs) a.den_nz b.den_nz
  rw [← mk_iff h a.num.natAbs, mk_self] at this
  exact this
theorem sub_sgd {a b : Rat} {s : Prop} (h : ¬ ((a.num < 0) ↔ s)) (hle : b.num.natAbs * a.den ≤ a.num.natAbs * b.den) : a + sgd s b = mkRat (sg (a.num < 0) (a.num.natAbs * b.den - b.num.natAbs * a.den)) (a.den * b.den) := by
  have := mk_sub h (n := a.num.natAbs) (m := b.num.natAbs) a.den_nz b.den_nz hle
  rw [mk_self] at this
  exact this
theorem sub_sgd' {a b : Rat} {s : Prop} (h : ¬ ((a.num < 0) ↔ s)) (hle : a.num.natAbs * b.den ≤ b.num.natAbs * a.den) : a + sgd s b = mkRat (sg s (b.num.natAbs * a.den - a.num.natAbs * b.den)) (a.den * b.den) := by
  have := mk_sub' h (n := a.num.natAbs) (m := b.num.natAbs) a.den_nz b.den_nz hle
  rw [mk_self] at this
  exact this
/-- The same with one denominator. -/
theorem add_sgd1 {a b : Rat} {s : Prop} (h : (a.num < 0) ↔ s) (hd : a.den = b.den) : a + sgd s b = mkRat (sg s (a.num.natAbs + b.num.natAbs)) a.den := by
  rw [add_sgd h, ← hd, ← Nat.add_mul, mk_scale _ _ _ a.den_nz]
theorem sub_sgd1 {a b : Rat} {s : Prop} (h : ¬ ((a.num < 0) ↔ s)) (hd : a.den = b.den) (hle : b.num.natAbs ≤ a.num.natAbs) : a + sgd s b = mkRat (sg (a.num < 0) (a.num.natAbs - b.num.natAbs)) a.den := by
  rw [sub_sgd h (by rw [← hd]; exact Nat.mul_le_mul_right _ hle), ← hd, ← Nat.sub_mul, mk_scale _ _ _ a.den_nz]
theorem sub_sgd1' {a b : Rat} {s : Prop} (h : ¬ ((a.num < 0) ↔ s)) (hd : a.den = b.den) (hle : a.num.natAbs ≤ b.num.natAbs) : a + sgd s b = mkRat (sg s (b.num.natAbs - a.num.natAbs)) a.den := by
  rw [sub_sgd' h (by rw [← hd]; exact Nat.mul_le_mul_right _ hle), ← hd, ← Nat.sub_mul, mk_scale _ _ _ a.den_nz]
theorem mul_eq (a b : Rat) : mkRat (sg (¬ ((a.num < 0) ↔ (b.num < 0))) (a.num.natAbs * b.num.natAbs)) (a.den * b.den) = a * b := by
  rw [← mk_mul, mk_self, mk_self]
theorem quo_eq (a : Rat) {b : Rat} (hb : b ≠ 0) : mkRat (sg (¬ ((a.num < 0) ↔ (b.num < 0))) (a.num.natAbs * b.den)) (a.den * b.num.natAbs) = a / b := by
  rw [← mk_quo _ _ a.den_nz (num_ne.2 hb) b.den_nz, mk_self, mk_self]
theorem num_zero {q : Rat} (h : (↑(limbs q.num.natAbs).length : Int) = 0) : q = 0 := by
  refine Classical.byContradiction fun hne => ?_
  have := limbs_len_pos.2 (num_ne.2 hne)
  omega
theorem sgn_zero {q : Rat} : sgnQ q = 0 ↔ q = 0 := by
  refine ⟨fun h => ?_, sgnQ_zero⟩
  unfold sgnQ at h
  by_cases h1 : q = 0
  · exact h1
  · rw [if_neg h1] at h; split at h <;> omega
noncomputable def minQ (a b : Rat) : Rat := if b < a then b else a
noncomputable def maxQ (a b : Rat) : Rat := if a < b then b else a
theorem minQ_t {a b : Rat} (h : cmpQ b a < 0) : minQ a b = b := if_pos (cmpQ_neg.1 h)
theorem minQ_f {a b : Rat} (h : ¬ cmpQ b a < 0) : minQ a b = a := if_neg (fun e => h (cmpQ_neg.2 e))
theorem maxQ_t {a b : Rat} (h : 0 < cmpQ b a) : maxQ a b = b := if_pos (cmpQ_pos.1 h)
theorem maxQ_f {a b : Rat} (h : ¬ 0 < cmpQ b a) : maxQ a b = a := if_neg (fun e => h (cmpQ_pos.2 e))
theorem lq_min (a b : Rat) : lq (minQ a b) ≤ max (lq a) (lq b) := by unfold minQ; split <;> omega
theorem lq_max (a b : Rat) : lq (maxQ a b) ≤ max (lq a) (lq b) := by unfold maxQ; split <;> omega
/-- One half. -/
noncomputable def halfQ : Rat := mkRat (sg False 1) 2
theorem half_nums : halfQ.num = 1 ∧ halfQ.den = 2 := by
  unfold halfQ
  rw [mkRat_num (by omega), mkRat_den (by omega), sg_f id]
  exact ⟨rfl, rfl⟩
theorem half_num {h : Mem} {v : Value} (s : Us .u32 h v (limbs 1)) : Us .u32 h v (limbs halfQ.num.natAbs) := by
  rw [half_nums.1]; exact s
theorem half_den {h : Mem} {v : Value} (s : Us .u32 h v [2]) : Us .u32 h v (limbs (denN halfQ.den)) := by
  rw [half_nums.2, denN_ne (by omega), limbs_one (by omega) (by omega)]; exact s
theorem half_neg : vB (halfQ.num < 0) = .bool false := vB_false (by rw [half_nums.1]; decide)
theorem lq_half : lq halfQ ≤ 1 := lq_mk (by rw [limbs_one (by omega) (by omega)]; simp) (by rw [limbs_one (by omega) (by omega)]; simp) (by omega)
theorem half_val : halfQ = 1 / 2 := by
  unfold halfQ
  rw [mk_div, rz_f id]
  rfl
noncomputable def midQ (a b : Rat) : Rat := (a + b) * halfQ
theorem lq_mid (a b : Rat) : lq (midQ a b) ≤ lq a + lq b + 2 := by
  have h1 := lq_mul (a + b) halfQ
  have h2 := lq_add a b
  have h3 := lq_half
  unfold midQ
  omega

/-- The greatest integer below. -/
noncomputable def floorQ (q : Rat) : Rat := ((q.floor : Int) : Rat)
theorem floor_mk (s : Prop) {X Y : Nat} (hY : Y ≠ 0) : (mkRat (sg s X) Y).floor = sg s X / (Y : Int) := by
  rw [Rat.floor_def, mkRat_num hY, mkRat_den hY]
  have hg : 0 < Nat.gcd X Y := Nat.gcd_pos_of_pos_right _ (Nat.pos_of_ne_zero hY)
  have e1 : sg s X = sg s (X / Nat.gcd X Y) * (Nat.gcd X Y : Int) := by
    have e2 : X = X / Nat.gcd X Y * Nat.gcd X Y := (Nat.div_mul_cancel (Nat.gcd_dvd_left X Y)).symm
    by_cases h : s
    · rw [sg_t h, sg_t h, Int.neg_mul, ← Int.natCast_mul, ← e2]
    · rw [sg_f h, sg_f h, ← Int.natCast_mul, ← e2]
  have e3 : (Y : Int) = ((Y / Nat.gcd X Y : Nat) : Int) * (Nat.gcd X Y : Int) := by
    rw [← Int.natCast_mul, Nat.div_mul_cancel (Nat.gcd_dvd_right X Y)]
  generalize Nat.gcd X Y = g at *
  generalize hA : sg s (X / g) = A at *
  generalize hB : ((Y / g : Nat) : Int) = B at *
  rw [e1, e3]
  exact (Int.mul_ediv_mul_of_pos_left _ _ (by omega)).symm
theorem sg_floor (s : Prop) {X Y : Nat} (hY : Y ≠ 0) : sg s X / (Y : Int) = sg s (if s ∧ X % Y ≠ 0 then X / Y + 1 else X / Y) := by
  have hp : (0 : Int) < Y := by omega
  have e := Nat.div_add_mod X Y
  have hm := Nat.mod_lt X (Nat.pos_of_ne_zero hY)
  by_cases h : s
  · rw [sg_t h]
    by_cases h1 : X % Y = 0
    · rw [if_neg (fun e => e.2 h1), sg_t h]
      rw [Int.neg_ediv_of_dvd (Int.natCast_dvd_natCast.2 (Nat.dvd_of_mod_eq_zero h1))]
      omega
    · rw [if_pos ⟨h, h1⟩, sg_t h]
      refine (Int.ediv_eq_iff_of_pos hp).2 ?_
      have e4 : ((Y * (X / Y) + X % Y : Nat) : Int) = (X : Int) := by rw [e]
      rw [Int.natCast_add, Int.natCast_mul] at e4
      rw [Int.natCast_add]
      have hR : ((X % Y : Nat) : Int) < Y ∧ 0 < ((X % Y : Nat) : Int) := by omega
      generalize ((X / Y : Nat) : Int) = Q at *
      generalize ((X % Y : Nat) : Int) = R at *
      have e5 : -(Q + ((1 : Nat) : Int)) * (Y : Int) = -((Y : Int) * Q) - Y := by grind
      rw [e5]
      omega
  · rw [sg_f h, if_neg (fun e => h e.1), sg_f h]; omega
theorem mk_one (s : Prop) (n : Nat) : mkRat (sg s n) 1 = ((sg s n : Int) : Rat) := by
  rw [Rat.mkRat_one]
theorem floor_eq (s : Prop) {X Y : Nat} (hY : Y ≠ 0) : mkRat (sg s (if s ∧ X % Y ≠ 0 then X / Y + 1 else X / Y)) 1 = floorQ (mkRat (sg s X) Y) := by
  unfold floorQ
  rw [mk_one, floor_mk s hY, sg_floor s hY]
theorem floor_self (q : Rat) : floorQ (mkRat (sg (q.num < 0) q.num.natAbs) q.den) = floorQ q := by rw [mk_self]
theorem floorQ_num (q : Rat) : (floorQ q).num = q.floor := by unfold floorQ; rw [Rat.num_intCast]
/-- How often numbers are halved. -/
def kN (k : Int) : Nat := (min (max k 0) 4096).toNat
noncomputable def downQ (q : Rat) (k : Int) : Rat := mkRat (q * (2 ^ kN k : Nat)).floor (2 ^ kN k)
noncomputable def upQ (q : Rat) (k : Int) : Rat := -downQ (-q) k
theorem mul_pow (q : Rat) (m : Nat) : mkRat (sg (q.num < 0) (q.num.natAbs * m)) q.den = q * (m : Rat) := by
  have e : q = mkRat (sg (q.num < 0) q.num.natAbs) q.den := (mk_self q).symm
  have e2 : q * (m : Rat) = mkRat (sg (q.num < 0) q.num.natAbs) q.den * (m : Rat) := by rw [← e]
  rw [e2, mk_div, mk_div, Rat.natCast_mul]
  by_cases h : q.num < 0
  · rw [rz_t h, rz_t h]; grind
  · rw [rz_f h, rz_f h]; grind
theorem down_eq (q : Rat) (k : Int) : mkRat (sg ((floorQ (q * (2 ^ kN k : Nat))).num < 0) (floorQ (q * (2 ^ kN k : Nat))).num.natAbs) (2 ^ kN k) = downQ q k := by
  rw [sg_num, floorQ_num]; rfl
theorem lq_floor (q : Rat) : lq (floorQ q) ≤ lq q + 1 := by
  have h1 := lq_num q
  have h5 := lq_pos q
  have e := floor_eq (q.num < 0) (X := q.num.natAbs) q.den_nz
  rw [mk_self] at e
  rw [← e]
  have h2 := limbs_len_mono (Nat.div_le_self q.num.natAbs q.den)
  have h3 := limbs_len_add' (m := q.num.natAbs / q.den) (n := 1) (k := lq q) (by omega) (by rw [limbs_one (by omega) (by omega)]; exact h5)
  refine lq_mk ?_ (by rw [limbs_one (by omega) (by omega)]; simp) (by omega)
  split
  · exact h3
  · omega
theorem kN_le (k : Int) : kN k ≤ 4096 := by unfold kN; omega
theorem pow_len {k : Nat} (h : k ≤ 4096) : (limbs (2 ^ k)).length ≤ 129 := by
  have e : (4294967296 : Nat) ^ 129 = 2 ^ (32 * 129) := (Nat.pow_mul 2 32 129).symm
  have hk : k < 32 * 129 := by omega
  generalize 32 * 129 = m at *
  refine limbs_len_of_lt ?_
  rw [e]
  exact Nat.pow_lt_pow_right (by decide) hk
theorem lq_nat (m : Nat) : lq (m : Rat) = max (limbs m).length 1 := by
  have h1 : (m : Rat).num = (m : Int) := Rat.num_natCast m
  have h2 : (m : Rat).den = 1 := Rat.den_natCast m
  unfold lq
  rw [h1, h2, Int.natAbs_natCast, show limbs 1 = [1] from limbs_one (by omega) (by omega)]
  rfl
theorem lq_down (q : Rat) (k : Int) : lq (downQ q k) ≤ lq q + 130 := by
  have h1 := lq_floor (q * (2 ^ kN k : Nat))
  have h2 := lq_mul q (2 ^ kN k : Nat)
  rw [lq_nat] at h2
  have h3 := pow_len (kN_le k)
  have h4 := lq_num (floorQ (q * (2 ^ kN k : Nat)))
  rw [← down_eq]
  exact lq_mk (by omega) (by omega) (by omega)
theorem lq_up (q : Rat) (k : Int) : lq (upQ q k) ≤ lq q + 130 := by
  unfold upQ
  have := lq_down (-q) k
  rw [lq_neg] at this ⊢
  exact this
theorem lq_quo' (a b : Rat) : lq (if b = 0 then 0 else a / b) ≤ lq a + lq b := by
  have := lq_quo a b
  have h1 := lq_pos a
  split
  · rw [lq_zero]; omega
  · exact this
theorem sub_ok {p : Prop} [Decidable p] (h : (if p then 7 else 0 : Int) = 0) : ¬ p := by
  intro hp
  rw [if_pos hp] at h
  omega
theorem sub_no {p : Prop} [Decidable p] (h : ¬ (if p then 7 else 0 : Int) = 0) : p := by
  refine Classical.byContradiction fun hp => h ?_
  rw [if_neg hp]
noncomputable def bitsQ (q : Rat) : Int := max (↑(bitsN q.num.natAbs) : Int) ↑(bitsN q.den)
theorem floor_fin {s : Prop} {X Y : Nat} (hY : Y ≠ 0) (h : s ∧ (0 : Int) < ↑(bitsN (X % Y))) : mkRat (sg s (X / Y + 1)) 1 = floorQ (mkRat (sg s X) Y) := by
  rw [← floor_eq s hY, if_pos ⟨h.1, fun e => by rw [e] at h; exact absurd h.2 (by decide)⟩]
theorem floor_fin' {s : Prop} {X Y : Nat} (hY : Y ≠ 0) (h : ¬ (s ∧ (0 : Int) < ↑(bitsN (X % Y)))) : mkRat (sg s (X / Y)) 1 = floorQ (mkRat (sg s X) Y) := by
  rw [← floor_eq s hY, if_neg (fun e => h ⟨e.1, by have := bitsN_pos e.2; omega⟩)]
theorem limbs_len_i64 {n : Int} (h1 : -9223372036854775808 ≤ n) (h2 : n < 9223372036854775808) : (limbs n.natAbs).length ≤ 2 := limbs_len_word (by omega)
/-- The quotient of two integers. -/
noncomputable def makeQ (n d : Int) : Rat := (n : Rat) / (d : Rat)
theorem makeQ_zero (n : Int) : makeQ n 0 = 0 := by
  unfold makeQ
  have : ((0 : Int) : Rat) = 0 := rfl
  rw [this]; grind
theorem int_eq (n : Int) : mkRat (sg (n < 0) n.natAbs) 1 = (n : Rat) := by
  have e : sg (n < 0) n.natAbs = n := by
    by_cases h : n < 0
    · rw [sg_t h]; omega
    · rw [sg_f h]; omega
  rw [e, Rat.mkRat_one]
theorem makeQ_eq {n d : Int} (hd : d ≠ 0) : mkRat (sg (¬ ((n < 0) ↔ (d < 0))) n.natAbs) d.natAbs = makeQ n d := by
  unfold makeQ
  rw [← int_eq n, ← int_eq d, mk_quo _ _ (by omega) (by omega) (by omega), Nat.mul_one, Nat.one_mul]
theorem lq_int (n : Int) (h1 : -9223372036854775808 ≤ n) (h2 : n < 9223372036854775808) : lq (n : Rat) ≤ 2 := by
  rw [← int_eq]
  exact lq_mk (limbs_len_i64 h1 h2) (by rw [len_one]; omega) (by omega)
theorem lq_make {n d : Int} (h1 : -9223372036854775808 ≤ n) (h2 : n < 9223372036854775808) (h3 : -9223372036854775808 ≤ d) (h4 : d < 9223372036854775808) : lq (makeQ n d) ≤ 2 := by
  by_cases hd : d = 0
  · subst hd; rw [makeQ_zero, lq_zero]; omega
  · rw [← makeQ_eq hd]; exact lq_mk (limbs_len_i64 h1 h2) (limbs_len_i64 h3 h4) (by omega)
theorem shN_k (X : Nat) (k : Int) : shN X (min (max k 0) 4096) = X * 2 ^ kN k := by
  rw [shN_up (by omega) (by omega)]; rfl
theorem shN_k1 (k : Int) : shN 1 (min (max k 0) 4096) = 2 ^ kN k := by rw [shN_k, Nat.one_mul]
theorem shE_k (k : Int) : shE (min (max k 0) 4096) = 0 := shE_zero (by omega)
theorem lq_qpow (q : Rat) (k : Int) : lq (q * ((2 ^ kN k : Nat) : Rat)) ≤ lq q + 129 := by
  have h2 := lq_mul q (2 ^ kN k : Nat)
  rw [lq_nat] at h2
  have h3 := pow_len (kN_le k)
  omega
/-- The number below, 1 if there is none. -/
def dV (ys : List Nat) : Nat := if ys = [] then 1 else val ys
theorem val_dL (ys : List Nat) : val (if ys = [] then [1] else ys) = dV ys := by
  unfold dV
  split
  · rfl
  · rfl
theorem dV_zero {ys : List Nat} (h : (0 : Int) < ↑ys.length ∧ (↑(bitsN (val ys)) : Int) = 0) : dV ys = 0 := by
  unfold dV
  rw [if_neg (fun e => by rw [e] at h; simp at h)]
  exact bitsN_eq_zero.1 (by omega)
theorem dV_ne {ys : List Nat} (h : ¬ ((0 : Int) < ↑ys.length ∧ (↑(bitsN (val ys)) : Int) = 0)) : dV ys ≠ 0 := by
  unfold dV
  split
  · omega
  · rename_i h1
    intro h2
    have h3 : bitsN (val ys) = 0 := bitsN_eq_zero.2 h2
    have h4 : 0 < ys.length := List.length_pos_iff.2 h1
    exact h ⟨by omega, by omega⟩
theorem dV_zero' {ys : List Nat} (h : (0 : Int) < ↑ys.length ∧ (↑(limbs (val ys)).length : Int) = 0) : dV ys = 0 := by
  refine dV_zero ⟨h.1, ?_⟩
  have : val ys = 0 := Classical.byContradiction fun e => by have := limbs_len_pos.2 e; omega
  rw [this]; rfl
theorem dV_ne' {ys : List Nat} (h : ¬ ((0 : Int) < ↑ys.length ∧ (↑(limbs (val ys)).length : Int) = 0)) : dV ys ≠ 0 := by
  refine dV_ne fun e => h ⟨e.1, ?_⟩
  have : val ys = 0 := bitsN_eq_zero.1 (by omega)
  rw [this, limbs_zero]; rfl
theorem dL_len (ys : List Nat) : (if ys = [] then [1] else ys).length ≤ ys.length + 1 := by
  split
  · simp
  · omega
def canon (xs : List Nat) : Prop := xs = [] ∨ xs.getD (xs.length - 1) 0 ≠ 0
def badP (xs ys : List Nat) : Prop := ((¬ canon xs) ∨ (¬ canon ys)) ∨ ((↑ys.length : Int) = 1 ∧ ys.getD 0 0 = 1)
def validP (s : Prop) (xs ys : List Nat) : Prop := ¬ badP xs ys ∧ ((xs = [] → ¬ s ∧ ys = []) ∧ (xs ≠ [] → ys = [] ∨ Nat.gcd (val xs) (val ys) = 1))
theorem len_zero {xs : List Nat} : (↑xs.length : Int) = 0 ↔ xs = [] := ⟨fun h => List.eq_nil_of_length_eq_zero (by omega), fun h => by rw [h]; rfl⟩
theorem valid_nil {s : Prop} {xs ys : List Nat} (h1 : ¬ badP xs ys) (h2 : (↑xs.length : Int) = 0) : (¬ s ∧ (↑ys.length : Int) = 0) ↔ validP s xs ys := by
  have e := len_zero.1 h2
  unfold validP
  rw [len_zero]
  exact ⟨fun h => ⟨h1, fun _ => h, fun h' => absurd e h'⟩, fun h => h.2.1 e⟩
theorem valid_cons {s : Prop} {xs ys : List Nat} (h1 : ¬ badP xs ys) (h2 : ¬ (↑xs.length : Int) = 0) : ((↑ys.length : Int) = 0 ∨ (↑(bitsN (Nat.gcd (val xs) (val ys))) : Int) = 1) ↔ validP s xs ys := by
  have e := fun h => h2 (len_zero.2 h)
  have hb : ∀ n, (↑(bitsN n) : Int) = 1 ↔ n = 1 := by
    intro n
    refine ⟨fun h => bitsN_one (by omega) (fun e => by rw [e] at h; exact absurd h (by decide)), fun h => by rw [h]; rfl⟩
  unfold validP
  rw [len_zero, hb]
  exact ⟨fun h => ⟨h1, fun h' => absurd h' e, fun _ => h⟩, fun h => h.2.2 e⟩
theorem canon_limbs {xs : List Nat} (hf : Fit xs) (h : canon xs) : xs = limbs (val xs) :=
  (limbs_of_val hf (h.imp id (fun h => Nat.pos_of_ne_zero h))).symm
theorem limbs_canon (n : Nat) : canon (limbs n) := valid_limbs n
theorem dL_limbs {ys : List Nat} (hf : Fit ys) (h : canon ys) : (if ys = [] then [1] else ys) = limbs (dV ys) := by
  unfold dV
  split
  · exact one_limbs
  · exact canon_limbs hf h
theorem valid_ref {s : Prop} {xs ys : List Nat} (h : ¬ (badP xs ys ∨ ((↑xs.length : Int) = 0 ∧ (s ∨ (0 : Int) < ↑ys.length)))) : ((↑(limbs (Nat.gcd (val xs) (dV ys))).length : Int) = 1 ∧ (limbs (Nat.gcd (val xs) (dV ys))).getD 0 0 = 1) ↔ validP s xs ys := by
  have h1 : ¬ badP xs ys := fun e => h (.inl e)
  rw [limb_one_iff]
  unfold validP
  by_cases hx : xs = []
  · have hy : ¬ s ∧ ys = [] := by
      refine ⟨fun e => h (.inr ⟨len_zero.2 hx, .inl e⟩), Classical.byContradiction fun e => h (.inr ⟨len_zero.2 hx, .inr ?_⟩)⟩
      have := List.length_pos_iff.2 e
      omega
    rw [hx, hy.2]
    refine ⟨fun _ => ⟨?_, fun _ => ⟨hy.1, rfl⟩, fun e => absurd rfl e⟩, fun _ => by decide⟩
    rw [hx, hy.2] at h1; exact h1
  · have e : Nat.gcd (val xs) (dV ys) = 1 ↔ (ys = [] ∨ Nat.gcd (val xs) (val ys) = 1) := by
      unfold dV
      by_cases hy : ys = []
      · rw [if_pos hy, Nat.gcd_one_right]; simp [hy]
      · rw [if_neg hy]; simp [hy]
    rw [e]
    exact ⟨fun h2 => ⟨h1, fun e => absurd e hx, fun _ => h2⟩, fun h2 => h2.2.2 hx⟩
theorem valid_ref_f {s : Prop} {xs ys : List Nat} (h : badP xs ys ∨ ((↑xs.length : Int) = 0 ∧ (s ∨ (0 : Int) < ↑ys.length))) : ¬ validP s xs ys := by
  rintro ⟨h1, h2, h3⟩
  rcases h with h | ⟨h, h4⟩
  · exact h1 h
  · obtain ⟨h5, h6⟩ := h2 (len_zero.1 h)
    rcases h4 with h4 | h4
    · exact h5 h4
    · rw [h6] at h4; simp at h4
theorem valid_rat (q : Rat) : validP (q.num < 0) (limbs q.num.natAbs) (limbs (denN q.den)) := by
  have hz : limbs q.num.natAbs = [] ↔ q = 0 := by
    rw [← limbs_zero]
    refine ⟨fun h => Rat.num_eq_zero.1 (by have := limbs_inj h; omega), fun h => by rw [h]; rfl⟩
  refine ⟨?_, fun h => ?_, fun h => ?_⟩
  · rintro ((h | h) | h)
    · exact h (limbs_canon _)
    · exact h (limbs_canon _)
    · have h1 := limb_one_iff.1 h
      unfold denN at h1
      split at h1 <;> omega
  · rw [hz.1 h]
    exact ⟨by decide, limbs_zero⟩
  · rw [val_limbs, val_limbs]
    unfold denN
    split
    · exact .inl limbs_zero
    · exact .inr q.reduced
theorem gcd_one_of {g : Nat} (h : ¬ ((↑(limbs g).length : Int) ≠ 1 ∨ (limbs g).getD 0 0 ≠ 1)) : g = 1 :=
  limb_one_iff.1 ⟨Classical.not_not.1 fun e => h (.inl e), Classical.not_not.1 fun e => h (.inr e)⟩
theorem cmp_same {a b : Rat} : (((a.num < 0) ↔ (b.num < 0)) ∧ cmpN a.num.natAbs b.num.natAbs = 0) ∧ cmpN (denN a.den) (denN b.den) = 0 ↔ a = b := by
  rw [cmpN_zero, cmpN_zero, ← same_iff]
  constructor
  · rintro ⟨⟨h1, h2⟩, h3⟩
    exact ⟨⟨h1, by rw [h2]⟩, by rw [h3]⟩
  · rintro ⟨⟨h1, h2⟩, h3⟩
    exact ⟨⟨h1, limbs_inj h2⟩, limbs_inj h3⟩
theorem len_num {q : Rat} : (↑(limbs q.num.natAbs).length : Int) = 0 ↔ q = 0 := by
  refine ⟨num_zero, fun h => ?_⟩
  subst h
  rw [show (0 : Rat).num.natAbs = 0 from rfl, limbs_zero]; rfl
theorem num_pos_of {q : Rat} (h : ¬ (↑(limbs q.num.natAbs).length : Int) = 0) : q ≠ 0 := fun e => h (len_num.2 e)
theorem add_same {a b : Rat} (h : (a.num < 0) ↔ (b.num < 0)) : mkRat (sg (a.num < 0) (a.num.natAbs * b.den + b.num.natAbs * a.den)) (a.den * b.den) = a + b := by
  have := add_sgd (a := a) (b := b) h
  rw [sgd_self, mk_iff h.symm] at this
  exact this.symm
theorem add_ge {a b : Rat} (h : ¬ ((a.num < 0) ↔ (b.num < 0))) (hle : b.num.natAbs * a.den ≤ a.num.natAbs * b.den) : mkRat (sg (a.num < 0) (a.num.natAbs * b.den - b.num.natAbs * a.den)) (a.den * b.den) = a + b := by
  have := sub_sgd (a := a) (b := b) h hle
  rw [sgd_self] at this
  exact this.symm
theorem add_lt {a b : Rat} (h : ¬ ((a.num < 0) ↔ (b.num < 0))) (hle : a.num.natAbs * b.den ≤ b.num.natAbs * a.den) : mkRat (sg (b.num < 0) (b.num.natAbs * a.den - a.num.natAbs * b.den)) (a.den * b.den) = a + b := by
  have := sub_sgd' (a := a) (b := b) h hle
  rw [sgd_self] at this
  exact this.symm
theorem floor_rest {q : Rat} (h : (q.num < 0) ∧ (0 : Int) < ↑(limbs (q.num.natAbs % q.den)).length) : mkRat (sg (q.num < 0) (q.num.natAbs / q.den + 1)) 1 = floorQ q := by
  have e := floor_eq (q.num < 0) (X := q.num.natAbs) q.den_nz
  rw [mk_self, if_pos ⟨h.1, limbs_len_pos.1 (by omega)⟩] at e
  exact e
theorem floor_rest' {q : Rat} (h : ¬ ((q.num < 0) ∧ (0 : Int) < ↑(limbs (q.num.natAbs % q.den)).length)) : mkRat (sg (q.num < 0) (q.num.natAbs / q.den)) 1 = floorQ q := by
  have e := floor_eq (q.num < 0) (X := q.num.natAbs) q.den_nz
  rw [mk_self, if_neg (fun e => h ⟨e.1, by have := limbs_len_pos.2 e.2; omega⟩)] at e
  exact e
theorem down_over (q : Rat) (k : Int) : floorQ (q * ((2 ^ kN k : Nat) : Rat)) / ((2 ^ kN k : Nat) : Rat) = downQ q k := by
  unfold downQ floorQ
  rw [Rat.mkRat_eq_div]
theorem us_nat_num {h : Mem} {v : Value} {m : Nat} (s : Us .u32 h v (limbs m)) : Us .u32 h v (limbs (m : Rat).num.natAbs) := by
  rw [Rat.num_natCast, Int.natAbs_natCast]; exact s
theorem us_nat_den {h : Mem} {m : Nat} : Us .u32 h (.slice none 0 0) (limbs (denN (m : Rat).den)) := by
  rw [Rat.den_natCast, denN_one, limbs_zero]; exact Us.nil _ _
theorem nat_neg (m : Nat) : vB ((m : Rat).num < 0) = .bool false := vB_false (by rw [Rat.num_natCast]; omega)
theorem us_int_num {h : Mem} {v : Value} {n : Int} (s : Us .u32 h v (limbs n.natAbs)) : Us .u32 h v (limbs (n : Rat).num.natAbs) := by
  rw [Rat.num_intCast]; exact s
theorem us_int_den {h : Mem} {n : Int} : Us .u32 h (.slice none 0 0) (limbs (denN (n : Rat).den)) := by
  rw [Rat.den_intCast, denN_one, limbs_zero]; exact Us.nil _ _
theorem IsRat.int {h : Mem} {v : Value} {n : Int} (s : Us .u32 h v (limbs n.natAbs)) : IsRat h (.agg #[vB (n < 0), v, .slice none 0 0]) (n : Rat) :=
  ⟨v, .slice none 0 0, by rw [Rat.num_intCast], us_int_num s, us_int_den⟩
theorem pow_ne (k : Nat) : 2 ^ k ≠ 0 := Nat.ne_of_gt (Nat.pow_pos (by omega))
theorem pow_ratne (k : Nat) : ((2 ^ k : Nat) : Rat) ≠ 0 := cast_ne (pow_ne k)
theorem lq_pow (k : Int) : lq ((2 ^ kN k : Nat) : Rat) ≤ 129 := by
  rw [lq_nat]
  have h3 := pow_len (kN_le k)
  omega
theorem half_make : makeQ 1 2 = halfQ := by rw [half_val]; rfl
/-- The valid number of limbs; 0 if there is none. -/
noncomputable def numQ (s : Prop) (xs ys : List Nat) : Rat := mkRat (sg s (val xs)) (dV ys)
theorem lq_numQ (s : Prop) (xs ys : List Nat) : lq (numQ s xs ys) ≤ max (limbs (val xs)).length (limbs (dV ys)).length + 1 := lq_mk (by omega) (by omega) (by omega)
theorem lq_norm (s : Prop) (xs ys : List Nat) : lq (mkRat (sg s (val xs)) (dV ys)) ≤ max (limbs (val xs)).length (limbs (dV ys)).length + 1 := lq_numQ s xs ys
end Bk

namespace Go.Proofs.Ytfpjclgbieppeaa
open Bk Go
set_option linter.unusedVariables false
set_option linter.unusedSimpArgs false
set_option maxRecDepth 10000

theorem rat_one {w0 : World} {h0 : Mem}  (hs : MLe h0 (mem w0))  :
    Calls Try.prog 108 #[] w0 (Ret w0 h0 (fun h r => Us .u32 h r [1])) := by
 refine calls_begin (n := 2) (e := []) (vs := []) Try.func108 rfl rfl (Nat.le_of_ble_eq_true rfl) hs trivial (gc_seq (gc_region (asg rfl rfl (gl_nil (gq_then (gc_seq (gc_region (gl_newop (new_build1 (kd := .u32) (p := 1) Try.underlying27 info94 rfl rfl rfl) rfl rfl rfl ?_))))))))
 intro v1 r1 hr1
 obtain rfl := hr1
 refine gl_freeze_us0 (by intro z hz; simp only [List.mem_singleton] at hz; subst hz; decide) ?_
 intro h1 hh1 h1
 refine asg rfl rfl (gl_nil (gq_then (gc_ret (gq_body1 rfl rfl ?_))))
 exact h1

theorem rat_den {w0 : World} {h0 : Mem}  (hs : MLe h0 (mem w0)) {sa : Bool} {vna vda : Value} {na da : List Nat} (hna : Us .u32 h0 vna na) (hda : Us .u32 h0 vda da) :
    Calls Try.prog 85 #[.agg #[.bool sa, vna, vda]] w0 (Ret w0 h0 (fun h r => Us .u32 h r (if da = [] then [1] else da))) := by
 refine calls_begin (n := 10) (e := [(0, .agg #[.bool sa, vna, vda])]) (vs := [.agg #[.bool sa, vna, vda]]) Try.func85 rfl rfl (Nat.le_of_ble_eq_true rfl) hs ⟨rfl, trivial⟩ (gc_seq (gc_region (gl_newop (new_box (cs := [_, _, _]) rfl rfl) rfl rfl rfl ?_)))
 intro v1 r1 hr1
 obtain ⟨b1, rfl, rfl⟩ := hr1
 refine asg rfl rfl (gl_nil (gq_then (gc_seq (gc_seq (gc_region (gv (ov_field_addr Try.underlying29 rfl Try.sizeOf27 rfl) rfl (gv (ov_load_var (.head _) Try.isAgg27 rfl rfl) rfl (gv (ov_len_us Try.underlying27 rfl hda) rfl (gv (ov_eql_i (q := 0) rfl rfl) rfl (gl_nil (gq_then ?_)))))))))))
 refine gc_cond rfl (fun hc6 => ?_) (fun hc6 => ?_)
 ·
  refine gc_seq (gc_region ?_)
  refine gl_call (vs := []) rfl rfl rfl rfl Try.call108 trivial (fun w hs => rat_one hs) ?_
  intro v7 h1 hh1 hr7
  rw [one_limbs] at hr7
  have hlm7 := len_one
  refine asg rfl rfl (gl_nil (gq_then (gc_ret (gr_then (gq_body1 rfl rfl ?_)))))
  rw [if_pos (List.eq_nil_of_length_eq_zero (by omega)), one_limbs]
  exact hr7
 ·
  refine gc_skip (gq_then (gc_seq (gc_region (gv (ov_field_addr Try.underlying29 rfl Try.sizeOf27 rfl) rfl (gv (ov_load_var (.head _) Try.isAgg27 rfl rfl) rfl (asg rfl rfl (gl_nil (gq_then (gc_ret (gq_body1 rfl rfl ?_))))))))))
  rw [if_neg (fun h => hc6 (by rw [h]; rfl))]
  exact hda

end Go.Proofs.Ytfpjclgbieppeaa

namespace Go.Proofs.Ytfpjclgbieppeaa
open Bk Go
set_option linter.unusedVariables false
set_option linter.unusedSimpArgs false
set_option maxRecDepth 10000

theorem rat_word {w0 : World} {h0 : Mem}  (hs : MLe h0 (mem w0)) {v : Value} {xs : List Nat} (hv : Us .u32 h0 v xs) (hl : xs.length ≤ 2) :
    Calls Try.prog 102 #[v] w0 (Ret w0 h0 (fun _ r => r = vU .u64 (val xs))) := by
 have hf : Fit xs := hv.lt
 refine calls_begin (n := 21) (e := [(0, v)]) (vs := [v]) Try.func102 rfl rfl (Nat.le_of_ble_eq_true rfl) hs ⟨rfl, trivial⟩ (gc_seq (gc_region (asg (v := vU .u64 0) rfl rfl (gl_nil (gq_then (gc_seq (gc_region (asg (v := vU .u64 0) rfl rfl (gl_nil (gq_then (gc_seq (gc_seq (gc_region ?_)))))))))))))
 refine mv rfl rfl (gv (ov_len_us Try.underlying27 rfl hv) rfl (gv (ov_sub_i (q := 1) rfl rfl (by omega) (by omega)) rfl (asg rfl rfl (gl_nil (gq_then (gc_block ?_))))))
 have hd0 : val (xs.drop xs.length) = 0 := by rw [List.drop_of_length_le (Nat.le_refl _)]; rfl
 refine gc_loop (ι := Nat) (fun (j : (Nat)) => j ≤ xs.length) (fun (j : (Nat)) => [(0, v), (3, vU .u64 (val (xs.drop j))), (4, vI (↑j - 1))]) (fun (j : (Nat)) => []) (fun (j : (Nat)) => h0) (fun (j : (Nat)) => j) xs.length ?_ ⟨?_, ?_, ?_, trivial⟩ rfl rfl ?_
 ·
  exact Nat.le_refl _
 · exact rfl
 · exact congrArg some (congrArg (vU .u64) hd0.symm)
 · exact rfl
 ·
  intro j hx
  obtain hj := hx
  show GC _ _ _ _ _ _ [(0, v), (3, vU .u64 (val (xs.drop j))), (4, vI (↑j - 1))] [] h0
  refine gc_seq (gc_seq (gc_region (mv rfl rfl (gv (ov_geq_i (q := 0) rfl rfl) rfl (gl_nil (gq_then ?_))))))
  refine gc_cond rfl (fun hc9 => ?_) (fun hc9 => ?_)
  ·
   refine gc_skip (gq_then (gc_seq (gc_block (gc_region (mv rfl rfl (gv (ov_shl_u (k := .u64) (s := 32) (yk := .u64) (W := 18446744073709551616) rfl rfl rfl rfl) rfl (mv rfl rfl (mv rfl rfl (gv (ov_index_us (j - 1) Try.underlying27 Try.sizeOf94 rfl rfl hv (by omega) (by omega)) rfl (gv (ov_load_us Try.isAgg94 rfl hv (by omega)) rfl ?_))))))))))
   have hx1 := hv.get32 (j - 1)
   refine gv (ov_conv_u (k := .u32) (k' := .u64) (W := 18446744073709551616) Try.underlying94 Try.underlying98 rfl rfl rfl (by omega)) rfl (gv (ov_or_u (k := .u64) rfl rfl rfl (by simp only [ub]; omega) (by simp only [ub]; omega)) rfl ?_)
   rw [or_shift (by
         have h2 := val_lt (fit_drop hf j)
         rw [List.length_drop] at h2
         have h3 : (4294967296 : Nat) ^ (xs.length - j) ≤ 4294967296 ^ 1 := Nat.pow_le_pow_right (by omega) (by omega)
         omega) hx1]
   refine asg rfl rfl (gl_nil (gq_in (gq_keep (e' := [(0, _), (4, _), (3, _)]) ⟨rfl, rfl, rfl, trivial⟩ (gq_then (gc_region (mv rfl rfl (gv (ov_sub_i (q := 1) rfl rfl (by omega) (by omega)) rfl (asg rfl rfl (gl_nil ?_)))))))))
   refine gq_round (j - 1) ?_ ?_ ⟨?_, ?_, ?_, trivial⟩ ?_ rfl
   ·
    omega
   ·
    omega
   · exact rfl
   · 
           rw [val_drop xs (j - 1) (by omega)]
           exact congrArg some (congrArg (vU .u64) (by rw [show j - 1 + 1 = j by omega]; omega))
   · exact congrArg some (congrArg vI (by omega))
   · exact rfl
  ·
   refine gc_exit (gx_then (gx_then (gx_here (gq_then (gc_seq (gc_region (mv rfl rfl (asg rfl rfl (gl_nil (gq_then (gc_ret (gq_body1 rfl rfl ?_))))))))))))
   rw [show j = 0 by omega]; rfl

theorem rat_divisor {w0 : World} {h0 : Mem}  (hs : MLe h0 (mem w0)) {m n : Nat} (hm0 : m < 18446744073709551616) (hn0 : n < 18446744073709551616) :
    Calls Try.prog 103 #[vU .u64 m, vU .u64 n] w0 (Ret w0 h0 (fun _ r => r = vU .u64 (Nat.gcd m n))) := by
 refine calls_begin (n := 12) (e := [(0, vU .u64 m), (1, vU .u64 n)]) (vs := [vU .u64 m, vU .u64 n]) Try.func103 rfl rfl (Nat.le_of_ble_eq_true rfl) hs ⟨rfl, rfl, trivial⟩ (gc_seq (gc_region (asg (v := vU .u64 0) rfl rfl (gl_nil (gq_then (gc_seq (gc_block ?_)))))))
 refine gc_loop (ι := Nat × Nat) (fun (x_ : (Nat × Nat)) => match x_ with | (x, y) => Nat.gcd x y = Nat.gcd m n ∧ x < 18446744073709551616 ∧ y < 18446744073709551616) (fun (x_ : (Nat × Nat)) => match x_ with | (x, y) => [(0, vU .u64 x), (1, vU .u64 y)]) (fun (x_ : (Nat × Nat)) => match x_ with | (x, y) => []) (fun (x_ : (Nat × Nat)) => match x_ with | (x, y) => h0) (fun (x_ : (Nat × Nat)) => match x_ with | (x, y) => y) (m, n) ?_ ⟨rfl, rfl, trivial⟩ rfl rfl ?_
 ·
  exact ⟨rfl, hm0, hn0⟩
 ·
  intro x hx
  obtain ⟨x, y⟩ := x
  obtain ⟨hg3, hm, hn⟩ := hx
  show GC _ _ _ _ _ _ [(0, vU .u64 x), (1, vU .u64 y)] [] h0
  refine gc_seq (gc_seq (gc_region (mv rfl rfl (gv (ov_neq_u (k := .u64) (q := 0) rfl rfl) rfl (gl_nil (gq_then ?_))))))
  refine gc_cond rfl (fun hc6 => ?_) (fun hc6 => ?_)
  ·
   refine gc_skip (gq_then (gc_block ?_))
   refine gc_draw 6 _ [] [(0, .q), (1, .q), (2, .q), (3, .q), (4, .q), (5, .q)] mixed (fun x hx => by cases hx) (by kernel_rfl) (fun x hx => by cases hx) (fun r hr => hr) (w_q rfl (fun h' L' hh hR => ov_move rfl) rfl (w_q rfl (fun h' L' hh hR => ov_move rfl) rfl (w_q rfl (fun h' L' hh hR => ov_move rfl) rfl (w_q rfl (fun h' L' hh hR => ov_rem_u (k := .u64) rfl rfl (by omega)) rfl (w_q rfl (fun h' L' hh hR => ov_assign rfl) rfl (w_q rfl (fun h' L' hh hR => ov_assign rfl) rfl (w_nil (gq_in ?_))))))))
   refine gq_round (y, x % y) ?_ ?_ ⟨?_, ?_, trivial⟩ ?_ rfl
   ·
    have hlt := Nat.mod_lt x (Nat.pos_of_ne_zero hc6)
    exact ⟨by rw [gcd_step]; exact hg3, hn, by omega⟩
   ·
    dsimp only
    exact Nat.mod_lt _ (Nat.pos_of_ne_zero hc6)
   · exact rfl
   · exact rfl
   · exact rfl
  ·
   refine gc_exit (gx_then (gx_then (gx_here (gq_then (gc_seq (gc_region (mv rfl rfl (asg rfl rfl (gl_nil (gq_then (gc_ret (gq_body1 rfl rfl ?_))))))))))))
   have hy0 : y = 0 := Classical.not_not.1 hc6
   rw [hy0, Nat.gcd_zero_right] at hg3
   rw [hg3]

end Go.Proofs.Ytfpjclgbieppeaa

namespace Go.Proofs.Ytfpjclgbieppeaa
open Bk Go
set_option linter.unusedVariables false
set_option linter.unusedSimpArgs false
set_option maxRecDepth 10000

theorem rat_limbs {w0 w : World} {h0 h : Mem}  {v u : Value} {xs : List Nat} {L : List Res} {lo n : Nat} (hu : u = subSl 1 v lo xs.length) (hlo : lo + 2 ≤ xs.length) (hn0 : n ≠ 0) (hn : n < 18446744073709551616) (hs : St w0 h0 (.us 94 .u32 v xs :: L) h w) :
    Calls Try.prog 104 #[u, vU .u64 n] w (RetOwn w0 h0 (fun g r K => g = h ∧ K = .us 94 .u32 v (xs.take lo ++ limbs n ++ xs.drop (lo + (limbs n).length)) :: L ∧ r = vI ↑(limbs n).length)) := by
 refine calls_begin_st (n := 17) (e := [(0, u), (1, vU .u64 n)]) (vs := [u, vU .u64 n]) Try.func104 rfl rfl (Nat.le_of_ble_eq_true rfl) hs ⟨rfl, rfl, trivial⟩ (gc_seq (gc_region (asg (v := vI (0)) rfl rfl (gl_nil (gq_then (gc_seq (gc_region (mv rfl rfl (mv rfl rfl (gv (ov_conv_uu (k := .u64) (k' := .u32) (W := 4294967296) Try.underlying98 Try.underlying94 rfl rfl rfl) rfl (gv (ov_index_osub (q := 0) (.head _) hu (0) Try.underlying27 Try.sizeOf94 rfl rfl rfl (by omega)) rfl (gl_store_ous0 Try.sizeOf94 rfl rfl (by omega) (gl_nil ?_)))))))))))))
 refine gq_then (gc_seq (gc_seq (gc_region (mv rfl rfl (gv (ov_shr_u (k := .u64) (s := 32) (yk := .u64) rfl rfl rfl (by simp only [ub]; omega)) rfl (gv (ov_eql_u (k := .u64) (q := 0) rfl rfl) rfl (gl_nil (gq_then ?_))))))))
 refine gc_cond rfl (fun hc11 => ?_) (fun hc11 => ?_)
 ·
  refine gc_keep (e' := []) trivial (gc_seq (gc_region (asg (v := vI (1)) rfl rfl (gl_nil (gq_then (gc_ret (gr_then (gq_body1_own rfl rfl ?_))))))))
  have hn1 : n < 4294967296 := by omega
  refine ⟨rfl, ?_, by rw [limbs_one hn0 hn1]; rfl⟩
  rw [Nat.mod_eq_of_lt hn1, Nat.add_zero, putL (by omega) hn0 hn1]
 ·
  refine gc_skip (gq_then (gc_seq (gc_region (mv rfl rfl (mv rfl rfl (gv (ov_shr_u (k := .u64) (s := 32) (yk := .u64) rfl rfl rfl (by simp only [ub]; omega)) rfl (gv (ov_conv_uu (k := .u64) (k' := .u32) (W := 4294967296) Try.underlying98 Try.underlying94 rfl rfl rfl) rfl (gv (ov_index_osub (q := 1) (.head _) (by rw [List.length_set]; exact hu) (1) Try.underlying27 Try.sizeOf94 rfl rfl rfl (by rw [List.length_set]; omega)) rfl (gl_store_ous0 Try.sizeOf94 rfl rfl (by simp; omega) (gl_nil (gq_keep (e' := []) trivial (gq_then (gc_seq ?_)))))))))))))
  refine gc_region (asg (v := vI (2)) rfl rfl (gl_nil (gq_then (gc_ret (gq_body1_own rfl rfl ?_)))))
  have hn1 : 4294967296 ≤ n := by omega
  have e1 : n / 2 ^ 32 % 4294967296 = n / 4294967296 := by omega
  refine ⟨rfl, ?_, ?_⟩
  · rw [e1, Nat.add_zero, putL2 hlo hn hn1]
  · rw [limbs_pos (by omega), limbs_one (t := n / 4294967296) (by omega) (by omega)]; rfl

theorem rat_short {w0 : World} {h0 : Mem}  (hs : MLe h0 (mem w0)) {s : Prop} {n d : Nat} (hn : n < 18446744073709551616) (hd : d < 18446744073709551616) (hd0 : d ≠ 0) :
    Calls Try.prog 82 #[vB s, vU .u64 n, vU .u64 d] w0 (Ret w0 h0 (fun h r => IsRat h r (mkRat (sg s n) d))) := by
 refine calls_begin (n := 50) (e := [(0, vB s), (1, vU .u64 n), (2, vU .u64 d)]) (vs := [vB s, vU .u64 n, vU .u64 d]) Try.func82 rfl rfl (Nat.le_of_ble_eq_true rfl) hs ⟨rfl, rfl, rfl, trivial⟩ (gc_seq (gc_region (gl_newop (new_alloc (cs := [vB ((0 : Rat).num < 0), .slice none 0 0, .slice none 0 0]) info29 rfl (by simp only [zb]; rfl)) rfl rfl rfl ?_)))
 intro v6 r6 hr6
 obtain ⟨b6, rfl, rfl⟩ := hr6
 refine gl_nil (gq_then (gc_seq (gc_seq (gc_region (mv rfl rfl (gv (ov_eql_u (k := .u64) (q := 0) rfl rfl) rfl (gl_nil (gq_then ?_))))))))
 refine gc_cond rfl (fun hc13 => ?_) (fun hc13 => ?_)
 ·
  refine gc_seq (gc_region (gv (ov_build_parts (ps' := []) (vs := [vB ((0 : Rat).num < 0), .slice none 0 0, .slice none 0 0]) Try.underlying29 info29 rfl (places29 Try.underlying29) trivial (by simp only [zb]; exact fill_nil)) rfl (gl_upd (A := []) (r' := .var b6 29 [vB ((0 : Rat).num < 0), .slice none 0 0, .slice none 0 0]) (upd_store_var (k := 0) (cs := [_, _, _]) (vs := [_, _, _]) rfl rfl rfl rfl size29 (Nat.le_of_ble_eq_true rfl)) rfl rfl rfl (gl_nil (gq_then (gc_ret (gr_then (gq_res (fun E S => run_res1 rfl (rv_agg (cs := [_, _, _]) (.head _) Try.underlying29 rfl size29 rfl) E S) ?_))))))))
  rw [hc13, mk_zero]
  exact IsRat.zero _
 ·
  have hn0 : n ≠ 0 := by omega
  refine gc_skip (gq_then (gc_seq (gc_region (mv rfl rfl (mv rfl rfl ?_)))))
  refine gl_call (vs := [_, _]) rfl rfl rfl rfl Try.call103 ⟨rfl, rfl, trivial⟩ (fun w hs => rat_divisor hs (by omega) (by omega)) ?_
  intro v17 h1 hh1 hr17
  subst hr17
  refine asg rfl rfl ?_
  have hg0 : 0 < Nat.gcd n d := Nat.gcd_pos_of_pos_left d (by omega)
  have hn1 : n / Nat.gcd n d ≠ 0 := Nat.ne_of_gt (Nat.div_pos (Nat.le_of_dvd (by omega) (Nat.gcd_dvd_left n d)) hg0)
  have hd1 : d / Nat.gcd n d ≠ 0 := Nat.ne_of_gt (Nat.div_pos (Nat.le_of_dvd (by omega) (Nat.gcd_dvd_right n d)) hg0)
  have hn2 := Nat.div_le_self n (Nat.gcd n d)
  have hd2 := Nat.div_le_self d (Nat.gcd n d)
  refine gl_nil (gq_then (gc_seq ?_))
  refine gc_draw 8 _ [] [(0, .q), (1, .q), (2, .q), (3, .q), (4, .q), (5, .q), (6, .q), (7, .q)] mixed (fun x hx => by cases hx) (by kernel_rfl) (fun x hx => by cases hx) (fun r hr => hr) (w_q rfl (fun h' L' hh hR => ov_move rfl) rfl (w_q rfl (fun h' L' hh hR => ov_move rfl) rfl (w_q rfl (fun h' L' hh hR => ov_quo_u (k := .u64) (W := 18446744073709551616) rfl rfl rfl rfl (by omega) (by omega)) rfl (w_q rfl (fun h' L' hh hR => ov_move rfl) rfl (w_q rfl (fun h' L' hh hR => ov_move rfl) rfl (w_q rfl (fun h' L' hh hR => ov_quo_u (k := .u64) (W := 18446744073709551616) rfl rfl rfl rfl (by omega) (by omega)) rfl (w_q rfl (fun h' L' hh hR => ov_assign rfl) rfl (w_q rfl (fun h' L' hh hR => ov_assign rfl) rfl ?_))))))))
  generalize hA : n / Nat.gcd n d = A at *
  generalize hB : d / Nat.gcd n d = B at *
  have hlA := limbs_len_word (n := A) (by omega)
  have hlB := limbs_len_word (n := B) (by omega)
  refine w_nil (gq_keep (e' := [(0, _), (6, _), (1, _), (2, _)]) ⟨rfl, rfl, rfl, rfl, trivial⟩ (gq_then (gc_seq (gc_region (gl_make_us (kd := .u32) (by' := 4) (q := 4) (q' := 4) 4 Try.underlying27 info94 rfl rfl rfl rfl rfl rfl rfl (by omega) (by omega) rfl ?_)))))
  intro v24
  refine asg rfl rfl (gl_nil (gq_then (gc_seq (gc_region (mv rfl rfl (mv rfl rfl ?_))))))
  refine gl_call_mut (vs := [_, _]) rfl rfl rfl rfl Try.call104 ⟨rfl, rfl, trivial⟩ (fun w hs => rat_limbs (hs.own_self (.head _)) (by decide) hn1 (by omega) hs) ?_
  intro v27 g27 L27 hr27
  obtain ⟨e1, e2, hr27⟩ := hr27
  rw [e1, e2]
  clear e1 e2 g27 L27
  subst hr27
  rw [show List.take 0 (List.replicate 4 0) ++ limbs A ++ List.drop (0 + (limbs A).length) (List.replicate 4 0) = limbs A ++ List.replicate (4 - (limbs A).length) 0 from by rw [List.take_zero, List.nil_append, Nat.zero_add, List.drop_replicate]]
  have hlen4 : (limbs A ++ List.replicate (4 - (limbs A).length) 0).length = 4 := by simp; omega
  refine asg rfl rfl (gl_nil (gq_then (gc_seq (gc_region (mv rfl rfl (mv rfl rfl (mv rfl rfl (mv rfl rfl ?_))))))))
  refine gl_shape (.head _) (fun ad cap hsh hcap => ?_)
  have eq1 : subSl3 1 v24 0 (limbs A).length (limbs A).length = .slice (if (limbs A).length = 0 then ad else ad.map (·.add (0 * 1))) ((limbs A).length - 0) ((limbs A).length - 0) := by rw [hsh]; rfl
  refine gv (ov_slice_own30 (.head _) _ _ Try.underlying27 Try.sizeOf94 rfl rfl rfl rfl rfl (by omega) (by omega)) rfl (gv (ov_build_parts (ps' := [(0, _), (1, _)]) (vs := [vB s, subSl3 1 v24 0 _ _, .slice none 0 0]) Try.underlying29 info29 rfl (places29 Try.underlying29) ⟨rfl, rfl, rfl, rfl, trivial⟩ (fill_one (A := []) (B := [_]) (C := [_, _]) (cs := [_]) (off := 0) (size := 1) rfl rfl rfl rfl rfl (fill_one (A := [_]) (B := [_]) (C := [_]) (cs := [_]) (off := 1) (size := 1) rfl rfl rfl rfl (by rw [eq1]; rfl) fill_nil))) rfl (gl_newop (new_alloc (cs := [vB ((0 : Rat).num < 0), .slice none 0 0, .slice none 0 0]) info29 rfl (by simp only [zb]; rfl)) rfl rfl rfl ?_))
  intro v10 r10 hr10
  obtain ⟨b10, rfl, rfl⟩ := hr10
  refine gl_upd (A := []) (r' := .var b10 29 [vB s, subSl3 1 v24 0 _ _, .slice none 0 0]) (upd_store_var (k := 0) (cs := [_, _, _]) (vs := [vB s, subSl3 1 v24 0 _ _, .slice none 0 0]) rfl rfl rfl (by rw [eq1]; rfl) size29 (Nat.le_of_ble_eq_true rfl)) rfl rfl rfl (gl_nil (gq_keep (e' := [(6, _), (2, _), (8, _), (9, _), (10, _)]) ⟨rfl, rfl, rfl, rfl, rfl, trivial⟩ (gq_then (gc_seq (gc_seq (gc_region (mv rfl rfl (gv (ov_gtr_u (k := .u64) (q := 1) rfl rfl) rfl (gl_nil (gq_then ?_))))))))))
  refine gc_cond rfl (fun hc35 => ?_) (fun hc35 => ?_)
  ·
   refine gc_seq (gc_region (mv rfl rfl (mv rfl rfl (mv rfl rfl (gv (ov_slice_own_l (.tail _ (.head _)) _ Try.underlying27 Try.sizeOf94 rfl rfl rfl (by omega)) rfl (mv rfl rfl (gl_front (A := [_]) ?_)))))))
   refine gl_call_mut (vs := [_, _]) rfl rfl rfl rfl Try.call104 ⟨rfl, rfl, trivial⟩ (fun w hs => rat_limbs (lo := (limbs A).length) (by rfl) (by omega) hd1 (by omega) hs) ?_
   intro v41 g41 L41 hr41
   obtain ⟨e1, e2, hr41⟩ := hr41
   rw [e1, e2]
   clear e1 e2 g41 L41
   subst hr41
   rw [show List.take (limbs A).length (limbs A ++ List.replicate (4 - (limbs A).length) 0) ++ limbs B ++ List.drop ((limbs A).length + (limbs B).length) (limbs A ++ List.replicate (4 - (limbs A).length) 0) = limbs A ++ limbs B ++ List.replicate (4 - (limbs A).length - (limbs B).length) 0 from by simp]
   have hlen5 : (limbs A ++ limbs B ++ List.replicate (4 - (limbs A).length - (limbs B).length) 0).length = 4 := by simp; omega
   refine gv (ov_add_i rfl rfl (by omega) (by omega)) rfl (asg rfl rfl (gl_nil (gq_keep (e' := [(6, _), (8, _), (9, _), (10, _), (11, _)]) ⟨rfl, rfl, rfl, rfl, rfl, trivial⟩ (gq_then (gc_region (mv rfl rfl (mv rfl rfl (mv rfl rfl (mv rfl rfl ?_)))))))))
   have eq2 : subSl3 1 v24 (limbs A).length ((limbs A).length + (limbs B).length) ((limbs A).length + (limbs B).length) = .slice (if (limbs A).length + (limbs B).length = (limbs A).length then ad else ad.map (·.add ((limbs A).length * 1))) ((limbs A).length + (limbs B).length - (limbs A).length) ((limbs A).length + (limbs B).length - (limbs A).length) := by rw [hsh]; rfl
   refine gv (ov_slice_own3 (.head _) ((limbs A).length) ((limbs A).length + (limbs B).length) ((limbs A).length + (limbs B).length) Try.underlying27 Try.sizeOf94 rfl rfl rfl rfl (by omega) (by omega) (by omega) (by omega) (by omega) (by omega)) rfl (gv (ov_field_addr Try.underlying29 rfl Try.sizeOf27 rfl) rfl (gl_upd (A := [_]) (r' := .var b10 29 [vB s, subSl3 1 v24 0 _ _, subSl3 1 v24 ((limbs A).length) ((limbs A).length + (limbs B).length) ((limbs A).length + (limbs B).length)]) (upd_store_var (k := 2) (cs := [_, _, _]) (vs := [subSl3 1 v24 ((limbs A).length) ((limbs A).length + (limbs B).length) ((limbs A).length + (limbs B).length)]) rfl rfl (by rw [eq2]; rfl) (by rw [eq2]; rfl) size27 (Nat.le_of_ble_eq_true rfl)) rfl rfl rfl (gl_nil (gq_then (gc_seq (gc_region (gl_freeze_us0 (by first | exact fit_append (fit_append (fit_limbs A) (fit_limbs B)) (fit_replicate _) | exact fit_append (fit_limbs A) (fit_replicate _)) ?_)))))))
   intro h2 hh2 hz
   refine gv (ov_load_agg (vs := [_, _, _]) (.head _) Try.underlying29 rfl size29 rfl rfl) rfl (gl_upd (A := [_]) (r' := .var b6 29 [vB s, subSl3 1 v24 0 _ _, subSl3 1 v24 ((limbs A).length) ((limbs A).length + (limbs B).length) ((limbs A).length + (limbs B).length)]) (upd_store_var (k := 0) (cs := [_, _, _]) (vs := [vB s, subSl3 1 v24 0 _ _, subSl3 1 v24 ((limbs A).length) ((limbs A).length + (limbs B).length) ((limbs A).length + (limbs B).length)]) rfl rfl rfl (by rw [eq1, eq2]; rfl) size29 (Nat.le_of_ble_eq_true rfl)) rfl rfl rfl (gl_nil (gq_keep (e' := [(6, _)]) ⟨rfl, trivial⟩ (gq_then (gc_ret (gq_res (fun E S => run_res1 rfl (rv_agg (cs := [_, _, _]) (.tail _ (.head _)) Try.underlying29 rfl size29 rfl) E S) ?_))))))
   have z1 := hz.sub3 (lo := 0) (hi := (limbs A).length) (mx := (limbs A).length) (by omega) (by omega) (by omega)
   have z2 := hz.sub3 (lo := (limbs A).length) (hi := (limbs A).length + (limbs B).length) (mx := (limbs A).length + (limbs B).length) (by omega) (by omega) (by omega)
   refine IsRat.make hn0 hd0 ?_ ?_
   · rw [hA]; simpa using z1
   · rw [hB]; rw [denN_ne (by omega)]; simpa using z2
  ·
   refine gc_skip (gq_then (gc_seq (gc_region (gl_freeze_us1 (by first | exact fit_append (fit_append (fit_limbs A) (fit_limbs B)) (fit_replicate _) | exact fit_append (fit_limbs A) (fit_replicate _)) ?_))))
   intro h2 hh2 hz
   refine gv (ov_load_agg (vs := [_, _, _]) (.head _) Try.underlying29 rfl size29 rfl rfl) rfl (gl_upd (A := [_]) (r' := .var b6 29 [vB s, subSl3 1 v24 0 _ _, .slice none 0 0]) (upd_store_var (k := 0) (cs := [_, _, _]) (vs := [vB s, subSl3 1 v24 0 _ _, .slice none 0 0]) rfl rfl rfl (by rw [eq1]; rfl) size29 (Nat.le_of_ble_eq_true rfl)) rfl rfl rfl (gl_nil (gq_then (gc_ret (gq_res (fun E S => run_res1 rfl (rv_agg (cs := [_, _, _]) (.tail _ (.head _)) Try.underlying29 rfl size29 rfl) E S) ?_)))))
   have z1 := hz.sub3 (lo := 0) (hi := (limbs A).length) (mx := (limbs A).length) (by omega) (by omega) (by omega)
   refine IsRat.make hn0 hd0 ?_ ?_
   · rw [hA]; simpa using z1
   · rw [hB]; rw [show B = 1 by omega, denN_one, limbs_zero]; exact Us.nil _ _

theorem rat_parts {w0 : World} {h0 : Mem}  (hs : MLe h0 (mem w0)) {qa : Rat} {vna vda : Value} (hna : Us .u32 h0 vna (limbs qa.num.natAbs)) (hda : Us .u32 h0 vda (limbs (denN qa.den))) :
    Calls Try.prog 81 #[.agg #[vB (qa.num < 0), vna, vda]] w0 (Ret w0 h0 (fun _ r => r = .tuple #[vU .u64 (pN qa), vU .u64 (pD qa), vB (smallQ qa)])) := by
 refine calls_begin (n := 30) (e := [(0, .agg #[vB (qa.num < 0), vna, vda])]) (vs := [.agg #[vB (qa.num < 0), vna, vda]]) Try.func81 rfl rfl (Nat.le_of_ble_eq_true rfl) hs ⟨rfl, trivial⟩ (gc_seq (gc_region (gl_newop (new_box (cs := [_, _, _]) rfl rfl) rfl rfl rfl ?_)))
 intro v1 r1 hr1
 obtain ⟨b1, rfl, rfl⟩ := hr1
 refine asg (v := vU .u64 0) rfl rfl (asg (v := vU .u64 0) rfl rfl (asg rfl rfl (gl_nil (gq_then (gc_seq (gc_seq (gc_region (gv (ov_field_addr Try.underlying29 rfl Try.sizeOf27 rfl) rfl (gv (ov_load_var (.head _) Try.isAgg27 rfl rfl) rfl (gv (ov_len_us Try.underlying27 rfl hna) rfl (gv (ov_gtr_i (q := 1) rfl rfl) rfl ?_)))))))))))
 refine gl_cut (ι := Unit) 6 (fun _ => True) (fun _ => [(14, vB (((1 : Int) < (↑(limbs qa.num.natAbs).length : Int)) ∨ ((1 : Int) < (↑(limbs (denN qa.den)).length : Int)))), (1, vP b1 0)]) (fun _ => [.var b1 29 [vB (qa.num < 0), vna, vda]]) (fun _ => h0) ?_ ?_
 ·
  refine gl_cases ((1 : Int) < (↑(limbs qa.num.natAbs).length : Int)) (fun hg => ?_) (fun hg => ?_)
  ·
   refine gl_val (ov_move (v := .bool true) (congrArg some (vB_true hg))) rfl rfl rfl (gl_off rfl rfl rfl rfl rfl rfl (gl_off rfl rfl rfl rfl rfl rfl (gl_off rfl rfl rfl rfl rfl rfl (gl_off rfl rfl rfl rfl rfl rfl (gv (ov_pick_t rfl rfl) rfl (gl_nil ?_))))))
   refine gq_cut () trivial ⟨?_, rfl, trivial⟩ rfl rfl
   exact congrArg some (vB_or_t hg)
  ·
   refine gl_val (ov_move (v := .bool false) (congrArg some (vB_false hg))) rfl rfl rfl (gl_on rfl rfl rfl (gv (ov_field_addr Try.underlying29 rfl Try.sizeOf27 rfl) rfl (gl_on rfl rfl rfl (gv (ov_load_var (.head _) Try.isAgg27 rfl rfl) rfl (gl_on rfl rfl rfl (gv (ov_len_us Try.underlying27 rfl hda) rfl (gl_on rfl rfl rfl (gv (ov_gtr_i (q := 1) rfl rfl) rfl (gv (ov_pick_f rfl rfl) rfl (gl_nil ?_))))))))))
   refine gq_cut () trivial ⟨?_, rfl, trivial⟩ rfl rfl
   exact congrArg some (vB_or_f hg)
 ·
  intro _ _
  show GL _ _ _ _ _ _ _ [(14, vB (((1 : Int) < (↑(limbs qa.num.natAbs).length : Int)) ∨ ((1 : Int) < (↑(limbs (denN qa.den)).length : Int)))), (1, vP b1 0)] [.var b1 29 [vB (qa.num < 0), vna, vda]] h0
  refine gl_nil (gq_then ?_)
  refine gc_cond rfl (fun hc14 => ?_) (fun hc14 => ?_)
  ·
   have hns : ¬ smallQ qa := smallQ_not hc14
   refine gc_seq (gc_region (asg (v := vU .u64 0) rfl rfl (asg (v := vU .u64 0) rfl rfl (asg rfl rfl (gl_nil (gq_then (gc_ret (gr_then (gq_body3 rfl rfl rfl rfl ?_)))))))))
   rw [pN_f hns, pD_f hns, vB_false hns]
  ·
   have hsm : smallQ qa := smallQ_of hc14
   have hsn := smallQ_num hsm
   have hsd := smallQ_den hsm
   refine gc_skip (gq_then (gc_seq (gc_region (asg (v := vU .u64 1) rfl rfl (gl_nil (gq_then (gc_seq (gc_seq (gc_region (gv (ov_field_addr Try.underlying29 rfl Try.sizeOf27 rfl) rfl (gv (ov_load_var (.head _) Try.isAgg27 rfl rfl) rfl (gv (ov_len_us Try.underlying27 rfl hda) rfl (gv (ov_eql_i (q := 1) rfl rfl) rfl ?_)))))))))))))
   refine gl_nil (gq_then ?_)
   refine gc_cond rfl (fun hc18 => ?_) (fun hc18 => ?_)
   ·
    have hd1 : (limbs (denN qa.den)).getD 0 0 = qa.den := denL_one hc18
    refine gc_region (gv (ov_field_addr Try.underlying29 rfl Try.sizeOf27 rfl) rfl (gv (ov_load_var (.head _) Try.isAgg27 rfl rfl) rfl (gv (ov_index_us (q := 0) (0) Try.underlying27 Try.sizeOf94 rfl rfl hda rfl (by omega)) rfl (gv (ov_load_us Try.isAgg94 rfl hda (by omega)) rfl ?_))))
    rw [hd1]
    refine gv (ov_conv_u (k := .u32) (k' := .u64) (W := 18446744073709551616) Try.underlying94 Try.underlying98 rfl rfl rfl (by omega)) rfl (asg rfl rfl (gl_nil (gq_keep (e' := [(1, _), (3, _)]) ⟨rfl, rfl, trivial⟩ (gq_then (gc_seq (gc_region (gv (ov_field_addr Try.underlying29 rfl Try.sizeOf27 rfl) rfl (gv (ov_load_var (.head _) Try.isAgg27 rfl rfl) rfl ?_))))))))
    refine gl_call (vs := [_]) rfl rfl rfl rfl Try.call102 ⟨rfl, trivial⟩ (fun w hs => rat_word hs hna (by omega)) ?_
    intro v26 h1 hh1 hr26
    try simp only [val_limbs] at hr26
    subst hr26
    refine mv rfl rfl (mv rfl rfl (gv (OpV.tr (by have := qa.den_nz; omega) (ov_neq_u (k := .u64) (q := 0) rfl rfl)) rfl (asg rfl rfl (asg rfl rfl (asg rfl rfl (gl_nil (gq_then (gc_ret (gq_body3 rfl rfl rfl rfl ?_)))))))))
    rw [pN_t hsm, pD_t hsm, vB_true hsm]
   ·
    have hd1 : qa.den = 1 := denL_nil hc18 hsm
    refine gc_skip (gq_then (gc_seq (gc_region (gv (ov_field_addr Try.underlying29 rfl Try.sizeOf27 rfl) rfl (gv (ov_load_var (.head _) Try.isAgg27 rfl rfl) rfl ?_)))))
    refine gl_call (vs := [_]) rfl rfl rfl rfl Try.call102 ⟨rfl, trivial⟩ (fun w hs => rat_word hs hna (by omega)) ?_
    intro v26 h1 hh1 hr26
    try simp only [val_limbs] at hr26
    subst hr26
    refine mv rfl rfl (mv rfl rfl (gv (OpV.tr (by have := qa.den_nz; omega) (ov_neq_u (k := .u64) (q := 0) rfl rfl)) rfl (asg rfl rfl (asg rfl rfl (asg rfl rfl (gl_nil (gq_keep (e' := [(2, _), (3, _), (4, _)]) ⟨rfl, rfl, rfl, trivial⟩ (gq_then (gc_ret (gq_body3 rfl rfl rfl rfl ?_))))))))))
    rw [pN_t hsm, pD_t hsm, vB_true hsm, hd1]

theorem rat_reduce {w0 : World} {h0 : Mem}  (hs : MLe h0 (mem w0)) {s : Prop} {vn vd : Value} {xs ys : List Nat} (hn : Us .u32 h0 vn xs) (hd : Us .u32 h0 vd ys) (hl : xs.length ≤ 1000000000000) (hl' : ys.length ≤ 1000000000000) :
    Calls Try.prog 83 #[vB s, vn, vd] w0 (Ret w0 h0 (fun h r => IsRat h r (mkRat (sg s (val xs)) (val ys)))) := by
 have hbx := bitsN_eq_zero (n := val xs)
 have hby := bitsN_eq_zero (n := val ys)
 have hlx := limbs_len_le hn.lt
 have hly := limbs_len_le hd.lt
 refine calls_begin (n := 68) (e := [(0, vB s), (1, vn), (2, vd)]) (vs := [vB s, vn, vd]) Try.func83 rfl rfl (Nat.le_of_ble_eq_true rfl) hs ⟨rfl, rfl, rfl, trivial⟩ (gc_seq (gc_region (gl_newop (new_alloc (cs := [vB ((0 : Rat).num < 0), .slice none 0 0, .slice none 0 0]) info29 rfl (by simp only [zb]; rfl)) rfl rfl rfl ?_)))
 intro v6 r6 hr6
 obtain ⟨b6, rfl, rfl⟩ := hr6
 refine gl_nil (gq_then (gc_seq (gc_seq (gc_region (mv rfl rfl ?_)))))
 refine gl_call (vs := [_]) rfl rfl rfl rfl Try.call98 ⟨rfl, trivial⟩ (fun w hs => nat_bits hs hn (by omega)) ?_
 intro v9 h1 hh1 hr9
 try simp only [val_limbs] at hr9
 subst hr9
 refine gv (ov_eql_i (q := 0) rfl rfl) rfl ?_
 refine gl_cut (ι := Mem) 5 (fun m_ => MLe h1 m_) (fun _ => [(15, vB (((↑(bitsN (val (xs))) : Int) = (0 : Int)) ∨ ((↑(bitsN (val (ys))) : Int) = (0 : Int)))), (0, vB s), (1, vn), (2, vd), (6, vP b6 0)]) (fun _ => [.var b6 29 [vB ((0 : Rat).num < 0), .slice none 0 0, .slice none 0 0]]) (fun m_ => m_) ?_ ?_
 ·
  refine gl_cases ((↑(bitsN (val (xs))) : Int) = (0 : Int)) (fun hg => ?_) (fun hg => ?_)
  ·
   refine gl_val (ov_move (v := .bool true) (congrArg some (vB_true hg))) rfl rfl rfl (gl_off rfl rfl rfl rfl rfl rfl (gl_off rfl rfl rfl rfl rfl rfl (gl_off rfl rfl rfl rfl rfl rfl (gv (ov_pick_t rfl rfl) rfl (gl_nil ?_)))))
   refine gq_cut h1 (MLe.refl _) ⟨?_, rfl, rfl, rfl, rfl, trivial⟩ rfl rfl
   exact congrArg some (vB_or_t hg)
  ·
   refine gl_val (ov_move (v := .bool false) (congrArg some (vB_false hg))) rfl rfl rfl (gl_on rfl rfl rfl (mv rfl rfl (gl_on rfl rfl rfl ?_)))
   replace hd := hd.mono hh1
   refine gl_call (vs := [_]) rfl rfl rfl rfl Try.call98 ⟨rfl, trivial⟩ (fun w hs => nat_bits hs hd (by omega)) ?_
   intro v13 h2 hh2 hr13
   try simp only [val_limbs] at hr13
   subst hr13
   refine gl_on rfl rfl rfl (gv (ov_eql_i (q := 0) rfl rfl) rfl (gv (ov_pick_f rfl rfl) rfl (gl_nil ?_)))
   refine gq_cut h2 hh2 ⟨?_, rfl, rfl, rfl, rfl, trivial⟩ rfl rfl
   exact congrArg some (vB_or_f hg)
 ·
  intro mg1_3 hmmg1_3
  show GL _ _ _ _ _ _ _ [(15, vB (((↑(bitsN (val (xs))) : Int) = (0 : Int)) ∨ ((↑(bitsN (val (ys))) : Int) = (0 : Int)))), (0, vB s), (1, vn), (2, vd), (6, vP b6 0)] [.var b6 29 [vB ((0 : Rat).num < 0), .slice none 0 0, .slice none 0 0]] mg1_3
  refine gl_nil (gq_then ?_)
  refine gc_cond rfl (fun hc15 => ?_) (fun hc15 => ?_)
  ·
   refine gc_seq (gc_region (gv (ov_build_parts (ps' := []) (vs := [vB ((0 : Rat).num < 0), .slice none 0 0, .slice none 0 0]) Try.underlying29 info29 rfl (places29 Try.underlying29) trivial (by simp only [zb]; exact fill_nil)) rfl (gl_upd (A := []) (r' := .var b6 29 [vB ((0 : Rat).num < 0), .slice none 0 0, .slice none 0 0]) (upd_store_var (k := 0) (cs := [_, _, _]) (vs := [_, _, _]) rfl rfl rfl rfl size29 (Nat.le_of_ble_eq_true rfl)) rfl rfl rfl (gl_nil (gq_then (gc_ret (gr_then (gq_res (fun E S => run_res1 rfl (rv_agg (cs := [_, _, _]) (.head _) Try.underlying29 rfl size29 rfl) E S) ?_))))))))
   rcases hc15 with h | h
   · rw [show val xs = 0 by omega, mk_zero]; exact IsRat.zero _
   · rw [show val ys = 0 by omega, mk_zero']; exact IsRat.zero _
  ·
   have hn0 : val xs ≠ 0 := fun h => hc15 (.inl (by omega))
   have hd0 : val ys ≠ 0 := fun h => hc15 (.inr (by omega))
   refine gc_skip (gq_then (gc_seq (gc_seq (gc_region (mv rfl rfl ?_)))))
   replace hn := hn.mono (hh1.trans hmmg1_3)
   refine gv (ov_len_us Try.underlying27 rfl hn) rfl (gv (ov_leq_i (q := 2) rfl rfl) rfl ?_)
   refine gl_cut (ι := Unit) 5 (fun _ => True) (fun _ => [(24, vB (((↑(xs).length : Int) ≤ (2 : Int)) ∧ ((↑(ys).length : Int) ≤ (2 : Int)))), (0, vB s), (1, vn), (2, vd), (6, vP b6 0)]) (fun _ => [.var b6 29 [vB ((0 : Rat).num < 0), .slice none 0 0, .slice none 0 0]]) (fun _ => mg1_3) ?_ ?_
   ·
    refine gl_cases ((↑(xs).length : Int) ≤ (2 : Int)) (fun hg => ?_) (fun hg => ?_)
    ·
     refine gl_val (ov_move (v := .bool true) (congrArg some (vB_true hg))) rfl rfl rfl (gl_on rfl rfl rfl (mv rfl rfl (gl_on rfl rfl rfl ?_)))
     replace hd := hd.mono (hh1.trans hmmg1_3)
     refine gv (ov_len_us Try.underlying27 rfl hd) rfl (gl_on rfl rfl rfl (gv (ov_leq_i (q := 2) rfl rfl) rfl (gv (ov_pick_t rfl rfl) rfl (gl_nil ?_))))
     refine gq_cut () trivial ⟨?_, rfl, rfl, rfl, rfl, trivial⟩ rfl rfl
     exact congrArg some (vB_and_t hg)
    ·
     refine gl_val (ov_move (v := .bool false) (congrArg some (vB_false hg))) rfl rfl rfl (gl_off rfl rfl rfl rfl rfl rfl (gl_off rfl rfl rfl rfl rfl rfl (gl_off rfl rfl rfl rfl rfl rfl (gv (ov_pick_f rfl rfl) rfl (gl_nil ?_)))))
     refine gq_cut () trivial ⟨?_, rfl, rfl, rfl, rfl, trivial⟩ rfl rfl
     exact congrArg some (vB_and_f hg)
   ·
    intro _ _
    show GL _ _ _ _ _ _ _ [(24, vB (((↑(xs).length : Int) ≤ (2 : Int)) ∧ ((↑(ys).length : Int) ≤ (2 : Int)))), (0, vB s), (1, vn), (2, vd), (6, vP b6 0)] [.var b6 29 [vB ((0 : Rat).num < 0), .slice none 0 0, .slice none 0 0]] mg1_3
    refine gl_nil (gq_then ?_)
    refine gc_cond rfl (fun hc24 => ?_) (fun hc24 => ?_)
    ·
     have hnw := lt_word (n := val xs) (by omega)
     have hdw := lt_word (n := val ys) (by omega)
     refine gc_seq (gc_region (mv rfl rfl (mv rfl rfl ?_)))
     refine gl_call (vs := [_]) rfl rfl rfl rfl Try.call102 ⟨rfl, trivial⟩ (fun w hs => rat_word hs hn (by omega)) ?_
     intro v27 h2 hh2 hr27
     try simp only [val_limbs] at hr27
     subst hr27
     refine mv rfl rfl ?_
     replace hd := hd.mono ((hh1.trans hmmg1_3).trans hh2)
     refine gl_call (vs := [_]) rfl rfl rfl rfl Try.call102 ⟨rfl, trivial⟩ (fun w hs => rat_word hs hd (by omega)) ?_
     intro v29 h3 hh3 hr29
     try simp only [val_limbs] at hr29
     subst hr29
     refine gl_call (vs := [_, _, _]) rfl rfl rfl rfl Try.call82 ⟨rfl, rfl, rfl, trivial⟩ (fun w hs => rat_short hs (by omega) (by omega) (by omega)) ?_
     intro v30 h4 hh4 hr30
     obtain ⟨vn30, vd30, rfl, hn30, hd30⟩ := hr30
     refine gl_upd (A := []) (r' := .var b6 29 [vB ((mkRat (sg (s) (val (xs))) (val (ys))).num < 0), vn30, vd30]) (upd_store_var (k := 0) (cs := [_, _, _]) (vs := [_, _, _]) rfl rfl rfl (ocr rfl (ocu hn30 (ocu hd30 oc0))) size29 (Nat.le_of_ble_eq_true rfl)) rfl rfl rfl (gl_nil (gq_keep (e' := [(6, _)]) ⟨rfl, trivial⟩ (gq_then (gc_ret (gr_then (gq_res (fun E S => run_res1 rfl (rv_agg (cs := [_, _, _]) (.head _) Try.underlying29 rfl size29 rfl) E S) ?_))))))
     exact ⟨_, _, rfl, hn30, hd30⟩
    ·
     refine gc_skip (gq_then (gc_seq (gc_seq (gc_region (mv rfl rfl (mv rfl rfl ?_))))))
     replace hd := hd.mono (hh1.trans hmmg1_3)
     refine gl_call (vs := [_, _]) rfl rfl rfl rfl Try.call105 ⟨rfl, rfl, trivial⟩ (fun w hs => nat_gcd hs hn hd (by omega) (by omega)) ?_
     intro v33 h2 hh2 hr33
     try simp only [val_limbs] at hr33
     have hlm33 := limbs_len_gcd (val (xs)) (val (ys))
     have hg0 : Nat.gcd (val xs) (val ys) ≠ 0 := Nat.ne_of_gt (Nat.gcd_pos_of_pos_left _ (by omega))
     have hgl := limbs_len_mono (Nat.le_of_dvd (by omega) (Nat.gcd_dvd_left (val xs) (val ys)))
     refine asg rfl rfl (gl_nil (gq_then (gc_seq (gc_region (mv rfl rfl ?_)))))
     refine gl_call (vs := [_]) rfl rfl rfl rfl Try.call98 ⟨rfl, trivial⟩ (fun w hs => nat_bits hs hr33 (by omega)) ?_
     intro v35 h3 hh3 hr35
     try simp only [val_limbs] at hr35
     subst hr35
     refine gv (ov_gtr_i (q := 1) rfl rfl) rfl (gl_nil (gq_then ?_))
     refine gc_cond rfl (fun hc36 => ?_) (fun hc36 => ?_)
     ·
      refine gc_seq (gc_region (mv rfl rfl (mv rfl rfl ?_)))
      replace hn := hn.mono (hh2.trans hh3)
      replace hr33 := hr33.mono hh3
      refine gl_call (vs := [_, _]) rfl rfl rfl rfl Try.call106 ⟨rfl, rfl, trivial⟩ (fun w hs => nat_div hs hn hr33 (by omega) (by omega)) ?_
      intro v40 h4 hh4 hr40
      obtain ⟨q40, r40, rfl, hq40, hr40⟩ := hr40
      try simp only [val_limbs] at hq40 hr40 ⊢
      have hlm40 := limbs_len_mono (Nat.div_le_self (val (xs)) (((Nat.gcd (val (xs)) (val (ys))))))
      have hl7 := limbs_len_mono (Nat.div_le_self (val xs) (Nat.gcd (val xs) (val ys)))
      refine mv rfl rfl (gv (ov_extract (vs := [_, _, _]) rfl rfl) rfl (gv (ov_extract (vs := [_, _, _]) rfl rfl) rfl (gv (ov_extract (vs := [_, _, _]) rfl rfl) rfl (asg rfl rfl (gl_nil (gq_keep (e' := [(0, _), (2, _), (6, _), (7, _), (1, _)]) ⟨rfl, rfl, rfl, rfl, rfl, trivial⟩ (gq_then (gc_region (mv rfl rfl (mv rfl rfl ?_))))))))))
      replace hd := hd.mono ((hh2.trans hh3).trans hh4)
      replace hr33 := hr33.mono hh4
      refine gl_call (vs := [_, _]) rfl rfl rfl rfl Try.call106 ⟨rfl, rfl, trivial⟩ (fun w hs => nat_div hs hd hr33 (by omega) (by omega)) ?_
      intro v47 h5 hh5 hr47
      obtain ⟨q47, r47, rfl, hq47, hr47⟩ := hr47
      try simp only [val_limbs] at hq47 hr47 ⊢
      have hlm47 := limbs_len_mono (Nat.div_le_self (val (ys)) (((Nat.gcd (val (xs)) (val (ys))))))
      have hl8 := limbs_len_mono (Nat.div_le_self (val ys) (Nat.gcd (val xs) (val ys)))
      refine mv rfl rfl (gv (ov_extract (vs := [_, _, _]) rfl rfl) rfl (gv (ov_extract (vs := [_, _, _]) rfl rfl) rfl (gv (ov_extract (vs := [_, _, _]) rfl rfl) rfl (asg rfl rfl (gl_nil (gq_then (gc_seq (gc_region (mv rfl rfl ?_)))))))))
      replace hq40 := hq40.mono hh5
      refine gl_call (vs := [_, _]) rfl rfl rfl rfl Try.call100 ⟨rfl, rfl, trivial⟩ (fun w hs => nat_add hs hq40 (Us.nil _ _) (by first | omega | (simp only [List.length_nil]; omega)) (by first | omega | (simp only [List.length_nil]; omega))) ?_
      intro v52 h6 hh6 hr52
      try simp only [val_limbs] at hr52
      have hlm52 := limbs_len_add ((((val (xs)) / (((Nat.gcd (val (xs)) (val (ys)))))))) (val ([]))
      refine mv rfl rfl ?_
      replace hq47 := hq47.mono hh6
      refine gl_call (vs := [_, _]) rfl rfl rfl rfl Try.call100 ⟨rfl, rfl, trivial⟩ (fun w hs => nat_add hs hq47 (Us.nil _ _) (by first | omega | (simp only [List.length_nil]; omega)) (by first | omega | (simp only [List.length_nil]; omega))) ?_
      intro v54 h7 hh7 hr54
      try simp only [val_limbs] at hr54
      have hlm54 := limbs_len_add ((((val (ys)) / (((Nat.gcd (val (xs)) (val (ys)))))))) (val ([]))
      refine asg rfl rfl (asg rfl rfl (gl_nil (gq_keep (e' := [(0, _), (6, _), (1, _), (2, _)]) ⟨rfl, rfl, rfl, rfl, trivial⟩ (gq_then (gc_seq (gc_seq (gc_region (mv rfl rfl (gv (ov_len_us Try.underlying27 rfl hr54) rfl (gv (ov_eql_i (q := 1) rfl rfl) rfl ?_))))))))))
      refine gl_cut (ι := Unit) 6 (fun _ => True) (fun _ => [(63, vB (((↑(limbs (((((val (ys)) / (((Nat.gcd (val (xs)) (val (ys)))))))) + (val ([])))).length : Int) = (1 : Int)) ∧ (((limbs (((((val (ys)) / (((Nat.gcd (val (xs)) (val (ys)))))))) + (val ([])))).getD (0) 0) = (1 : Nat)))), (0, vB s), (6, vP b6 0), (1, v52), (2, v54)]) (fun _ => [.var b6 29 [vB ((0 : Rat).num < 0), .slice none 0 0, .slice none 0 0]]) (fun _ => h7) ?_ ?_
      ·
       refine gl_cases ((↑(limbs (((((val (ys)) / (((Nat.gcd (val (xs)) (val (ys)))))))) + (val ([])))).length : Int) = (1 : Int)) (fun hg => ?_) (fun hg => ?_)
       ·
        refine gl_val (ov_move (v := .bool true) (congrArg some (vB_true hg))) rfl rfl rfl (gl_on rfl rfl rfl (mv rfl rfl (gl_on rfl rfl rfl (gv (ov_index_us (q := 0) (0) Try.underlying27 Try.sizeOf94 rfl rfl hr54 rfl (by omega)) rfl (gl_on rfl rfl rfl (gv (ov_load_us Try.isAgg94 rfl hr54 (by omega)) rfl (gl_on rfl rfl rfl (gv (ov_eql_u (k := .u32) (q := 1) rfl rfl) rfl (gv (ov_pick_t rfl rfl) rfl (gl_nil ?_))))))))))
        refine gq_cut () trivial ⟨?_, rfl, rfl, rfl, rfl, trivial⟩ rfl rfl
        exact congrArg some (vB_and_t hg)
       ·
        refine gl_val (ov_move (v := .bool false) (congrArg some (vB_false hg))) rfl rfl rfl (gl_off rfl rfl rfl rfl rfl rfl (gl_off rfl rfl rfl rfl rfl rfl (gl_off rfl rfl rfl rfl rfl rfl (gl_off rfl rfl rfl rfl rfl rfl (gv (ov_pick_f rfl rfl) rfl (gl_nil ?_))))))
        refine gq_cut () trivial ⟨?_, rfl, rfl, rfl, rfl, trivial⟩ rfl rfl
        exact congrArg some (vB_and_f hg)
      ·
       intro _ _
       show GL _ _ _ _ _ _ _ [(63, vB (((↑(limbs (((((val (ys)) / (((Nat.gcd (val (xs)) (val (ys)))))))) + (val ([])))).length : Int) = (1 : Int)) ∧ (((limbs (((((val (ys)) / (((Nat.gcd (val (xs)) (val (ys)))))))) + (val ([])))).getD (0) 0) = (1 : Nat)))), (0, vB s), (6, vP b6 0), (1, v52), (2, v54)] [.var b6 29 [vB ((0 : Rat).num < 0), .slice none 0 0, .slice none 0 0]] h7
       refine gl_nil (gq_then ?_)
       refine gc_cond rfl (fun hc63 => ?_) (fun hc63 => ?_)
       ·
        refine gc_region (asg rfl rfl (gl_nil (gq_then (gc_seq (gc_region (mv rfl rfl (mv rfl rfl (mv rfl rfl ?_))))))))
        replace hr52 := hr52.mono hh7
        refine gv (ov_build_parts (ps' := [(0, _), (1, _), (2, _)]) (vs := [vB s, v52, .slice none 0 0]) Try.underlying29 info29 rfl (places29 Try.underlying29) ⟨rfl, rfl, rfl, rfl, rfl, rfl, trivial⟩ (fill_one (A := []) (B := [_]) (C := [_, _]) (cs := [_]) (off := 0) (size := 1) rfl rfl rfl rfl rfl (fill_one (A := [_]) (B := [_]) (C := [_]) (cs := [_]) (off := 1) (size := 1) rfl rfl rfl rfl hr52.cells (fill_one (A := [_, _]) (B := [_]) (C := []) (cs := [_]) (off := 2) (size := 1) rfl rfl rfl rfl rfl fill_nil)))) rfl (gl_upd (A := []) (r' := .var b6 29 [vB s, v52, .slice none 0 0]) (upd_store_var (k := 0) (cs := [_, _, _]) (vs := [_, _, _]) rfl rfl rfl (ocr rfl (ocu hr52 (ocr rfl oc0))) size29 (Nat.le_of_ble_eq_true rfl)) rfl rfl rfl (gl_nil (gq_then (gc_ret (gq_res (fun E S => run_res1 rfl (rv_agg (cs := [_, _, _]) (.head _) Try.underlying29 rfl size29 rfl) E S) ?_)))))
        exact IsRat.fin1 hn0 hd0 hr52 hc63
       ·
        refine gc_skip (gq_then (gc_seq (gc_region (mv rfl rfl (mv rfl rfl (mv rfl rfl ?_))))))
        replace hr52 := hr52.mono hh7
        refine gv (ov_build_parts (ps' := [(0, _), (1, _), (2, _)]) (vs := [vB s, v52, v54]) Try.underlying29 info29 rfl (places29 Try.underlying29) ⟨rfl, rfl, rfl, rfl, rfl, rfl, trivial⟩ (fill_one (A := []) (B := [_]) (C := [_, _]) (cs := [_]) (off := 0) (size := 1) rfl rfl rfl rfl rfl (fill_one (A := [_]) (B := [_]) (C := [_]) (cs := [_]) (off := 1) (size := 1) rfl rfl rfl rfl hr52.cells (fill_one (A := [_, _]) (B := [_]) (C := []) (cs := [_]) (off := 2) (size := 1) rfl rfl rfl rfl hr54.cells fill_nil)))) rfl (gl_upd (A := []) (r' := .var b6 29 [vB s, v52, v54]) (upd_store_var (k := 0) (cs := [_, _, _]) (vs := [_, _, _]) rfl rfl rfl (ocr rfl (ocu hr52 (ocu hr54 oc0))) size29 (Nat.le_of_ble_eq_true rfl)) rfl rfl rfl (gl_nil (gq_then (gc_ret (gq_res (fun E S => run_res1 rfl (rv_agg (cs := [_, _, _]) (.head _) Try.underlying29 rfl size29 rfl) E S) ?_)))))
        exact IsRat.fin hn0 hd0 hr52 hr54 hc63
     ·
      refine gc_skip (gq_then (gc_seq (gc_region (mv rfl rfl ?_))))
      replace hn := hn.mono (hh2.trans hh3)
      refine gl_call (vs := [_, _]) rfl rfl rfl rfl Try.call100 ⟨rfl, rfl, trivial⟩ (fun w hs => nat_add hs hn (Us.nil _ _) (by first | omega | (simp only [List.length_nil]; omega)) (by first | omega | (simp only [List.length_nil]; omega))) ?_
      intro v52 h4 hh4 hr52
      try simp only [val_limbs] at hr52
      have hlm52 := limbs_len_add (val (xs)) (val ([]))
      refine mv rfl rfl ?_
      replace hd := hd.mono ((hh2.trans hh3).trans hh4)
      refine gl_call (vs := [_, _]) rfl rfl rfl rfl Try.call100 ⟨rfl, rfl, trivial⟩ (fun w hs => nat_add hs hd (Us.nil _ _) (by first | omega | (simp only [List.length_nil]; omega)) (by first | omega | (simp only [List.length_nil]; omega))) ?_
      intro v54 h5 hh5 hr54
      try simp only [val_limbs] at hr54
      have hlm54 := limbs_len_add (val (ys)) (val ([]))
      refine asg rfl rfl (asg rfl rfl (gl_nil (gq_keep (e' := [(0, _), (6, _), (1, _), (2, _)]) ⟨rfl, rfl, rfl, rfl, trivial⟩ (gq_then (gc_seq (gc_seq (gc_region (mv rfl rfl (gv (ov_len_us Try.underlying27 rfl hr54) rfl (gv (ov_eql_i (q := 1) rfl rfl) rfl ?_))))))))))
      refine gl_cut (ι := Unit) 6 (fun _ => True) (fun _ => [(63, vB (((↑(limbs ((val (ys)) + (val ([])))).length : Int) = (1 : Int)) ∧ (((limbs ((val (ys)) + (val ([])))).getD (0) 0) = (1 : Nat)))), (0, vB s), (6, vP b6 0), (1, v52), (2, v54)]) (fun _ => [.var b6 29 [vB ((0 : Rat).num < 0), .slice none 0 0, .slice none 0 0]]) (fun _ => h5) ?_ ?_
      ·
       refine gl_cases ((↑(limbs ((val (ys)) + (val ([])))).length : Int) = (1 : Int)) (fun hg => ?_) (fun hg => ?_)
       ·
        refine gl_val (ov_move (v := .bool true) (congrArg some (vB_true hg))) rfl rfl rfl (gl_on rfl rfl rfl (mv rfl rfl (gl_on rfl rfl rfl (gv (ov_index_us (q := 0) (0) Try.underlying27 Try.sizeOf94 rfl rfl hr54 rfl (by omega)) rfl (gl_on rfl rfl rfl (gv (ov_load_us Try.isAgg94 rfl hr54 (by omega)) rfl (gl_on rfl rfl rfl (gv (ov_eql_u (k := .u32) (q := 1) rfl rfl) rfl (gv (ov_pick_t rfl rfl) rfl (gl_nil ?_))))))))))
        refine gq_cut () trivial ⟨?_, rfl, rfl, rfl, rfl, trivial⟩ rfl rfl
        exact congrArg some (vB_and_t hg)
       ·
        refine gl_val (ov_move (v := .bool false) (congrArg some (vB_false hg))) rfl rfl rfl (gl_off rfl rfl rfl rfl rfl rfl (gl_off rfl rfl rfl rfl rfl rfl (gl_off rfl rfl rfl rfl rfl rfl (gl_off rfl rfl rfl rfl rfl rfl (gv (ov_pick_f rfl rfl) rfl (gl_nil ?_))))))
        refine gq_cut () trivial ⟨?_, rfl, rfl, rfl, rfl, trivial⟩ rfl rfl
        exact congrArg some (vB_and_f hg)
      ·
       intro _ _
       show GL _ _ _ _ _ _ _ [(63, vB (((↑(limbs ((val (ys)) + (val ([])))).length : Int) = (1 : Int)) ∧ (((limbs ((val (ys)) + (val ([])))).getD (0) 0) = (1 : Nat)))), (0, vB s), (6, vP b6 0), (1, v52), (2, v54)] [.var b6 29 [vB ((0 : Rat).num < 0), .slice none 0 0, .slice none 0 0]] h5
       refine gl_nil (gq_then ?_)
       refine gc_cond rfl (fun hc63 => ?_) (fun hc63 => ?_)
       ·
        refine gc_region (asg rfl rfl (gl_nil (gq_then (gc_seq (gc_region (mv rfl rfl (mv rfl rfl (mv rfl rfl ?_))))))))
        replace hr52 := hr52.mono hh5
        refine gv (ov_build_parts (ps' := [(0, _), (1, _), (2, _)]) (vs := [vB s, v52, .slice none 0 0]) Try.underlying29 info29 rfl (places29 Try.underlying29) ⟨rfl, rfl, rfl, rfl, rfl, rfl, trivial⟩ (fill_one (A := []) (B := [_]) (C := [_, _]) (cs := [_]) (off := 0) (size := 1) rfl rfl rfl rfl rfl (fill_one (A := [_]) (B := [_]) (C := [_]) (cs := [_]) (off := 1) (size := 1) rfl rfl rfl rfl hr52.cells (fill_one (A := [_, _]) (B := [_]) (C := []) (cs := [_]) (off := 2) (size := 1) rfl rfl rfl rfl rfl fill_nil)))) rfl (gl_upd (A := []) (r' := .var b6 29 [vB s, v52, .slice none 0 0]) (upd_store_var (k := 0) (cs := [_, _, _]) (vs := [_, _, _]) rfl rfl rfl (ocr rfl (ocu hr52 (ocr rfl oc0))) size29 (Nat.le_of_ble_eq_true rfl)) rfl rfl rfl (gl_nil (gq_then (gc_ret (gq_res (fun E S => run_res1 rfl (rv_agg (cs := [_, _, _]) (.head _) Try.underlying29 rfl size29 rfl) E S) ?_)))))
        have hg1 := bitsN_one hc36 hg0
        exact IsRat.fin1 hn0 hd0 (by rw [hg1, Nat.div_one]; exact hr52) (by rw [hg1, Nat.div_one]; exact hc63)
       ·
        refine gc_skip (gq_then (gc_seq (gc_region (mv rfl rfl (mv rfl rfl (mv rfl rfl ?_))))))
        replace hr52 := hr52.mono hh5
        refine gv (ov_build_parts (ps' := [(0, _), (1, _), (2, _)]) (vs := [vB s, v52, v54]) Try.underlying29 info29 rfl (places29 Try.underlying29) ⟨rfl, rfl, rfl, rfl, rfl, rfl, trivial⟩ (fill_one (A := []) (B := [_]) (C := [_, _]) (cs := [_]) (off := 0) (size := 1) rfl rfl rfl rfl rfl (fill_one (A := [_]) (B := [_]) (C := [_]) (cs := [_]) (off := 1) (size := 1) rfl rfl rfl rfl hr52.cells (fill_one (A := [_, _]) (B := [_]) (C := []) (cs := [_]) (off := 2) (size := 1) rfl rfl rfl rfl hr54.cells fill_nil)))) rfl (gl_upd (A := []) (r' := .var b6 29 [vB s, v52, v54]) (upd_store_var (k := 0) (cs := [_, _, _]) (vs := [_, _, _]) rfl rfl rfl (ocr rfl (ocu hr52 (ocu hr54 oc0))) size29 (Nat.le_of_ble_eq_true rfl)) rfl rfl rfl (gl_nil (gq_then (gc_ret (gq_res (fun E S => run_res1 rfl (rv_agg (cs := [_, _, _]) (.head _) Try.underlying29 rfl size29 rfl) E S) ?_)))))
        have hg1 := bitsN_one hc36 hg0
        exact IsRat.fin hn0 hd0 (by rw [hg1, Nat.div_one]; exact hr52) (by rw [hg1, Nat.div_one]; exact hr54) (by rw [hg1, Nat.div_one]; exact hc63)

end Go.Proofs.Ytfpjclgbieppeaa

namespace Go.Proofs.Ytfpjclgbieppeaa
open Bk Go
set_option linter.unusedVariables false
set_option linter.unusedSimpArgs false
set_option maxRecDepth 10000

theorem sl_equal {w0 : World} {h0 : Mem}  (hs : MLe h0 (mem w0)) {v v' : Value} {xs ys : List Nat} (hv : Us .u32 h0 v xs) (hv' : Us .u32 h0 v' ys) :
    Calls Try.prog 96 #[v, v'] w0 (Ret w0 h0 (fun _ r => r = vB (xs = ys))) := by
 have hlen := hv.lt63
 have hlen' := hv'.lt63
 refine calls_begin (n := 26) (e := [(0, v), (1, v')]) (vs := [v, v']) Try.func96 rfl rfl (Nat.le_of_ble_eq_true rfl) hs ⟨rfl, rfl, trivial⟩ (gc_seq (gc_region (asg rfl rfl (gl_nil (gq_then (gc_seq (gc_seq (gc_region (mv rfl rfl (gv (ov_len_us Try.underlying27 rfl hv) rfl (mv rfl rfl (gv (ov_len_us Try.underlying27 rfl hv') rfl (gv (ov_neq_i rfl rfl) rfl ?_)))))))))))))
 refine gl_nil (gq_then ?_)
 refine gc_cond rfl (fun hc10 => ?_) (fun hc10 => ?_)
 ·
  refine gc_seq (gc_region (asg rfl rfl (gl_nil (gq_then (gc_ret (gr_then (gq_body1 rfl rfl ?_)))))))
  rw [vB_false (fun e => hc10 (by rw [e]))]
 ·
  have hll : xs.length = ys.length := by omega
  refine gc_skip (gq_then (gc_seq (gc_seq (gc_region (mv rfl rfl (gv (ov_len_us Try.underlying27 rfl hv) rfl (mv (v := vI (0)) rfl rfl (gl_nil (gq_then (gc_block ?_))))))))))
  refine gc_loop (ι := Nat) (fun (i : (Nat)) => i ≤ xs.length ∧ xs.take i = ys.take i) (fun (i : (Nat)) => [(0, v), (1, v'), (12, vI ↑xs.length), (13, vI ↑i)]) (fun (i : (Nat)) => []) (fun (i : (Nat)) => h0) (fun (i : (Nat)) => xs.length - i) 0 ?_ ⟨rfl, rfl, rfl, rfl, trivial⟩ rfl rfl ?_
  ·
   exact ⟨by omega, by simp⟩
  ·
   intro i hx
   obtain ⟨hi, ht⟩ := hx
   show GC _ _ _ _ _ _ [(0, v), (1, v'), (12, vI ↑xs.length), (13, vI ↑i)] [] h0
   refine gc_seq (gc_region (gv (ov_lss_i rfl rfl) rfl (gl_nil (gq_then (gc_seq ?_)))))
   refine gc_cond rfl (fun hc14 => ?_) (fun hc14 => ?_)
   ·
    refine gc_skip (gq_then (gc_seq (gc_block (gc_seq (gc_region (mv rfl rfl (asg rfl rfl (gl_nil (gq_then (gc_seq ?_))))))))))
    refine gc_draw 9 _ [] [(0, .q), (1, .q), (2, .q), (3, .q), (4, .q), (5, .q), (6, .q), (7, .q), (8, .q)] mixed (fun x hx => by cases hx) (by kernel_rfl) (fun x hx => by cases hx) (fun r hr => hr) (w_q rfl (fun h' L' hh hR => ov_move rfl) rfl (w_q rfl (fun h' L' hh hR => ov_move rfl) rfl (w_q rfl (fun h' L' hh hR => ov_index_us (i) Try.underlying27 Try.sizeOf94 rfl rfl (hv.mono hh) (by omega) (by omega)) rfl (w_q rfl (fun h' L' hh hR => ov_load_us Try.isAgg94 rfl (hv.mono hh) (by omega)) rfl (w_q rfl (fun h' L' hh hR => ov_move rfl) rfl (w_q rfl (fun h' L' hh hR => ov_move rfl) rfl (w_q rfl (fun h' L' hh hR => ov_index_us (i) Try.underlying27 Try.sizeOf94 rfl rfl (hv'.mono hh) (by omega) (by omega)) rfl (w_q rfl (fun h' L' hh hR => ov_load_us Try.isAgg94 rfl (hv'.mono hh) (by omega)) rfl (w_q rfl (fun h' L' hh hR => ov_neq_u (k := .u32) rfl rfl) rfl (w_nil (gq_keep (e' := [(0, _), (1, _), (12, _), (13, _), (24, _)]) ⟨rfl, rfl, rfl, rfl, rfl, trivial⟩ (gq_then ?_))))))))))))
    refine gc_cond rfl (fun hc24 => ?_) (fun hc24 => ?_)
    ·
     refine gc_seq (gc_region (asg rfl rfl (gl_nil (gq_then (gc_ret (gr_in (gr_then (gr_then (gr_in (gr_then (gq_body1 rfl rfl ?_)))))))))))
     rw [vB_false (fun e => hc24 (by rw [e]))]
    ·
     refine gc_skip (gq_in (gq_then (gc_region (gv (ov_add_i (q := 1) rfl rfl (by omega) (by omega)) rfl (mv rfl rfl (gl_nil ?_))))))
     refine gq_round (i + 1) ?_ ?_ ⟨?_, ?_, ?_, ?_, trivial⟩ ?_ rfl
     ·
      refine ⟨by omega, ?_⟩
      rw [take_succ xs i (by omega), take_succ ys i (by omega), ht]
      have e := Classical.not_not.1 hc24
      rw [e]
     ·
      omega
     · exact rfl
     · exact rfl
     · exact rfl
     · exact congrArg some (congrArg vI (by omega))
     · exact rfl
   ·
    refine gc_exit (gx_then (gx_then (gx_here (gq_then (gc_seq (gc_region (asg rfl rfl (gl_nil (gq_then (gc_ret (gq_body1 rfl rfl ?_)))))))))))
    have e1 : xs = ys := by
      have e : i = xs.length := by omega
      rw [e, List.take_length, hll, List.take_length] at ht
      exact ht
    rw [vB_true e1]

theorem rat_sign {w0 : World} {h0 : Mem}  (hs : MLe h0 (mem w0)) {qa : Rat} {vna vda : Value} (hna : Us .u32 h0 vna (limbs qa.num.natAbs)) (hda : Us .u32 h0 vda (limbs (denN qa.den))) (hqa : lq qa ≤ 100000000000)  :
    Calls Try.prog 79 #[.agg #[vB (qa.num < 0), vna, vda]] w0 (Ret w0 h0 (fun _ r => r = vI (sgnQ qa))) := by
 have hlna := lq_num qa
 have hlda := lq_den qa
 have hlDa := lq_denL qa
 refine calls_begin (n := 11) (e := [(0, .agg #[vB (qa.num < 0), vna, vda])]) (vs := [.agg #[vB (qa.num < 0), vna, vda]]) Try.func79 rfl rfl (Nat.le_of_ble_eq_true rfl) hs ⟨rfl, trivial⟩ (gc_seq (gc_region (gl_newop (new_box (cs := [_, _, _]) rfl rfl) rfl rfl rfl ?_)))
 intro v1 r1 hr1
 obtain ⟨b1, rfl, rfl⟩ := hr1
 refine asg (v := vI (0)) rfl rfl (gl_nil (gq_then (gc_seq (gc_block (gc_seq (gc_region (gv (ov_field_addr Try.underlying29 rfl Try.sizeOf27 rfl) rfl (gv (ov_load_var (.head _) Try.isAgg27 rfl rfl) rfl ?_))))))))
 refine gl_call (vs := [_]) rfl rfl rfl rfl Try.call98 ⟨rfl, trivial⟩ (fun w hs => nat_bits hs hna (by omega)) ?_
 intro v6 h1 hh1 hr6
 try simp only [val_limbs] at hr6
 subst hr6
 refine gv (ov_eql_i (q := 0) rfl rfl) rfl (asg rfl rfl (gl_nil (gq_then ?_)))
 refine gc_cond rfl (fun hc3 => ?_) (fun hc3 => ?_)
 ·
  refine gc_seq (gc_region (asg (v := vI (0)) rfl rfl (gl_nil (gq_then (gc_ret (gr_in (gr_then (gq_body1 rfl rfl ?_))))))))
  rw [sgnQ_zero (num_zero_bits hc3)]
 ·
  refine gc_seq (gc_region (gv (ov_field_addr Try.underlying29 rfl Try.sizeOf4 rfl) rfl (gv (ov_load_var (.head _) Try.isAgg4 rfl rfl) rfl (asg rfl rfl (gl_nil (gq_keep (e' := [(8, _)]) ⟨rfl, trivial⟩ (gq_then ?_)))))))
  refine gc_cond rfl (fun hc8 => ?_) (fun hc8 => ?_)
  ·
   refine gc_seq (gc_region (asg (v := vI (-1)) rfl rfl (gl_nil (gq_then (gc_ret (gr_in (gr_then (gq_body1 rfl rfl ?_))))))))
   rw [sgnQ_neg hc8]
  ·
   refine gc_skip (gq_in (gq_then (gc_seq (gc_region (asg (v := vI (1)) rfl rfl (gl_nil (gq_then (gc_ret (gq_body1 rfl rfl ?_)))))))))
   rw [sgnQ_pos (fun h => hc3 (bits_zero_num h)) hc8]

theorem rat_cmp {w0 : World} {h0 : Mem}  (hs : MLe h0 (mem w0)) {qa : Rat} {vna vda : Value} (hna : Us .u32 h0 vna (limbs qa.num.natAbs)) (hda : Us .u32 h0 vda (limbs (denN qa.den))) {qb : Rat} {vnb vdb : Value} (hnb : Us .u32 h0 vnb (limbs qb.num.natAbs)) (hdb : Us .u32 h0 vdb (limbs (denN qb.den))) (hqa : lq qa ≤ 100000000000) (hqb : lq qb ≤ 100000000000)  :
    Calls Try.prog 78 #[.agg #[vB (qa.num < 0), vna, vda], .agg #[vB (qb.num < 0), vnb, vdb]] w0 (Ret w0 h0 (fun _ r => r = vI (cmpQ qa qb))) := by
 have hlna := lq_num qa
 have hlda := lq_den qa
 have hlDa := lq_denL qa
 have hlnb := lq_num qb
 have hldb := lq_den qb
 have hlDb := lq_denL qb
 refine calls_begin (n := 80) (e := [(0, .agg #[vB (qa.num < 0), vna, vda]), (1, .agg #[vB (qb.num < 0), vnb, vdb])]) (vs := [.agg #[vB (qa.num < 0), vna, vda], .agg #[vB (qb.num < 0), vnb, vdb]]) Try.func78 rfl rfl (Nat.le_of_ble_eq_true rfl) hs ⟨rfl, rfl, trivial⟩ (gc_seq (gc_region (gl_newop (new_box (cs := [_, _, _]) rfl rfl) rfl rfl rfl ?_)))
 intro v2 r2 hr2
 obtain ⟨b2, rfl, rfl⟩ := hr2
 refine gl_newop (new_box (cs := [_, _, _]) rfl rfl) rfl rfl rfl ?_
 intro v3 r3 hr3
 obtain ⟨b3, rfl, rfl⟩ := hr3
 refine asg (v := vI (0)) rfl rfl (gl_nil (gq_then (gc_seq (gc_seq ?_))))
 refine gc_draw 6 _ [] [(0, .q), (2, .q), (1, .c), (3, .c), (4, .q), (5, .q)] mixed (fun x hx => by cases hx) (by kernel_rfl) (fun x hx => by cases hx) (fun r hr => hr) (w_q rfl (fun h' L' hh hR => ov_load_agg (vs := [_, _, _]) (hR _ (.tail _ (.head _))) Try.underlying29 rfl size29 rfl rfl) rfl (w_q rfl (fun h' L' hh hR => ov_load_agg (vs := [_, _, _]) (hR _ (.head _)) Try.underlying29 rfl size29 rfl rfl) rfl ?_))
 refine w_c rfl ?_
 refine s_call (vs := [_]) Try.call79 ⟨rfl, trivial⟩ (fun w hs => rat_sign hs hna hda (by omega)) rfl ?_
 intro v15 h1 hh1 hr15
 have hsr15 := sgnQ_range qa
 subst hr15
 refine w_c rfl ?_
 replace hnb := hnb.mono hh1
 replace hdb := hdb.mono hh1
 refine s_call (vs := [_]) Try.call79 ⟨rfl, trivial⟩ (fun w hs => rat_sign hs hnb hdb (by omega)) rfl ?_
 intro v17 h2 hh2 hr17
 have hsr17 := sgnQ_range qb
 subst hr17
 refine w_q rfl (fun h' L' hh hR => ov_assign rfl) rfl (w_q rfl (fun h' L' hh hR => ov_assign rfl) rfl (w_nil (gq_then (gc_seq (gc_region (mv rfl rfl (mv rfl rfl (gv (ov_neq_i rfl rfl) rfl (gl_nil (gq_then ?_))))))))))
 refine gc_cond rfl (fun hc20 => ?_) (fun hc20 => ?_)
 ·
  refine gc_keep (e' := [(5, _), (6, _)]) ⟨rfl, rfl, trivial⟩ (gc_seq (gc_seq (gc_region (mv rfl rfl (mv rfl rfl (gv (ov_lss_i rfl rfl) rfl (gl_nil (gq_then ?_))))))))
  refine gc_cond rfl (fun hc23 => ?_) (fun hc23 => ?_)
  ·
   refine gc_seq (gc_region (asg (v := vI (-1)) rfl rfl (gl_nil (gq_then (gc_ret (gr_then (gr_then (gq_body1 rfl rfl ?_))))))))
   rw [cmpQ_sgn hc20, if_pos hc23]
  ·
   refine gc_skip (gq_then (gc_seq (gc_region (asg (v := vI (1)) rfl rfl (gl_nil (gq_then (gc_ret (gr_then (gq_body1 rfl rfl ?_)))))))))
   rw [cmpQ_sgn hc20, if_neg hc23]
 ·
  have hss := sgn_same hc20
  refine gc_keep (e' := [(2, _), (3, _)]) ⟨rfl, rfl, trivial⟩ (gc_skip (gq_then (gc_seq (gc_region (asg (v := vI (0)) rfl rfl (gl_nil (gq_then ?_)))))))
  refine gc_cut (ι := Mem) (fun (mc : (Mem)) => MLe h2 mc ∧ (True)) (fun (mc : (Mem)) => [(2, vP b2 0), (7, vI (cN qa qb))]) (fun (mc : (Mem)) => [.var b3 29 [vB (qb.num < 0), vnb, vdb], .var b2 29 [vB (qa.num < 0), vna, vda]]) (fun (mc : (Mem)) => mc) ?_ ?_
  ·
   refine gc_seq (gc_region (gv (ov_load_agg (vs := [_, _, _]) (.tail _ (.head _)) Try.underlying29 rfl size29 rfl rfl) rfl ?_))
   replace hna := hna.mono (hh1.trans hh2)
   replace hda := hda.mono (hh1.trans hh2)
   refine gl_call (vs := [_]) rfl rfl rfl rfl Try.call81 ⟨rfl, trivial⟩ (fun w hs => rat_parts hs hna hda) ?_
   intro v26 h3 hh3 hr26
   subst hr26
   refine mv rfl rfl (gv (ov_extract (vs := [_, _, _]) rfl rfl) rfl (gv (ov_extract (vs := [_, _, _]) rfl rfl) rfl (gv (ov_extract (vs := [_, _, _]) rfl rfl) rfl (asg rfl rfl (asg rfl rfl (asg rfl rfl (gl_nil (gq_then (gc_seq (gc_region (gv (ov_field_addr Try.underlying29 rfl Try.sizeOf27 rfl) rfl (gv (ov_load_var (.tail _ (.head _)) Try.isAgg27 rfl rfl) rfl (gv (ov_field_addr Try.underlying29 rfl Try.sizeOf27 rfl) rfl ?_)))))))))))))
   refine gv (ov_load_var (.head _) Try.isAgg27 rfl rfl) rfl ?_
   replace hda := hda.mono hh3
   replace hdb := hdb.mono (hh2.trans hh3)
   refine gl_call (vs := [_, _]) rfl rfl rfl rfl Try.call96 ⟨rfl, rfl, trivial⟩ (fun w hs => sl_equal hs hda hdb) ?_
   intro v34 h4 hh4 hr34
   subst hr34
   refine gl_nil (gq_keep (e' := [(2, _), (3, _), (7, _), (8, _), (9, _), (10, _), (34, _)]) ⟨rfl, rfl, rfl, rfl, rfl, rfl, rfl, trivial⟩ (gq_then ?_))
   refine gc_cond rfl (fun hc34 => ?_) (fun hc34 => ?_)
   ·
    refine gc_region (gv (ov_field_addr Try.underlying29 rfl Try.sizeOf27 rfl) rfl (gv (ov_load_var (.tail _ (.head _)) Try.isAgg27 rfl rfl) rfl (gv (ov_field_addr Try.underlying29 rfl Try.sizeOf27 rfl) rfl (gv (ov_load_var (.head _) Try.isAgg27 rfl rfl) rfl ?_))))
    replace hna := hna.mono (hh3.trans hh4)
    replace hnb := hnb.mono ((hh2.trans hh3).trans hh4)
    refine gl_call (vs := [_, _]) rfl rfl rfl rfl Try.call97 ⟨rfl, rfl, trivial⟩ (fun w hs => nat_cmp hs hna hnb) ?_
    intro v39 h5 hh5 hr39
    try simp only [val_limbs] at hr39
    subst hr39
    refine asg rfl rfl (gl_nil ?_)
    refine gq_cut (h5) ?_ ⟨?_, ?_, trivial⟩ ?_ rfl
    ·
     refine ⟨((hh3.trans hh4).trans hh5), ?_⟩
     trivial
    · exact rfl
    · exact congrArg some (congrArg vI ((cN_den hc34).symm))
    · exact rfl
   ·
    refine gc_seq (gc_region (gv (ov_load_agg (vs := [_, _, _]) (.head _) Try.underlying29 rfl size29 rfl rfl) rfl ?_))
    replace hnb := hnb.mono ((hh2.trans hh3).trans hh4)
    replace hdb := hdb.mono hh4
    refine gl_call (vs := [_]) rfl rfl rfl rfl Try.call81 ⟨rfl, trivial⟩ (fun w hs => rat_parts hs hnb hdb) ?_
    intro v42 h5 hh5 hr42
    subst hr42
    refine mv rfl rfl (gv (ov_extract (vs := [_, _, _]) rfl rfl) rfl (gv (ov_extract (vs := [_, _, _]) rfl rfl) rfl (gv (ov_extract (vs := [_, _, _]) rfl rfl) rfl (asg rfl rfl (asg rfl rfl (asg rfl rfl (gl_nil (gq_then (gc_seq (gc_region (mv rfl rfl ?_)))))))))))
    refine gl_cut (ι := Unit) 3 (fun _ => True) (fun _ => [(49, vB ((smallQ qa) ∧ (smallQ qb))), (2, vP b2 0), (3, vP b3 0), (7, vI (0)), (8, vU .u64 (pN qa)), (9, vU .u64 (pD qa)), (11, vU .u64 (pN qb)), (12, vU .u64 (pD qb))]) (fun _ => [.var b3 29 [vB (qb.num < 0), vnb, vdb], .var b2 29 [vB (qa.num < 0), vna, vda]]) (fun _ => h5) ?_ ?_
    ·
     refine gl_cases (smallQ qa) (fun hg => ?_) (fun hg => ?_)
     ·
      refine gl_val (ov_move (v := .bool true) (congrArg some (vB_true hg))) rfl rfl rfl (gl_on rfl rfl rfl (mv rfl rfl (gv (ov_pick_t rfl rfl) rfl (gl_nil ?_))))
      refine gq_cut () trivial ⟨?_, rfl, rfl, rfl, rfl, rfl, rfl, rfl, trivial⟩ rfl rfl
      exact congrArg some (vB_and_t hg)
     ·
      refine gl_val (ov_move (v := .bool false) (congrArg some (vB_false hg))) rfl rfl rfl (gl_off rfl rfl rfl rfl rfl rfl (gv (ov_pick_f rfl rfl) rfl (gl_nil ?_)))
      refine gq_cut () trivial ⟨?_, rfl, rfl, rfl, rfl, rfl, rfl, rfl, trivial⟩ rfl rfl
      exact congrArg some (vB_and_f hg)
    ·
     intro _ _
     show GL _ _ _ _ _ _ _ [(49, vB ((smallQ qa) ∧ (smallQ qb))), (2, vP b2 0), (3, vP b3 0), (7, vI (0)), (8, vU .u64 (pN qa)), (9, vU .u64 (pD qa)), (11, vU .u64 (pN qb)), (12, vU .u64 (pD qb))] [.var b3 29 [vB (qb.num < 0), vnb, vdb], .var b2 29 [vB (qa.num < 0), vna, vda]] h5
     refine gl_nil (gq_then ?_)
     refine gc_cond rfl (fun hc49 => ?_) (fun hc49 => ?_)
     ·
      have hsa := hc49.1
      have hsb := hc49.2
      have hpa := smallQ_num hsa
      have hra := smallQ_den hsa
      have hpb := smallQ_num hsb
      have hrb := smallQ_den hsb
      have hm1 := small_mul hpa hrb
      have hm2 := small_mul hpb hra
      rw [pN_t hsa, pD_t hsa, pN_t hsb, pD_t hsb]
      refine gc_seq (gc_region (mv rfl rfl (mv rfl rfl (gv (ov_mul_u (k := .u64) (W := 18446744073709551616) rfl rfl rfl rfl (by omega)) rfl (mv rfl rfl (mv rfl rfl (gv (ov_mul_u (k := .u64) (W := 18446744073709551616) rfl rfl rfl rfl (by omega)) rfl (gv (ov_lss_u (k := .u64) rfl rfl) rfl (gl_nil (gq_then ?_))))))))))
      refine gc_cond rfl (fun hc56 => ?_) (fun hc56 => ?_)
      ·
       refine gc_keep (e' := [(2, _)]) ⟨rfl, trivial⟩ (gc_region (asg (v := vI (-1)) rfl rfl (gl_nil ?_)))
       refine gq_cut (h5) ?_ ⟨?_, ?_, trivial⟩ ?_ rfl
       ·
        refine ⟨((hh3.trans hh4).trans hh5), ?_⟩
        trivial
       · exact rfl
       · exact congrArg some (congrArg vI ((cmpN_lt hc56).symm))
       · exact rfl
      ·
       refine gc_seq (gc_region (mv rfl rfl (mv rfl rfl (gv (ov_mul_u (k := .u64) (W := 18446744073709551616) rfl rfl rfl rfl (by omega)) rfl (mv rfl rfl (mv rfl rfl (gv (ov_mul_u (k := .u64) (W := 18446744073709551616) rfl rfl rfl rfl (by omega)) rfl (gv (ov_gtr_u (k := .u64) rfl rfl) rfl (gl_nil (gq_keep (e' := [(2, _), (7, _), (63, _)]) ⟨rfl, rfl, rfl, trivial⟩ (gq_then ?_)))))))))))
       refine gc_cond rfl (fun hc63 => ?_) (fun hc63 => ?_)
       ·
        refine gc_region (asg (v := vI (1)) rfl rfl (gl_nil ?_))
        refine gq_cut (h5) ?_ ⟨?_, ?_, trivial⟩ ?_ rfl
        ·
         refine ⟨((hh3.trans hh4).trans hh5), ?_⟩
         trivial
        · exact rfl
        · exact congrArg some (congrArg vI ((cmpN_gt hc63).symm))
        · exact rfl
       ·
        refine gc_skip ?_
        refine gq_cut (h5) ?_ ⟨?_, ?_, trivial⟩ ?_ rfl
        ·
         refine ⟨((hh3.trans hh4).trans hh5), ?_⟩
         trivial
        · exact rfl
        · exact congrArg some (congrArg vI ((cmpN_zero.2 (by omega)).symm))
        · exact rfl
     ·
      refine gc_draw 12 _ [] [(0, .q), (1, .q), (2, .q), (5, .q), (6, .q), (7, .q), (3, .c), (4, .c), (8, .c), (9, .c), (10, .c), (11, .q)] mixed (fun x hx => by cases hx) (by kernel_rfl) (fun x hx => by cases hx) (fun r hr => hr) (w_q rfl (fun h' L' hh hR => ov_field_addr Try.underlying29 rfl Try.sizeOf27 rfl) rfl (w_q rfl (fun h' L' hh hR => ov_load_var (hR _ (.tail _ (.head _))) Try.isAgg27 rfl rfl) rfl (w_q rfl (fun h' L' hh hR => ov_load_agg (vs := [_, _, _]) (hR _ (.head _)) Try.underlying29 rfl size29 rfl rfl) rfl (w_q rfl (fun h' L' hh hR => ov_field_addr Try.underlying29 rfl Try.sizeOf27 rfl) rfl (w_q rfl (fun h' L' hh hR => ov_load_var (hR _ (.head _)) Try.isAgg27 rfl rfl) rfl (w_q rfl (fun h' L' hh hR => ov_load_agg (vs := [_, _, _]) (hR _ (.tail _ (.head _))) Try.underlying29 rfl size29 rfl rfl) rfl ?_))))))
      refine w_c rfl ?_
      replace hnb := hnb.mono hh5
      replace hdb := hdb.mono hh5
      refine s_call (vs := [_]) Try.call85 ⟨rfl, trivial⟩ (fun w hs => rat_den hs hnb hdb) rfl ?_
      intro v67 h6 hh6 hr67
      rw [denL_den] at hr67
      refine w_c rfl ?_
      replace hna := hna.mono (((hh3.trans hh4).trans hh5).trans hh6)
      refine s_call (vs := [_, _]) Try.call84 ⟨rfl, rfl, trivial⟩ (fun w hs => nat_mul hs hna hr67 (by omega) (by omega)) rfl ?_
      intro v68 h7 hh7 hr68
      try simp only [val_limbs] at hr68
      have hlm68 := limbs_len_mul ((qa.num.natAbs)) ((qb.den))
      refine w_c rfl ?_
      replace hna := hna.mono hh7
      replace hda := hda.mono (((hh4.trans hh5).trans hh6).trans hh7)
      refine s_call (vs := [_]) Try.call85 ⟨rfl, trivial⟩ (fun w hs => rat_den hs hna hda) rfl ?_
      intro v72 h8 hh8 hr72
      rw [denL_den] at hr72
      refine w_c rfl ?_
      replace hnb := hnb.mono ((hh6.trans hh7).trans hh8)
      refine s_call (vs := [_, _]) Try.call84 ⟨rfl, rfl, trivial⟩ (fun w hs => nat_mul hs hnb hr72 (by omega) (by omega)) rfl ?_
      intro v73 h9 hh9 hr73
      try simp only [val_limbs] at hr73
      have hlm73 := limbs_len_mul ((qb.num.natAbs)) ((qa.den))
      refine w_c rfl ?_
      replace hr68 := hr68.mono (hh8.trans hh9)
      refine s_call (vs := [_, _]) Try.call97 ⟨rfl, rfl, trivial⟩ (fun w hs => nat_cmp hs hr68 hr73) rfl ?_
      intro v74 h10 hh10 hr74
      try simp only [val_limbs] at hr74
      subst hr74
      refine w_q rfl (fun h' L' hh hR => ov_assign rfl) rfl (w_nil ?_)
      refine gq_cut (h10) ?_ ⟨?_, ?_, trivial⟩ ?_ rfl
      ·
       refine ⟨(((((((hh3.trans hh4).trans hh5).trans hh6).trans hh7).trans hh8).trans hh9).trans hh10), ?_⟩
       trivial
      · exact rfl
      · exact rfl
      · exact rfl
  ·
   intro mc hx
   obtain ⟨hmmc, hcut⟩ := hx
   show GC _ _ _ _ _ _ [(2, vP b2 0), (7, vI (cN qa qb))] [.var b3 29 [vB (qb.num < 0), vnb, vdb], .var b2 29 [vB (qa.num < 0), vna, vda]] mc
   have hcr := cN_range qa qb
   refine gc_seq (gc_seq (gc_region (gv (ov_field_addr Try.underlying29 rfl Try.sizeOf4 rfl) rfl (gv (ov_load_var (.tail _ (.head _)) Try.isAgg4 rfl rfl) rfl (gl_nil (gq_then ?_))))))
   refine gc_cond rfl (fun hc76 => ?_) (fun hc76 => ?_)
   ·
    refine gc_seq (gc_region (mv rfl rfl (gv (ov_neg_i rfl (by omega) (by omega)) rfl (asg rfl rfl (gl_nil (gq_then (gc_ret (gr_then (gq_body1 rfl rfl ?_)))))))))
    rw [cmpQ_cN hss hc76]
   ·
    refine gc_skip (gq_then (gc_seq (gc_region (mv rfl rfl (asg rfl rfl (gl_nil (gq_then (gc_ret (gq_body1 rfl rfl ?_)))))))))
    rw [cmpQ_cN' hss hc76]

theorem rat_mul {w0 : World} {h0 : Mem}  (hs : MLe h0 (mem w0)) {qa : Rat} {vna vda : Value} (hna : Us .u32 h0 vna (limbs qa.num.natAbs)) (hda : Us .u32 h0 vda (limbs (denN qa.den))) {qb : Rat} {vnb vdb : Value} (hnb : Us .u32 h0 vnb (limbs qb.num.natAbs)) (hdb : Us .u32 h0 vdb (limbs (denN qb.den))) (hqa : lq qa ≤ 100000000000) (hqb : lq qb ≤ 100000000000)  :
    Calls Try.prog 59 #[.agg #[vB (qa.num < 0), vna, vda], .agg #[vB (qb.num < 0), vnb, vdb]] w0 (Ret w0 h0 (fun h r => IsRat h r (qa * qb))) := by
 have hlna := lq_num qa
 have hlda := lq_den qa
 have hlDa := lq_denL qa
 have hlnb := lq_num qb
 have hldb := lq_den qb
 have hlDb := lq_denL qb
 rw [← mul_eq]
 refine calls_begin (n := 64) (e := [(0, .agg #[vB (qa.num < 0), vna, vda]), (1, .agg #[vB (qb.num < 0), vnb, vdb])]) (vs := [.agg #[vB (qa.num < 0), vna, vda], .agg #[vB (qb.num < 0), vnb, vdb]]) Try.func59 rfl rfl (Nat.le_of_ble_eq_true rfl) hs ⟨rfl, rfl, trivial⟩ (gc_seq (gc_region (gl_newop (new_box (cs := [_, _, _]) rfl rfl) rfl rfl rfl ?_)))
 intro v2 r2 hr2
 obtain ⟨b2, rfl, rfl⟩ := hr2
 refine gl_newop (new_box (cs := [_, _, _]) rfl rfl) rfl rfl rfl ?_
 intro v3 r3 hr3
 obtain ⟨b3, rfl, rfl⟩ := hr3
 refine gl_newop (new_alloc (cs := [vB ((0 : Rat).num < 0), .slice none 0 0, .slice none 0 0]) info29 rfl (by simp only [zb]; rfl)) rfl rfl rfl ?_
 intro v4 r4 hr4
 obtain ⟨b4, rfl, rfl⟩ := hr4
 refine gl_nil (gq_then (gc_seq (gc_seq (gc_region (gv (ov_field_addr Try.underlying29 rfl Try.sizeOf27 rfl) rfl (gv (ov_load_var (.tail _ (.tail _ (.head _))) Try.isAgg27 rfl rfl) rfl (gv (ov_len_us Try.underlying27 rfl hna) rfl (gv (ov_eql_i (q := 0) rfl rfl) rfl ?_))))))))
 refine gl_cut (ι := Unit) 6 (fun _ => True) (fun _ => [(20, vB (((↑(limbs qa.num.natAbs).length : Int) = (0 : Int)) ∨ ((↑(limbs qb.num.natAbs).length : Int) = (0 : Int)))), (2, vP b2 0), (3, vP b3 0), (4, vP b4 0)]) (fun _ => [.var b4 29 [vB ((0 : Rat).num < 0), .slice none 0 0, .slice none 0 0], .var b3 29 [vB (qb.num < 0), vnb, vdb], .var b2 29 [vB (qa.num < 0), vna, vda]]) (fun _ => h0) ?_ ?_
 ·
  refine gl_cases ((↑(limbs qa.num.natAbs).length : Int) = (0 : Int)) (fun hg => ?_) (fun hg => ?_)
  ·
   refine gl_val (ov_move (v := .bool true) (congrArg some (vB_true hg))) rfl rfl rfl (gl_off rfl rfl rfl rfl rfl rfl (gl_off rfl rfl rfl rfl rfl rfl (gl_off rfl rfl rfl rfl rfl rfl (gl_off rfl rfl rfl rfl rfl rfl (gv (ov_pick_t rfl rfl) rfl (gl_nil ?_))))))
   refine gq_cut () trivial ⟨?_, rfl, rfl, rfl, trivial⟩ rfl rfl
   exact congrArg some (vB_or_t hg)
  ·
   refine gl_val (ov_move (v := .bool false) (congrArg some (vB_false hg))) rfl rfl rfl (gl_on rfl rfl rfl (gv (ov_field_addr Try.underlying29 rfl Try.sizeOf27 rfl) rfl (gl_on rfl rfl rfl (gv (ov_load_var (.tail _ (.head _)) Try.isAgg27 rfl rfl) rfl (gl_on rfl rfl rfl (gv (ov_len_us Try.underlying27 rfl hnb) rfl (gl_on rfl rfl rfl (gv (ov_eql_i (q := 0) rfl rfl) rfl (gv (ov_pick_f rfl rfl) rfl (gl_nil ?_))))))))))
   refine gq_cut () trivial ⟨?_, rfl, rfl, rfl, trivial⟩ rfl rfl
   exact congrArg some (vB_or_f hg)
 ·
  intro _ _
  show GL _ _ _ _ _ _ _ [(20, vB (((↑(limbs qa.num.natAbs).length : Int) = (0 : Int)) ∨ ((↑(limbs qb.num.natAbs).length : Int) = (0 : Int)))), (2, vP b2 0), (3, vP b3 0), (4, vP b4 0)] [.var b4 29 [vB ((0 : Rat).num < 0), .slice none 0 0, .slice none 0 0], .var b3 29 [vB (qb.num < 0), vnb, vdb], .var b2 29 [vB (qa.num < 0), vna, vda]] h0
  refine gl_nil (gq_then ?_)
  refine gc_cond rfl (fun hc20 => ?_) (fun hc20 => ?_)
  ·
   refine gc_seq (gc_region (gv (ov_build_parts (ps' := []) (vs := [vB ((0 : Rat).num < 0), .slice none 0 0, .slice none 0 0]) Try.underlying29 info29 rfl (places29 Try.underlying29) trivial (by simp only [zb]; exact fill_nil)) rfl (gl_upd (A := []) (r' := .var b4 29 [vB ((0 : Rat).num < 0), .slice none 0 0, .slice none 0 0]) (upd_store_var (k := 0) (cs := [_, _, _]) (vs := [_, _, _]) rfl rfl rfl rfl size29 (Nat.le_of_ble_eq_true rfl)) rfl rfl rfl (gl_nil (gq_then (gc_ret (gr_then (gq_res (fun E S => run_res1 rfl (rv_agg (cs := [_, _, _]) (.head _) Try.underlying29 rfl size29 rfl) E S) ?_))))))))
   rcases hc20 with h | h
   · rw [num_zero h, show (0 : Rat).num.natAbs = 0 from rfl, Nat.zero_mul, mk_zero]; exact IsRat.zero _
   · rw [num_zero h, show (0 : Rat).num.natAbs = 0 from rfl, Nat.mul_zero, mk_zero]; exact IsRat.zero _
  ·
   refine gc_skip (gq_then (gc_seq (gc_seq (gc_region (gv (ov_load_agg (vs := [_, _, _]) (.tail _ (.tail _ (.head _))) Try.underlying29 rfl size29 rfl rfl) rfl ?_)))))
   refine gl_call (vs := [_]) rfl rfl rfl rfl Try.call81 ⟨rfl, trivial⟩ (fun w hs => rat_parts hs hna hda) ?_
   intro v24 h1 hh1 hr24
   subst hr24
   refine mv rfl rfl (gv (ov_extract (vs := [_, _, _]) rfl rfl) rfl (gv (ov_extract (vs := [_, _, _]) rfl rfl) rfl (gv (ov_extract (vs := [_, _, _]) rfl rfl) rfl (asg rfl rfl (asg rfl rfl (asg rfl rfl (gl_nil (gq_then (gc_seq (gc_region (mv rfl rfl (gl_nil (gq_then ?_)))))))))))))
   refine gc_cond rfl (fun hc28 => ?_) (fun hc28 => ?_)
   ·
    have hsa := hc28
    have hpa := smallQ_num hsa
    have hra := smallQ_den hsa
    refine gc_seq (gc_region (gv (ov_load_agg (vs := [_, _, _]) (.tail _ (.head _)) Try.underlying29 rfl size29 rfl rfl) rfl ?_))
    replace hnb := hnb.mono hh1
    replace hdb := hdb.mono hh1
    refine gl_call (vs := [_]) rfl rfl rfl rfl Try.call81 ⟨rfl, trivial⟩ (fun w hs => rat_parts hs hnb hdb) ?_
    intro v31 h2 hh2 hr31
    subst hr31
    refine mv rfl rfl (gv (ov_extract (vs := [_, _, _]) rfl rfl) rfl (gv (ov_extract (vs := [_, _, _]) rfl rfl) rfl (gv (ov_extract (vs := [_, _, _]) rfl rfl) rfl (asg rfl rfl (asg rfl rfl (asg rfl rfl (gl_nil (gq_keep (e' := [(2, _), (3, _), (4, _), (5, _), (6, _), (8, _), (9, _), (10, _)]) ⟨rfl, rfl, rfl, rfl, rfl, rfl, rfl, rfl, trivial⟩ (gq_then (gc_seq (gc_region (mv rfl rfl (gl_nil ?_)))))))))))))
    refine gq_then ?_
    refine gc_cond rfl (fun hc35 => ?_) (fun hc35 => ?_)
    ·
     have hsb := hc35
     have hpb := smallQ_num hsb
     have hrb := smallQ_den hsb
     have hm1 := small_mul hpa hrb
     have hm2 := small_mul hpb hra
     have hm3 := small_mul hra hrb
     have hm4 := small_mul hpa hpb
     have hm5 := small_mul hra hpb
     have hd0 : qa.den * qb.den ≠ 0 := Nat.mul_ne_zero qa.den_nz qb.den_nz
     simp only [pN_t hsa, pD_t hsa, pN_t hsb, pD_t hsb]
     refine gc_seq (gc_region (gv (ov_field_addr Try.underlying29 rfl Try.sizeOf4 rfl) rfl (gv (ov_load_var (.tail _ (.tail _ (.head _))) Try.isAgg4 rfl rfl) rfl (gv (ov_field_addr Try.underlying29 rfl Try.sizeOf4 rfl) rfl (gv (ov_load_var (.tail _ (.head _)) Try.isAgg4 rfl rfl) rfl (gv (ov_neq_b Try.underlying4 rfl rfl) rfl (mv rfl rfl (mv rfl rfl (gv (ov_mul_u (k := .u64) (W := 18446744073709551616) rfl rfl rfl rfl (by omega)) rfl (mv rfl rfl (mv rfl rfl (gv (ov_mul_u (k := .u64) (W := 18446744073709551616) rfl rfl rfl rfl (by omega)) rfl ?_))))))))))))
     refine gl_call (vs := [_, _, _]) rfl rfl rfl rfl Try.call82 ⟨rfl, rfl, rfl, trivial⟩ (fun w hs => rat_short hs (by omega) (by omega) (by omega)) ?_
     intro v47 h3 hh3 hr47
     obtain ⟨vn47, vd47, rfl, hn47, hd47⟩ := hr47
     refine gl_upd (A := []) (r' := .var b4 29 [vB ((mkRat (sg (¬ ((qa.num < 0) ↔ (qb.num < 0))) (qa.num.natAbs * qb.num.natAbs)) (qa.den * qb.den)).num < 0), vn47, vd47]) (upd_store_var (k := 0) (cs := [_, _, _]) (vs := [_, _, _]) rfl rfl rfl (ocr rfl (ocu hn47 (ocu hd47 oc0))) size29 (Nat.le_of_ble_eq_true rfl)) rfl rfl rfl (gl_nil (gq_keep (e' := [(4, _)]) ⟨rfl, trivial⟩ (gq_then (gc_ret (gr_then (gq_res (fun E S => run_res1 rfl (rv_agg (cs := [_, _, _]) (.head _) Try.underlying29 rfl size29 rfl) E S) ?_))))))
     exact ⟨_, _, rfl, hn47, hd47⟩
    ·
     refine gc_skip (gq_then (gc_seq ?_))
     refine gc_draw 16 _ [] [(0, .q), (1, .q), (2, .q), (3, .q), (4, .q), (5, .q), (6, .q), (7, .q), (8, .q), (10, .q), (12, .q), (9, .c), (11, .c), (13, .c), (14, .c), (15, .c), (16, .t)] mixed (fun x hx => by cases hx) (by kernel_rfl) (fun x hx => by cases hx) (fun r hr => hr) (w_q rfl (fun h' L' hh hR => ov_field_addr Try.underlying29 rfl Try.sizeOf4 rfl) rfl (w_q rfl (fun h' L' hh hR => ov_load_var (hR _ (.tail _ (.tail _ (.head _)))) Try.isAgg4 rfl rfl) rfl (w_q rfl (fun h' L' hh hR => ov_field_addr Try.underlying29 rfl Try.sizeOf4 rfl) rfl (w_q rfl (fun h' L' hh hR => ov_load_var (hR _ (.tail _ (.head _))) Try.isAgg4 rfl rfl) rfl (w_q rfl (fun h' L' hh hR => ov_neq_b Try.underlying4 rfl rfl) rfl (w_q rfl (fun h' L' hh hR => ov_field_addr Try.underlying29 rfl Try.sizeOf27 rfl) rfl (w_q rfl (fun h' L' hh hR => ov_load_var (hR _ (.tail _ (.tail _ (.head _)))) Try.isAgg27 rfl rfl) rfl (w_q rfl (fun h' L' hh hR => ov_field_addr Try.underlying29 rfl Try.sizeOf27 rfl) rfl (w_q rfl (fun h' L' hh hR => ov_load_var (hR _ (.tail _ (.head _))) Try.isAgg27 rfl rfl) rfl (w_q rfl (fun h' L' hh hR => ov_load_agg (vs := [_, _, _]) (hR _ (.tail _ (.tail _ (.head _)))) Try.underlying29 rfl size29 rfl rfl) rfl (w_q rfl (fun h' L' hh hR => ov_load_agg (vs := [_, _, _]) (hR _ (.tail _ (.head _))) Try.underlying29 rfl size29 rfl rfl) rfl ?_)))))))))))
     refine w_c rfl ?_
     replace hna := hna.mono (hh1.trans hh2)
     replace hnb := hnb.mono hh2
     refine s_call (vs := [_, _]) Try.call84 ⟨rfl, rfl, trivial⟩ (fun w hs => nat_mul hs hna hnb (by omega) (by omega)) rfl ?_
     intro v57 h3 hh3 hr57
     try simp only [val_limbs] at hr57
     have hlm57 := limbs_len_mul ((qa.num.natAbs)) ((qb.num.natAbs))
     refine w_c rfl ?_
     replace hna := hna.mono hh3
     replace hda := hda.mono ((hh1.trans hh2).trans hh3)
     refine s_call (vs := [_]) Try.call85 ⟨rfl, trivial⟩ (fun w hs => rat_den hs hna hda) rfl ?_
     intro v59 h4 hh4 hr59
     rw [denL_den] at hr59
     refine w_c rfl ?_
     replace hnb := hnb.mono (hh3.trans hh4)
     replace hdb := hdb.mono ((hh2.trans hh3).trans hh4)
     refine s_call (vs := [_]) Try.call85 ⟨rfl, trivial⟩ (fun w hs => rat_den hs hnb hdb) rfl ?_
     intro v61 h5 hh5 hr61
     rw [denL_den] at hr61
     refine w_c rfl ?_
     replace hr59 := hr59.mono hh5
     refine s_call (vs := [_, _]) Try.call84 ⟨rfl, rfl, trivial⟩ (fun w hs => nat_mul hs hr59 hr61 (by omega) (by omega)) rfl ?_
     intro v62 h6 hh6 hr62
     try simp only [val_limbs] at hr62
     have hlm62 := limbs_len_mul ((qa.den)) ((qb.den))
     refine w_c rfl ?_
     replace hr57 := hr57.mono ((hh4.trans hh5).trans hh6)
     refine s_call (vs := [_, _, _]) Try.call83 ⟨rfl, rfl, rfl, trivial⟩ (fun w hs => rat_reduce hs hr57 hr62 (by omega) (by omega)) rfl ?_
     intro v63 h7 hh7 hr63
     try simp only [val_limbs] at hr63
     obtain ⟨vn63, vd63, rfl, hn63, hd63⟩ := hr63
     refine w_t_upd (A := []) (q' := .var b4 29 [vB ((mkRat (sg (¬ ((qa.num < 0) ↔ (qb.num < 0))) (((((qa.num.natAbs)) * ((qb.num.natAbs)))))) (((((qa.den)) * ((qb.den)))))).num < 0), vn63, vd63]) rfl (upd_store_var (k := 0) (cs := [_, _, _]) (vs := [_, _, _]) rfl rfl rfl (ocr rfl (ocu hn63 (ocu hd63 oc0))) size29 (Nat.le_of_ble_eq_true rfl)) rfl (w_nil (gq_keep (e' := [(4, _)]) ⟨rfl, trivial⟩ (gq_then (gc_ret (gq_res (fun E S => run_res1 rfl (rv_agg (cs := [_, _, _]) (.head _) Try.underlying29 rfl size29 rfl) E S) ?_)))))
     exact ⟨_, _, rfl, hn63, hd63⟩
   ·
    refine gc_keep (e' := [(2, _), (3, _), (4, _)]) ⟨rfl, rfl, rfl, trivial⟩ (gc_skip (gq_then (gc_seq ?_)))
    refine gc_draw 16 _ [] [(0, .q), (1, .q), (2, .q), (3, .q), (4, .q), (5, .q), (6, .q), (7, .q), (8, .q), (10, .q), (12, .q), (9, .c), (11, .c), (13, .c), (14, .c), (15, .c), (16, .t)] mixed (fun x hx => by cases hx) (by kernel_rfl) (fun x hx => by cases hx) (fun r hr => hr) (w_q rfl (fun h' L' hh hR => ov_field_addr Try.underlying29 rfl Try.sizeOf4 rfl) rfl (w_q rfl (fun h' L' hh hR => ov_load_var (hR _ (.tail _ (.tail _ (.head _)))) Try.isAgg4 rfl rfl) rfl (w_q rfl (fun h' L' hh hR => ov_field_addr Try.underlying29 rfl Try.sizeOf4 rfl) rfl (w_q rfl (fun h' L' hh hR => ov_load_var (hR _ (.tail _ (.head _))) Try.isAgg4 rfl rfl) rfl (w_q rfl (fun h' L' hh hR => ov_neq_b Try.underlying4 rfl rfl) rfl (w_q rfl (fun h' L' hh hR => ov_field_addr Try.underlying29 rfl Try.sizeOf27 rfl) rfl (w_q rfl (fun h' L' hh hR => ov_load_var (hR _ (.tail _ (.tail _ (.head _)))) Try.isAgg27 rfl rfl) rfl (w_q rfl (fun h' L' hh hR => ov_field_addr Try.underlying29 rfl Try.sizeOf27 rfl) rfl (w_q rfl (fun h' L' hh hR => ov_load_var (hR _ (.tail _ (.head _))) Try.isAgg27 rfl rfl) rfl (w_q rfl (fun h' L' hh hR => ov_load_agg (vs := [_, _, _]) (hR _ (.tail _ (.tail _ (.head _)))) Try.underlying29 rfl size29 rfl rfl) rfl (w_q rfl (fun h' L' hh hR => ov_load_agg (vs := [_, _, _]) (hR _ (.tail _ (.head _))) Try.underlying29 rfl size29 rfl rfl) rfl ?_)))))))))))
    refine w_c rfl ?_
    replace hna := hna.mono hh1
    replace hnb := hnb.mono hh1
    refine s_call (vs := [_, _]) Try.call84 ⟨rfl, rfl, trivial⟩ (fun w hs => nat_mul hs hna hnb (by omega) (by omega)) rfl ?_
    intro v57 h2 hh2 hr57
    try simp only [val_limbs] at hr57
    have hlm57 := limbs_len_mul ((qa.num.natAbs)) ((qb.num.natAbs))
    refine w_c rfl ?_
    replace hna := hna.mono hh2
    replace hda := hda.mono (hh1.trans hh2)
    refine s_call (vs := [_]) Try.call85 ⟨rfl, trivial⟩ (fun w hs => rat_den hs hna hda) rfl ?_
    intro v59 h3 hh3 hr59
    rw [denL_den] at hr59
    refine w_c rfl ?_
    replace hnb := hnb.mono (hh2.trans hh3)
    replace hdb := hdb.mono ((hh1.trans hh2).trans hh3)
    refine s_call (vs := [_]) Try.call85 ⟨rfl, trivial⟩ (fun w hs => rat_den hs hnb hdb) rfl ?_
    intro v61 h4 hh4 hr61
    rw [denL_den] at hr61
    refine w_c rfl ?_
    replace hr59 := hr59.mono hh4
    refine s_call (vs := [_, _]) Try.call84 ⟨rfl, rfl, trivial⟩ (fun w hs => nat_mul hs hr59 hr61 (by omega) (by omega)) rfl ?_
    intro v62 h5 hh5 hr62
    try simp only [val_limbs] at hr62
    have hlm62 := limbs_len_mul ((qa.den)) ((qb.den))
    refine w_c rfl ?_
    replace hr57 := hr57.mono ((hh3.trans hh4).trans hh5)
    refine s_call (vs := [_, _, _]) Try.call83 ⟨rfl, rfl, rfl, trivial⟩ (fun w hs => rat_reduce hs hr57 hr62 (by omega) (by omega)) rfl ?_
    intro v63 h6 hh6 hr63
    try simp only [val_limbs] at hr63
    obtain ⟨vn63, vd63, rfl, hn63, hd63⟩ := hr63
    refine w_t_upd (A := []) (q' := .var b4 29 [vB ((mkRat (sg (¬ ((qa.num < 0) ↔ (qb.num < 0))) (((((qa.num.natAbs)) * ((qb.num.natAbs)))))) (((((qa.den)) * ((qb.den)))))).num < 0), vn63, vd63]) rfl (upd_store_var (k := 0) (cs := [_, _, _]) (vs := [_, _, _]) rfl rfl rfl (ocr rfl (ocu hn63 (ocu hd63 oc0))) size29 (Nat.le_of_ble_eq_true rfl)) rfl (w_nil (gq_keep (e' := [(4, _)]) ⟨rfl, trivial⟩ (gq_then (gc_ret (gq_res (fun E S => run_res1 rfl (rv_agg (cs := [_, _, _]) (.head _) Try.underlying29 rfl size29 rfl) E S) ?_)))))
    exact ⟨_, _, rfl, hn63, hd63⟩

theorem rat_quo {w0 : World} {h0 : Mem}  (hs : MLe h0 (mem w0)) {qa : Rat} {vna vda : Value} (hna : Us .u32 h0 vna (limbs qa.num.natAbs)) (hda : Us .u32 h0 vda (limbs (denN qa.den))) {qb : Rat} {vnb vdb : Value} (hnb : Us .u32 h0 vnb (limbs qb.num.natAbs)) (hdb : Us .u32 h0 vdb (limbs (denN qb.den))) (hqa : lq qa ≤ 100000000000) (hqb : lq qb ≤ 100000000000)  :
    Calls Try.prog 60 #[.agg #[vB (qa.num < 0), vna, vda], .agg #[vB (qb.num < 0), vnb, vdb]] w0 (Ret w0 h0 (fun h r => ∃ u, r = .tuple #[u, vI (if qb = 0 then 3 else 0)] ∧ IsRat h u (if qb = 0 then 0 else qa / qb))) := by
 have hlna := lq_num qa
 have hlda := lq_den qa
 have hlDa := lq_denL qa
 have hlnb := lq_num qb
 have hldb := lq_den qb
 have hlDb := lq_denL qb
 refine calls_begin (n := 58) (e := [(0, .agg #[vB (qa.num < 0), vna, vda]), (1, .agg #[vB (qb.num < 0), vnb, vdb])]) (vs := [.agg #[vB (qa.num < 0), vna, vda], .agg #[vB (qb.num < 0), vnb, vdb]]) Try.func60 rfl rfl (Nat.le_of_ble_eq_true rfl) hs ⟨rfl, rfl, trivial⟩ (gc_seq (gc_region (gl_newop (new_box (cs := [_, _, _]) rfl rfl) rfl rfl rfl ?_)))
 intro v2 r2 hr2
 obtain ⟨b2, rfl, rfl⟩ := hr2
 refine gl_newop (new_box (cs := [_, _, _]) rfl rfl) rfl rfl rfl ?_
 intro v3 r3 hr3
 obtain ⟨b3, rfl, rfl⟩ := hr3
 refine gl_newop (new_alloc (cs := [vB ((0 : Rat).num < 0), .slice none 0 0, .slice none 0 0]) info29 rfl (by simp only [zb]; rfl)) rfl rfl rfl ?_
 intro v4 r4 hr4
 obtain ⟨b4, rfl, rfl⟩ := hr4
 refine asg (v := vI (0)) rfl rfl (gl_nil (gq_then (gc_seq (gc_seq (gc_region (gv (ov_load_agg (vs := [_, _, _]) (.tail _ (.head _)) Try.underlying29 rfl size29 rfl rfl) rfl ?_))))))
 refine gl_call (vs := [_]) rfl rfl rfl rfl Try.call79 ⟨rfl, trivial⟩ (fun w hs => rat_sign hs hnb hdb (by omega)) ?_
 intro v13 h1 hh1 hr13
 have hsr13 := sgnQ_range qb
 subst hr13
 refine gv (ov_eql_i (q := 0) rfl rfl) rfl (gl_nil (gq_then ?_))
 refine gc_cond rfl (fun hc14 => ?_) (fun hc14 => ?_)
 ·
  have hb0 := sgn_zero.1 hc14
  rw [if_pos hb0, if_pos hb0]
  refine gc_seq (gc_region (gv (ov_build_parts (ps' := []) (vs := [vB ((0 : Rat).num < 0), .slice none 0 0, .slice none 0 0]) Try.underlying29 info29 rfl (places29 Try.underlying29) trivial (by simp only [zb]; exact fill_nil)) rfl (gl_upd (A := []) (r' := .var b4 29 [vB ((0 : Rat).num < 0), .slice none 0 0, .slice none 0 0]) (upd_store_var (k := 0) (cs := [_, _, _]) (vs := [_, _, _]) rfl rfl rfl rfl size29 (Nat.le_of_ble_eq_true rfl)) rfl rfl rfl (asg (v := vI (3)) rfl rfl (gl_nil (gq_then (gc_ret (gr_then (gq_res (fun E S => run_res2 rfl (rv_agg (cs := [_, _, _]) (.head _) Try.underlying29 rfl size29 rfl) (rv_tmp rfl) E S) ?_)))))))))
  exact ⟨_, rfl, IsRat.zero _⟩
 ·
  have hb0 : qb ≠ 0 := fun h => hc14 (sgn_zero.2 h)
  rw [if_neg hb0, if_neg hb0, ← quo_eq qa hb0]
  have hbn := num_ne.2 hb0
  refine gc_skip (gq_then (gc_seq (gc_seq (gc_region (gv (ov_load_agg (vs := [_, _, _]) (.tail _ (.tail _ (.head _))) Try.underlying29 rfl size29 rfl rfl) rfl ?_)))))
  replace hna := hna.mono hh1
  replace hda := hda.mono hh1
  refine gl_call (vs := [_]) rfl rfl rfl rfl Try.call81 ⟨rfl, trivial⟩ (fun w hs => rat_parts hs hna hda) ?_
  intro v18 h2 hh2 hr18
  subst hr18
  refine mv rfl rfl (gv (ov_extract (vs := [_, _, _]) rfl rfl) rfl (gv (ov_extract (vs := [_, _, _]) rfl rfl) rfl (gv (ov_extract (vs := [_, _, _]) rfl rfl) rfl (asg rfl rfl (asg rfl rfl (asg rfl rfl (gl_nil (gq_keep (e' := [(2, _), (3, _), (4, _), (6, _), (7, _), (8, _)]) ⟨rfl, rfl, rfl, rfl, rfl, rfl, trivial⟩ (gq_then (gc_seq (gc_region (mv rfl rfl (gl_nil ?_)))))))))))))
  refine gq_then ?_
  refine gc_cond rfl (fun hc22 => ?_) (fun hc22 => ?_)
  ·
   have hsa := hc22
   have hpa := smallQ_num hsa
   have hra := smallQ_den hsa
   refine gc_seq (gc_region (gv (ov_load_agg (vs := [_, _, _]) (.tail _ (.head _)) Try.underlying29 rfl size29 rfl rfl) rfl ?_))
   replace hnb := hnb.mono (hh1.trans hh2)
   replace hdb := hdb.mono (hh1.trans hh2)
   refine gl_call (vs := [_]) rfl rfl rfl rfl Try.call81 ⟨rfl, trivial⟩ (fun w hs => rat_parts hs hnb hdb) ?_
   intro v25 h3 hh3 hr25
   subst hr25
   refine mv rfl rfl (gv (ov_extract (vs := [_, _, _]) rfl rfl) rfl (gv (ov_extract (vs := [_, _, _]) rfl rfl) rfl (gv (ov_extract (vs := [_, _, _]) rfl rfl) rfl (asg rfl rfl (asg rfl rfl (asg rfl rfl (gl_nil (gq_then (gc_seq (gc_region (mv rfl rfl (gl_nil (gq_then ?_)))))))))))))
   refine gc_cond rfl (fun hc29 => ?_) (fun hc29 => ?_)
   ·
    have hsb := hc29
    have hpb := smallQ_num hsb
    have hrb := smallQ_den hsb
    have hm1 := small_mul hpa hrb
    have hm2 := small_mul hpb hra
    have hm3 := small_mul hra hrb
    have hm4 := small_mul hpa hpb
    have hm5 := small_mul hra hpb
    have hd0 : qa.den * qb.num.natAbs ≠ 0 := Nat.mul_ne_zero qa.den_nz hbn
    simp only [pN_t hsa, pD_t hsa, pN_t hsb, pD_t hsb]
    refine gc_keep (e' := [(2, _), (3, _), (4, _), (6, _), (7, _), (9, _), (10, _)]) ⟨rfl, rfl, rfl, rfl, rfl, rfl, rfl, trivial⟩ (gc_seq (gc_region (gv (ov_field_addr Try.underlying29 rfl Try.sizeOf4 rfl) rfl (gv (ov_load_var (.tail _ (.tail _ (.head _))) Try.isAgg4 rfl rfl) rfl (gv (ov_field_addr Try.underlying29 rfl Try.sizeOf4 rfl) rfl (gv (ov_load_var (.tail _ (.head _)) Try.isAgg4 rfl rfl) rfl (gv (ov_neq_b Try.underlying4 rfl rfl) rfl (mv rfl rfl (mv rfl rfl (gv (ov_mul_u (k := .u64) (W := 18446744073709551616) rfl rfl rfl rfl (by omega)) rfl (mv rfl rfl (mv rfl rfl (gv (ov_mul_u (k := .u64) (W := 18446744073709551616) rfl rfl rfl rfl (by omega)) rfl ?_)))))))))))))
    refine gl_call (vs := [_, _, _]) rfl rfl rfl rfl Try.call82 ⟨rfl, rfl, rfl, trivial⟩ (fun w hs => rat_short hs (by omega) (by omega) (by omega)) ?_
    intro v41 h4 hh4 hr41
    obtain ⟨vn41, vd41, rfl, hn41, hd41⟩ := hr41
    refine gl_upd (A := []) (r' := .var b4 29 [vB ((mkRat (sg (¬ ((qa.num < 0) ↔ (qb.num < 0))) (qa.num.natAbs * qb.den)) (qa.den * qb.num.natAbs)).num < 0), vn41, vd41]) (upd_store_var (k := 0) (cs := [_, _, _]) (vs := [_, _, _]) rfl rfl rfl (ocr rfl (ocu hn41 (ocu hd41 oc0))) size29 (Nat.le_of_ble_eq_true rfl)) rfl rfl rfl (asg (v := vI (0)) rfl rfl (gl_nil (gq_keep (e' := [(4, _), (5, _)]) ⟨rfl, rfl, trivial⟩ (gq_then (gc_ret (gr_then (gq_res (fun E S => run_res2 rfl (rv_agg (cs := [_, _, _]) (.head _) Try.underlying29 rfl size29 rfl) (rv_tmp rfl) E S) ?_)))))))
    exact ⟨_, rfl, _, _, rfl, hn41, hd41⟩
   ·
    refine gc_keep (e' := [(2, _), (3, _), (4, _)]) ⟨rfl, rfl, rfl, trivial⟩ (gc_skip (gq_then (gc_seq ?_)))
    refine gc_draw 16 _ [] [(0, .q), (1, .q), (2, .q), (3, .q), (4, .q), (5, .q), (6, .q), (7, .q), (10, .q), (12, .q), (13, .q), (8, .c), (9, .c), (11, .c), (14, .c), (15, .c), (16, .t), (17, .t)] mixed (fun x hx => by cases hx) (by kernel_rfl) (fun x hx => by cases hx) (fun r hr => hr) (w_q rfl (fun h' L' hh hR => ov_field_addr Try.underlying29 rfl Try.sizeOf4 rfl) rfl (w_q rfl (fun h' L' hh hR => ov_load_var (hR _ (.tail _ (.tail _ (.head _)))) Try.isAgg4 rfl rfl) rfl (w_q rfl (fun h' L' hh hR => ov_field_addr Try.underlying29 rfl Try.sizeOf4 rfl) rfl (w_q rfl (fun h' L' hh hR => ov_load_var (hR _ (.tail _ (.head _))) Try.isAgg4 rfl rfl) rfl (w_q rfl (fun h' L' hh hR => ov_neq_b Try.underlying4 rfl rfl) rfl (w_q rfl (fun h' L' hh hR => ov_field_addr Try.underlying29 rfl Try.sizeOf27 rfl) rfl (w_q rfl (fun h' L' hh hR => ov_load_var (hR _ (.tail _ (.tail _ (.head _)))) Try.isAgg27 rfl rfl) rfl (w_q rfl (fun h' L' hh hR => ov_load_agg (vs := [_, _, _]) (hR _ (.tail _ (.head _))) Try.underlying29 rfl size29 rfl rfl) rfl (w_q rfl (fun h' L' hh hR => ov_load_agg (vs := [_, _, _]) (hR _ (.tail _ (.tail _ (.head _)))) Try.underlying29 rfl size29 rfl rfl) rfl (w_q rfl (fun h' L' hh hR => ov_field_addr Try.underlying29 rfl Try.sizeOf27 rfl) rfl (w_q rfl (fun h' L' hh hR => ov_load_var (hR _ (.tail _ (.head _))) Try.isAgg27 rfl rfl) rfl ?_)))))))))))
    refine w_c rfl ?_
    replace hnb := hnb.mono hh3
    replace hdb := hdb.mono hh3
    refine s_call (vs := [_]) Try.call85 ⟨rfl, trivial⟩ (fun w hs => rat_den hs hnb hdb) rfl ?_
    intro v50 h4 hh4 hr50
    rw [denL_den] at hr50
    refine w_c rfl ?_
    replace hna := hna.mono ((hh2.trans hh3).trans hh4)
    refine s_call (vs := [_, _]) Try.call84 ⟨rfl, rfl, trivial⟩ (fun w hs => nat_mul hs hna hr50 (by omega) (by omega)) rfl ?_
    intro v51 h5 hh5 hr51
    try simp only [val_limbs] at hr51
    have hlm51 := limbs_len_mul ((qa.num.natAbs)) ((qb.den))
    refine w_c rfl ?_
    replace hna := hna.mono hh5
    replace hda := hda.mono (((hh2.trans hh3).trans hh4).trans hh5)
    refine s_call (vs := [_]) Try.call85 ⟨rfl, trivial⟩ (fun w hs => rat_den hs hna hda) rfl ?_
    intro v53 h6 hh6 hr53
    rw [denL_den] at hr53
    refine w_c rfl ?_
    replace hnb := hnb.mono ((hh4.trans hh5).trans hh6)
    refine s_call (vs := [_, _]) Try.call84 ⟨rfl, rfl, trivial⟩ (fun w hs => nat_mul hs hr53 hnb (by omega) (by omega)) rfl ?_
    intro v56 h7 hh7 hr56
    try simp only [val_limbs] at hr56
    have hlm56 := limbs_len_mul ((qa.den)) ((qb.num.natAbs))
    refine w_c rfl ?_
    replace hr51 := hr51.mono (hh6.trans hh7)
    refine s_call (vs := [_, _, _]) Try.call83 ⟨rfl, rfl, rfl, trivial⟩ (fun w hs => rat_reduce hs hr51 hr56 (by omega) (by omega)) rfl ?_
    intro v57 h8 hh8 hr57
    try simp only [val_limbs] at hr57
    obtain ⟨vn57, vd57, rfl, hn57, hd57⟩ := hr57
    refine w_t_upd (A := []) (q' := .var b4 29 [vB ((mkRat (sg (¬ ((qa.num < 0) ↔ (qb.num < 0))) (((((qa.num.natAbs)) * ((qb.den)))))) (((((qa.den)) * ((qb.num.natAbs)))))).num < 0), vn57, vd57]) rfl (upd_store_var (k := 0) (cs := [_, _, _]) (vs := [_, _, _]) rfl rfl rfl (ocr rfl (ocu hn57 (ocu hd57 oc0))) size29 (Nat.le_of_ble_eq_true rfl)) rfl (w_t_val rfl (ov_assign (v := vI (0)) rfl) rfl (w_nil (gq_keep (e' := [(4, _), (5, _)]) ⟨rfl, rfl, trivial⟩ (gq_then (gc_ret (gq_res (fun E S => run_res2 rfl (rv_agg (cs := [_, _, _]) (.head _) Try.underlying29 rfl size29 rfl) (rv_tmp rfl) E S) ?_))))))
    exact ⟨_, rfl, _, _, rfl, hn57, hd57⟩
  ·
   refine gc_skip (gq_then (gc_seq ?_))
   refine gc_draw 16 _ [] [(0, .q), (1, .q), (2, .q), (3, .q), (4, .q), (5, .q), (6, .q), (7, .q), (10, .q), (12, .q), (13, .q), (8, .c), (9, .c), (11, .c), (14, .c), (15, .c), (16, .t), (17, .t)] mixed (fun x hx => by cases hx) (by kernel_rfl) (fun x hx => by cases hx) (fun r hr => hr) (w_q rfl (fun h' L' hh hR => ov_field_addr Try.underlying29 rfl Try.sizeOf4 rfl) rfl (w_q rfl (fun h' L' hh hR => ov_load_var (hR _ (.tail _ (.tail _ (.head _)))) Try.isAgg4 rfl rfl) rfl (w_q rfl (fun h' L' hh hR => ov_field_addr Try.underlying29 rfl Try.sizeOf4 rfl) rfl (w_q rfl (fun h' L' hh hR => ov_load_var (hR _ (.tail _ (.head _))) Try.isAgg4 rfl rfl) rfl (w_q rfl (fun h' L' hh hR => ov_neq_b Try.underlying4 rfl rfl) rfl (w_q rfl (fun h' L' hh hR => ov_field_addr Try.underlying29 rfl Try.sizeOf27 rfl) rfl (w_q rfl (fun h' L' hh hR => ov_load_var (hR _ (.tail _ (.tail _ (.head _)))) Try.isAgg27 rfl rfl) rfl (w_q rfl (fun h' L' hh hR => ov_load_agg (vs := [_, _, _]) (hR _ (.tail _ (.head _))) Try.underlying29 rfl size29 rfl rfl) rfl (w_q rfl (fun h' L' hh hR => ov_load_agg (vs := [_, _, _]) (hR _ (.tail _ (.tail _ (.head _)))) Try.underlying29 rfl size29 rfl rfl) rfl (w_q rfl (fun h' L' hh hR => ov_field_addr Try.underlying29 rfl Try.sizeOf27 rfl) rfl (w_q rfl (fun h' L' hh hR => ov_load_var (hR _ (.tail _ (.head _))) Try.isAgg27 rfl rfl) rfl ?_)))))))))))
   refine w_c rfl ?_
   replace hnb := hnb.mono (hh1.trans hh2)
   replace hdb := hdb.mono (hh1.trans hh2)
   refine s_call (vs := [_]) Try.call85 ⟨rfl, trivial⟩ (fun w hs => rat_den hs hnb hdb) rfl ?_
   intro v50 h3 hh3 hr50
   rw [denL_den] at hr50
   refine w_c rfl ?_
   replace hna := hna.mono (hh2.trans hh3)
   refine s_call (vs := [_, _]) Try.call84 ⟨rfl, rfl, trivial⟩ (fun w hs => nat_mul hs hna hr50 (by omega) (by omega)) rfl ?_
   intro v51 h4 hh4 hr51
   try simp only [val_limbs] at hr51
   have hlm51 := limbs_len_mul ((qa.num.natAbs)) ((qb.den))
   refine w_c rfl ?_
   replace hna := hna.mono hh4
   replace hda := hda.mono ((hh2.trans hh3).trans hh4)
   refine s_call (vs := [_]) Try.call85 ⟨rfl, trivial⟩ (fun w hs => rat_den hs hna hda) rfl ?_
   intro v53 h5 hh5 hr53
   rw [denL_den] at hr53
   refine w_c rfl ?_
   replace hnb := hnb.mono ((hh3.trans hh4).trans hh5)
   refine s_call (vs := [_, _]) Try.call84 ⟨rfl, rfl, trivial⟩ (fun w hs => nat_mul hs hr53 hnb (by omega) (by omega)) rfl ?_
   intro v56 h6 hh6 hr56
   try simp only [val_limbs] at hr56
   have hlm56 := limbs_len_mul ((qa.den)) ((qb.num.natAbs))
   refine w_c rfl ?_
   replace hr51 := hr51.mono (hh5.trans hh6)
   refine s_call (vs := [_, _, _]) Try.call83 ⟨rfl, rfl, rfl, trivial⟩ (fun w hs => rat_reduce hs hr51 hr56 (by omega) (by omega)) rfl ?_
   intro v57 h7 hh7 hr57
   try simp only [val_limbs] at hr57
   obtain ⟨vn57, vd57, rfl, hn57, hd57⟩ := hr57
   refine w_t_upd (A := []) (q' := .var b4 29 [vB ((mkRat (sg (¬ ((qa.num < 0) ↔ (qb.num < 0))) (((((qa.num.natAbs)) * ((qb.den)))))) (((((qa.den)) * ((qb.num.natAbs)))))).num < 0), vn57, vd57]) rfl (upd_store_var (k := 0) (cs := [_, _, _]) (vs := [_, _, _]) rfl rfl rfl (ocr rfl (ocu hn57 (ocu hd57 oc0))) size29 (Nat.le_of_ble_eq_true rfl)) rfl (w_t_val rfl (ov_assign (v := vI (0)) rfl) rfl (w_nil (gq_keep (e' := [(4, _), (5, _)]) ⟨rfl, rfl, trivial⟩ (gq_then (gc_ret (gq_res (fun E S => run_res2 rfl (rv_agg (cs := [_, _, _]) (.head _) Try.underlying29 rfl size29 rfl) (rv_tmp rfl) E S) ?_))))))
   exact ⟨_, rfl, _, _, rfl, hn57, hd57⟩

theorem rat_addn {w0 : World} {h0 : Mem}  (hs : MLe h0 (mem w0)) {qa : Rat} {vna vda : Value} (hna : Us .u32 h0 vna (limbs qa.num.natAbs)) (hda : Us .u32 h0 vda (limbs (denN qa.den))) {qb : Rat} {vnb vdb : Value} (hnb : Us .u32 h0 vnb (limbs qb.num.natAbs)) (hdb : Us .u32 h0 vdb (limbs (denN qb.den))) (hqa : lq qa ≤ 100000000000) (hqb : lq qb ≤ 100000000000) {s : Prop} :
    Calls Try.prog 80 #[.agg #[vB (qa.num < 0), vna, vda], .agg #[vB (qb.num < 0), vnb, vdb], vB s] w0 (Ret w0 h0 (fun h r => IsRat h r (qa + sgd s qb))) := by
 have hlna := lq_num qa
 have hlda := lq_den qa
 have hlDa := lq_denL qa
 have hlnb := lq_num qb
 have hldb := lq_den qb
 have hlDb := lq_denL qb
 refine calls_begin (n := 152) (e := [(0, .agg #[vB (qa.num < 0), vna, vda]), (1, .agg #[vB (qb.num < 0), vnb, vdb]), (2, vB s)]) (vs := [.agg #[vB (qa.num < 0), vna, vda], .agg #[vB (qb.num < 0), vnb, vdb], vB s]) Try.func80 rfl rfl (Nat.le_of_ble_eq_true rfl) hs ⟨rfl, rfl, rfl, trivial⟩ (gc_seq (gc_region (gl_newop (new_box (cs := [_, _, _]) rfl rfl) rfl rfl rfl ?_)))
 intro v3 r3 hr3
 obtain ⟨b3, rfl, rfl⟩ := hr3
 refine gl_newop (new_box (cs := [_, _, _]) rfl rfl) rfl rfl rfl ?_
 intro v4 r4 hr4
 obtain ⟨b4, rfl, rfl⟩ := hr4
 refine gl_newop (new_alloc (cs := [vB ((0 : Rat).num < 0), .slice none 0 0, .slice none 0 0]) info29 rfl (by simp only [zb]; rfl)) rfl rfl rfl ?_
 intro v6 r6 hr6
 obtain ⟨b6, rfl, rfl⟩ := hr6
 refine gl_nil (gq_then ?_)
 refine gc_cut (ι := Mem) (fun (mc : (Mem)) => MLe h0 mc ∧ (True)) (fun (mc : (Mem)) => [(2, vB s), (3, vP b3 0), (4, vP b4 0), (6, vP b6 0)]) (fun (mc : (Mem)) => [.var b6 29 [vB ((0 : Rat).num < 0), .slice none 0 0, .slice none 0 0], .var b4 29 [vB (qb.num < 0), vnb, vdb], .var b3 29 [vB (qa.num < 0), vna, vda]]) (fun (mc : (Mem)) => mc) ?_ ?_
 ·
  refine gc_seq (gc_region (gv (ov_load_agg (vs := [_, _, _]) (.tail _ (.tail _ (.head _))) Try.underlying29 rfl size29 rfl rfl) rfl ?_))
  refine gl_call (vs := [_]) rfl rfl rfl rfl Try.call81 ⟨rfl, trivial⟩ (fun w hs => rat_parts hs hna hda) ?_
  intro v24 h1 hh1 hr24
  subst hr24
  refine mv rfl rfl (gv (ov_extract (vs := [_, _, _]) rfl rfl) rfl (gv (ov_extract (vs := [_, _, _]) rfl rfl) rfl (gv (ov_extract (vs := [_, _, _]) rfl rfl) rfl (asg rfl rfl (asg rfl rfl (asg rfl rfl (gl_nil (gq_then (gc_seq (gc_region (mv rfl rfl (gl_nil (gq_then ?_)))))))))))))
  refine gc_cond rfl (fun hc28 => ?_) (fun hc28 => ?_)
  ·
   have hsa := hc28
   have hpa := smallQ_num hsa
   have hra := smallQ_den hsa
   refine gc_keep (e' := [(2, _), (3, _), (4, _), (6, _), (7, _), (8, _)]) ⟨rfl, rfl, rfl, rfl, rfl, rfl, trivial⟩ (gc_seq (gc_region (gv (ov_load_agg (vs := [_, _, _]) (.tail _ (.head _)) Try.underlying29 rfl size29 rfl rfl) rfl ?_)))
   replace hnb := hnb.mono hh1
   replace hdb := hdb.mono hh1
   refine gl_call (vs := [_]) rfl rfl rfl rfl Try.call81 ⟨rfl, trivial⟩ (fun w hs => rat_parts hs hnb hdb) ?_
   intro v31 h2 hh2 hr31
   subst hr31
   refine mv rfl rfl (gv (ov_extract (vs := [_, _, _]) rfl rfl) rfl (gv (ov_extract (vs := [_, _, _]) rfl rfl) rfl (gv (ov_extract (vs := [_, _, _]) rfl rfl) rfl (asg rfl rfl (asg rfl rfl (asg rfl rfl (gl_nil (gq_then (gc_seq (gc_region (mv rfl rfl (gl_nil (gq_then ?_)))))))))))))
   refine gc_cond rfl (fun hc35 => ?_) (fun hc35 => ?_)
   ·
    have hsb := hc35
    have hpb := smallQ_num hsb
    have hrb := smallQ_den hsb
    have hm1 := small_mul hpa hrb
    have hm2 := small_mul hpb hra
    have hm3 := small_mul hra hrb
    have hm4 := small_mul hpa hpb
    have hm5 := small_mul hra hpb
    have hd0 : qa.den * qb.den ≠ 0 := Nat.mul_ne_zero qa.den_nz qb.den_nz
    simp only [pN_t hsa, pD_t hsa, pN_t hsb, pD_t hsb]
    refine gc_seq (gc_region (mv rfl rfl (mv rfl rfl (gv (ov_mul_u (k := .u64) (W := 18446744073709551616) rfl rfl rfl rfl (by omega)) rfl (mv rfl rfl (mv rfl rfl (gv (ov_mul_u (k := .u64) (W := 18446744073709551616) rfl rfl rfl rfl (by omega)) rfl (asg rfl rfl (asg rfl rfl (gl_nil (gq_keep (e' := [(2, _), (3, _), (4, _), (6, _), (8, _), (11, _), (7, _), (10, _)]) ⟨rfl, rfl, rfl, rfl, rfl, rfl, rfl, rfl, trivial⟩ (gq_then (gc_seq ?_)))))))))))))
    refine gc_region (mv rfl rfl (mv rfl rfl (gv (ov_callx (vs := [_, _, vU .u64 0]) (add64 _ _) ⟨rfl, rfl, rfl, trivial⟩) rfl (mv rfl rfl (gv (ov_extract (vs := [_, _]) rfl rfl) rfl (gv (ov_extract (vs := [_, _]) rfl rfl) rfl (asg rfl rfl (asg rfl rfl (gl_nil (gq_then (gc_block (gc_seq (gc_region ?_)))))))))))))
    refine gv (ov_field_addr Try.underlying29 rfl Try.sizeOf4 rfl) rfl (gv (ov_load_var (.tail _ (.tail _ (.head _))) Try.isAgg4 rfl rfl) rfl (mv rfl rfl (gv (ov_eql_b Try.underlying4 rfl rfl) rfl ?_)))
    refine gl_cut (ι := Unit) 4 (fun _ => True) (fun _ => [(56, vB (((qa.num < 0) ↔ (s)) ∧ ((((qa.num.natAbs * qb.den) + (qb.num.natAbs * qa.den)) / 18446744073709551616) = (0 : Nat)))), (2, vB s), (3, vP b3 0), (4, vP b4 0), (6, vP b6 0), (8, vU .u64 qa.den), (11, vU .u64 qb.den), (7, vU .u64 (qa.num.natAbs * qb.den)), (10, vU .u64 (qb.num.natAbs * qa.den)), (13, vU .u64 (((qa.num.natAbs * qb.den) + (qb.num.natAbs * qa.den)) % 18446744073709551616))]) (fun _ => [.var b6 29 [vB ((0 : Rat).num < 0), .slice none 0 0, .slice none 0 0], .var b4 29 [vB (qb.num < 0), vnb, vdb], .var b3 29 [vB (qa.num < 0), vna, vda]]) (fun _ => h2) ?_ ?_
    ·
     refine gl_cases ((qa.num < 0) ↔ (s)) (fun hg => ?_) (fun hg => ?_)
     ·
      refine gl_val (ov_move (v := .bool true) (congrArg some (vB_true hg))) rfl rfl rfl (gl_on rfl rfl rfl (mv rfl rfl (gl_on rfl rfl rfl (gv (ov_eql_u (k := .u64) (q := 0) rfl rfl) rfl (gv (ov_pick_t rfl rfl) rfl (gl_nil ?_))))))
      refine gq_cut () trivial ⟨?_, rfl, rfl, rfl, rfl, rfl, rfl, rfl, rfl, rfl, trivial⟩ rfl rfl
      exact congrArg some (vB_and_t hg)
     ·
      refine gl_val (ov_move (v := .bool false) (congrArg some (vB_false hg))) rfl rfl rfl (gl_off rfl rfl rfl rfl rfl rfl (gl_off rfl rfl rfl rfl rfl rfl (gv (ov_pick_f rfl rfl) rfl (gl_nil ?_))))
      refine gq_cut () trivial ⟨?_, rfl, rfl, rfl, rfl, rfl, rfl, rfl, rfl, rfl, trivial⟩ rfl rfl
      exact congrArg some (vB_and_f hg)
    ·
     intro _ _
     show GL _ _ _ _ _ _ _ [(56, vB (((qa.num < 0) ↔ (s)) ∧ ((((qa.num.natAbs * qb.den) + (qb.num.natAbs * qa.den)) / 18446744073709551616) = (0 : Nat)))), (2, vB s), (3, vP b3 0), (4, vP b4 0), (6, vP b6 0), (8, vU .u64 qa.den), (11, vU .u64 qb.den), (7, vU .u64 (qa.num.natAbs * qb.den)), (10, vU .u64 (qb.num.natAbs * qa.den)), (13, vU .u64 (((qa.num.natAbs * qb.den) + (qb.num.natAbs * qa.den)) % 18446744073709551616))] [.var b6 29 [vB ((0 : Rat).num < 0), .slice none 0 0, .slice none 0 0], .var b4 29 [vB (qb.num < 0), vnb, vdb], .var b3 29 [vB (qa.num < 0), vna, vda]] h2
     refine asg rfl rfl (gl_nil (gq_then ?_))
     refine gc_cond rfl (fun hc48 => ?_) (fun hc48 => ?_)
     ·
      obtain ⟨hss, hcy⟩ := hc48
      refine gc_seq (gc_region (mv rfl rfl (mv rfl rfl (mv rfl rfl (mv rfl rfl (gv (ov_mul_u (k := .u64) (W := 18446744073709551616) rfl rfl rfl rfl (by omega)) rfl ?_))))))
      refine gl_call (vs := [_, _, _]) rfl rfl rfl rfl Try.call82 ⟨rfl, rfl, rfl, trivial⟩ (fun w hs => rat_short hs (by omega) (by omega) (by omega)) ?_
      intro v62 h3 hh3 hr62
      obtain ⟨vn62, vd62, rfl, hn62, hd62⟩ := hr62
      refine gl_upd (A := []) (r' := .var b6 29 [vB ((mkRat (sg (s) (((qa.num.natAbs * qb.den) + (qb.num.natAbs * qa.den)) % 18446744073709551616)) (qa.den * qb.den)).num < 0), vn62, vd62]) (upd_store_var (k := 0) (cs := [_, _, _]) (vs := [_, _, _]) rfl rfl rfl (ocr rfl (ocu hn62 (ocu hd62 oc0))) size29 (Nat.le_of_ble_eq_true rfl)) rfl rfl rfl (gl_nil (gq_keep (e' := [(6, _)]) ⟨rfl, trivial⟩ (gq_then (gc_ret (gr_in (gr_then (gq_res (fun E S => run_res1 rfl (rv_agg (cs := [_, _, _]) (.head _) Try.underlying29 rfl size29 rfl) E S) ?_)))))))
      have e := Nat.mod_eq_of_lt (a := qa.num.natAbs * qb.den + qb.num.natAbs * qa.den) (b := 18446744073709551616) (by omega)
      rw [e] at hn62 hd62 ⊢
      rw [add_sgd hss]
      exact ⟨_, _, rfl, hn62, hd62⟩
     ·
      refine gc_seq (gc_region (gv (ov_field_addr Try.underlying29 rfl Try.sizeOf4 rfl) rfl (gv (ov_load_var (.tail _ (.tail _ (.head _))) Try.isAgg4 rfl rfl) rfl (mv rfl rfl (gv (ov_neq_b Try.underlying4 rfl rfl) rfl ?_)))))
      refine gl_cut (ι := Unit) 5 (fun _ => True) (fun _ => [(72, vB ((¬ ((qa.num < 0) ↔ (s))) ∧ ((qb.num.natAbs * qa.den) ≤ (qa.num.natAbs * qb.den)))), (2, vB s), (3, vP b3 0), (4, vP b4 0), (6, vP b6 0), (8, vU .u64 qa.den), (11, vU .u64 qb.den), (7, vU .u64 (qa.num.natAbs * qb.den)), (10, vU .u64 (qb.num.natAbs * qa.den))]) (fun _ => [.var b6 29 [vB ((0 : Rat).num < 0), .slice none 0 0, .slice none 0 0], .var b4 29 [vB (qb.num < 0), vnb, vdb], .var b3 29 [vB (qa.num < 0), vna, vda]]) (fun _ => h2) ?_ ?_
      ·
       refine gl_cases (¬ ((qa.num < 0) ↔ (s))) (fun hg => ?_) (fun hg => ?_)
       ·
        refine gl_val (ov_move (v := .bool true) (congrArg some (vB_true hg))) rfl rfl rfl (gl_on rfl rfl rfl (mv rfl rfl (gl_on rfl rfl rfl (mv rfl rfl (gl_on rfl rfl rfl (gv (ov_geq_u (k := .u64) rfl rfl) rfl (gv (ov_pick_t rfl rfl) rfl (gl_nil ?_))))))))
        refine gq_cut () trivial ⟨?_, rfl, rfl, rfl, rfl, rfl, rfl, rfl, rfl, trivial⟩ rfl rfl
        exact congrArg some (vB_and_t hg)
       ·
        refine gl_val (ov_move (v := .bool false) (congrArg some (vB_false hg))) rfl rfl rfl (gl_off rfl rfl rfl rfl rfl rfl (gl_off rfl rfl rfl rfl rfl rfl (gl_off rfl rfl rfl rfl rfl rfl (gv (ov_pick_f rfl rfl) rfl (gl_nil ?_)))))
        refine gq_cut () trivial ⟨?_, rfl, rfl, rfl, rfl, rfl, rfl, rfl, rfl, trivial⟩ rfl rfl
        exact congrArg some (vB_and_f hg)
      ·
       intro _ _
       show GL _ _ _ _ _ _ _ [(72, vB ((¬ ((qa.num < 0) ↔ (s))) ∧ ((qb.num.natAbs * qa.den) ≤ (qa.num.natAbs * qb.den)))), (2, vB s), (3, vP b3 0), (4, vP b4 0), (6, vP b6 0), (8, vU .u64 qa.den), (11, vU .u64 qb.den), (7, vU .u64 (qa.num.natAbs * qb.den)), (10, vU .u64 (qb.num.natAbs * qa.den))] [.var b6 29 [vB ((0 : Rat).num < 0), .slice none 0 0, .slice none 0 0], .var b4 29 [vB (qb.num < 0), vnb, vdb], .var b3 29 [vB (qa.num < 0), vna, vda]] h2
       refine asg rfl rfl (gl_nil (gq_then ?_))
       refine gc_cond rfl (fun hc63 => ?_) (fun hc63 => ?_)
       ·
        obtain ⟨hss, hge⟩ := hc63
        refine gc_seq (gc_region (gv (ov_field_addr Try.underlying29 rfl Try.sizeOf4 rfl) rfl (gv (ov_load_var (.tail _ (.tail _ (.head _))) Try.isAgg4 rfl rfl) rfl (mv rfl rfl (mv rfl rfl (gv (ov_sub_u (k := .u64) (W := 18446744073709551616) rfl rfl rfl rfl (by omega) (by omega)) rfl (mv rfl rfl (mv rfl rfl (gv (ov_mul_u (k := .u64) (W := 18446744073709551616) rfl rfl rfl rfl (by omega)) rfl ?_)))))))))
        refine gl_call (vs := [_, _, _]) rfl rfl rfl rfl Try.call82 ⟨rfl, rfl, rfl, trivial⟩ (fun w hs => rat_short hs (by omega) (by omega) (by omega)) ?_
        intro v81 h3 hh3 hr81
        obtain ⟨vn81, vd81, rfl, hn81, hd81⟩ := hr81
        refine gl_upd (A := []) (r' := .var b6 29 [vB ((mkRat (sg (qa.num < 0) ((qa.num.natAbs * qb.den) - (qb.num.natAbs * qa.den))) (qa.den * qb.den)).num < 0), vn81, vd81]) (upd_store_var (k := 0) (cs := [_, _, _]) (vs := [_, _, _]) rfl rfl rfl (ocr rfl (ocu hn81 (ocu hd81 oc0))) size29 (Nat.le_of_ble_eq_true rfl)) rfl rfl rfl (gl_nil (gq_keep (e' := [(6, _)]) ⟨rfl, trivial⟩ (gq_then (gc_ret (gr_in (gr_then (gq_res (fun E S => run_res1 rfl (rv_agg (cs := [_, _, _]) (.head _) Try.underlying29 rfl size29 rfl) E S) ?_)))))))
        rw [sub_sgd hss hge]
        exact ⟨_, _, rfl, hn81, hd81⟩
       ·
        refine gc_seq (gc_region (gv (ov_field_addr Try.underlying29 rfl Try.sizeOf4 rfl) rfl (gv (ov_load_var (.tail _ (.tail _ (.head _))) Try.isAgg4 rfl rfl) rfl (mv rfl rfl (gv (ov_neq_b Try.underlying4 rfl rfl) rfl (asg rfl rfl (gl_nil (gq_then ?_))))))))
        refine gc_cond rfl (fun hc82 => ?_) (fun hc82 => ?_)
        ·
         have hlt : ¬ qb.num.natAbs * qa.den ≤ qa.num.natAbs * qb.den := fun h => hc63 ⟨hc82, h⟩
         refine gc_seq (gc_region (mv rfl rfl (mv rfl rfl (mv rfl rfl (gv (ov_sub_u (k := .u64) (W := 18446744073709551616) rfl rfl rfl rfl (by omega) (by omega)) rfl (mv rfl rfl (mv rfl rfl (gv (ov_mul_u (k := .u64) (W := 18446744073709551616) rfl rfl rfl rfl (by omega)) rfl ?_))))))))
         refine gl_call (vs := [_, _, _]) rfl rfl rfl rfl Try.call82 ⟨rfl, rfl, rfl, trivial⟩ (fun w hs => rat_short hs (by omega) (by omega) (by omega)) ?_
         intro v94 h3 hh3 hr94
         obtain ⟨vn94, vd94, rfl, hn94, hd94⟩ := hr94
         refine gl_upd (A := []) (r' := .var b6 29 [vB ((mkRat (sg (s) ((qb.num.natAbs * qa.den) - (qa.num.natAbs * qb.den))) (qa.den * qb.den)).num < 0), vn94, vd94]) (upd_store_var (k := 0) (cs := [_, _, _]) (vs := [_, _, _]) rfl rfl rfl (ocr rfl (ocu hn94 (ocu hd94 oc0))) size29 (Nat.le_of_ble_eq_true rfl)) rfl rfl rfl (gl_nil (gq_keep (e' := [(6, _)]) ⟨rfl, trivial⟩ (gq_then (gc_ret (gr_in (gr_then (gq_res (fun E S => run_res1 rfl (rv_agg (cs := [_, _, _]) (.head _) Try.underlying29 rfl size29 rfl) E S) ?_)))))))
         rw [sub_sgd' hc82 (by omega)]
         exact ⟨_, _, rfl, hn94, hd94⟩
        ·
         refine gc_keep (e' := [(2, _), (3, _), (4, _), (6, _)]) ⟨rfl, rfl, rfl, rfl, trivial⟩ (gc_skip (gq_in ?_))
         refine gq_cut (h2) ?_ ⟨?_, ?_, ?_, ?_, trivial⟩ ?_ rfl
         ·
          refine ⟨(hh1.trans hh2), ?_⟩
          trivial
         · exact rfl
         · exact rfl
         · exact rfl
         · exact rfl
         · exact rfl
   ·
    refine gc_keep (e' := [(2, _), (3, _), (4, _), (6, _)]) ⟨rfl, rfl, rfl, rfl, trivial⟩ (gc_skip ?_)
    refine gq_cut (h2) ?_ ⟨?_, ?_, ?_, ?_, trivial⟩ ?_ rfl
    ·
     refine ⟨(hh1.trans hh2), ?_⟩
     trivial
    · exact rfl
    · exact rfl
    · exact rfl
    · exact rfl
    · exact rfl
  ·
   refine gc_keep (e' := [(2, _), (3, _), (4, _), (6, _)]) ⟨rfl, rfl, rfl, rfl, trivial⟩ (gc_skip ?_)
   refine gq_cut (h1) ?_ ⟨?_, ?_, ?_, ?_, trivial⟩ ?_ rfl
   ·
    refine ⟨hh1, ?_⟩
    trivial
   · exact rfl
   · exact rfl
   · exact rfl
   · exact rfl
   · exact rfl
 ·
  intro mc hx
  obtain ⟨hmmc, hcut⟩ := hx
  show GC _ _ _ _ _ _ [(2, vB s), (3, vP b3 0), (4, vP b4 0), (6, vP b6 0)] [.var b6 29 [vB ((0 : Rat).num < 0), .slice none 0 0, .slice none 0 0], .var b4 29 [vB (qb.num < 0), vnb, vdb], .var b3 29 [vB (qa.num < 0), vna, vda]] mc
  refine gc_seq ?_
  refine gc_draw 9 _ [] [(0, .q), (1, .q), (2, .q), (3, .q), (4, .q), (5, .c), (6, .q), (7, .q), (8, .q)] mixed (fun x hx => by cases hx) (by kernel_rfl) (fun x hx => by cases hx) (fun r hr => hr) (w_q rfl (fun h' L' hh hR => ov_field_addr Try.underlying29 rfl Try.sizeOf27 rfl) rfl (w_q rfl (fun h' L' hh hR => ov_load_var (hR _ (.tail _ (.tail _ (.head _)))) Try.isAgg27 rfl rfl) rfl (w_q rfl (fun h' L' hh hR => ov_field_addr Try.underlying29 rfl Try.sizeOf27 rfl) rfl (w_q rfl (fun h' L' hh hR => ov_load_var (hR _ (.tail _ (.head _))) Try.isAgg27 rfl rfl) rfl (w_q rfl (fun h' L' hh hR => ov_load_agg (vs := [_, _, _]) (hR _ (.tail _ (.tail _ (.head _)))) Try.underlying29 rfl size29 rfl rfl) rfl ?_)))))
  refine w_c rfl ?_
  replace hna := hna.mono hmmc
  replace hda := hda.mono hmmc
  refine s_call (vs := [_]) Try.call85 ⟨rfl, trivial⟩ (fun w hs => rat_den hs hna hda) rfl ?_
  intro v100 h1 hh1 hr100
  rw [denL_den] at hr100
  refine w_q rfl (fun h' L' hh hR => ov_assign rfl) rfl (w_q rfl (fun h' L' hh hR => ov_assign rfl) rfl (w_q rfl (fun h' L' hh hR => ov_assign rfl) rfl (w_nil (gq_then (gc_seq (gc_seq (gc_region (gv (ov_field_addr Try.underlying29 rfl Try.sizeOf27 rfl) rfl (gv (ov_load_var (.tail _ (.tail _ (.head _))) Try.isAgg27 rfl rfl) rfl (gv (ov_field_addr Try.underlying29 rfl Try.sizeOf27 rfl) rfl (gv (ov_load_var (.tail _ (.head _)) Try.isAgg27 rfl rfl) rfl ?_)))))))))))
  replace hda := hda.mono hh1
  replace hdb := hdb.mono (hmmc.trans hh1)
  refine gl_call (vs := [_, _]) rfl rfl rfl rfl Try.call96 ⟨rfl, rfl, trivial⟩ (fun w hs => sl_equal hs hda hdb) ?_
  intro v105 h2 hh2 hr105
  subst hr105
  refine gv (ov_not rfl) rfl (gl_nil (gq_keep (e' := [(2, _), (3, _), (4, _), (6, _), (15, _), (16, _), (17, _), (106, _)]) ⟨rfl, rfl, rfl, rfl, rfl, rfl, rfl, rfl, trivial⟩ (gq_then ?_)))
  refine gc_cond rfl (fun hc106 => ?_) (fun hc106 => ?_)
  ·
   refine gc_draw 15 _ [] [(0, .q), (1, .q), (4, .q), (5, .q), (8, .q), (9, .q), (2, .c), (3, .c), (6, .c), (7, .c), (10, .c), (11, .c), (12, .q), (13, .q), (14, .q)] mixed (fun x hx => by cases hx) (by kernel_rfl) (fun x hx => by cases hx) (fun r hr => hr) (w_q rfl (fun h' L' hh hR => ov_move rfl) rfl (w_q rfl (fun h' L' hh hR => ov_load_agg (vs := [_, _, _]) (hR _ (.tail _ (.head _))) Try.underlying29 rfl size29 rfl rfl) rfl (w_q rfl (fun h' L' hh hR => ov_move rfl) rfl (w_q rfl (fun h' L' hh hR => ov_load_agg (vs := [_, _, _]) (hR _ (.tail _ (.tail _ (.head _)))) Try.underlying29 rfl size29 rfl rfl) rfl (w_q rfl (fun h' L' hh hR => ov_move rfl) rfl (w_q rfl (fun h' L' hh hR => ov_load_agg (vs := [_, _, _]) (hR _ (.tail _ (.head _))) Try.underlying29 rfl size29 rfl rfl) rfl ?_))))))
   refine w_c rfl ?_
   replace hnb := hnb.mono ((hmmc.trans hh1).trans hh2)
   replace hdb := hdb.mono hh2
   refine s_call (vs := [_]) Try.call85 ⟨rfl, trivial⟩ (fun w hs => rat_den hs hnb hdb) rfl ?_
   intro v109 h3 hh3 hr109
   rw [denL_den] at hr109
   refine w_c rfl ?_
   replace hna := hna.mono ((hh1.trans hh2).trans hh3)
   refine s_call (vs := [_, _]) Try.call84 ⟨rfl, rfl, trivial⟩ (fun w hs => nat_mul hs hna hr109 (by omega) (by omega)) rfl ?_
   intro v110 h4 hh4 hr110
   try simp only [val_limbs] at hr110
   have hlm110 := limbs_len_mul ((qa.num.natAbs)) ((qb.den))
   refine w_c rfl ?_
   replace hna := hna.mono hh4
   replace hda := hda.mono ((hh2.trans hh3).trans hh4)
   refine s_call (vs := [_]) Try.call85 ⟨rfl, trivial⟩ (fun w hs => rat_den hs hna hda) rfl ?_
   intro v113 h5 hh5 hr113
   rw [denL_den] at hr113
   refine w_c rfl ?_
   replace hnb := hnb.mono ((hh3.trans hh4).trans hh5)
   refine s_call (vs := [_, _]) Try.call84 ⟨rfl, rfl, trivial⟩ (fun w hs => nat_mul hs hnb hr113 (by omega) (by omega)) rfl ?_
   intro v114 h6 hh6 hr114
   try simp only [val_limbs] at hr114
   have hlm114 := limbs_len_mul ((qb.num.natAbs)) ((qa.den))
   refine w_c rfl ?_
   replace hnb := hnb.mono hh6
   replace hdb := hdb.mono (((hh3.trans hh4).trans hh5).trans hh6)
   refine s_call (vs := [_]) Try.call85 ⟨rfl, trivial⟩ (fun w hs => rat_den hs hnb hdb) rfl ?_
   intro v117 h7 hh7 hr117
   rw [denL_den] at hr117
   refine w_c rfl ?_
   replace hr100 := hr100.mono (((((hh2.trans hh3).trans hh4).trans hh5).trans hh6).trans hh7)
   refine s_call (vs := [_, _]) Try.call84 ⟨rfl, rfl, trivial⟩ (fun w hs => nat_mul hs hr100 hr117 (by omega) (by omega)) rfl ?_
   intro v118 h8 hh8 hr118
   try simp only [val_limbs] at hr118
   have hlm118 := limbs_len_mul ((qa.den)) ((qb.den))
   refine w_q rfl (fun h' L' hh hR => ov_assign rfl) rfl (w_q rfl (fun h' L' hh hR => ov_assign rfl) rfl (w_q rfl (fun h' L' hh hR => ov_assign rfl) rfl (w_nil (gq_keep (e' := [(2, _), (3, _), (6, _), (15, _), (16, _), (17, _)]) ⟨rfl, rfl, rfl, rfl, rfl, rfl, trivial⟩ (gq_then (gc_seq (gc_seq (gc_region (gv (ov_field_addr Try.underlying29 rfl Try.sizeOf4 rfl) rfl (gv (ov_load_var (.tail _ (.tail _ (.head _))) Try.isAgg4 rfl rfl) rfl (mv rfl rfl (gv (ov_eql_b Try.underlying4 rfl rfl) rfl (gl_nil ?_)))))))))))))
   refine gq_then ?_
   refine gc_cond rfl (fun hc122 => ?_) (fun hc122 => ?_)
   ·
    refine gc_seq (gc_region (mv rfl rfl (mv rfl rfl (mv rfl rfl ?_))))
    replace hr110 := hr110.mono (((hh5.trans hh6).trans hh7).trans hh8)
    replace hr114 := hr114.mono (hh7.trans hh8)
    refine gl_call (vs := [_, _]) rfl rfl rfl rfl Try.call100 ⟨rfl, rfl, trivial⟩ (fun w hs => nat_add hs hr110 hr114 (by omega) (by omega)) ?_
    intro v126 h9 hh9 hr126
    try simp only [val_limbs] at hr126
    have hlm126 := limbs_len_add (((((qa.num.natAbs)) * ((qb.den))))) (((((qb.num.natAbs)) * ((qa.den)))))
    refine mv rfl rfl ?_
    replace hr118 := hr118.mono hh9
    refine gl_call (vs := [_, _, _]) rfl rfl rfl rfl Try.call83 ⟨rfl, rfl, rfl, trivial⟩ (fun w hs => rat_reduce hs hr126 hr118 (by omega) (by omega)) ?_
    intro v128 h10 hh10 hr128
    try simp only [val_limbs] at hr128
    obtain ⟨vn128, vd128, rfl, hn128, hd128⟩ := hr128
    refine gl_upd (A := []) (r' := .var b6 29 [vB ((mkRat (sg (s) ((((((((qa.num.natAbs)) * ((qb.den))))) + (((((qb.num.natAbs)) * ((qa.den))))))))) (((((qa.den)) * ((qb.den)))))).num < 0), vn128, vd128]) (upd_store_var (k := 0) (cs := [_, _, _]) (vs := [_, _, _]) rfl rfl rfl (ocr rfl (ocu hn128 (ocu hd128 oc0))) size29 (Nat.le_of_ble_eq_true rfl)) rfl rfl rfl (gl_nil (gq_keep (e' := [(6, _)]) ⟨rfl, trivial⟩ (gq_then (gc_ret (gr_then (gq_res (fun E S => run_res1 rfl (rv_agg (cs := [_, _, _]) (.head _) Try.underlying29 rfl size29 rfl) E S) ?_))))))
    rw [add_sgd hc122]
    exact ⟨_, _, rfl, hn128, hd128⟩
   ·
    refine gc_skip (gq_then (gc_seq (gc_seq (gc_region (mv rfl rfl (mv rfl rfl ?_))))))
    replace hr110 := hr110.mono (((hh5.trans hh6).trans hh7).trans hh8)
    replace hr114 := hr114.mono (hh7.trans hh8)
    refine gl_call (vs := [_, _]) rfl rfl rfl rfl Try.call101 ⟨rfl, rfl, trivial⟩ (fun w hs => nat_sub hs hr110 hr114 (by omega)) ?_
    intro v132 h9 hh9 hr132
    obtain ⟨u132, rfl, hu132⟩ := hr132
    try simp only [val_limbs] at hu132 ⊢
    have hlm132 := limbs_len_mono (Nat.sub_le (((((qa.num.natAbs)) * ((qb.den))))) (((((qb.num.natAbs)) * ((qa.den))))))
    refine mv rfl rfl (gv (ov_extract (vs := [_, _]) rfl rfl) rfl (gv (ov_extract (vs := [_, _]) rfl rfl) rfl (asg rfl rfl (asg rfl rfl (gl_nil (gq_keep (e' := [(2, _), (3, _), (6, _), (15, _), (16, _), (17, _), (18, _), (19, _)]) ⟨rfl, rfl, rfl, rfl, rfl, rfl, rfl, rfl, trivial⟩ (gq_then (gc_seq (gc_region (mv rfl rfl (gv (ov_eql_i (q := 0) rfl rfl) rfl (gl_nil (gq_then ?_)))))))))))))
    refine gc_cond rfl (fun hc136 => ?_) (fun hc136 => ?_)
    ·
     have hge := sub_ok hc136
     rw [if_neg hge]
     refine gc_seq (gc_region (gv (ov_field_addr Try.underlying29 rfl Try.sizeOf4 rfl) rfl (gv (ov_load_var (.tail _ (.tail _ (.head _))) Try.isAgg4 rfl rfl) rfl (mv rfl rfl (mv rfl rfl ?_)))))
     replace hr118 := hr118.mono hh9
     refine gl_call (vs := [_, _, _]) rfl rfl rfl rfl Try.call83 ⟨rfl, rfl, rfl, trivial⟩ (fun w hs => rat_reduce hs hu132 hr118 (by omega) (by omega)) ?_
     intro v141 h10 hh10 hr141
     try simp only [val_limbs] at hr141
     obtain ⟨vn141, vd141, rfl, hn141, hd141⟩ := hr141
     refine gl_upd (A := []) (r' := .var b6 29 [vB ((mkRat (sg (qa.num < 0) ((((((((qa.num.natAbs)) * ((qb.den))))) - (((((qb.num.natAbs)) * ((qa.den))))))))) (((((qa.den)) * ((qb.den)))))).num < 0), vn141, vd141]) (upd_store_var (k := 0) (cs := [_, _, _]) (vs := [_, _, _]) rfl rfl rfl (ocr rfl (ocu hn141 (ocu hd141 oc0))) size29 (Nat.le_of_ble_eq_true rfl)) rfl rfl rfl (gl_nil (gq_keep (e' := [(6, _)]) ⟨rfl, trivial⟩ (gq_then (gc_ret (gr_then (gq_res (fun E S => run_res1 rfl (rv_agg (cs := [_, _, _]) (.head _) Try.underlying29 rfl size29 rfl) E S) ?_))))))
     rw [sub_sgd hc122 (by omega)]
     exact ⟨_, _, rfl, hn141, hd141⟩
    ·
     have hlt := sub_no hc136
     rw [if_pos hlt]
     refine gc_skip (gq_then (gc_seq (gc_region (mv rfl rfl (mv rfl rfl ?_)))))
     replace hr110 := hr110.mono hh9
     replace hr114 := hr114.mono hh9
     refine gl_call (vs := [_, _]) rfl rfl rfl rfl Try.call101 ⟨rfl, rfl, trivial⟩ (fun w hs => nat_sub hs hr114 hr110 (by omega)) ?_
     intro v145 h10 hh10 hr145
     obtain ⟨u145, rfl, hu145⟩ := hr145
     try simp only [val_limbs] at hu145 ⊢
     have hlm145 := limbs_len_mono (Nat.sub_le (((((qb.num.natAbs)) * ((qa.den))))) (((((qa.num.natAbs)) * ((qb.den))))))
     refine mv rfl rfl (gv (ov_extract (vs := [_, _]) rfl rfl) rfl (gv (ov_extract (vs := [_, _]) rfl rfl) rfl (asg rfl rfl (asg rfl rfl (gl_nil (gq_keep (e' := [(2, _), (6, _), (17, _), (20, _)]) ⟨rfl, rfl, rfl, rfl, trivial⟩ (gq_then (gc_seq (gc_region (mv rfl rfl (mv rfl rfl (mv rfl rfl ?_))))))))))))
     replace hr118 := hr118.mono (hh9.trans hh10)
     refine gl_call (vs := [_, _, _]) rfl rfl rfl rfl Try.call83 ⟨rfl, rfl, rfl, trivial⟩ (fun w hs => rat_reduce hs hu145 hr118 (by omega) (by omega)) ?_
     intro v151 h11 hh11 hr151
     try simp only [val_limbs] at hr151
     obtain ⟨vn151, vd151, rfl, hn151, hd151⟩ := hr151
     refine gl_upd (A := []) (r' := .var b6 29 [vB ((mkRat (sg (s) ((((((((qb.num.natAbs)) * ((qa.den))))) - (((((qa.num.natAbs)) * ((qb.den))))))))) (((((qa.den)) * ((qb.den)))))).num < 0), vn151, vd151]) (upd_store_var (k := 0) (cs := [_, _, _]) (vs := [_, _, _]) rfl rfl rfl (ocr rfl (ocu hn151 (ocu hd151 oc0))) size29 (Nat.le_of_ble_eq_true rfl)) rfl rfl rfl (gl_nil (gq_then (gc_ret (gq_res (fun E S => run_res1 rfl (rv_agg (cs := [_, _, _]) (.head _) Try.underlying29 rfl size29 rfl) E S) ?_))))
     rw [sub_sgd' hc122 (by omega)]
     exact ⟨_, _, rfl, hn151, hd151⟩
  ·
   have hde := den_eq.1 (Classical.not_not.1 hc106)
   refine gc_skip (gq_then (gc_seq (gc_seq (gc_region (gv (ov_field_addr Try.underlying29 rfl Try.sizeOf4 rfl) rfl (gv (ov_load_var (.tail _ (.tail _ (.head _))) Try.isAgg4 rfl rfl) rfl (mv rfl rfl (gv (ov_eql_b Try.underlying4 rfl rfl) rfl (gl_nil (gq_then ?_))))))))))
   refine gc_cond rfl (fun hc122 => ?_) (fun hc122 => ?_)
   ·
    refine gc_seq (gc_region (mv rfl rfl (mv rfl rfl (mv rfl rfl ?_))))
    replace hna := hna.mono (hh1.trans hh2)
    replace hnb := hnb.mono ((hmmc.trans hh1).trans hh2)
    refine gl_call (vs := [_, _]) rfl rfl rfl rfl Try.call100 ⟨rfl, rfl, trivial⟩ (fun w hs => nat_add hs hna hnb (by omega) (by omega)) ?_
    intro v126 h3 hh3 hr126
    try simp only [val_limbs] at hr126
    have hlm126 := limbs_len_add ((qa.num.natAbs)) ((qb.num.natAbs))
    refine mv rfl rfl ?_
    replace hr100 := hr100.mono (hh2.trans hh3)
    refine gl_call (vs := [_, _, _]) rfl rfl rfl rfl Try.call83 ⟨rfl, rfl, rfl, trivial⟩ (fun w hs => rat_reduce hs hr126 hr100 (by omega) (by omega)) ?_
    intro v128 h4 hh4 hr128
    try simp only [val_limbs] at hr128
    obtain ⟨vn128, vd128, rfl, hn128, hd128⟩ := hr128
    refine gl_upd (A := []) (r' := .var b6 29 [vB ((mkRat (sg (s) (((((qa.num.natAbs)) + ((qb.num.natAbs)))))) ((qa.den))).num < 0), vn128, vd128]) (upd_store_var (k := 0) (cs := [_, _, _]) (vs := [_, _, _]) rfl rfl rfl (ocr rfl (ocu hn128 (ocu hd128 oc0))) size29 (Nat.le_of_ble_eq_true rfl)) rfl rfl rfl (gl_nil (gq_keep (e' := [(6, _)]) ⟨rfl, trivial⟩ (gq_then (gc_ret (gr_then (gq_res (fun E S => run_res1 rfl (rv_agg (cs := [_, _, _]) (.head _) Try.underlying29 rfl size29 rfl) E S) ?_))))))
    rw [add_sgd1 hc122 hde]
    exact ⟨_, _, rfl, hn128, hd128⟩
   ·
    refine gc_skip (gq_then (gc_seq (gc_seq (gc_region (mv rfl rfl (mv rfl rfl ?_))))))
    replace hna := hna.mono (hh1.trans hh2)
    replace hnb := hnb.mono ((hmmc.trans hh1).trans hh2)
    refine gl_call (vs := [_, _]) rfl rfl rfl rfl Try.call101 ⟨rfl, rfl, trivial⟩ (fun w hs => nat_sub hs hna hnb (by omega)) ?_
    intro v132 h3 hh3 hr132
    obtain ⟨u132, rfl, hu132⟩ := hr132
    try simp only [val_limbs] at hu132 ⊢
    have hlm132 := limbs_len_mono (Nat.sub_le ((qa.num.natAbs)) ((qb.num.natAbs)))
    refine mv rfl rfl (gv (ov_extract (vs := [_, _]) rfl rfl) rfl (gv (ov_extract (vs := [_, _]) rfl rfl) rfl (asg rfl rfl (asg rfl rfl (gl_nil (gq_keep (e' := [(2, _), (3, _), (6, _), (15, _), (16, _), (17, _), (18, _), (19, _)]) ⟨rfl, rfl, rfl, rfl, rfl, rfl, rfl, rfl, trivial⟩ (gq_then (gc_seq (gc_region (mv rfl rfl (gv (ov_eql_i (q := 0) rfl rfl) rfl (gl_nil (gq_then ?_)))))))))))))
    refine gc_cond rfl (fun hc136 => ?_) (fun hc136 => ?_)
    ·
     have hge := sub_ok hc136
     rw [if_neg hge]
     refine gc_seq (gc_region (gv (ov_field_addr Try.underlying29 rfl Try.sizeOf4 rfl) rfl (gv (ov_load_var (.tail _ (.tail _ (.head _))) Try.isAgg4 rfl rfl) rfl (mv rfl rfl (mv rfl rfl ?_)))))
     replace hr100 := hr100.mono (hh2.trans hh3)
     refine gl_call (vs := [_, _, _]) rfl rfl rfl rfl Try.call83 ⟨rfl, rfl, rfl, trivial⟩ (fun w hs => rat_reduce hs hu132 hr100 (by omega) (by omega)) ?_
     intro v141 h4 hh4 hr141
     try simp only [val_limbs] at hr141
     obtain ⟨vn141, vd141, rfl, hn141, hd141⟩ := hr141
     refine gl_upd (A := []) (r' := .var b6 29 [vB ((mkRat (sg (qa.num < 0) (((((qa.num.natAbs)) - ((qb.num.natAbs)))))) ((qa.den))).num < 0), vn141, vd141]) (upd_store_var (k := 0) (cs := [_, _, _]) (vs := [_, _, _]) rfl rfl rfl (ocr rfl (ocu hn141 (ocu hd141 oc0))) size29 (Nat.le_of_ble_eq_true rfl)) rfl rfl rfl (gl_nil (gq_keep (e' := [(6, _)]) ⟨rfl, trivial⟩ (gq_then (gc_ret (gr_then (gq_res (fun E S => run_res1 rfl (rv_agg (cs := [_, _, _]) (.head _) Try.underlying29 rfl size29 rfl) E S) ?_))))))
     rw [sub_sgd1 hc122 hde (by omega)]
     exact ⟨_, _, rfl, hn141, hd141⟩
    ·
     have hlt := sub_no hc136
     rw [if_pos hlt]
     refine gc_skip (gq_then (gc_seq (gc_region (mv rfl rfl (mv rfl rfl ?_)))))
     replace hna := hna.mono hh3
     replace hnb := hnb.mono hh3
     refine gl_call (vs := [_, _]) rfl rfl rfl rfl Try.call101 ⟨rfl, rfl, trivial⟩ (fun w hs => nat_sub hs hnb hna (by omega)) ?_
     intro v145 h4 hh4 hr145
     obtain ⟨u145, rfl, hu145⟩ := hr145
     try simp only [val_limbs] at hu145 ⊢
     have hlm145 := limbs_len_mono (Nat.sub_le ((qb.num.natAbs)) ((qa.num.natAbs)))
     refine mv rfl rfl (gv (ov_extract (vs := [_, _]) rfl rfl) rfl (gv (ov_extract (vs := [_, _]) rfl rfl) rfl (asg rfl rfl (asg rfl rfl (gl_nil (gq_keep (e' := [(2, _), (6, _), (17, _), (20, _)]) ⟨rfl, rfl, rfl, rfl, trivial⟩ (gq_then (gc_seq (gc_region (mv rfl rfl (mv rfl rfl (mv rfl rfl ?_))))))))))))
     replace hr100 := hr100.mono ((hh2.trans hh3).trans hh4)
     refine gl_call (vs := [_, _, _]) rfl rfl rfl rfl Try.call83 ⟨rfl, rfl, rfl, trivial⟩ (fun w hs => rat_reduce hs hu145 hr100 (by omega) (by omega)) ?_
     intro v151 h5 hh5 hr151
     try simp only [val_limbs] at hr151
     obtain ⟨vn151, vd151, rfl, hn151, hd151⟩ := hr151
     refine gl_upd (A := []) (r' := .var b6 29 [vB ((mkRat (sg (s) (((((qb.num.natAbs)) - ((qa.num.natAbs)))))) ((qa.den))).num < 0), vn151, vd151]) (upd_store_var (k := 0) (cs := [_, _, _]) (vs := [_, _, _]) rfl rfl rfl (ocr rfl (ocu hn151 (ocu hd151 oc0))) size29 (Nat.le_of_ble_eq_true rfl)) rfl rfl rfl (gl_nil (gq_then (gc_ret (gq_res (fun E S => run_res1 rfl (rv_agg (cs := [_, _, _]) (.head _) Try.underlying29 rfl size29 rfl) E S) ?_))))
     rw [sub_sgd1' hc122 hde (by omega)]
     exact ⟨_, _, rfl, hn151, hd151⟩

end Go.Proofs.Ytfpjclgbieppeaa

namespace Go.Proofs.Ytfpjclgbieppeaa
open Bk Go
set_option linter.unusedVariables false
set_option linter.unusedSimpArgs false
set_option maxRecDepth 10000

theorem rat_add {w0 : World} {h0 : Mem}  (hs : MLe h0 (mem w0)) {qa : Rat} {vna vda : Value} (hna : Us .u32 h0 vna (limbs qa.num.natAbs)) (hda : Us .u32 h0 vda (limbs (denN qa.den))) {qb : Rat} {vnb vdb : Value} (hnb : Us .u32 h0 vnb (limbs qb.num.natAbs)) (hdb : Us .u32 h0 vdb (limbs (denN qb.den))) (hqa : lq qa ≤ 100000000000) (hqb : lq qb ≤ 100000000000)  :
    Calls Try.prog 58 #[.agg #[vB (qa.num < 0), vna, vda], .agg #[vB (qb.num < 0), vnb, vdb]] w0 (Ret w0 h0 (fun h r => IsRat h r (qa + qb))) := by
 have hlna := lq_num qa
 have hlda := lq_den qa
 have hlDa := lq_denL qa
 have hlnb := lq_num qb
 have hldb := lq_den qb
 have hlDb := lq_denL qb
 refine calls_begin (n := 10) (e := [(0, .agg #[vB (qa.num < 0), vna, vda]), (1, .agg #[vB (qb.num < 0), vnb, vdb])]) (vs := [.agg #[vB (qa.num < 0), vna, vda], .agg #[vB (qb.num < 0), vnb, vdb]]) Try.func58 rfl rfl (Nat.le_of_ble_eq_true rfl) hs ⟨rfl, rfl, trivial⟩ (gc_seq (gc_region (gl_newop (new_box (cs := [_, _, _]) rfl rfl) rfl rfl rfl ?_)))
 intro v2 r2 hr2
 obtain ⟨b2, rfl, rfl⟩ := hr2
 refine gl_newop (new_box (cs := [_, _, _]) rfl rfl) rfl rfl rfl ?_
 intro v3 r3 hr3
 obtain ⟨b3, rfl, rfl⟩ := hr3
 refine gl_newop (new_alloc (cs := [vB ((0 : Rat).num < 0), .slice none 0 0, .slice none 0 0]) info29 rfl (by simp only [zb]; rfl)) rfl rfl rfl ?_
 intro v4 r4 hr4
 obtain ⟨b4, rfl, rfl⟩ := hr4
 refine gl_nil (gq_then (gc_seq (gc_region (gv (ov_load_agg (vs := [_, _, _]) (.tail _ (.tail _ (.head _))) Try.underlying29 rfl size29 rfl rfl) rfl (gv (ov_load_agg (vs := [_, _, _]) (.tail _ (.head _)) Try.underlying29 rfl size29 rfl rfl) rfl (gv (ov_field_addr Try.underlying29 rfl Try.sizeOf4 rfl) rfl (gv (ov_load_var (.tail _ (.head _)) Try.isAgg4 rfl rfl) rfl ?_)))))))
 refine gl_call (vs := [_, _, _]) rfl rfl rfl rfl Try.call80 ⟨rfl, rfl, rfl, trivial⟩ (fun w hs => rat_addn hs hna hda hnb hdb (by omega) (by omega)) ?_
 intro v9 h1 hh1 hr9
 obtain ⟨vn9, vd9, rfl, hn9, hd9⟩ := hr9
 have hlq9 := lq_add qa (sgd (qb.num < 0) qb)
 have hls9 := lq_sgd (qb.num < 0) qb
 refine gl_upd (A := []) (r' := .var b4 29 [vB ((qa + sgd (qb.num < 0) qb).num < 0), vn9, vd9]) (upd_store_var (k := 0) (cs := [_, _, _]) (vs := [_, _, _]) rfl rfl rfl (ocr rfl (ocu hn9 (ocu hd9 oc0))) size29 (Nat.le_of_ble_eq_true rfl)) rfl rfl rfl (gl_nil (gq_then (gc_ret (gq_res (fun E S => run_res1 rfl (rv_agg (cs := [_, _, _]) (.head _) Try.underlying29 rfl size29 rfl) E S) ?_))))
 rw [sgd_self] at hn9 hd9 ⊢
 exact ⟨_, _, rfl, hn9, hd9⟩

theorem rat_sub {w0 : World} {h0 : Mem}  (hs : MLe h0 (mem w0)) {qa : Rat} {vna vda : Value} (hna : Us .u32 h0 vna (limbs qa.num.natAbs)) (hda : Us .u32 h0 vda (limbs (denN qa.den))) {qb : Rat} {vnb vdb : Value} (hnb : Us .u32 h0 vnb (limbs qb.num.natAbs)) (hdb : Us .u32 h0 vdb (limbs (denN qb.den))) (hqa : lq qa ≤ 100000000000) (hqb : lq qb ≤ 100000000000)  :
    Calls Try.prog 57 #[.agg #[vB (qa.num < 0), vna, vda], .agg #[vB (qb.num < 0), vnb, vdb]] w0 (Ret w0 h0 (fun h r => IsRat h r (qa - qb))) := by
 have hlna := lq_num qa
 have hlda := lq_den qa
 have hlDa := lq_denL qa
 have hlnb := lq_num qb
 have hldb := lq_den qb
 have hlDb := lq_denL qb
 refine calls_begin (n := 11) (e := [(0, .agg #[vB (qa.num < 0), vna, vda]), (1, .agg #[vB (qb.num < 0), vnb, vdb])]) (vs := [.agg #[vB (qa.num < 0), vna, vda], .agg #[vB (qb.num < 0), vnb, vdb]]) Try.func57 rfl rfl (Nat.le_of_ble_eq_true rfl) hs ⟨rfl, rfl, trivial⟩ (gc_seq (gc_region (gl_newop (new_box (cs := [_, _, _]) rfl rfl) rfl rfl rfl ?_)))
 intro v2 r2 hr2
 obtain ⟨b2, rfl, rfl⟩ := hr2
 refine gl_newop (new_box (cs := [_, _, _]) rfl rfl) rfl rfl rfl ?_
 intro v3 r3 hr3
 obtain ⟨b3, rfl, rfl⟩ := hr3
 refine gl_newop (new_alloc (cs := [vB ((0 : Rat).num < 0), .slice none 0 0, .slice none 0 0]) info29 rfl (by simp only [zb]; rfl)) rfl rfl rfl ?_
 intro v4 r4 hr4
 obtain ⟨b4, rfl, rfl⟩ := hr4
 refine gl_nil (gq_then (gc_seq (gc_region (gv (ov_load_agg (vs := [_, _, _]) (.tail _ (.tail _ (.head _))) Try.underlying29 rfl size29 rfl rfl) rfl (gv (ov_load_agg (vs := [_, _, _]) (.tail _ (.head _)) Try.underlying29 rfl size29 rfl rfl) rfl (gv (ov_field_addr Try.underlying29 rfl Try.sizeOf4 rfl) rfl (gv (ov_load_var (.tail _ (.head _)) Try.isAgg4 rfl rfl) rfl (gv (ov_not rfl) rfl ?_))))))))
 refine gl_call (vs := [_, _, _]) rfl rfl rfl rfl Try.call80 ⟨rfl, rfl, rfl, trivial⟩ (fun w hs => rat_addn hs hna hda hnb hdb (by omega) (by omega)) ?_
 intro v10 h1 hh1 hr10
 obtain ⟨vn10, vd10, rfl, hn10, hd10⟩ := hr10
 have hlq10 := lq_add qa (sgd (¬ (qb.num < 0)) qb)
 have hls10 := lq_sgd (¬ (qb.num < 0)) qb
 refine gl_upd (A := []) (r' := .var b4 29 [vB ((qa + sgd (¬ (qb.num < 0)) qb).num < 0), vn10, vd10]) (upd_store_var (k := 0) (cs := [_, _, _]) (vs := [_, _, _]) rfl rfl rfl (ocr rfl (ocu hn10 (ocu hd10 oc0))) size29 (Nat.le_of_ble_eq_true rfl)) rfl rfl rfl (gl_nil (gq_keep (e' := [(4, _)]) ⟨rfl, trivial⟩ (gq_then (gc_ret (gq_res (fun E S => run_res1 rfl (rv_agg (cs := [_, _, _]) (.head _) Try.underlying29 rfl size29 rfl) E S) ?_)))))
 rw [sgd_neg, ← Rat.sub_eq_add_neg] at hn10 hd10 ⊢
 exact ⟨_, _, rfl, hn10, hd10⟩

end Go.Proofs.Ytfpjclgbieppeaa

namespace Go.Proofs.Ytfpjclgbieppeaa
open Bk Go
set_option linter.unusedVariables false
set_option linter.unusedSimpArgs false
set_option maxRecDepth 10000

theorem rref_den {w0 : World} {h0 : Mem}  (hs : MLe h0 (mem w0)) {sa : Prop} {ba vna vda : Value} {xa ya : List Nat} (hba : ba = vB sa) (hna : Us .u32 h0 vna xa) (hda : Us .u32 h0 vda ya) :
    Calls Try.prog 66 #[.agg #[ba, vna, vda]] w0 (Ret w0 h0 (fun h r => Us .u32 h r (if ya = [] then [1] else ya))) := by
 subst hba
 have hlx1 := limbs_len_le hna.lt
 have hly1 := limbs_len_le hda.lt
 refine calls_begin (n := 10) (e := [(0, .agg #[vB sa, vna, vda])]) (vs := [.agg #[vB sa, vna, vda]]) Try.func66 rfl rfl (Nat.le_of_ble_eq_true rfl) hs ⟨rfl, trivial⟩ (gc_seq (gc_region (gl_newop (new_box (cs := [_, _, _]) rfl rfl) rfl rfl rfl ?_)))
 intro v1 r1 hr1
 obtain ⟨b1, rfl, rfl⟩ := hr1
 refine asg rfl rfl (gl_nil (gq_then (gc_seq (gc_seq (gc_region (gv (ov_field_addr Try.underlying29 rfl Try.sizeOf27 rfl) rfl (gv (ov_load_var (.head _) Try.isAgg27 rfl rfl) rfl (gv (ov_len_us Try.underlying27 rfl hda) rfl (gv (ov_eql_i (q := 0) rfl rfl) rfl (gl_nil (gq_then ?_)))))))))))
 refine gc_cond rfl (fun hc6 => ?_) (fun hc6 => ?_)
 ·
  refine gc_seq (gc_region (gl_newop (new_build1 (kd := .u32) (p := 1) Try.underlying27 info94 rfl rfl rfl) rfl rfl rfl ?_))
  intro v7 r7 hr7
  obtain rfl := hr7
  refine gl_freeze_us0 (by intro z hz; simp only [List.mem_singleton] at hz; subst hz; decide) ?_
  intro h1 hh1 h9
  refine asg rfl rfl (gl_nil (gq_then (gc_ret (gr_then (gq_body1 rfl rfl ?_)))))
  rw [if_pos (len_zero.1 hc6)]
  exact h9
 ·
  refine gc_skip (gq_then (gc_seq (gc_region (gv (ov_field_addr Try.underlying29 rfl Try.sizeOf27 rfl) rfl (gv (ov_load_var (.head _) Try.isAgg27 rfl rfl) rfl (asg rfl rfl (gl_nil (gq_then (gc_ret (gq_body1 rfl rfl ?_))))))))))
  rw [if_neg (fun h => hc6 (len_zero.2 h))]
  exact hda

end Go.Proofs.Ytfpjclgbieppeaa

namespace Go.Proofs.Ytfpjclgbieppeaa
open Bk Go
set_option linter.unusedVariables false
set_option linter.unusedSimpArgs false
set_option maxRecDepth 10000

theorem rref_reduce {w0 : World} {h0 : Mem}  (hs : MLe h0 (mem w0)) {s : Prop} {vn vd : Value} {xs ys : List Nat} (hn : Us .u32 h0 vn xs) (hd : Us .u32 h0 vd ys) (hl : xs.length ≤ 500000000000) (hl' : ys.length ≤ 500000000000) (hd0 : val ys ≠ 0) :
    Calls Try.prog 67 #[vB s, vn, vd] w0 (Ret w0 h0 (fun h r => IsRat h r (mkRat (sg s (val xs)) (val ys)))) := by
 have hlx := limbs_len_le hn.lt
 have hly := limbs_len_le hd.lt
 refine calls_begin (n := 55) (e := [(0, vB s), (1, vn), (2, vd)]) (vs := [vB s, vn, vd]) Try.func67 rfl rfl (Nat.le_of_ble_eq_true rfl) hs ⟨rfl, rfl, rfl, trivial⟩ (gc_seq (gc_region (gl_newop (new_alloc (cs := [vB ((0 : Rat).num < 0), .slice none 0 0, .slice none 0 0]) info29 rfl (by simp only [zb]; rfl)) rfl rfl rfl ?_)))
 intro v6 r6 hr6
 obtain ⟨b6, rfl, rfl⟩ := hr6
 refine gl_nil (gq_then (gc_seq (gc_region (mv rfl rfl ?_))))
 refine gl_call (vs := [_]) rfl rfl rfl rfl Try.call88 ⟨rfl, trivial⟩ (fun w hs => ref_trim hs hn (by omega)) ?_
 intro v9 h1 hh1 hr9
 refine mv rfl rfl ?_
 replace hd := hd.mono hh1
 refine gl_call (vs := [_]) rfl rfl rfl rfl Try.call88 ⟨rfl, trivial⟩ (fun w hs => ref_trim hs hd (by omega)) ?_
 intro v11 h2 hh2 hr11
 refine asg rfl rfl (asg rfl rfl (gl_nil (gq_then (gc_seq (gc_seq (gc_region (mv rfl rfl ?_)))))))
 replace hr9 := hr9.mono hh2
 refine gv (ov_len_us Try.underlying27 rfl hr9) rfl (gv (ov_eql_i (q := 0) rfl rfl) rfl (gl_nil (gq_then ?_)))
 refine gc_cond rfl (fun hc14 => ?_) (fun hc14 => ?_)
 ·
  refine gc_keep (e' := [(6, _)]) ⟨rfl, trivial⟩ (gc_seq (gc_region (gv (ov_build_parts (ps' := []) (vs := [vB ((0 : Rat).num < 0), .slice none 0 0, .slice none 0 0]) Try.underlying29 info29 rfl (places29 Try.underlying29) trivial (by simp only [zb]; exact fill_nil)) rfl (gl_upd (A := []) (r' := .var b6 29 [vB ((0 : Rat).num < 0), .slice none 0 0, .slice none 0 0]) (upd_store_var (k := 0) (cs := [_, _, _]) (vs := [_, _, _]) rfl rfl rfl rfl size29 (Nat.le_of_ble_eq_true rfl)) rfl rfl rfl (gl_nil (gq_then (gc_ret (gr_then (gq_res (fun E S => run_res1 rfl (rv_agg (cs := [_, _, _]) (.head _) Try.underlying29 rfl size29 rfl) E S) ?_)))))))))
  have e : val xs = 0 := Classical.byContradiction fun e => by have := limbs_len_pos.2 e; omega
  rw [e, mk_zero]; exact IsRat.zero _
 ·
  have hn0 : val xs ≠ 0 := limbs_len_pos.1 (by omega)
  have hg0 : Nat.gcd (val xs) (val ys) ≠ 0 := Nat.ne_of_gt (Nat.gcd_pos_of_pos_left _ (by omega))
  refine gc_skip (gq_then (gc_seq (gc_region (mv rfl rfl (mv rfl rfl ?_)))))
  refine gl_call (vs := [_, _]) rfl rfl rfl rfl Try.call89 ⟨rfl, rfl, trivial⟩ (fun w hs => ref_gcd hs hr9 hr11 (by omega) (by omega)) ?_
  intro v18 h3 hh3 hr18
  have hlm18 := limbs_len_gcd ((val (xs))) ((val (ys)))
  refine asg rfl rfl (gl_nil (gq_keep (e' := [(0, _), (6, _), (1, _), (2, _), (7, _)]) ⟨rfl, rfl, rfl, rfl, rfl, trivial⟩ (gq_then (gc_seq (gc_seq (gc_region (mv rfl rfl (gv (ov_len_us Try.underlying27 rfl hr18) rfl (gv (ov_neq_i (q := 1) rfl rfl) rfl ?_)))))))))
  refine gl_cut (ι := Unit) 6 (fun _ => True) (fun _ => [(27, vB (((↑(limbs (Nat.gcd ((val (xs))) ((val (ys))))).length : Int) ≠ (1 : Int)) ∨ (((limbs (Nat.gcd ((val (xs))) ((val (ys))))).getD (0) 0) ≠ (1 : Nat)))), (0, vB s), (6, vP b6 0), (1, v9), (2, v11), (7, v18)]) (fun _ => [.var b6 29 [vB ((0 : Rat).num < 0), .slice none 0 0, .slice none 0 0]]) (fun _ => h3) ?_ ?_
  ·
   refine gl_cases ((↑(limbs (Nat.gcd ((val (xs))) ((val (ys))))).length : Int) ≠ (1 : Int)) (fun hg => ?_) (fun hg => ?_)
   ·
    refine gl_val (ov_move (v := .bool true) (congrArg some (vB_true hg))) rfl rfl rfl (gl_off rfl rfl rfl rfl rfl rfl (gl_off rfl rfl rfl rfl rfl rfl (gl_off rfl rfl rfl rfl rfl rfl (gl_off rfl rfl rfl rfl rfl rfl (gv (ov_pick_t rfl rfl) rfl (gl_nil ?_))))))
    refine gq_cut () trivial ⟨?_, rfl, rfl, rfl, rfl, rfl, trivial⟩ rfl rfl
    exact congrArg some (vB_or_t hg)
   ·
    refine gl_val (ov_move (v := .bool false) (congrArg some (vB_false hg))) rfl rfl rfl (gl_on rfl rfl rfl (mv rfl rfl (gl_on rfl rfl rfl (gv (ov_index_us (q := 0) (0) Try.underlying27 Try.sizeOf94 rfl rfl hr18 rfl (by omega)) rfl (gl_on rfl rfl rfl (gv (ov_load_us Try.isAgg94 rfl hr18 (by omega)) rfl (gl_on rfl rfl rfl (gv (ov_neq_u (k := .u32) (q := 1) rfl rfl) rfl (gv (ov_pick_f rfl rfl) rfl (gl_nil ?_))))))))))
    refine gq_cut () trivial ⟨?_, rfl, rfl, rfl, rfl, rfl, trivial⟩ rfl rfl
    exact congrArg some (vB_or_f hg)
  ·
   intro _ _
   show GL _ _ _ _ _ _ _ [(27, vB (((↑(limbs (Nat.gcd ((val (xs))) ((val (ys))))).length : Int) ≠ (1 : Int)) ∨ (((limbs (Nat.gcd ((val (xs))) ((val (ys))))).getD (0) 0) ≠ (1 : Nat)))), (0, vB s), (6, vP b6 0), (1, v9), (2, v11), (7, v18)] [.var b6 29 [vB ((0 : Rat).num < 0), .slice none 0 0, .slice none 0 0]] h3
   refine gl_nil (gq_then ?_)
   refine gc_cond rfl (fun hc27 => ?_) (fun hc27 => ?_)
   ·
    refine gc_seq (gc_region (mv rfl rfl (mv rfl rfl ?_)))
    replace hr9 := hr9.mono hh3
    refine gl_call (vs := [_, _]) rfl rfl rfl rfl Try.call90 ⟨rfl, rfl, trivial⟩ (fun w hs => ref_div hs hr9 hr18 (by omega) (by omega)) ?_
    intro v31 h4 hh4 hr31
    obtain ⟨q31, r31, rfl, hq31, hr31⟩ := hr31
    have hlm31 := limbs_len_mono (Nat.div_le_self ((val (xs))) ((Nat.gcd ((val (xs))) ((val (ys))))))
    refine mv rfl rfl (gv (ov_extract (vs := [_, _, _]) rfl rfl) rfl (gv (ov_extract (vs := [_, _, _]) rfl rfl) rfl (gv (ov_extract (vs := [_, _, _]) rfl rfl) rfl (asg rfl rfl (gl_nil (gq_then (gc_region (mv rfl rfl (mv rfl rfl ?_)))))))))
    replace hr11 := hr11.mono (hh3.trans hh4)
    replace hr18 := hr18.mono hh4
    refine gl_call (vs := [_, _]) rfl rfl rfl rfl Try.call90 ⟨rfl, rfl, trivial⟩ (fun w hs => ref_div hs hr11 hr18 (by omega) (by omega)) ?_
    intro v38 h5 hh5 hr38
    obtain ⟨q38, r38, rfl, hq38, hr38⟩ := hr38
    have hlm38 := limbs_len_mono (Nat.div_le_self ((val (ys))) ((Nat.gcd ((val (xs))) ((val (ys))))))
    refine mv rfl rfl (gv (ov_extract (vs := [_, _, _]) rfl rfl) rfl (gv (ov_extract (vs := [_, _, _]) rfl rfl) rfl (gv (ov_extract (vs := [_, _, _]) rfl rfl) rfl (asg rfl rfl (gl_nil (gq_keep (e' := [(0, _), (6, _), (1, _), (2, _)]) ⟨rfl, rfl, rfl, rfl, trivial⟩ (gq_then (gc_seq (gc_seq (gc_region (mv rfl rfl (gv (ov_len_us Try.underlying27 rfl hq38) rfl (gv (ov_eql_i (q := 1) rfl rfl) rfl ?_)))))))))))))
    refine gl_cut (ι := Unit) 6 (fun _ => True) (fun _ => [(50, vB (((↑(limbs (((val (ys))) / ((Nat.gcd ((val (xs))) ((val (ys))))))).length : Int) = (1 : Int)) ∧ (((limbs (((val (ys))) / ((Nat.gcd ((val (xs))) ((val (ys))))))).getD (0) 0) = (1 : Nat)))), (0, vB s), (6, vP b6 0), (1, q31), (2, q38)]) (fun _ => [.var b6 29 [vB ((0 : Rat).num < 0), .slice none 0 0, .slice none 0 0]]) (fun _ => h5) ?_ ?_
    ·
     refine gl_cases ((↑(limbs (((val (ys))) / ((Nat.gcd ((val (xs))) ((val (ys))))))).length : Int) = (1 : Int)) (fun hg => ?_) (fun hg => ?_)
     ·
      refine gl_val (ov_move (v := .bool true) (congrArg some (vB_true hg))) rfl rfl rfl (gl_on rfl rfl rfl (mv rfl rfl (gl_on rfl rfl rfl (gv (ov_index_us (q := 0) (0) Try.underlying27 Try.sizeOf94 rfl rfl hq38 rfl (by omega)) rfl (gl_on rfl rfl rfl (gv (ov_load_us Try.isAgg94 rfl hq38 (by omega)) rfl (gl_on rfl rfl rfl (gv (ov_eql_u (k := .u32) (q := 1) rfl rfl) rfl (gv (ov_pick_t rfl rfl) rfl (gl_nil ?_))))))))))
      refine gq_cut () trivial ⟨?_, rfl, rfl, rfl, rfl, trivial⟩ rfl rfl
      exact congrArg some (vB_and_t hg)
     ·
      refine gl_val (ov_move (v := .bool false) (congrArg some (vB_false hg))) rfl rfl rfl (gl_off rfl rfl rfl rfl rfl rfl (gl_off rfl rfl rfl rfl rfl rfl (gl_off rfl rfl rfl rfl rfl rfl (gl_off rfl rfl rfl rfl rfl rfl (gv (ov_pick_f rfl rfl) rfl (gl_nil ?_))))))
      refine gq_cut () trivial ⟨?_, rfl, rfl, rfl, rfl, trivial⟩ rfl rfl
      exact congrArg some (vB_and_f hg)
    ·
     intro _ _
     show GL _ _ _ _ _ _ _ [(50, vB (((↑(limbs (((val (ys))) / ((Nat.gcd ((val (xs))) ((val (ys))))))).length : Int) = (1 : Int)) ∧ (((limbs (((val (ys))) / ((Nat.gcd ((val (xs))) ((val (ys))))))).getD (0) 0) = (1 : Nat)))), (0, vB s), (6, vP b6 0), (1, q31), (2, q38)] [.var b6 29 [vB ((0 : Rat).num < 0), .slice none 0 0, .slice none 0 0]] h5
     refine gl_nil (gq_then ?_)
     refine gc_cond rfl (fun hc50 => ?_) (fun hc50 => ?_)
     ·
      refine gc_region (asg rfl rfl (gl_nil (gq_then (gc_seq (gc_region (mv rfl rfl (mv rfl rfl (mv rfl rfl ?_))))))))
      replace hq31 := hq31.mono hh5
      refine gv (ov_build_parts (ps' := [(0, _), (1, _), (2, _)]) (vs := [vB s, q31, .slice none 0 0]) Try.underlying29 info29 rfl (places29 Try.underlying29) ⟨rfl, rfl, rfl, rfl, rfl, rfl, trivial⟩ (fill_one (A := []) (B := [_]) (C := [_, _]) (cs := [_]) (off := 0) (size := 1) rfl rfl rfl rfl rfl (fill_one (A := [_]) (B := [_]) (C := [_]) (cs := [_]) (off := 1) (size := 1) rfl rfl rfl rfl hq31.cells (fill_one (A := [_, _]) (B := [_]) (C := []) (cs := [_]) (off := 2) (size := 1) rfl rfl rfl rfl rfl fill_nil)))) rfl (gl_upd (A := []) (r' := .var b6 29 [vB s, q31, .slice none 0 0]) (upd_store_var (k := 0) (cs := [_, _, _]) (vs := [_, _, _]) rfl rfl rfl (ocr rfl (ocu hq31 (ocr rfl oc0))) size29 (Nat.le_of_ble_eq_true rfl)) rfl rfl rfl (gl_nil (gq_then (gc_ret (gq_res (fun E S => run_res1 rfl (rv_agg (cs := [_, _, _]) (.head _) Try.underlying29 rfl size29 rfl) E S) ?_)))))
      exact IsRat.fin1 hn0 hd0 hq31 hc50
     ·
      refine gc_skip (gq_then (gc_seq (gc_region (mv rfl rfl (mv rfl rfl (mv rfl rfl ?_))))))
      replace hq31 := hq31.mono hh5
      refine gv (ov_build_parts (ps' := [(0, _), (1, _), (2, _)]) (vs := [vB s, q31, q38]) Try.underlying29 info29 rfl (places29 Try.underlying29) ⟨rfl, rfl, rfl, rfl, rfl, rfl, trivial⟩ (fill_one (A := []) (B := [_]) (C := [_, _]) (cs := [_]) (off := 0) (size := 1) rfl rfl rfl rfl rfl (fill_one (A := [_]) (B := [_]) (C := [_]) (cs := [_]) (off := 1) (size := 1) rfl rfl rfl rfl hq31.cells (fill_one (A := [_, _]) (B := [_]) (C := []) (cs := [_]) (off := 2) (size := 1) rfl rfl rfl rfl hq38.cells fill_nil)))) rfl (gl_upd (A := []) (r' := .var b6 29 [vB s, q31, q38]) (upd_store_var (k := 0) (cs := [_, _, _]) (vs := [_, _, _]) rfl rfl rfl (ocr rfl (ocu hq31 (ocu hq38 oc0))) size29 (Nat.le_of_ble_eq_true rfl)) rfl rfl rfl (gl_nil (gq_then (gc_ret (gq_res (fun E S => run_res1 rfl (rv_agg (cs := [_, _, _]) (.head _) Try.underlying29 rfl size29 rfl) E S) ?_)))))
      exact IsRat.fin hn0 hd0 hq31 hq38 hc50
   ·
    refine gc_skip (gq_then (gc_seq (gc_seq (gc_region (mv rfl rfl ?_)))))
    replace hr11 := hr11.mono hh3
    refine gv (ov_len_us Try.underlying27 rfl hr11) rfl (gv (ov_eql_i (q := 1) rfl rfl) rfl ?_)
    refine gl_cut (ι := Unit) 6 (fun _ => True) (fun _ => [(50, vB (((↑(limbs (val (ys))).length : Int) = (1 : Int)) ∧ (((limbs (val (ys))).getD (0) 0) = (1 : Nat)))), (0, vB s), (6, vP b6 0), (1, v9), (2, v11)]) (fun _ => [.var b6 29 [vB ((0 : Rat).num < 0), .slice none 0 0, .slice none 0 0]]) (fun _ => h3) ?_ ?_
    ·
     refine gl_cases ((↑(limbs (val (ys))).length : Int) = (1 : Int)) (fun hg => ?_) (fun hg => ?_)
     ·
      refine gl_val (ov_move (v := .bool true) (congrArg some (vB_true hg))) rfl rfl rfl (gl_on rfl rfl rfl (mv rfl rfl (gl_on rfl rfl rfl (gv (ov_index_us (q := 0) (0) Try.underlying27 Try.sizeOf94 rfl rfl hr11 rfl (by omega)) rfl (gl_on rfl rfl rfl (gv (ov_load_us Try.isAgg94 rfl hr11 (by omega)) rfl (gl_on rfl rfl rfl (gv (ov_eql_u (k := .u32) (q := 1) rfl rfl) rfl (gv (ov_pick_t rfl rfl) rfl (gl_nil ?_))))))))))
      refine gq_cut () trivial ⟨?_, rfl, rfl, rfl, rfl, trivial⟩ rfl rfl
      exact congrArg some (vB_and_t hg)
     ·
      refine gl_val (ov_move (v := .bool false) (congrArg some (vB_false hg))) rfl rfl rfl (gl_off rfl rfl rfl rfl rfl rfl (gl_off rfl rfl rfl rfl rfl rfl (gl_off rfl rfl rfl rfl rfl rfl (gl_off rfl rfl rfl rfl rfl rfl (gv (ov_pick_f rfl rfl) rfl (gl_nil ?_))))))
      refine gq_cut () trivial ⟨?_, rfl, rfl, rfl, rfl, trivial⟩ rfl rfl
      exact congrArg some (vB_and_f hg)
    ·
     intro _ _
     show GL _ _ _ _ _ _ _ [(50, vB (((↑(limbs (val (ys))).length : Int) = (1 : Int)) ∧ (((limbs (val (ys))).getD (0) 0) = (1 : Nat)))), (0, vB s), (6, vP b6 0), (1, v9), (2, v11)] [.var b6 29 [vB ((0 : Rat).num < 0), .slice none 0 0, .slice none 0 0]] h3
     refine gl_nil (gq_then ?_)
     refine gc_cond rfl (fun hc50 => ?_) (fun hc50 => ?_)
     ·
      refine gc_region (asg rfl rfl (gl_nil (gq_then (gc_seq (gc_region (mv rfl rfl (mv rfl rfl (mv rfl rfl ?_))))))))
      replace hr9 := hr9.mono hh3
      refine gv (ov_build_parts (ps' := [(0, _), (1, _), (2, _)]) (vs := [vB s, v9, .slice none 0 0]) Try.underlying29 info29 rfl (places29 Try.underlying29) ⟨rfl, rfl, rfl, rfl, rfl, rfl, trivial⟩ (fill_one (A := []) (B := [_]) (C := [_, _]) (cs := [_]) (off := 0) (size := 1) rfl rfl rfl rfl rfl (fill_one (A := [_]) (B := [_]) (C := [_]) (cs := [_]) (off := 1) (size := 1) rfl rfl rfl rfl hr9.cells (fill_one (A := [_, _]) (B := [_]) (C := []) (cs := [_]) (off := 2) (size := 1) rfl rfl rfl rfl rfl fill_nil)))) rfl (gl_upd (A := []) (r' := .var b6 29 [vB s, v9, .slice none 0 0]) (upd_store_var (k := 0) (cs := [_, _, _]) (vs := [_, _, _]) rfl rfl rfl (ocr rfl (ocu hr9 (ocr rfl oc0))) size29 (Nat.le_of_ble_eq_true rfl)) rfl rfl rfl (gl_nil (gq_then (gc_ret (gq_res (fun E S => run_res1 rfl (rv_agg (cs := [_, _, _]) (.head _) Try.underlying29 rfl size29 rfl) E S) ?_)))))
      have hg1 := gcd_one_of hc27
      exact IsRat.fin1 hn0 hd0 (by rw [hg1, Nat.div_one]; exact hr9) (by rw [hg1, Nat.div_one]; exact hc50)
     ·
      refine gc_skip (gq_then (gc_seq (gc_region (mv rfl rfl (mv rfl rfl (mv rfl rfl ?_))))))
      replace hr9 := hr9.mono hh3
      refine gv (ov_build_parts (ps' := [(0, _), (1, _), (2, _)]) (vs := [vB s, v9, v11]) Try.underlying29 info29 rfl (places29 Try.underlying29) ⟨rfl, rfl, rfl, rfl, rfl, rfl, trivial⟩ (fill_one (A := []) (B := [_]) (C := [_, _]) (cs := [_]) (off := 0) (size := 1) rfl rfl rfl rfl rfl (fill_one (A := [_]) (B := [_]) (C := [_]) (cs := [_]) (off := 1) (size := 1) rfl rfl rfl rfl hr9.cells (fill_one (A := [_, _]) (B := [_]) (C := []) (cs := [_]) (off := 2) (size := 1) rfl rfl rfl rfl hr11.cells fill_nil)))) rfl (gl_upd (A := []) (r' := .var b6 29 [vB s, v9, v11]) (upd_store_var (k := 0) (cs := [_, _, _]) (vs := [_, _, _]) rfl rfl rfl (ocr rfl (ocu hr9 (ocu hr11 oc0))) size29 (Nat.le_of_ble_eq_true rfl)) rfl rfl rfl (gl_nil (gq_then (gc_ret (gq_res (fun E S => run_res1 rfl (rv_agg (cs := [_, _, _]) (.head _) Try.underlying29 rfl size29 rfl) E S) ?_)))))
      have hg1 := gcd_one_of hc27
      exact IsRat.fin hn0 hd0 (by rw [hg1, Nat.div_one]; exact hr9) (by rw [hg1, Nat.div_one]; exact hr11) (by rw [hg1, Nat.div_one]; exact hc50)

theorem rref_size {w0 : World} {h0 : Mem}  (hs : MLe h0 (mem w0)) {n : Int} (hn1 : -9223372036854775808 ≤ n) (hn2 : n < 9223372036854775808) :
    Calls Try.prog 64 #[vI n] w0 (Ret w0 h0 (fun h r => ∃ u, r = .tuple #[u, vB (n < 0)] ∧ Us .u32 h u (limbs n.natAbs))) := by
 refine calls_begin (n := 15) (e := [(0, vI n)]) (vs := [vI n]) Try.func64 rfl rfl (Nat.le_of_ble_eq_true rfl) hs ⟨rfl, trivial⟩ (gc_seq (gc_region (asg rfl rfl (asg rfl rfl (gl_nil (gq_then (gc_seq (gc_seq (gc_region (mv rfl rfl (gv (ov_lss_i (q := 0) rfl rfl) rfl (gl_nil (gq_then ?_)))))))))))))
 refine gc_cond rfl (fun hc5 => ?_) (fun hc5 => ?_)
 ·
  refine gc_seq (gc_region (mv rfl rfl (gv (ov_add_i (q := 1) rfl rfl (by omega) (by omega)) rfl (gv (ov_neg_i rfl (by omega) (by omega)) rfl (gv (ov_conv_iu (p := (-(n + 1)).toNat) (k' := .u64) (W := 18446744073709551616) Try.underlying2 Try.underlying98 rfl rfl (congrArg some (congrArg vI (by omega))) (by omega)) rfl (gv (ov_add_u (k := .u64) (q := 1) (W := 18446744073709551616) rfl rfl rfl rfl (by omega)) rfl ?_))))))
  refine gl_call (vs := [_]) rfl rfl rfl rfl Try.call87 ⟨rfl, trivial⟩ (fun w hs => ref_of hs (by omega)) ?_
  intro v11 h1 hh1 hr11
  refine asg rfl rfl (asg rfl rfl (gl_nil (gq_then (gc_ret (gr_then (gq_body2 rfl rfl rfl ?_))))))
  rw [vB_true hc5, show n.natAbs = (-(n + 1)).toNat + 1 by omega]
  exact ⟨_, rfl, hr11⟩
 ·
  refine gc_skip (gq_then (gc_seq (gc_region (mv rfl rfl (gv (ov_conv_iu (p := n.toNat) (k' := .u64) (W := 18446744073709551616) Try.underlying2 Try.underlying98 rfl rfl (congrArg some (congrArg vI (by omega))) (by omega)) rfl ?_)))))
  refine gl_call (vs := [_]) rfl rfl rfl rfl Try.call87 ⟨rfl, trivial⟩ (fun w hs => ref_of hs (by omega)) ?_
  intro v14 h1 hh1 hr14
  refine asg rfl rfl (asg rfl rfl (gl_nil (gq_then (gc_ret (gq_body2 rfl rfl rfl ?_)))))
  rw [vB_false hc5, show n.natAbs = n.toNat by omega]
  exact ⟨_, rfl, hr14⟩

theorem rref_make {w0 : World} {h0 : Mem}  (hs : MLe h0 (mem w0)) {n : Int} (hn1 : -9223372036854775808 ≤ n) (hn2 : n < 9223372036854775808) {d : Int} (hd1 : -9223372036854775808 ≤ d) (hd2 : d < 9223372036854775808) :
    Calls Try.prog 42 #[vI n, vI d] w0 (Ret w0 h0 (fun h r => ∃ u, r = .tuple #[u, vI (if d = 0 then 3 else 0)] ∧ IsRat h u (makeQ n d))) := by
 refine calls_begin (n := 29) (e := [(0, vI n), (1, vI d)]) (vs := [vI n, vI d]) Try.func42 rfl rfl (Nat.le_of_ble_eq_true rfl) hs ⟨rfl, rfl, trivial⟩ (gc_seq (gc_region (gl_newop (new_alloc (cs := [vB ((0 : Rat).num < 0), .slice none 0 0, .slice none 0 0]) info29 rfl (by simp only [zb]; rfl)) rfl rfl rfl ?_)))
 intro v4 r4 hr4
 obtain ⟨b4, rfl, rfl⟩ := hr4
 refine asg (v := vI (0)) rfl rfl (gl_nil (gq_then (gc_seq (gc_seq (gc_region (mv rfl rfl (gv (ov_eql_i (q := 0) rfl rfl) rfl (gl_nil (gq_then ?_)))))))))
 refine gc_cond rfl (fun hc11 => ?_) (fun hc11 => ?_)
 ·
  refine gc_seq (gc_region (gv (ov_build_parts (ps' := []) (vs := [vB ((0 : Rat).num < 0), .slice none 0 0, .slice none 0 0]) Try.underlying29 info29 rfl (places29 Try.underlying29) trivial (by simp only [zb]; exact fill_nil)) rfl (gl_upd (A := []) (r' := .var b4 29 [vB ((0 : Rat).num < 0), .slice none 0 0, .slice none 0 0]) (upd_store_var (k := 0) (cs := [_, _, _]) (vs := [_, _, _]) rfl rfl rfl rfl size29 (Nat.le_of_ble_eq_true rfl)) rfl rfl rfl (asg (v := vI (3)) rfl rfl (gl_nil (gq_then (gc_ret (gr_then (gq_res (fun E S => run_res2 rfl (rv_agg (cs := [_, _, _]) (.head _) Try.underlying29 rfl size29 rfl) (rv_tmp rfl) E S) ?_)))))))))
  rw [if_pos hc11, hc11, makeQ_zero]
  exact ⟨_, rfl, IsRat.zero _⟩
 ·
  have hda : d.natAbs ≠ 0 := by omega
  refine gc_skip (gq_then (gc_seq (gc_region (mv rfl rfl ?_))))
  refine gl_call (vs := [_]) rfl rfl rfl rfl Try.call64 ⟨rfl, trivial⟩ (fun w hs => rref_size hs (by omega) (by omega)) ?_
  intro v15 h1 hh1 hr15
  obtain ⟨u15, rfl, hu15⟩ := hr15
  have hlm15 := limbs_len_i64 (n := n) (by omega) (by omega)
  refine mv rfl rfl (gv (ov_extract (vs := [_, _]) rfl rfl) rfl (gv (ov_extract (vs := [_, _]) rfl rfl) rfl (asg rfl rfl (asg rfl rfl (gl_nil (gq_then (gc_seq (gc_region (mv rfl rfl ?_)))))))))
  refine gl_call (vs := [_]) rfl rfl rfl rfl Try.call64 ⟨rfl, trivial⟩ (fun w hs => rref_size hs (by omega) (by omega)) ?_
  intro v20 h2 hh2 hr20
  obtain ⟨u20, rfl, hu20⟩ := hr20
  have hlm20 := limbs_len_i64 (n := d) (by omega) (by omega)
  refine mv rfl rfl (gv (ov_extract (vs := [_, _]) rfl rfl) rfl (gv (ov_extract (vs := [_, _]) rfl rfl) rfl (asg rfl rfl (asg rfl rfl (gl_nil (gq_keep (e' := [(4, _), (6, _), (7, _), (8, _), (9, _)]) ⟨rfl, rfl, rfl, rfl, rfl, trivial⟩ (gq_then (gc_seq (gc_region (mv rfl rfl (mv rfl rfl (gv (ov_neq_b Try.underlying4 rfl rfl) rfl (mv rfl rfl ?_)))))))))))))
  refine mv rfl rfl ?_
  replace hu15 := hu15.mono hh2
  refine gl_call (vs := [_, _, _]) rfl rfl rfl rfl Try.call67 ⟨rfl, rfl, rfl, trivial⟩ (fun w hs => rref_reduce hs hu15 hu20 (by omega) (by omega) (by first | (simp only [val_limbs]; omega) | (simp only [val_limbs]; first | exact Rat.den_nz _ | exact Nat.mul_ne_zero (Rat.den_nz _) (Rat.den_nz _) | exact Nat.one_ne_zero | assumption) | assumption)) ?_
  intro v28 h3 hh3 hr28
  try simp only [val_limbs] at hr28
  obtain ⟨vn28, vd28, rfl, hn28, hd28⟩ := hr28
  refine gl_upd (A := []) (r' := .var b4 29 [vB ((mkRat (sg (¬ ((n < 0) ↔ (d < 0))) (((n).natAbs))) (((d).natAbs))).num < 0), vn28, vd28]) (upd_store_var (k := 0) (cs := [_, _, _]) (vs := [_, _, _]) rfl rfl rfl (ocr rfl (ocu hn28 (ocu hd28 oc0))) size29 (Nat.le_of_ble_eq_true rfl)) rfl rfl rfl (asg (v := vI (0)) rfl rfl (gl_nil (gq_keep (e' := [(4, _), (5, _)]) ⟨rfl, rfl, trivial⟩ (gq_then (gc_ret (gq_res (fun E S => run_res2 rfl (rv_agg (cs := [_, _, _]) (.head _) Try.underlying29 rfl size29 rfl) (rv_tmp rfl) E S) ?_))))))
  rw [if_neg hc11, ← makeQ_eq hc11]
  exact ⟨_, rfl, _, _, rfl, hn28, hd28⟩

theorem rref_int {w0 : World} {h0 : Mem}  (hs : MLe h0 (mem w0)) {n : Int} (hn1 : -9223372036854775808 ≤ n) (hn2 : n < 9223372036854775808) :
    Calls Try.prog 37 #[vI n] w0 (Ret w0 h0 (fun h r => IsRat h r (n : Rat))) := by
 refine calls_begin (n := 13) (e := [(0, vI n)]) (vs := [vI n]) Try.func37 rfl rfl (Nat.le_of_ble_eq_true rfl) hs ⟨rfl, trivial⟩ (gc_seq (gc_region (gl_newop (new_alloc (cs := [vB ((0 : Rat).num < 0), .slice none 0 0, .slice none 0 0]) info29 rfl (by simp only [zb]; rfl)) rfl rfl rfl ?_)))
 intro v2 r2 hr2
 obtain ⟨b2, rfl, rfl⟩ := hr2
 refine gl_nil (gq_then (gc_seq (gc_region (mv rfl rfl ?_))))
 refine gl_call (vs := [_]) rfl rfl rfl rfl Try.call64 ⟨rfl, trivial⟩ (fun w hs => rref_size hs (by omega) (by omega)) ?_
 intro v7 h1 hh1 hr7
 obtain ⟨u7, rfl, hu7⟩ := hr7
 have hlm7 := limbs_len_i64 (n := n) (by omega) (by omega)
 refine mv rfl rfl (gv (ov_extract (vs := [_, _]) rfl rfl) rfl (gv (ov_extract (vs := [_, _]) rfl rfl) rfl (asg rfl rfl (asg rfl rfl (gl_nil (gq_then (gc_seq (gc_region (mv rfl rfl (mv rfl rfl (gv (ov_build_parts (ps' := [(0, _), (1, _)]) (vs := [vB (n < 0), u7, .slice none 0 0]) Try.underlying29 info29 rfl (places29 Try.underlying29) ⟨rfl, rfl, rfl, rfl, trivial⟩ (fill_one (A := []) (B := [_]) (C := [_, _]) (cs := [_]) (off := 0) (size := 1) rfl rfl rfl rfl rfl (fill_one (A := [_]) (B := [_]) (C := [_]) (cs := [_]) (off := 1) (size := 1) rfl rfl rfl rfl hu7.cells fill_nil))) rfl (gl_upd (A := []) (r' := .var b2 29 [vB (n < 0), u7, .slice none 0 0]) (upd_store_var (k := 0) (cs := [_, _, _]) (vs := [_, _, _]) rfl rfl rfl (ocr rfl (ocu hu7 (ocr rfl oc0))) size29 (Nat.le_of_ble_eq_true rfl)) rfl rfl rfl (gl_nil ?_)))))))))))))
 refine gq_keep (e' := [(2, _)]) ⟨rfl, trivial⟩ (gq_then (gc_ret (gq_res (fun E S => run_res1 rfl (rv_agg (cs := [_, _, _]) (.head _) Try.underlying29 rfl size29 rfl) E S) ?_)))
 exact IsRat.int hu7

theorem rref_frac {w0 : World} {h0 : Mem}  (hs : MLe h0 (mem w0)) {n : Int} (hn1 : -9223372036854775808 ≤ n) (hn2 : n < 9223372036854775808) {d : Int} (hd1 : -9223372036854775808 ≤ d) (hd2 : d < 9223372036854775808) :
    Calls Try.prog 14 #[vI n, vI d] w0 (Ret w0 h0 (fun h r => IsRat h r (makeQ n d))) := by
 refine calls_begin (n := 14) (e := [(0, vI n), (1, vI d)]) (vs := [vI n, vI d]) Try.func14 rfl rfl (Nat.le_of_ble_eq_true rfl) hs ⟨rfl, rfl, trivial⟩ (gc_seq (gc_region (gl_newop (new_alloc (cs := [vB ((0 : Rat).num < 0), .slice none 0 0, .slice none 0 0]) info29 rfl (by simp only [zb]; rfl)) rfl rfl rfl ?_)))
 intro v4 r4 hr4
 obtain ⟨b4, rfl, rfl⟩ := hr4
 refine gl_nil (gq_then (gc_seq (gc_region (mv rfl rfl (mv rfl rfl ?_)))))
 refine gl_call (vs := [_, _]) rfl rfl rfl rfl Try.call42 ⟨rfl, rfl, trivial⟩ (fun w hs => rref_make hs (by omega) (by omega) (by omega) (by omega)) ?_
 intro v10 h1 hh1 hr10
 obtain ⟨_, rfl, vn10, vd10, rfl, hn10, hd10⟩ := hr10
 have hlq10 := lq_make (n := n) (d := d) (by omega) (by omega) (by omega) (by omega)
 refine mv rfl rfl (gv (ov_extract (vs := [_, _]) rfl rfl) rfl (gv (ov_extract (vs := [_, _]) rfl rfl) rfl (gl_newop (new_alloc (cs := [vB ((0 : Rat).num < 0), .slice none 0 0, .slice none 0 0]) info29 rfl (by simp only [zb]; rfl)) rfl rfl rfl ?_)))
 intro v5 r5 hr5
 obtain ⟨b5, rfl, rfl⟩ := hr5
 refine gl_upd (A := []) (r' := .var b5 29 [vB ((makeQ n d).num < 0), vn10, vd10]) (upd_store_var (k := 0) (cs := [_, _, _]) (vs := [_, _, _]) rfl rfl rfl (ocr rfl (ocu hn10 (ocu hd10 oc0))) size29 (Nat.le_of_ble_eq_true rfl)) rfl rfl rfl (asg rfl rfl (gl_nil (gq_then (gc_seq (gc_region (gv (ov_load_agg (vs := [_, _, _]) (.head _) Try.underlying29 rfl size29 rfl rfl) rfl (gl_upd (A := [_]) (r' := .var b4 29 [vB ((makeQ n d).num < 0), vn10, vd10]) (upd_store_var (k := 0) (cs := [_, _, _]) (vs := [_, _, _]) rfl rfl rfl (ocr rfl (ocu hn10 (ocu hd10 oc0))) size29 (Nat.le_of_ble_eq_true rfl)) rfl rfl rfl (gl_nil (gq_keep (e' := [(4, _)]) ⟨rfl, trivial⟩ (gq_then (gc_ret (gq_res (fun E S => run_res1 rfl (rv_agg (cs := [_, _, _]) (.tail _ (.head _)) Try.underlying29 rfl size29 rfl) E S) ?_))))))))))))
 exact ⟨_, _, rfl, hn10, hd10⟩

theorem rref_same {w0 : World} {h0 : Mem}  (hs : MLe h0 (mem w0)) {qa : Rat} {vna vda : Value} (hna : Us .u32 h0 vna (limbs qa.num.natAbs)) (hda : Us .u32 h0 vda (limbs (denN qa.den))) {qb : Rat} {vnb vdb : Value} (hnb : Us .u32 h0 vnb (limbs qb.num.natAbs)) (hdb : Us .u32 h0 vdb (limbs (denN qb.den))) (hqa : lq qa ≤ 100000000000) (hqb : lq qb ≤ 100000000000)  :
    Calls Try.prog 19 #[.agg #[vB (qa.num < 0), vna, vda], .agg #[vB (qb.num < 0), vnb, vdb]] w0 (Ret w0 h0 (fun _ r => r = vB (qa = qb))) := by
 have hlna := lq_num qa
 have hlda := lq_den qa
 have hlDa := lq_denL qa
 have hlnb := lq_num qb
 have hldb := lq_den qb
 have hlDb := lq_denL qb
 refine calls_begin (n := 26) (e := [(0, .agg #[vB (qa.num < 0), vna, vda]), (1, .agg #[vB (qb.num < 0), vnb, vdb])]) (vs := [.agg #[vB (qa.num < 0), vna, vda], .agg #[vB (qb.num < 0), vnb, vdb]]) Try.func19 rfl rfl (Nat.le_of_ble_eq_true rfl) hs ⟨rfl, rfl, trivial⟩ (gc_seq (gc_region (gl_newop (new_box (cs := [_, _, _]) rfl rfl) rfl rfl rfl ?_)))
 intro v2 r2 hr2
 obtain ⟨b2, rfl, rfl⟩ := hr2
 refine gl_newop (new_box (cs := [_, _, _]) rfl rfl) rfl rfl rfl ?_
 intro v3 r3 hr3
 obtain ⟨b3, rfl, rfl⟩ := hr3
 refine asg rfl rfl (gl_nil (gq_then (gc_seq (gc_region (gv (ov_field_addr Try.underlying29 rfl Try.sizeOf4 rfl) rfl (gv (ov_load_var (.tail _ (.head _)) Try.isAgg4 rfl rfl) rfl (gv (ov_field_addr Try.underlying29 rfl Try.sizeOf4 rfl) rfl (gv (ov_load_var (.head _) Try.isAgg4 rfl rfl) rfl (gv (ov_eql_b Try.underlying4 rfl rfl) rfl ?_)))))))))
 refine gl_cut (ι := Mem) 8 (fun m_ => MLe h0 m_) (fun _ => [(17, vB (((qa.num < 0) ↔ (qb.num < 0)) ∧ ((cmpN (qa.num.natAbs) (qb.num.natAbs)) = (0 : Int)))), (2, vP b2 0), (3, vP b3 0)]) (fun _ => [.var b3 29 [vB (qb.num < 0), vnb, vdb], .var b2 29 [vB (qa.num < 0), vna, vda]]) (fun m_ => m_) ?_ ?_
 ·
  refine gl_cases ((qa.num < 0) ↔ (qb.num < 0)) (fun hg => ?_) (fun hg => ?_)
  ·
   refine gl_val (ov_move (v := .bool true) (congrArg some (vB_true hg))) rfl rfl rfl (gl_on rfl rfl rfl (gv (ov_field_addr Try.underlying29 rfl Try.sizeOf27 rfl) rfl (gl_on rfl rfl rfl (gv (ov_load_var (.tail _ (.head _)) Try.isAgg27 rfl rfl) rfl (gl_on rfl rfl rfl (gv (ov_field_addr Try.underlying29 rfl Try.sizeOf27 rfl) rfl (gl_on rfl rfl rfl (gv (ov_load_var (.head _) Try.isAgg27 rfl rfl) rfl (gl_on rfl rfl rfl ?_)))))))))
   refine gl_call (vs := [_, _]) rfl rfl rfl rfl Try.call51 ⟨rfl, rfl, trivial⟩ (fun w hs => ref_cmp hs hna hnb) ?_
   intro v15 h1 hh1 hr15
   subst hr15
   refine gl_on rfl rfl rfl (gv (ov_eql_i (q := 0) rfl rfl) rfl (gv (ov_pick_t rfl rfl) rfl (gl_nil ?_)))
   refine gq_cut h1 hh1 ⟨?_, rfl, rfl, trivial⟩ rfl rfl
   exact congrArg some (vB_and_t hg)
  ·
   refine gl_val (ov_move (v := .bool false) (congrArg some (vB_false hg))) rfl rfl rfl (gl_off rfl rfl rfl rfl rfl rfl (gl_off rfl rfl rfl rfl rfl rfl (gl_off rfl rfl rfl rfl rfl rfl (gl_off rfl rfl rfl rfl rfl rfl (gl_off rfl rfl rfl rfl rfl rfl (gl_off rfl rfl rfl rfl rfl rfl (gv (ov_pick_f rfl rfl) rfl (gl_nil ?_))))))))
   refine gq_cut h0 (MLe.refl _) ⟨?_, rfl, rfl, trivial⟩ rfl rfl
   exact congrArg some (vB_and_f hg)
 ·
  intro mg1_5 hmmg1_5
  show GL _ _ _ _ _ _ _ [(17, vB (((qa.num < 0) ↔ (qb.num < 0)) ∧ ((cmpN (qa.num.natAbs) (qb.num.natAbs)) = (0 : Int)))), (2, vP b2 0), (3, vP b3 0)] [.var b3 29 [vB (qb.num < 0), vnb, vdb], .var b2 29 [vB (qa.num < 0), vna, vda]] mg1_5
  refine gl_cut (ι := Mem) 8 (fun m_ => MLe mg1_5 m_) (fun _ => [(25, vB ((((qa.num < 0) ↔ (qb.num < 0)) ∧ ((cmpN (qa.num.natAbs) (qb.num.natAbs)) = (0 : Int))) ∧ ((cmpN ((denN qa.den)) ((denN qb.den))) = (0 : Int))))]) (fun _ => [.var b3 29 [vB (qb.num < 0), vnb, vdb], .var b2 29 [vB (qa.num < 0), vna, vda]]) (fun m_ => m_) ?_ ?_
  ·
   refine gl_cases (((qa.num < 0) ↔ (qb.num < 0)) ∧ ((cmpN (qa.num.natAbs) (qb.num.natAbs)) = (0 : Int))) (fun hg => ?_) (fun hg => ?_)
   ·
    refine gl_val (ov_move (v := .bool true) (congrArg some (vB_true hg))) rfl rfl rfl (gl_on rfl rfl rfl (gv (ov_field_addr Try.underlying29 rfl Try.sizeOf27 rfl) rfl (gl_on rfl rfl rfl (gv (ov_load_var (.tail _ (.head _)) Try.isAgg27 rfl rfl) rfl (gl_on rfl rfl rfl (gv (ov_field_addr Try.underlying29 rfl Try.sizeOf27 rfl) rfl (gl_on rfl rfl rfl (gv (ov_load_var (.head _) Try.isAgg27 rfl rfl) rfl (gl_on rfl rfl rfl ?_)))))))))
    replace hda := hda.mono hmmg1_5
    replace hdb := hdb.mono hmmg1_5
    refine gl_call (vs := [_, _]) rfl rfl rfl rfl Try.call51 ⟨rfl, rfl, trivial⟩ (fun w hs => ref_cmp hs hda hdb) ?_
    intro v23 h1 hh1 hr23
    subst hr23
    refine gl_on rfl rfl rfl (gv (ov_eql_i (q := 0) rfl rfl) rfl (gv (ov_pick_t rfl rfl) rfl (gl_nil ?_)))
    refine gq_cut h1 hh1 ⟨?_, trivial⟩ rfl rfl
    exact congrArg some (vB_and_t hg)
   ·
    refine gl_val (ov_move (v := .bool false) (congrArg some (vB_false hg))) rfl rfl rfl (gl_off rfl rfl rfl rfl rfl rfl (gl_off rfl rfl rfl rfl rfl rfl (gl_off rfl rfl rfl rfl rfl rfl (gl_off rfl rfl rfl rfl rfl rfl (gl_off rfl rfl rfl rfl rfl rfl (gl_off rfl rfl rfl rfl rfl rfl (gv (ov_pick_f rfl rfl) rfl (gl_nil ?_))))))))
    refine gq_cut mg1_5 (MLe.refl _) ⟨?_, trivial⟩ rfl rfl
    exact congrArg some (vB_and_f hg)
  ·
   intro mg1_13 hmmg1_13
   show GL _ _ _ _ _ _ _ [(25, vB ((((qa.num < 0) ↔ (qb.num < 0)) ∧ ((cmpN (qa.num.natAbs) (qb.num.natAbs)) = (0 : Int))) ∧ ((cmpN ((denN qa.den)) ((denN qb.den))) = (0 : Int))))] [.var b3 29 [vB (qb.num < 0), vnb, vdb], .var b2 29 [vB (qa.num < 0), vna, vda]] mg1_13
   refine asg rfl rfl (gl_nil (gq_then (gc_ret (gq_body1 rfl rfl ?_))))
   exact vB_iff cmp_same

theorem rref_sign {w0 : World} {h0 : Mem}  (hs : MLe h0 (mem w0)) {qa : Rat} {vna vda : Value} (hna : Us .u32 h0 vna (limbs qa.num.natAbs)) (hda : Us .u32 h0 vda (limbs (denN qa.den))) (hqa : lq qa ≤ 100000000000)  :
    Calls Try.prog 34 #[.agg #[vB (qa.num < 0), vna, vda]] w0 (Ret w0 h0 (fun _ r => r = vI (sgnQ qa))) := by
 have hlna := lq_num qa
 have hlda := lq_den qa
 have hlDa := lq_denL qa
 refine calls_begin (n := 9) (e := [(0, .agg #[vB (qa.num < 0), vna, vda])]) (vs := [.agg #[vB (qa.num < 0), vna, vda]]) Try.func34 rfl rfl (Nat.le_of_ble_eq_true rfl) hs ⟨rfl, trivial⟩ (gc_seq (gc_region (gl_newop (new_box (cs := [_, _, _]) rfl rfl) rfl rfl rfl ?_)))
 intro v1 r1 hr1
 obtain ⟨b1, rfl, rfl⟩ := hr1
 refine asg (v := vI (0)) rfl rfl (gl_nil (gq_then (gc_seq (gc_seq (gc_region (gv (ov_field_addr Try.underlying29 rfl Try.sizeOf27 rfl) rfl (gv (ov_load_var (.head _) Try.isAgg27 rfl rfl) rfl (gv (ov_len_us Try.underlying27 rfl hna) rfl (gv (ov_eql_i (q := 0) rfl rfl) rfl (gl_nil (gq_then ?_)))))))))))
 refine gc_cond rfl (fun hc6 => ?_) (fun hc6 => ?_)
 ·
  refine gc_seq (gc_region (asg (v := vI (0)) rfl rfl (gl_nil (gq_then (gc_ret (gr_then (gq_body1 rfl rfl ?_)))))))
  rw [sgnQ_zero (num_zero hc6)]
 ·
  refine gc_skip (gq_then (gc_seq (gc_seq (gc_region (gv (ov_field_addr Try.underlying29 rfl Try.sizeOf4 rfl) rfl (gv (ov_load_var (.head _) Try.isAgg4 rfl rfl) rfl (gl_nil (gq_then ?_))))))))
  refine gc_cond rfl (fun hc8 => ?_) (fun hc8 => ?_)
  ·
   refine gc_seq (gc_region (asg (v := vI (-1)) rfl rfl (gl_nil (gq_then (gc_ret (gr_then (gq_body1 rfl rfl ?_)))))))
   rw [sgnQ_neg hc8]
  ·
   refine gc_skip (gq_then (gc_seq (gc_region (asg (v := vI (1)) rfl rfl (gl_nil (gq_then (gc_ret (gq_body1 rfl rfl ?_))))))))
   rw [sgnQ_pos (num_pos_of hc6) hc8]

theorem rref_neg {w0 : World} {h0 : Mem}  (hs : MLe h0 (mem w0)) {qa : Rat} {vna vda : Value} (hna : Us .u32 h0 vna (limbs qa.num.natAbs)) (hda : Us .u32 h0 vda (limbs (denN qa.den))) (hqa : lq qa ≤ 100000000000)  :
    Calls Try.prog 23 #[.agg #[vB (qa.num < 0), vna, vda]] w0 (Ret w0 h0 (fun h r => IsRat h r (-qa))) := by
 have hlna := lq_num qa
 have hlda := lq_den qa
 have hlDa := lq_denL qa
 refine calls_begin (n := 14) (e := [(0, .agg #[vB (qa.num < 0), vna, vda])]) (vs := [.agg #[vB (qa.num < 0), vna, vda]]) Try.func23 rfl rfl (Nat.le_of_ble_eq_true rfl) hs ⟨rfl, trivial⟩ (gc_seq (gc_region (gl_newop (new_box (cs := [_, _, _]) rfl rfl) rfl rfl rfl ?_)))
 intro v1 r1 hr1
 obtain ⟨b1, rfl, rfl⟩ := hr1
 refine gl_newop (new_alloc (cs := [vB ((0 : Rat).num < 0), .slice none 0 0, .slice none 0 0]) info29 rfl (by simp only [zb]; rfl)) rfl rfl rfl ?_
 intro v2 r2 hr2
 obtain ⟨b2, rfl, rfl⟩ := hr2
 refine gl_nil (gq_then (gc_seq (gc_region (gv (ov_field_addr Try.underlying29 rfl Try.sizeOf4 rfl) rfl (gv (ov_load_var (.tail _ (.head _)) Try.isAgg4 rfl rfl) rfl (gv (ov_not rfl) rfl ?_))))))
 refine gl_cut (ι := Unit) 6 (fun _ => True) (fun _ => [(11, vB ((¬ (qa.num < 0)) ∧ ((0 : Int) < (↑(limbs qa.num.natAbs).length : Int)))), (1, vP b1 0), (2, vP b2 0)]) (fun _ => [.var b2 29 [vB ((0 : Rat).num < 0), .slice none 0 0, .slice none 0 0], .var b1 29 [vB (qa.num < 0), vna, vda]]) (fun _ => h0) ?_ ?_
 ·
  refine gl_cases (¬ (qa.num < 0)) (fun hg => ?_) (fun hg => ?_)
  ·
   refine gl_val (ov_move (v := .bool true) (congrArg some (vB_true hg))) rfl rfl rfl (gl_on rfl rfl rfl (gv (ov_field_addr Try.underlying29 rfl Try.sizeOf27 rfl) rfl (gl_on rfl rfl rfl (gv (ov_load_var (.tail _ (.head _)) Try.isAgg27 rfl rfl) rfl (gl_on rfl rfl rfl (gv (ov_len_us Try.underlying27 rfl hna) rfl (gl_on rfl rfl rfl (gv (ov_gtr_i (q := 0) rfl rfl) rfl (gv (ov_pick_t rfl rfl) rfl (gl_nil ?_))))))))))
   refine gq_cut () trivial ⟨?_, rfl, rfl, trivial⟩ rfl rfl
   exact congrArg some (vB_and_t hg)
  ·
   refine gl_val (ov_move (v := .bool false) (congrArg some (vB_false hg))) rfl rfl rfl (gl_off rfl rfl rfl rfl rfl rfl (gl_off rfl rfl rfl rfl rfl rfl (gl_off rfl rfl rfl rfl rfl rfl (gl_off rfl rfl rfl rfl rfl rfl (gv (ov_pick_f rfl rfl) rfl (gl_nil ?_))))))
   refine gq_cut () trivial ⟨?_, rfl, rfl, trivial⟩ rfl rfl
   exact congrArg some (vB_and_f hg)
 ·
  intro _ _
  show GL _ _ _ _ _ _ _ [(11, vB ((¬ (qa.num < 0)) ∧ ((0 : Int) < (↑(limbs qa.num.natAbs).length : Int)))), (1, vP b1 0), (2, vP b2 0)] [.var b2 29 [vB ((0 : Rat).num < 0), .slice none 0 0, .slice none 0 0], .var b1 29 [vB (qa.num < 0), vna, vda]] h0
  refine gv (ov_field_addr Try.underlying29 rfl Try.sizeOf4 rfl) rfl (gl_upd (A := [_]) (r' := .var b1 29 [vB ((¬ (qa.num < 0)) ∧ ((0 : Int) < (↑(limbs qa.num.natAbs).length : Int))), vna, vda]) (upd_store_var (k := 0) (cs := [_, _, _]) (vs := [_]) rfl rfl rfl rfl size4 (Nat.le_of_ble_eq_true rfl)) rfl rfl rfl (gl_nil (gq_then (gc_seq (gc_region (gv (ov_load_agg (vs := [_, _, _]) (.tail _ (.head _)) Try.underlying29 rfl size29 rfl rfl) rfl (gl_upd (A := []) (r' := .var b2 29 [vB ((¬ (qa.num < 0)) ∧ ((0 : Int) < (↑(limbs qa.num.natAbs).length : Int))), vna, vda]) (upd_store_var (k := 0) (cs := [_, _, _]) (vs := [_, _, _]) rfl rfl rfl (ocr rfl (ocu hna (ocu hda oc0))) size29 (Nat.le_of_ble_eq_true rfl)) rfl rfl rfl (gl_nil (gq_then (gc_ret (gq_res (fun E S => run_res1 rfl (rv_agg (cs := [_, _, _]) (.head _) Try.underlying29 rfl size29 rfl) E S) ?_)))))))))))
  exact IsRat.negB hna hda

theorem rref_add {w0 : World} {h0 : Mem}  (hs : MLe h0 (mem w0)) {qa : Rat} {vna vda : Value} (hna : Us .u32 h0 vna (limbs qa.num.natAbs)) (hda : Us .u32 h0 vda (limbs (denN qa.den))) {qb : Rat} {vnb vdb : Value} (hnb : Us .u32 h0 vnb (limbs qb.num.natAbs)) (hdb : Us .u32 h0 vdb (limbs (denN qb.den))) (hqa : lq qa ≤ 100000000000) (hqb : lq qb ≤ 100000000000)  :
    Calls Try.prog 40 #[.agg #[vB (qa.num < 0), vna, vda], .agg #[vB (qb.num < 0), vnb, vdb]] w0 (Ret w0 h0 (fun h r => IsRat h r (qa + qb))) := by
 have hlna := lq_num qa
 have hlda := lq_den qa
 have hlDa := lq_denL qa
 have hlnb := lq_num qb
 have hldb := lq_den qb
 have hlDb := lq_denL qb
 refine calls_begin (n := 75) (e := [(0, .agg #[vB (qa.num < 0), vna, vda]), (1, .agg #[vB (qb.num < 0), vnb, vdb])]) (vs := [.agg #[vB (qa.num < 0), vna, vda], .agg #[vB (qb.num < 0), vnb, vdb]]) Try.func40 rfl rfl (Nat.le_of_ble_eq_true rfl) hs ⟨rfl, rfl, trivial⟩ (gc_seq (gc_region (gl_newop (new_box (cs := [_, _, _]) rfl rfl) rfl rfl rfl ?_)))
 intro v2 r2 hr2
 obtain ⟨b2, rfl, rfl⟩ := hr2
 refine gl_newop (new_box (cs := [_, _, _]) rfl rfl) rfl rfl rfl ?_
 intro v3 r3 hr3
 obtain ⟨b3, rfl, rfl⟩ := hr3
 refine gl_newop (new_alloc (cs := [vB ((0 : Rat).num < 0), .slice none 0 0, .slice none 0 0]) info29 rfl (by simp only [zb]; rfl)) rfl rfl rfl ?_
 intro v4 r4 hr4
 obtain ⟨b4, rfl, rfl⟩ := hr4
 refine gl_nil (gq_then (gc_seq (gc_seq (gc_region (gv (ov_field_addr Try.underlying29 rfl Try.sizeOf27 rfl) rfl (gv (ov_load_var (.tail _ (.tail _ (.head _))) Try.isAgg27 rfl rfl) rfl (gv (ov_len_us Try.underlying27 rfl hna) rfl (gv (ov_eql_i (q := 0) rfl rfl) rfl (gl_nil (gq_then ?_))))))))))
 refine gc_cond rfl (fun hc15 => ?_) (fun hc15 => ?_)
 ·
  refine gc_seq (gc_region (gv (ov_load_agg (vs := [_, _, _]) (.tail _ (.head _)) Try.underlying29 rfl size29 rfl rfl) rfl (gl_upd (A := []) (r' := .var b4 29 [vB (qb.num < 0), vnb, vdb]) (upd_store_var (k := 0) (cs := [_, _, _]) (vs := [_, _, _]) rfl rfl rfl (ocr rfl (ocu hnb (ocu hdb oc0))) size29 (Nat.le_of_ble_eq_true rfl)) rfl rfl rfl (gl_nil (gq_then (gc_ret (gr_then (gq_res (fun E S => run_res1 rfl (rv_agg (cs := [_, _, _]) (.head _) Try.underlying29 rfl size29 rfl) E S) ?_))))))))
  rw [num_zero hc15, Rat.zero_add]
  exact ⟨_, _, rfl, hnb, hdb⟩
 ·
  refine gc_skip (gq_then (gc_seq (gc_seq (gc_region (gv (ov_field_addr Try.underlying29 rfl Try.sizeOf27 rfl) rfl (gv (ov_load_var (.tail _ (.head _)) Try.isAgg27 rfl rfl) rfl (gv (ov_len_us Try.underlying27 rfl hnb) rfl (gv (ov_eql_i (q := 0) rfl rfl) rfl (gl_nil (gq_then ?_))))))))))
  refine gc_cond rfl (fun hc20 => ?_) (fun hc20 => ?_)
  ·
   refine gc_keep (e' := [(2, _), (4, _)]) ⟨rfl, rfl, trivial⟩ (gc_seq (gc_region (gv (ov_load_agg (vs := [_, _, _]) (.tail _ (.tail _ (.head _))) Try.underlying29 rfl size29 rfl rfl) rfl (gl_upd (A := []) (r' := .var b4 29 [vB (qa.num < 0), vna, vda]) (upd_store_var (k := 0) (cs := [_, _, _]) (vs := [_, _, _]) rfl rfl rfl (ocr rfl (ocu hna (ocu hda oc0))) size29 (Nat.le_of_ble_eq_true rfl)) rfl rfl rfl (gl_nil (gq_then (gc_ret (gr_then (gq_res (fun E S => run_res1 rfl (rv_agg (cs := [_, _, _]) (.head _) Try.underlying29 rfl size29 rfl) E S) ?_)))))))))
   rw [num_zero hc20, Rat.add_zero]
   exact ⟨_, _, rfl, hna, hda⟩
  ·
   refine gc_keep (e' := [(2, _), (3, _), (4, _)]) ⟨rfl, rfl, rfl, trivial⟩ (gc_skip (gq_then (gc_seq ?_)))
   refine gc_draw 12 _ [] [(0, .q), (1, .q), (2, .q), (5, .q), (6, .q), (7, .q), (3, .c), (4, .c), (8, .c), (9, .c), (10, .q), (11, .q)] mixed (fun x hx => by cases hx) (by kernel_rfl) (fun x hx => by cases hx) (fun r hr => hr) (w_q rfl (fun h' L' hh hR => ov_field_addr Try.underlying29 rfl Try.sizeOf27 rfl) rfl (w_q rfl (fun h' L' hh hR => ov_load_var (hR _ (.tail _ (.tail _ (.head _)))) Try.isAgg27 rfl rfl) rfl (w_q rfl (fun h' L' hh hR => ov_load_agg (vs := [_, _, _]) (hR _ (.tail _ (.head _))) Try.underlying29 rfl size29 rfl rfl) rfl (w_q rfl (fun h' L' hh hR => ov_field_addr Try.underlying29 rfl Try.sizeOf27 rfl) rfl (w_q rfl (fun h' L' hh hR => ov_load_var (hR _ (.tail _ (.head _))) Try.isAgg27 rfl rfl) rfl (w_q rfl (fun h' L' hh hR => ov_load_agg (vs := [_, _, _]) (hR _ (.tail _ (.tail _ (.head _)))) Try.underlying29 rfl size29 rfl rfl) rfl ?_))))))
   refine w_c rfl ?_
   refine s_call (vs := [_]) Try.call66 ⟨rfl, trivial⟩ (fun w hs => rref_den hs rfl hnb hdb) rfl ?_
   intro v25 h1 hh1 hr25
   rw [denL_den] at hr25
   refine w_c rfl ?_
   replace hna := hna.mono hh1
   refine s_call (vs := [_, _]) Try.call65 ⟨rfl, rfl, trivial⟩ (fun w hs => ref_mul hs hna hr25 (by omega) (by omega)) rfl ?_
   intro v26 h2 hh2 hr26
   try simp only [val_limbs] at hr26
   have hlm26 := limbs_len_mul ((qa.num.natAbs)) ((qb.den))
   refine w_c rfl ?_
   replace hna := hna.mono hh2
   replace hda := hda.mono (hh1.trans hh2)
   refine s_call (vs := [_]) Try.call66 ⟨rfl, trivial⟩ (fun w hs => rref_den hs rfl hna hda) rfl ?_
   intro v30 h3 hh3 hr30
   rw [denL_den] at hr30
   refine w_c rfl ?_
   replace hnb := hnb.mono ((hh1.trans hh2).trans hh3)
   refine s_call (vs := [_, _]) Try.call65 ⟨rfl, rfl, trivial⟩ (fun w hs => ref_mul hs hnb hr30 (by omega) (by omega)) rfl ?_
   intro v31 h4 hh4 hr31
   try simp only [val_limbs] at hr31
   have hlm31 := limbs_len_mul ((qb.num.natAbs)) ((qa.den))
   refine w_q rfl (fun h' L' hh hR => ov_assign rfl) rfl (w_q rfl (fun h' L' hh hR => ov_assign rfl) rfl (w_nil (gq_keep (e' := [(2, _), (3, _), (4, _), (5, _), (6, _)]) ⟨rfl, rfl, rfl, rfl, rfl, trivial⟩ (gq_then (gc_seq ?_)))))
   refine gc_draw 6 _ [] [(0, .q), (2, .q), (1, .c), (3, .c), (4, .c), (5, .q)] mixed (fun x hx => by cases hx) (by kernel_rfl) (fun x hx => by cases hx) (fun r hr => hr) (w_q rfl (fun h' L' hh hR => ov_load_agg (vs := [_, _, _]) (hR _ (.tail _ (.tail _ (.head _)))) Try.underlying29 rfl size29 rfl rfl) rfl (w_q rfl (fun h' L' hh hR => ov_load_agg (vs := [_, _, _]) (hR _ (.tail _ (.head _))) Try.underlying29 rfl size29 rfl rfl) rfl ?_))
   refine w_c rfl ?_
   replace hna := hna.mono (hh3.trans hh4)
   replace hda := hda.mono (hh3.trans hh4)
   refine s_call (vs := [_]) Try.call66 ⟨rfl, trivial⟩ (fun w hs => rref_den hs rfl hna hda) rfl ?_
   intro v33 h5 hh5 hr33
   rw [denL_den] at hr33
   refine w_c rfl ?_
   replace hnb := hnb.mono (hh4.trans hh5)
   replace hdb := hdb.mono ((((hh1.trans hh2).trans hh3).trans hh4).trans hh5)
   refine s_call (vs := [_]) Try.call66 ⟨rfl, trivial⟩ (fun w hs => rref_den hs rfl hnb hdb) rfl ?_
   intro v35 h6 hh6 hr35
   rw [denL_den] at hr35
   refine w_c rfl ?_
   replace hr33 := hr33.mono hh6
   refine s_call (vs := [_, _]) Try.call65 ⟨rfl, rfl, trivial⟩ (fun w hs => ref_mul hs hr33 hr35 (by omega) (by omega)) rfl ?_
   intro v36 h7 hh7 hr36
   try simp only [val_limbs] at hr36
   have hlm36 := limbs_len_mul ((qa.den)) ((qb.den))
   refine w_q rfl (fun h' L' hh hR => ov_assign rfl) rfl (w_nil (gq_then (gc_seq (gc_seq (gc_region (gv (ov_field_addr Try.underlying29 rfl Try.sizeOf4 rfl) rfl (gv (ov_load_var (.tail _ (.tail _ (.head _))) Try.isAgg4 rfl rfl) rfl (gv (ov_field_addr Try.underlying29 rfl Try.sizeOf4 rfl) rfl (gv (ov_load_var (.tail _ (.head _)) Try.isAgg4 rfl rfl) rfl (gv (ov_eql_b Try.underlying4 rfl rfl) rfl (gl_nil (gq_then ?_))))))))))))
   refine gc_cond rfl (fun hc41 => ?_) (fun hc41 => ?_)
   ·
    refine gc_keep (e' := [(2, _), (4, _), (5, _), (6, _), (7, _)]) ⟨rfl, rfl, rfl, rfl, rfl, trivial⟩ (gc_seq ?_)
    refine gc_draw 7 _ [] [(0, .q), (1, .q), (2, .q), (3, .q), (5, .q), (4, .c), (6, .c), (7, .t)] mixed (fun x hx => by cases hx) (by kernel_rfl) (fun x hx => by cases hx) (fun r hr => hr) (w_q rfl (fun h' L' hh hR => ov_field_addr Try.underlying29 rfl Try.sizeOf4 rfl) rfl (w_q rfl (fun h' L' hh hR => ov_load_var (hR _ (.tail _ (.tail _ (.head _)))) Try.isAgg4 rfl rfl) rfl (w_q rfl (fun h' L' hh hR => ov_move rfl) rfl (w_q rfl (fun h' L' hh hR => ov_move rfl) rfl (w_q rfl (fun h' L' hh hR => ov_move rfl) rfl ?_)))))
    refine w_c rfl ?_
    replace hr26 := hr26.mono ((((hh3.trans hh4).trans hh5).trans hh6).trans hh7)
    replace hr31 := hr31.mono ((hh5.trans hh6).trans hh7)
    refine s_call (vs := [_, _]) Try.call68 ⟨rfl, rfl, trivial⟩ (fun w hs => ref_add hs hr26 hr31 (by omega) (by omega)) rfl ?_
    intro v46 h8 hh8 hr46
    have hlm46 := limbs_len_add ((((qa.num.natAbs)) * ((qb.den)))) ((((qb.num.natAbs)) * ((qa.den))))
    refine w_c rfl ?_
    replace hr36 := hr36.mono hh8
    refine s_call (vs := [_, _, _]) Try.call67 ⟨rfl, rfl, rfl, trivial⟩ (fun w hs => rref_reduce hs hr46 hr36 (by omega) (by omega) (by first | (simp only [val_limbs]; omega) | (simp only [val_limbs]; first | exact Rat.den_nz _ | exact Nat.mul_ne_zero (Rat.den_nz _) (Rat.den_nz _) | exact Nat.one_ne_zero | assumption) | assumption)) rfl ?_
    intro v48 h9 hh9 hr48
    try simp only [val_limbs] at hr48
    obtain ⟨vn48, vd48, rfl, hn48, hd48⟩ := hr48
    refine w_t_upd (A := []) (q' := .var b4 29 [vB ((mkRat (sg (qa.num < 0) (((((((qa.num.natAbs)) * ((qb.den)))) + ((((qb.num.natAbs)) * ((qa.den)))))))) (((((qa.den)) * ((qb.den)))))).num < 0), vn48, vd48]) rfl (upd_store_var (k := 0) (cs := [_, _, _]) (vs := [_, _, _]) rfl rfl rfl (ocr rfl (ocu hn48 (ocu hd48 oc0))) size29 (Nat.le_of_ble_eq_true rfl)) rfl (w_nil (gq_keep (e' := [(4, _)]) ⟨rfl, trivial⟩ (gq_then (gc_ret (gr_then (gq_res (fun E S => run_res1 rfl (rv_agg (cs := [_, _, _]) (.head _) Try.underlying29 rfl size29 rfl) E S) ?_))))))
    rw [add_same hc41] at hn48 hd48 ⊢
    exact ⟨_, _, rfl, hn48, hd48⟩
   ·
    refine gc_keep (e' := [(2, _), (3, _), (4, _), (5, _), (6, _), (7, _)]) ⟨rfl, rfl, rfl, rfl, rfl, rfl, trivial⟩ (gc_skip (gq_then (gc_seq (gc_seq (gc_region (mv rfl rfl (mv rfl rfl ?_)))))))
    replace hr26 := hr26.mono ((((hh3.trans hh4).trans hh5).trans hh6).trans hh7)
    replace hr31 := hr31.mono ((hh5.trans hh6).trans hh7)
    refine gl_call (vs := [_, _]) rfl rfl rfl rfl Try.call51 ⟨rfl, rfl, trivial⟩ (fun w hs => ref_cmp hs hr26 hr31) ?_
    intro v51 h8 hh8 hr51
    subst hr51
    refine gv (ov_lss_i (q := 0) rfl rfl) rfl (gl_nil (gq_then ?_))
    refine gc_cond rfl (fun hc52 => ?_) (fun hc52 => ?_)
    ·
     refine gc_seq (gc_region (mv rfl rfl (mv rfl rfl ?_)))
     replace hr26 := hr26.mono hh8
     replace hr31 := hr31.mono hh8
     refine gl_call (vs := [_, _]) rfl rfl rfl rfl Try.call69 ⟨rfl, rfl, trivial⟩ (fun w hs => ref_sub hs hr31 hr26 (by omega)) ?_
     intro v56 h9 hh9 hr56
     obtain ⟨u56, rfl, hu56⟩ := hr56
     have hlm56 := limbs_len_mono (Nat.sub_le ((((qb.num.natAbs)) * ((qa.den)))) ((((qa.num.natAbs)) * ((qb.den)))))
     refine mv rfl rfl (gv (ov_extract (vs := [_, _]) rfl rfl) rfl (gv (ov_extract (vs := [_, _]) rfl rfl) rfl (asg rfl rfl (asg rfl rfl (gl_nil (gq_keep (e' := [(3, _), (4, _), (7, _), (8, _)]) ⟨rfl, rfl, rfl, rfl, trivial⟩ (gq_then (gc_seq (gc_region (gv (ov_field_addr Try.underlying29 rfl Try.sizeOf4 rfl) rfl (gv (ov_load_var (.tail _ (.head _)) Try.isAgg4 rfl rfl) rfl (mv rfl rfl (mv rfl rfl ?_)))))))))))))
     replace hr36 := hr36.mono (hh8.trans hh9)
     refine gl_call (vs := [_, _, _]) rfl rfl rfl rfl Try.call67 ⟨rfl, rfl, rfl, trivial⟩ (fun w hs => rref_reduce hs hu56 hr36 (by omega) (by omega) (by first | (simp only [val_limbs]; omega) | (simp only [val_limbs]; first | exact Rat.den_nz _ | exact Nat.mul_ne_zero (Rat.den_nz _) (Rat.den_nz _) | exact Nat.one_ne_zero | assumption) | assumption)) ?_
     intro v63 h10 hh10 hr63
     try simp only [val_limbs] at hr63
     obtain ⟨vn63, vd63, rfl, hn63, hd63⟩ := hr63
     refine gl_upd (A := []) (r' := .var b4 29 [vB ((mkRat (sg (qb.num < 0) (((((((qb.num.natAbs)) * ((qa.den)))) - ((((qa.num.natAbs)) * ((qb.den)))))))) (((((qa.den)) * ((qb.den)))))).num < 0), vn63, vd63]) (upd_store_var (k := 0) (cs := [_, _, _]) (vs := [_, _, _]) rfl rfl rfl (ocr rfl (ocu hn63 (ocu hd63 oc0))) size29 (Nat.le_of_ble_eq_true rfl)) rfl rfl rfl (gl_nil (gq_then (gc_ret (gr_then (gq_res (fun E S => run_res1 rfl (rv_agg (cs := [_, _, _]) (.head _) Try.underlying29 rfl size29 rfl) E S) ?_)))))
     rw [add_lt hc41 (by have := cmpN_neg.1 hc52; omega)] at hn63 hd63 ⊢
     exact ⟨_, _, rfl, hn63, hd63⟩
    ·
     refine gc_skip (gq_then (gc_seq (gc_region (mv rfl rfl (mv rfl rfl ?_)))))
     replace hr26 := hr26.mono hh8
     replace hr31 := hr31.mono hh8
     refine gl_call (vs := [_, _]) rfl rfl rfl rfl Try.call69 ⟨rfl, rfl, trivial⟩ (fun w hs => ref_sub hs hr26 hr31 (by omega)) ?_
     intro v67 h9 hh9 hr67
     obtain ⟨u67, rfl, hu67⟩ := hr67
     have hlm67 := limbs_len_mono (Nat.sub_le ((((qa.num.natAbs)) * ((qb.den)))) ((((qb.num.natAbs)) * ((qa.den)))))
     refine mv rfl rfl (gv (ov_extract (vs := [_, _]) rfl rfl) rfl (gv (ov_extract (vs := [_, _]) rfl rfl) rfl (asg rfl rfl (asg rfl rfl (gl_nil (gq_keep (e' := [(2, _), (4, _), (7, _), (10, _)]) ⟨rfl, rfl, rfl, rfl, trivial⟩ (gq_then (gc_seq (gc_region (gv (ov_field_addr Try.underlying29 rfl Try.sizeOf4 rfl) rfl (gv (ov_load_var (.tail _ (.tail _ (.head _))) Try.isAgg4 rfl rfl) rfl (mv rfl rfl (mv rfl rfl ?_)))))))))))))
     replace hr36 := hr36.mono (hh8.trans hh9)
     refine gl_call (vs := [_, _, _]) rfl rfl rfl rfl Try.call67 ⟨rfl, rfl, rfl, trivial⟩ (fun w hs => rref_reduce hs hu67 hr36 (by omega) (by omega) (by first | (simp only [val_limbs]; omega) | (simp only [val_limbs]; first | exact Rat.den_nz _ | exact Nat.mul_ne_zero (Rat.den_nz _) (Rat.den_nz _) | exact Nat.one_ne_zero | assumption) | assumption)) ?_
     intro v74 h10 hh10 hr74
     try simp only [val_limbs] at hr74
     obtain ⟨vn74, vd74, rfl, hn74, hd74⟩ := hr74
     refine gl_upd (A := []) (r' := .var b4 29 [vB ((mkRat (sg (qa.num < 0) (((((((qa.num.natAbs)) * ((qb.den)))) - ((((qb.num.natAbs)) * ((qa.den)))))))) (((((qa.den)) * ((qb.den)))))).num < 0), vn74, vd74]) (upd_store_var (k := 0) (cs := [_, _, _]) (vs := [_, _, _]) rfl rfl rfl (ocr rfl (ocu hn74 (ocu hd74 oc0))) size29 (Nat.le_of_ble_eq_true rfl)) rfl rfl rfl (gl_nil (gq_then (gc_ret (gq_res (fun E S => run_res1 rfl (rv_agg (cs := [_, _, _]) (.head _) Try.underlying29 rfl size29 rfl) E S) ?_))))
     rw [add_ge hc41 (Nat.le_of_not_lt (fun h => hc52 (cmpN_neg.2 h)))] at hn74 hd74 ⊢
     exact ⟨_, _, rfl, hn74, hd74⟩

theorem rref_sub {w0 : World} {h0 : Mem}  (hs : MLe h0 (mem w0)) {qa : Rat} {vna vda : Value} (hna : Us .u32 h0 vna (limbs qa.num.natAbs)) (hda : Us .u32 h0 vda (limbs (denN qa.den))) {qb : Rat} {vnb vdb : Value} (hnb : Us .u32 h0 vnb (limbs qb.num.natAbs)) (hdb : Us .u32 h0 vdb (limbs (denN qb.den))) (hqa : lq qa ≤ 100000000000) (hqb : lq qb ≤ 100000000000)  :
    Calls Try.prog 43 #[.agg #[vB (qa.num < 0), vna, vda], .agg #[vB (qb.num < 0), vnb, vdb]] w0 (Ret w0 h0 (fun h r => IsRat h r (qa - qb))) := by
 have hlna := lq_num qa
 have hlda := lq_den qa
 have hlDa := lq_denL qa
 have hlnb := lq_num qb
 have hldb := lq_den qb
 have hlDb := lq_denL qb
 refine calls_begin (n := 9) (e := [(0, .agg #[vB (qa.num < 0), vna, vda]), (1, .agg #[vB (qb.num < 0), vnb, vdb])]) (vs := [.agg #[vB (qa.num < 0), vna, vda], .agg #[vB (qb.num < 0), vnb, vdb]]) Try.func43 rfl rfl (Nat.le_of_ble_eq_true rfl) hs ⟨rfl, rfl, trivial⟩ (gc_seq (gc_region (gl_newop (new_box (cs := [_, _, _]) rfl rfl) rfl rfl rfl ?_)))
 intro v2 r2 hr2
 obtain ⟨b2, rfl, rfl⟩ := hr2
 refine gl_newop (new_box (cs := [_, _, _]) rfl rfl) rfl rfl rfl ?_
 intro v3 r3 hr3
 obtain ⟨b3, rfl, rfl⟩ := hr3
 refine gl_newop (new_alloc (cs := [vB ((0 : Rat).num < 0), .slice none 0 0, .slice none 0 0]) info29 rfl (by simp only [zb]; rfl)) rfl rfl rfl ?_
 intro v4 r4 hr4
 obtain ⟨b4, rfl, rfl⟩ := hr4
 refine gl_nil (gq_then (gc_seq ?_))
 refine gc_draw 4 _ [] [(0, .q), (1, .q), (2, .c), (3, .c), (4, .t)] mixed (fun x hx => by cases hx) (by kernel_rfl) (fun x hx => by cases hx) (fun r hr => hr) (w_q rfl (fun h' L' hh hR => ov_load_agg (vs := [_, _, _]) (hR _ (.tail _ (.tail _ (.head _)))) Try.underlying29 rfl size29 rfl rfl) rfl (w_q rfl (fun h' L' hh hR => ov_load_agg (vs := [_, _, _]) (hR _ (.tail _ (.head _))) Try.underlying29 rfl size29 rfl rfl) rfl ?_))
 refine w_c rfl ?_
 refine s_call (vs := [_]) Try.call23 ⟨rfl, trivial⟩ (fun w hs => rref_neg hs hnb hdb (by omega)) rfl ?_
 intro v7 h1 hh1 hr7
 obtain ⟨vn7, vd7, rfl, hn7, hd7⟩ := hr7
 have hlq7 := lq_neg qb
 refine w_c rfl ?_
 replace hna := hna.mono hh1
 replace hda := hda.mono hh1
 refine s_call (vs := [_, _]) Try.call40 ⟨rfl, rfl, trivial⟩ (fun w hs => rref_add hs hna hda hn7 hd7 (by omega) (by omega)) rfl ?_
 intro v8 h2 hh2 hr8
 obtain ⟨vn8, vd8, rfl, hn8, hd8⟩ := hr8
 have hlq8 := lq_add qa (-qb)
 refine w_t_upd (A := []) (q' := .var b4 29 [vB ((qa + (-qb)).num < 0), vn8, vd8]) rfl (upd_store_var (k := 0) (cs := [_, _, _]) (vs := [_, _, _]) rfl rfl rfl (ocr rfl (ocu hn8 (ocu hd8 oc0))) size29 (Nat.le_of_ble_eq_true rfl)) rfl (w_nil (gq_then (gc_ret (gq_res (fun E S => run_res1 rfl (rv_agg (cs := [_, _, _]) (.head _) Try.underlying29 rfl size29 rfl) E S) ?_))))
 rw [← Rat.sub_eq_add_neg] at hn8 hd8 ⊢
 exact ⟨_, _, rfl, hn8, hd8⟩

theorem rref_mul {w0 : World} {h0 : Mem}  (hs : MLe h0 (mem w0)) {qa : Rat} {vna vda : Value} (hna : Us .u32 h0 vna (limbs qa.num.natAbs)) (hda : Us .u32 h0 vda (limbs (denN qa.den))) {qb : Rat} {vnb vdb : Value} (hnb : Us .u32 h0 vnb (limbs qb.num.natAbs)) (hdb : Us .u32 h0 vdb (limbs (denN qb.den))) (hqa : lq qa ≤ 100000000000) (hqb : lq qb ≤ 100000000000)  :
    Calls Try.prog 41 #[.agg #[vB (qa.num < 0), vna, vda], .agg #[vB (qb.num < 0), vnb, vdb]] w0 (Ret w0 h0 (fun h r => IsRat h r (qa * qb))) := by
 have hlna := lq_num qa
 have hlda := lq_den qa
 have hlDa := lq_denL qa
 have hlnb := lq_num qb
 have hldb := lq_den qb
 have hlDb := lq_denL qb
 refine calls_begin (n := 21) (e := [(0, .agg #[vB (qa.num < 0), vna, vda]), (1, .agg #[vB (qb.num < 0), vnb, vdb])]) (vs := [.agg #[vB (qa.num < 0), vna, vda], .agg #[vB (qb.num < 0), vnb, vdb]]) Try.func41 rfl rfl (Nat.le_of_ble_eq_true rfl) hs ⟨rfl, rfl, trivial⟩ (gc_seq (gc_region (gl_newop (new_box (cs := [_, _, _]) rfl rfl) rfl rfl rfl ?_)))
 intro v2 r2 hr2
 obtain ⟨b2, rfl, rfl⟩ := hr2
 refine gl_newop (new_box (cs := [_, _, _]) rfl rfl) rfl rfl rfl ?_
 intro v3 r3 hr3
 obtain ⟨b3, rfl, rfl⟩ := hr3
 refine gl_newop (new_alloc (cs := [vB ((0 : Rat).num < 0), .slice none 0 0, .slice none 0 0]) info29 rfl (by simp only [zb]; rfl)) rfl rfl rfl ?_
 intro v4 r4 hr4
 obtain ⟨b4, rfl, rfl⟩ := hr4
 refine gl_nil (gq_then (gc_seq ?_))
 refine gc_draw 16 _ [] [(0, .q), (1, .q), (2, .q), (3, .q), (4, .q), (5, .q), (6, .q), (7, .q), (8, .q), (10, .q), (12, .q), (9, .c), (11, .c), (13, .c), (14, .c), (15, .c), (16, .t)] mixed (fun x hx => by cases hx) (by kernel_rfl) (fun x hx => by cases hx) (fun r hr => hr) (w_q rfl (fun h' L' hh hR => ov_field_addr Try.underlying29 rfl Try.sizeOf4 rfl) rfl (w_q rfl (fun h' L' hh hR => ov_load_var (hR _ (.tail _ (.tail _ (.head _)))) Try.isAgg4 rfl rfl) rfl (w_q rfl (fun h' L' hh hR => ov_field_addr Try.underlying29 rfl Try.sizeOf4 rfl) rfl (w_q rfl (fun h' L' hh hR => ov_load_var (hR _ (.tail _ (.head _))) Try.isAgg4 rfl rfl) rfl (w_q rfl (fun h' L' hh hR => ov_neq_b Try.underlying4 rfl rfl) rfl (w_q rfl (fun h' L' hh hR => ov_field_addr Try.underlying29 rfl Try.sizeOf27 rfl) rfl (w_q rfl (fun h' L' hh hR => ov_load_var (hR _ (.tail _ (.tail _ (.head _)))) Try.isAgg27 rfl rfl) rfl (w_q rfl (fun h' L' hh hR => ov_field_addr Try.underlying29 rfl Try.sizeOf27 rfl) rfl (w_q rfl (fun h' L' hh hR => ov_load_var (hR _ (.tail _ (.head _))) Try.isAgg27 rfl rfl) rfl (w_q rfl (fun h' L' hh hR => ov_load_agg (vs := [_, _, _]) (hR _ (.tail _ (.tail _ (.head _)))) Try.underlying29 rfl size29 rfl rfl) rfl (w_q rfl (fun h' L' hh hR => ov_load_agg (vs := [_, _, _]) (hR _ (.tail _ (.head _))) Try.underlying29 rfl size29 rfl rfl) rfl ?_)))))))))))
 refine w_c rfl ?_
 refine s_call (vs := [_, _]) Try.call65 ⟨rfl, rfl, trivial⟩ (fun w hs => ref_mul hs hna hnb (by omega) (by omega)) rfl ?_
 intro v14 h1 hh1 hr14
 try simp only [val_limbs] at hr14
 have hlm14 := limbs_len_mul ((qa.num.natAbs)) ((qb.num.natAbs))
 refine w_c rfl ?_
 replace hna := hna.mono hh1
 replace hda := hda.mono hh1
 refine s_call (vs := [_]) Try.call66 ⟨rfl, trivial⟩ (fun w hs => rref_den hs rfl hna hda) rfl ?_
 intro v16 h2 hh2 hr16
 rw [denL_den] at hr16
 refine w_c rfl ?_
 replace hnb := hnb.mono (hh1.trans hh2)
 replace hdb := hdb.mono (hh1.trans hh2)
 refine s_call (vs := [_]) Try.call66 ⟨rfl, trivial⟩ (fun w hs => rref_den hs rfl hnb hdb) rfl ?_
 intro v18 h3 hh3 hr18
 rw [denL_den] at hr18
 refine w_c rfl ?_
 replace hr16 := hr16.mono hh3
 refine s_call (vs := [_, _]) Try.call65 ⟨rfl, rfl, trivial⟩ (fun w hs => ref_mul hs hr16 hr18 (by omega) (by omega)) rfl ?_
 intro v19 h4 hh4 hr19
 try simp only [val_limbs] at hr19
 have hlm19 := limbs_len_mul ((qa.den)) ((qb.den))
 refine w_c rfl ?_
 replace hr14 := hr14.mono ((hh2.trans hh3).trans hh4)
 refine s_call (vs := [_, _, _]) Try.call67 ⟨rfl, rfl, rfl, trivial⟩ (fun w hs => rref_reduce hs hr14 hr19 (by omega) (by omega) (by first | (simp only [val_limbs]; omega) | (simp only [val_limbs]; first | exact Rat.den_nz _ | exact Nat.mul_ne_zero (Rat.den_nz _) (Rat.den_nz _) | exact Nat.one_ne_zero | assumption) | assumption)) rfl ?_
 intro v20 h5 hh5 hr20
 try simp only [val_limbs] at hr20
 obtain ⟨vn20, vd20, rfl, hn20, hd20⟩ := hr20
 refine w_t_upd (A := []) (q' := .var b4 29 [vB ((mkRat (sg (¬ ((qa.num < 0) ↔ (qb.num < 0))) (((((qa.num.natAbs)) * ((qb.num.natAbs)))))) (((((qa.den)) * ((qb.den)))))).num < 0), vn20, vd20]) rfl (upd_store_var (k := 0) (cs := [_, _, _]) (vs := [_, _, _]) rfl rfl rfl (ocr rfl (ocu hn20 (ocu hd20 oc0))) size29 (Nat.le_of_ble_eq_true rfl)) rfl (w_nil (gq_keep (e' := [(4, _)]) ⟨rfl, trivial⟩ (gq_then (gc_ret (gq_res (fun E S => run_res1 rfl (rv_agg (cs := [_, _, _]) (.head _) Try.underlying29 rfl size29 rfl) E S) ?_)))))
 rw [mul_eq] at hn20 hd20 ⊢
 exact ⟨_, _, rfl, hn20, hd20⟩

theorem rref_quo {w0 : World} {h0 : Mem}  (hs : MLe h0 (mem w0)) {qa : Rat} {vna vda : Value} (hna : Us .u32 h0 vna (limbs qa.num.natAbs)) (hda : Us .u32 h0 vda (limbs (denN qa.den))) {qb : Rat} {vnb vdb : Value} (hnb : Us .u32 h0 vnb (limbs qb.num.natAbs)) (hdb : Us .u32 h0 vdb (limbs (denN qb.den))) (hqa : lq qa ≤ 100000000000) (hqb : lq qb ≤ 100000000000)  :
    Calls Try.prog 63 #[.agg #[vB (qa.num < 0), vna, vda], .agg #[vB (qb.num < 0), vnb, vdb]] w0 (Ret w0 h0 (fun h r => ∃ u, r = .tuple #[u, vI (if qb = 0 then 3 else 0)] ∧ IsRat h u (if qb = 0 then 0 else qa / qb))) := by
 have hlna := lq_num qa
 have hlda := lq_den qa
 have hlDa := lq_denL qa
 have hlnb := lq_num qb
 have hldb := lq_den qb
 have hlDb := lq_denL qb
 refine calls_begin (n := 27) (e := [(0, .agg #[vB (qa.num < 0), vna, vda]), (1, .agg #[vB (qb.num < 0), vnb, vdb])]) (vs := [.agg #[vB (qa.num < 0), vna, vda], .agg #[vB (qb.num < 0), vnb, vdb]]) Try.func63 rfl rfl (Nat.le_of_ble_eq_true rfl) hs ⟨rfl, rfl, trivial⟩ (gc_seq (gc_region (gl_newop (new_box (cs := [_, _, _]) rfl rfl) rfl rfl rfl ?_)))
 intro v2 r2 hr2
 obtain ⟨b2, rfl, rfl⟩ := hr2
 refine gl_newop (new_box (cs := [_, _, _]) rfl rfl) rfl rfl rfl ?_
 intro v3 r3 hr3
 obtain ⟨b3, rfl, rfl⟩ := hr3
 refine gl_newop (new_alloc (cs := [vB ((0 : Rat).num < 0), .slice none 0 0, .slice none 0 0]) info29 rfl (by simp only [zb]; rfl)) rfl rfl rfl ?_
 intro v4 r4 hr4
 obtain ⟨b4, rfl, rfl⟩ := hr4
 refine asg (v := vI (0)) rfl rfl (gl_nil (gq_then (gc_seq (gc_seq (gc_region (gv (ov_field_addr Try.underlying29 rfl Try.sizeOf27 rfl) rfl (gv (ov_load_var (.tail _ (.head _)) Try.isAgg27 rfl rfl) rfl (gv (ov_len_us Try.underlying27 rfl hnb) rfl (gv (ov_eql_i (q := 0) rfl rfl) rfl (gl_nil (gq_then ?_)))))))))))
 refine gc_cond rfl (fun hc9 => ?_) (fun hc9 => ?_)
 ·
  refine gc_seq (gc_region (gv (ov_build_parts (ps' := []) (vs := [vB ((0 : Rat).num < 0), .slice none 0 0, .slice none 0 0]) Try.underlying29 info29 rfl (places29 Try.underlying29) trivial (by simp only [zb]; exact fill_nil)) rfl (gl_upd (A := []) (r' := .var b4 29 [vB ((0 : Rat).num < 0), .slice none 0 0, .slice none 0 0]) (upd_store_var (k := 0) (cs := [_, _, _]) (vs := [_, _, _]) rfl rfl rfl rfl size29 (Nat.le_of_ble_eq_true rfl)) rfl rfl rfl (asg (v := vI (3)) rfl rfl (gl_nil (gq_then (gc_ret (gr_then (gq_res (fun E S => run_res2 rfl (rv_agg (cs := [_, _, _]) (.head _) Try.underlying29 rfl size29 rfl) (rv_tmp rfl) E S) ?_)))))))))
  rw [if_pos (num_zero hc9), if_pos (num_zero hc9)]
  exact ⟨_, rfl, IsRat.zero _⟩
 ·
  have hb0 := num_pos_of hc9
  have hbn := num_ne.2 hb0
  have hd0 : qa.den * qb.num.natAbs ≠ 0 := Nat.mul_ne_zero qa.den_nz hbn
  refine gc_skip (gq_then (gc_seq ?_))
  refine gc_draw 16 _ [] [(0, .q), (1, .q), (2, .q), (3, .q), (4, .q), (5, .q), (6, .q), (7, .q), (10, .q), (12, .q), (13, .q), (8, .c), (9, .c), (11, .c), (14, .c), (15, .c), (16, .t), (17, .t)] mixed (fun x hx => by cases hx) (by kernel_rfl) (fun x hx => by cases hx) (fun r hr => hr) (w_q rfl (fun h' L' hh hR => ov_field_addr Try.underlying29 rfl Try.sizeOf4 rfl) rfl (w_q rfl (fun h' L' hh hR => ov_load_var (hR _ (.tail _ (.tail _ (.head _)))) Try.isAgg4 rfl rfl) rfl (w_q rfl (fun h' L' hh hR => ov_field_addr Try.underlying29 rfl Try.sizeOf4 rfl) rfl (w_q rfl (fun h' L' hh hR => ov_load_var (hR _ (.tail _ (.head _))) Try.isAgg4 rfl rfl) rfl (w_q rfl (fun h' L' hh hR => ov_neq_b Try.underlying4 rfl rfl) rfl (w_q rfl (fun h' L' hh hR => ov_field_addr Try.underlying29 rfl Try.sizeOf27 rfl) rfl (w_q rfl (fun h' L' hh hR => ov_load_var (hR _ (.tail _ (.tail _ (.head _)))) Try.isAgg27 rfl rfl) rfl (w_q rfl (fun h' L' hh hR => ov_load_agg (vs := [_, _, _]) (hR _ (.tail _ (.head _))) Try.underlying29 rfl size29 rfl rfl) rfl (w_q rfl (fun h' L' hh hR => ov_load_agg (vs := [_, _, _]) (hR _ (.tail _ (.tail _ (.head _)))) Try.underlying29 rfl size29 rfl rfl) rfl (w_q rfl (fun h' L' hh hR => ov_field_addr Try.underlying29 rfl Try.sizeOf27 rfl) rfl (w_q rfl (fun h' L' hh hR => ov_load_var (hR _ (.tail _ (.head _))) Try.isAgg27 rfl rfl) rfl ?_)))))))))))
  refine w_c rfl ?_
  refine s_call (vs := [_]) Try.call66 ⟨rfl, trivial⟩ (fun w hs => rref_den hs rfl hnb hdb) rfl ?_
  intro v19 h1 hh1 hr19
  rw [denL_den] at hr19
  refine w_c rfl ?_
  replace hna := hna.mono hh1
  refine s_call (vs := [_, _]) Try.call65 ⟨rfl, rfl, trivial⟩ (fun w hs => ref_mul hs hna hr19 (by omega) (by omega)) rfl ?_
  intro v20 h2 hh2 hr20
  try simp only [val_limbs] at hr20
  have hlm20 := limbs_len_mul ((qa.num.natAbs)) ((qb.den))
  refine w_c rfl ?_
  replace hna := hna.mono hh2
  replace hda := hda.mono (hh1.trans hh2)
  refine s_call (vs := [_]) Try.call66 ⟨rfl, trivial⟩ (fun w hs => rref_den hs rfl hna hda) rfl ?_
  intro v22 h3 hh3 hr22
  rw [denL_den] at hr22
  refine w_c rfl ?_
  replace hnb := hnb.mono ((hh1.trans hh2).trans hh3)
  refine s_call (vs := [_, _]) Try.call65 ⟨rfl, rfl, trivial⟩ (fun w hs => ref_mul hs hr22 hnb (by omega) (by omega)) rfl ?_
  intro v25 h4 hh4 hr25
  try simp only [val_limbs] at hr25
  have hlm25 := limbs_len_mul ((qa.den)) ((qb.num.natAbs))
  refine w_c rfl ?_
  replace hr20 := hr20.mono (hh3.trans hh4)
  refine s_call (vs := [_, _, _]) Try.call67 ⟨rfl, rfl, rfl, trivial⟩ (fun w hs => rref_reduce hs hr20 hr25 (by omega) (by omega) (by first | (simp only [val_limbs]; omega) | (simp only [val_limbs]; first | exact Rat.den_nz _ | exact Nat.mul_ne_zero (Rat.den_nz _) (Rat.den_nz _) | exact Nat.one_ne_zero | assumption) | assumption)) rfl ?_
  intro v26 h5 hh5 hr26
  try simp only [val_limbs] at hr26
  obtain ⟨vn26, vd26, rfl, hn26, hd26⟩ := hr26
  refine w_t_upd (A := []) (q' := .var b4 29 [vB ((mkRat (sg (¬ ((qa.num < 0) ↔ (qb.num < 0))) (((((qa.num.natAbs)) * ((qb.den)))))) (((((qa.den)) * ((qb.num.natAbs)))))).num < 0), vn26, vd26]) rfl (upd_store_var (k := 0) (cs := [_, _, _]) (vs := [_, _, _]) rfl rfl rfl (ocr rfl (ocu hn26 (ocu hd26 oc0))) size29 (Nat.le_of_ble_eq_true rfl)) rfl (w_t_val rfl (ov_assign (v := vI (0)) rfl) rfl (w_nil (gq_keep (e' := [(4, _), (5, _)]) ⟨rfl, rfl, trivial⟩ (gq_then (gc_ret (gq_res (fun E S => run_res2 rfl (rv_agg (cs := [_, _, _]) (.head _) Try.underlying29 rfl size29 rfl) (rv_tmp rfl) E S) ?_))))))
  rw [if_neg hb0, if_neg hb0]
  rw [quo_eq _ hb0] at hn26 hd26 ⊢
  exact ⟨_, rfl, _, _, rfl, hn26, hd26⟩

theorem rref_cmp {w0 : World} {h0 : Mem}  (hs : MLe h0 (mem w0)) {qa : Rat} {vna vda : Value} (hna : Us .u32 h0 vna (limbs qa.num.natAbs)) (hda : Us .u32 h0 vda (limbs (denN qa.den))) {qb : Rat} {vnb vdb : Value} (hnb : Us .u32 h0 vnb (limbs qb.num.natAbs)) (hdb : Us .u32 h0 vdb (limbs (denN qb.den))) (hqa : lq qa ≤ 100000000000) (hqb : lq qb ≤ 100000000000)  :
    Calls Try.prog 73 #[.agg #[vB (qa.num < 0), vna, vda], .agg #[vB (qb.num < 0), vnb, vdb]] w0 (Ret w0 h0 (fun _ r => r = vI (cmpQ qa qb))) := by
 have hlna := lq_num qa
 have hlda := lq_den qa
 have hlDa := lq_denL qa
 have hlnb := lq_num qb
 have hldb := lq_den qb
 have hlDb := lq_denL qb
 have hcr : -1 ≤ cmpN (qa.num.natAbs * qb.den) (qb.num.natAbs * qa.den) ∧ cmpN (qa.num.natAbs * qb.den) (qb.num.natAbs * qa.den) ≤ 1 := cN_range qa qb
 refine calls_begin (n := 34) (e := [(0, .agg #[vB (qa.num < 0), vna, vda]), (1, .agg #[vB (qb.num < 0), vnb, vdb])]) (vs := [.agg #[vB (qa.num < 0), vna, vda], .agg #[vB (qb.num < 0), vnb, vdb]]) Try.func73 rfl rfl (Nat.le_of_ble_eq_true rfl) hs ⟨rfl, rfl, trivial⟩ (gc_seq (gc_region (gl_newop (new_box (cs := [_, _, _]) rfl rfl) rfl rfl rfl ?_)))
 intro v2 r2 hr2
 obtain ⟨b2, rfl, rfl⟩ := hr2
 refine gl_newop (new_box (cs := [_, _, _]) rfl rfl) rfl rfl rfl ?_
 intro v3 r3 hr3
 obtain ⟨b3, rfl, rfl⟩ := hr3
 refine asg (v := vI (0)) rfl rfl (gl_nil (gq_then (gc_seq (gc_seq ?_))))
 refine gc_draw 6 _ [] [(0, .q), (2, .q), (1, .c), (3, .c), (4, .q), (5, .q)] mixed (fun x hx => by cases hx) (by kernel_rfl) (fun x hx => by cases hx) (fun r hr => hr) (w_q rfl (fun h' L' hh hR => ov_load_agg (vs := [_, _, _]) (hR _ (.tail _ (.head _))) Try.underlying29 rfl size29 rfl rfl) rfl (w_q rfl (fun h' L' hh hR => ov_load_agg (vs := [_, _, _]) (hR _ (.head _)) Try.underlying29 rfl size29 rfl rfl) rfl ?_))
 refine w_c rfl ?_
 refine s_call (vs := [_]) Try.call34 ⟨rfl, trivial⟩ (fun w hs => rref_sign hs hna hda (by omega)) rfl ?_
 intro v9 h1 hh1 hr9
 have hsr9 := sgnQ_range qa
 subst hr9
 refine w_c rfl ?_
 replace hnb := hnb.mono hh1
 replace hdb := hdb.mono hh1
 refine s_call (vs := [_]) Try.call34 ⟨rfl, trivial⟩ (fun w hs => rref_sign hs hnb hdb (by omega)) rfl ?_
 intro v11 h2 hh2 hr11
 have hsr11 := sgnQ_range qb
 subst hr11
 refine w_q rfl (fun h' L' hh hR => ov_assign rfl) rfl (w_q rfl (fun h' L' hh hR => ov_assign rfl) rfl (w_nil (gq_then (gc_seq (gc_region (mv rfl rfl (mv rfl rfl (gv (ov_neq_i rfl rfl) rfl (gl_nil (gq_then ?_))))))))))
 refine gc_cond rfl (fun hc14 => ?_) (fun hc14 => ?_)
 ·
  refine gc_keep (e' := [(5, _), (6, _)]) ⟨rfl, rfl, trivial⟩ (gc_seq (gc_seq (gc_region (mv rfl rfl (mv rfl rfl (gv (ov_lss_i rfl rfl) rfl (gl_nil (gq_then ?_))))))))
  refine gc_cond rfl (fun hc17 => ?_) (fun hc17 => ?_)
  ·
   refine gc_seq (gc_region (asg (v := vI (-1)) rfl rfl (gl_nil (gq_then (gc_ret (gr_then (gr_then (gq_body1 rfl rfl ?_))))))))
   rw [cmpQ_sgn hc14, if_pos hc17]
  ·
   refine gc_skip (gq_then (gc_seq (gc_region (asg (v := vI (1)) rfl rfl (gl_nil (gq_then (gc_ret (gr_then (gq_body1 rfl rfl ?_)))))))))
   rw [cmpQ_sgn hc14, if_neg hc17]
 ·
  have hss := sgn_same hc14
  refine gc_keep (e' := [(2, _), (3, _)]) ⟨rfl, rfl, trivial⟩ (gc_skip (gq_then (gc_seq ?_)))
  refine gc_draw 12 _ [] [(0, .q), (1, .q), (2, .q), (5, .q), (6, .q), (7, .q), (3, .c), (4, .c), (8, .c), (9, .c), (10, .c), (11, .q)] mixed (fun x hx => by cases hx) (by kernel_rfl) (fun x hx => by cases hx) (fun r hr => hr) (w_q rfl (fun h' L' hh hR => ov_field_addr Try.underlying29 rfl Try.sizeOf27 rfl) rfl (w_q rfl (fun h' L' hh hR => ov_load_var (hR _ (.tail _ (.head _))) Try.isAgg27 rfl rfl) rfl (w_q rfl (fun h' L' hh hR => ov_load_agg (vs := [_, _, _]) (hR _ (.head _)) Try.underlying29 rfl size29 rfl rfl) rfl (w_q rfl (fun h' L' hh hR => ov_field_addr Try.underlying29 rfl Try.sizeOf27 rfl) rfl (w_q rfl (fun h' L' hh hR => ov_load_var (hR _ (.head _)) Try.isAgg27 rfl rfl) rfl (w_q rfl (fun h' L' hh hR => ov_load_agg (vs := [_, _, _]) (hR _ (.tail _ (.head _))) Try.underlying29 rfl size29 rfl rfl) rfl ?_))))))
  refine w_c rfl ?_
  replace hnb := hnb.mono hh2
  replace hdb := hdb.mono hh2
  refine s_call (vs := [_]) Try.call66 ⟨rfl, trivial⟩ (fun w hs => rref_den hs rfl hnb hdb) rfl ?_
  intro v21 h3 hh3 hr21
  rw [denL_den] at hr21
  refine w_c rfl ?_
  replace hna := hna.mono ((hh1.trans hh2).trans hh3)
  refine s_call (vs := [_, _]) Try.call65 ⟨rfl, rfl, trivial⟩ (fun w hs => ref_mul hs hna hr21 (by omega) (by omega)) rfl ?_
  intro v22 h4 hh4 hr22
  try simp only [val_limbs] at hr22
  have hlm22 := limbs_len_mul ((qa.num.natAbs)) ((qb.den))
  refine w_c rfl ?_
  replace hna := hna.mono hh4
  replace hda := hda.mono (((hh1.trans hh2).trans hh3).trans hh4)
  refine s_call (vs := [_]) Try.call66 ⟨rfl, trivial⟩ (fun w hs => rref_den hs rfl hna hda) rfl ?_
  intro v26 h5 hh5 hr26
  rw [denL_den] at hr26
  refine w_c rfl ?_
  replace hnb := hnb.mono ((hh3.trans hh4).trans hh5)
  refine s_call (vs := [_, _]) Try.call65 ⟨rfl, rfl, trivial⟩ (fun w hs => ref_mul hs hnb hr26 (by omega) (by omega)) rfl ?_
  intro v27 h6 hh6 hr27
  try simp only [val_limbs] at hr27
  have hlm27 := limbs_len_mul ((qb.num.natAbs)) ((qa.den))
  refine w_c rfl ?_
  replace hr22 := hr22.mono (hh5.trans hh6)
  refine s_call (vs := [_, _]) Try.call51 ⟨rfl, rfl, trivial⟩ (fun w hs => ref_cmp hs hr22 hr27) rfl ?_
  intro v28 h7 hh7 hr28
  subst hr28
  refine w_q rfl (fun h' L' hh hR => ov_assign rfl) rfl (w_nil (gq_keep (e' := [(2, _), (7, _)]) ⟨rfl, rfl, trivial⟩ (gq_then (gc_seq (gc_seq (gc_region (gv (ov_field_addr Try.underlying29 rfl Try.sizeOf4 rfl) rfl (gv (ov_load_var (.tail _ (.head _)) Try.isAgg4 rfl rfl) rfl (gl_nil (gq_then ?_))))))))))
  refine gc_cond rfl (fun hc30 => ?_) (fun hc30 => ?_)
  ·
   refine gc_seq (gc_region (mv rfl rfl (gv (ov_neg_i rfl (by omega) (by omega)) rfl (asg rfl rfl (gl_nil (gq_then (gc_ret (gr_then (gq_body1 rfl rfl ?_)))))))))
   rw [cmpQ_cN hss hc30]; rfl
  ·
   refine gc_skip (gq_then (gc_seq (gc_region (mv rfl rfl (asg rfl rfl (gl_nil (gq_then (gc_ret (gq_body1 rfl rfl ?_)))))))))
   rw [cmpQ_cN' hss hc30]; rfl

end Go.Proofs.Ytfpjclgbieppeaa

namespace Bk
set_option linter.unusedVariables false
set_option linter.unusedSimpArgs false
open Go Go.RowKit

theorem wf_range {k : IntKind} (hk : k.signed = false) {x : Int} (h : (Lit.int k x).wf = true) : 0 ≤ x ∧ x < (ub k : Int) := by
  simp only [Lit.wf, Bool.and_eq_true, decide_eq_true_eq] at h
  cases k <;> simp [IntKind.signed] at hk <;> simp [IntKind.min, IntKind.max, IntKind.signed, IntKind.bits] at h <;> simp only [ub] <;> omega

theorem us_of_row {k : IntKind} (hk : k.signed = false) {w : World} {a : Option Addr} {len cap : Nat} {zs : List Int}
    (h : (a = none ∧ len = 0 ∧ cap = 0 ∧ zs = []) ∨ ∃ x, a = some x ∧ len ≤ cap ∧ cap ≤ maxLen ∧ zs.length = cap ∧ (∀ i, i < zs.length → w.cell? (x.add i) = some (.int k (zs.getD i 0))) ∧ ∀ n ∈ zs, (Lit.int k n).wf = true) :
    ∃ xs : List Nat, Us k (mem w) (.slice a len cap) xs := by
  rcases h with ⟨rfl, rfl, rfl, rfl⟩ | ⟨x, rfl, h1, h2, h3, h4, h5⟩
  · exact ⟨[], Us.nil _ _⟩
  · refine ⟨(zs.take len).map Int.toNat, ⟨?_, ?_⟩⟩
    · have hl : ((zs.take len).map Int.toNat).length = len := by simp; omega
      rw [hl]
      refine ⟨_, cap, rfl, h1, h2, by simp [Bk.us]; omega, fun i hi => ?_⟩
      have hi' : i < len := by simp [Bk.us] at hi; omega
      have hc := h4 i (by omega)
      have hspot : (x.add 0).spot = none := World.cell?_spot (h4 0 (by omega))
      obtain ⟨b, o, sp⟩ := x
      simp [Addr.add] at hspot
      subst hspot
      refine ⟨b, o, rfl, ?_⟩
      rw [addr_add] at hc
      rw [cell_of_world hc, us_get (by rw [hl]; exact hi')]
      have hm : zs.getD i 0 ∈ zs := by
        rw [List.getD_eq_getElem?_getD, List.getElem?_eq_getElem (by omega)]
        exact List.getElem_mem _
      have hr := wf_range hk (h5 _ hm)
      have e : ((List.map Int.toNat (List.take len zs)).getD i 0 : Int) = zs.getD i 0 := by
        rw [List.getD_eq_getElem?_getD, List.getElem?_map, List.getElem?_take, if_pos hi']
        rw [List.getD_eq_getElem?_getD] at hr ⊢
        rw [List.getElem?_eq_getElem (by omega)] at hr ⊢
        simp at hr ⊢
        omega
      rw [vU, e]
    · intro n hn
      obtain ⟨z, hz, rfl⟩ := List.mem_map.1 hn
      have hr := wf_range hk (h5 z (List.mem_of_mem_take hz))
      omega

theorem nat_of_wf {k : IntKind} (hk : k.signed = false) {x : Int} (h : (Lit.int k x).wf = true) : ∃ n : Nat, x = (n : Int) ∧ n < ub k := by
  obtain ⟨h1, h2⟩ := wf_range hk h
  exact ⟨x.toNat, by omega, by omega⟩
theorem int_of_wf {x : Int} (h : (Lit.int .i64 x).wf = true) : -9223372036854775808 ≤ x ∧ x < 9223372036854775808 := by
  simp only [Lit.wf, Bool.and_eq_true, decide_eq_true_eq] at h
  simp [IntKind.min, IntKind.max, IntKind.signed, IntKind.bits] at h
  omega

theorem byt_strOf {xs : List Nat} (h : ∀ x ∈ xs, x < 256) : byt (strOf xs) = xs := by
  simp only [byt, strOf, List.map_map]
  conv => rhs; rw [← List.map_id xs]
  refine List.map_congr_left fun x hx => ?_
  simp only [Function.comp, id]
  exact Nat.mod_eq_of_lt (h x hx)

theorem us_len_add {k : IntKind} {h : Mem} {v : Value} {m n : Nat} (_ : Us k h v (limbs (m + n))) : (limbs (m + n)).length ≤ (limbs m).length + (limbs n).length + 1 := limbs_len_add m n
theorem us_len_mul {k : IntKind} {h : Mem} {v : Value} {m n : Nat} (_ : Us k h v (limbs (m * n))) : (limbs (m * n)).length ≤ (limbs m).length + (limbs n).length := limbs_len_mul m n
end Bk

namespace Bk
set_option linter.unusedVariables false
set_option linter.unusedSimpArgs false
open Go Go.RowKit

/-- Numbers of bytes. -/
def ByB (bs : List Nat) : Prop := ∀ x ∈ bs, x < 256
theorem ByB.nil : ByB [] := fun x hx => by cases hx
theorem ByB.app {a b : List Nat} (ha : ByB a) (hb : ByB b) : ByB (a ++ b) := fun x hx => (List.mem_append.1 hx).elim (ha x) (hb x)
theorem ByB.dr {a : List Nat} (ha : ByB a) (k : Nat) : ByB (a.drop k) := fun x hx => ha x (List.mem_of_mem_drop hx)
theorem ByB.tk {a : List Nat} (ha : ByB a) (k : Nat) : ByB (a.take k) := fun x hx => ha x (List.mem_of_mem_take hx)
theorem ByB.lt {a : List Nat} (ha : ByB a) (i : Nat) : a.getD i 0 < 256 := by
  by_cases hi : i < a.length
  · rw [List.getD_eq_getElem?_getD, List.getElem?_eq_getElem hi]
    exact ha _ (List.getElem_mem hi)
  · rw [List.getD_eq_getElem?_getD, List.getElem?_eq_none (by omega)]; decide
theorem byB_byt (s : ByteArray) : ByB (byt s) := by
  intro x hx
  obtain ⟨y, _, rfl⟩ := List.mem_map.1 hx
  exact UInt8.toNat_lt _
theorem byB_txt (n : Nat) : ByB (txt n) := txt_lt n

theorem strOf_byt (s : ByteArray) : strOf (byt s) = s := by
  unfold strOf byt
  rw [List.map_map]
  have : (UInt8.ofNat ∘ UInt8.toNat) = id := by funext x; simp
  rw [this, List.map_id]
theorem strOf_append (a b : List Nat) : strOf a ++ strOf b = strOf (a ++ b) := by
  apply ByteArray.ext
  simp [strOf]
theorem strOf_extract (bs : List Nat) (l h : Nat) : (strOf bs).extract l h = strOf ((bs.drop l).take (h - l)) := by
  apply ByteArray.ext
  apply Array.ext'
  simp [strOf, List.map_drop, List.map_take, List.drop_take]
theorem strOf_inj {a b : List Nat} (ha : ByB a) (hb : ByB b) : strOf a = strOf b ↔ a = b :=
  ⟨fun h => by rw [← byt_strOf ha, ← byt_strOf hb, h], fun h => by rw [h]⟩

section
variable {P : Program} {n : Nat} {w0 : World} {h0 : Mem} {e : List (Nat × Value)} {L : List Res} {h : Mem}
variable {ds : Option Tmp} {ty : TypeId} {ps : String} {af : Array Edge} {gd : Option (Nat × Bool)}

theorem ov_len_s {bs : List Nat} {t : TypeId} {x : Operand} (ht : P.underlying t = some .string) (hx : evalO e x = some (.string (strOf bs))) :
    OpV P n w0 h0 ⟨ds, .call { callee := .builtin .len, args := #[x], argTypes := #[t] }, ty, ps, af, gd⟩ e L h (vI (bs.length : Int)) := by
  have := ov_len_str (P := P) (n := n) (w0 := w0) (h0 := h0) (L := L) (h := h) (ds := ds) (ty := ty) (ps := ps) (af := af) (gd := gd) ht hx
  rw [Us.str_size] at this
  exact this
theorem ov_index_s {bs : List Nat} {t : TypeId} {x y : Operand} {q : Int} (hb : ByB bs) (i : Nat) (ht : P.underlying t = some .string) (hx : evalO e x = some (.string (strOf bs))) (hy : evalO e y = some (vI q)) (hq : q = (i : Int)) (hi : i < bs.length) :
    OpV P n w0 h0 ⟨ds, .index t x y, ty, ps, af, gd⟩ e L h (vU .u8 (bs.getD i 0)) := by
  have := ov_index_byt (P := P) (n := n) (w0 := w0) (h0 := h0) (L := L) (h := h) (ds := ds) (ty := ty) (ps := ps) (af := af) (gd := gd) i ht hx hy hq (by rw [Us.str_size]; exact hi)
  rw [byt_strOf hb] at this
  exact this
theorem ov_slice_s_lh {bs : List Nat} {t : TypeId} {x lo hi : Operand} {p q : Int} (i j : Nat) (ht : P.underlying t = some .string) (hx : evalO e x = some (.string (strOf bs))) (hl : evalO e lo = some (vI p)) (hh : evalO e hi = some (vI q)) (hp : p = (i : Int)) (hq : q = (j : Int)) (h1 : i ≤ j) (h2 : j ≤ bs.length) :
    OpV P n w0 h0 ⟨ds, .slice t x (some lo) (some hi) none, ty, ps, af, gd⟩ e L h (.string (strOf ((bs.drop i).take (j - i)))) := by
  subst hp; subst hq
  intro a w Ev S
  have hs := Us.str_size (xs := bs)
  have h3 : (j : Int) ≤ ((strOf bs).size : Int) := by omega
  have h4 : j ≤ (strOf bs).size := by omega
  simp [execOp, Ev.eval hx, Ev.eval hl, Ev.eval hh, Instr.sliceAt, Instr.slice, run_underlying ht, Instr.sliceBounds, Instr.sliceBound, asIntOf, vI, h4, h1, strOf_extract]
theorem ov_slice_s_l {bs : List Nat} {t : TypeId} {x lo : Operand} {p : Int} (i : Nat) (ht : P.underlying t = some .string) (hx : evalO e x = some (.string (strOf bs))) (hl : evalO e lo = some (vI p)) (hp : p = (i : Int)) (h1 : i ≤ bs.length) :
    OpV P n w0 h0 ⟨ds, .slice t x (some lo) none none, ty, ps, af, gd⟩ e L h (.string (strOf (bs.drop i))) := by
  subst hp
  intro a w Ev S
  have hs := Us.str_size (xs := bs)
  have h4 : i ≤ (strOf bs).size := by omega
  have h5 : (bs.drop i).take (bs.length - i) = bs.drop i := List.take_of_length_le (by rw [List.length_drop]; omega)
  simp [execOp, Ev.eval hx, Ev.eval hl, Instr.sliceAt, Instr.slice, run_underlying ht, Instr.sliceBounds, Instr.sliceBound, asIntOf, vI, h4, strOf_extract, hs, h5]
  intro h6
  omega
theorem ov_slice_s_h {bs : List Nat} {t : TypeId} {x hi : Operand} {q : Int} (j : Nat) (ht : P.underlying t = some .string) (hx : evalO e x = some (.string (strOf bs))) (hh : evalO e hi = some (vI q)) (hq : q = (j : Int)) (h2 : j ≤ bs.length) :
    OpV P n w0 h0 ⟨ds, .slice t x none (some hi) none, ty, ps, af, gd⟩ e L h (.string (strOf (bs.take j))) := by
  subst hq
  intro a w Ev S
  have hs := Us.str_size (xs := bs)
  have h4 : j ≤ (strOf bs).size := by omega
  simp [execOp, Ev.eval hx, Ev.eval hh, Instr.sliceAt, Instr.slice, run_underlying ht, Instr.sliceBounds, Instr.sliceBound, asIntOf, vI, h4, strOf_extract]
theorem ov_add_s {pa pb : List Nat} {t yt : TypeId} {x y : Operand} (hx : evalO e x = some (.string (strOf pa))) (hy : evalO e y = some (.string (strOf pb))) (hlen : pa.length + pb.length ≤ 9223372036854775807) :
    OpV P n w0 h0 ⟨ds, .binOp .add t x y yt, ty, ps, af, gd⟩ e L h (.string (strOf (pa ++ pb))) := by
  intro a w Ev S
  have h1 := Us.str_size (xs := pa)
  have h2 := Us.str_size (xs := pb)
  have h3 : ¬ (((strOf pa).size + (strOf pb).size : Nat) : Int) > IntKind.i64.max := by
    have : IntKind.i64.max = 9223372036854775807 := rfl
    rw [this]
    omega
  have h4 : (Op.stringOp .add (strOf pa) (strOf pb)).run P w = .ok (.string (strOf (pa ++ pb))) w := by
    simp only [Op.stringOp]
    rw [if_neg h3, strOf_append]
    rfl
  simp only [execOp, Ev.eval hx, Ev.eval hy]
  simp [eqGuard, binOp, h4]
theorem ov_eql_s {pa pb : List Nat} {t yt : TypeId} {x y : Operand} (ha : ByB pa) (hb : ByB pb) (hx : evalO e x = some (.string (strOf pa))) (hy : evalO e y = some (.string (strOf pb))) : OpV P n w0 h0 ⟨ds, .binOp .eql t x y yt, ty, ps, af, gd⟩ e L h (vB (pa = pb)) := by
  have := ov_eql_str (P := P) (n := n) (w0 := w0) (h0 := h0) (L := L) (h := h) (ds := ds) (ty := ty) (ps := ps) (af := af) (gd := gd) (t := t) (yt := yt) hx hy
  rw [vB_iff (strOf_inj ha hb)] at this
  exact this
theorem ov_neq_s {pa pb : List Nat} {t yt : TypeId} {x y : Operand} (ha : ByB pa) (hb : ByB pb) (hx : evalO e x = some (.string (strOf pa))) (hy : evalO e y = some (.string (strOf pb))) : OpV P n w0 h0 ⟨ds, .binOp .neq t x y yt, ty, ps, af, gd⟩ e L h (vB (pa ≠ pb)) := by
  have h1 : ((strOf pa).toList == (strOf pb).toList) = @decide (strOf pa = strOf pb) (Classical.propDecidable _) := by
    rw [Bool.eq_iff_iff]
    simp only [beq_iff_eq, decide_eq_true_eq]
    exact ⟨fun hh => by
      have h2 : (strOf pa).data.toList = (strOf pb).data.toList := by
        rwa [ByteArray.toList_eq, ByteArray.toList_eq] at hh
      exact ByteArray.ext (Array.toList_inj.1 h2), fun hh => by rw [hh]⟩
  rw [← vB_iff (not_congr (strOf_inj ha hb))]
  intro a w Ev S
  simp only [execOp, Ev.eval hx, Ev.eval hy, binOp, vB]
  simp [eqGuard, Op.stringOp, h1]
end
end Bk

namespace Bk
set_option linter.unusedVariables false
set_option linter.unusedSimpArgs false
open Go Go.RowKit
open Classical

/-- A number's text. -/
noncomputable def txtQ (q : Rat) : List Nat := (if q.num < 0 then [45] else []) ++ txt q.num.natAbs ++ (if denN q.den = 0 then [] else [47] ++ txt (denN q.den))
theorem byB_txtQ (q : Rat) : ByB (txtQ q) := by
  unfold txtQ
  refine ByB.app (ByB.app ?_ (byB_txt _)) ?_
  · split
    · unfold ByB; decide
    · exact ByB.nil
  · split
    · exact ByB.nil
    · exact ByB.app (by unfold ByB; decide) (byB_txt _)
theorem txtQ_len (q : Rat) : (txtQ q).length ≤ 20 * lq q + 4 := by
  unfold txtQ
  have h1 := txt_len q.num.natAbs
  have h2 := txt_len (denN q.den)
  have h3 := lq_num q
  have h4 := lq_denL q
  have h5 : (if q.num < 0 then [45] else ([] : List Nat)).length ≤ 1 := by split <;> simp
  have h6 : (if denN q.den = 0 then [] else [47] ++ txt (denN q.den)).length ≤ 1 + (txt (denN q.den)).length := by split <;> simp <;> omega
  rw [List.length_append, List.length_append]
  have h7 : (limbs (denN q.den)).length ≤ lq q := h4
  omega
theorem denN_zero_len {q : Rat} : (0 : Int) < ↑(limbs (denN q.den)).length ↔ ¬ denN q.den = 0 := by
  have := limbs_len_pos (n := denN q.den)
  omega
theorem txtQ_td {q : Rat} (h1 : q.num < 0) (h2 : ¬ (0 : Int) < ↑(limbs (denN q.den)).length) : [45] ++ txt q.num.natAbs = txtQ q := by
  unfold txtQ
  rw [if_pos h1, if_pos (Classical.not_not.1 fun e => h2 (denN_zero_len.2 e)), List.append_nil]
theorem txtQ_t {q : Rat} (h1 : q.num < 0) (h2 : (0 : Int) < ↑(limbs (denN q.den)).length) : [45] ++ txt q.num.natAbs ++ ([47] ++ txt (denN q.den)) = txtQ q := by
  unfold txtQ
  rw [if_pos h1, if_neg (denN_zero_len.1 h2)]
theorem txtQ_nd {q : Rat} (h1 : ¬ q.num < 0) (h2 : ¬ (0 : Int) < ↑(limbs (denN q.den)).length) : txt q.num.natAbs = txtQ q := by
  unfold txtQ
  rw [if_neg h1, if_pos (Classical.not_not.1 fun e => h2 (denN_zero_len.2 e)), List.append_nil, List.nil_append]
theorem txtQ_nt {q : Rat} (h1 : ¬ q.num < 0) (h2 : (0 : Int) < ↑(limbs (denN q.den)).length) : txt q.num.natAbs ++ ([47] ++ txt (denN q.den)) = txtQ q := by
  unfold txtQ
  rw [if_neg h1, if_neg (denN_zero_len.1 h2), List.nil_append]

/-- How many digits a text begins with. -/
def digs : List Nat → Nat
  | [] => 0
  | b :: bs => if 48 ≤ b ∧ b ≤ 57 then digs bs + 1 else 0
theorem digs_le (bs : List Nat) : digs bs ≤ bs.length := by
  induction bs with
  | nil => simp [digs]
  | cons b bs ih => rw [digs]; split <;> simp <;> omega
theorem digs_step {bs : List Nat} {k : Nat} (hk : k < bs.length) (h1 : 48 ≤ bs.getD k 0) (h2 : bs.getD k 0 ≤ 57) : digs (bs.drop k) = digs (bs.drop (k + 1)) + 1 := by
  rw [drop_eq_cons bs k hk, digs, if_pos ⟨h1, h2⟩]
theorem digs_stop {bs : List Nat} {k : Nat} (h : ¬ (k < bs.length ∧ 48 ≤ bs.getD k 0 ∧ bs.getD k 0 ≤ 57)) : digs (bs.drop k) = 0 := by
  by_cases hk : k < bs.length
  · rw [drop_eq_cons bs k hk, digs, if_neg fun e => h ⟨hk, e⟩]
  · rw [List.drop_of_length_le (by omega)]; rfl
theorem digs_digB (bs : List Nat) : digB (bs.take (digs bs)) = true := by
  induction bs with
  | nil => rfl
  | cons b bs ih =>
    rw [digs]
    split
    · rename_i h
      rw [List.take_succ_cons]
      simp only [digB, List.all_cons, Bool.and_eq_true, decide_eq_true_eq]
      exact ⟨h, ih⟩
    · rfl
theorem digs_all {bs : List Nat} : digs bs = bs.length ↔ digB bs = true := by
  constructor
  · intro h
    have := digs_digB bs
    rw [h, List.take_length] at this
    exact this
  · intro h
    induction bs with
    | nil => rfl
    | cons b bs ih =>
      simp only [digB, List.all_cons, Bool.and_eq_true, decide_eq_true_eq] at h
      rw [digs, if_pos h.1, ih h.2, List.length_cons]
theorem digs_app {a b : List Nat} (h : digB a = true) : digs (a ++ b) = a.length + digs b := by
  induction a with
  | nil => simp
  | cons x a ih =>
    simp only [digB, List.all_cons, Bool.and_eq_true, decide_eq_true_eq] at h
    rw [List.cons_append, digs, if_pos h.1, ih h.2, List.length_cons]; omega
theorem hor_app (a b : List Nat) : hor (a ++ b) = hor a * 10 ^ b.length + hor b := by
  induction b generalizing a with
  | nil => simp [hor_nil]
  | cons x b ih =>
    have e1 : a ++ x :: b = (a ++ [x]) ++ b := by simp
    have e2 : x :: b = [x] ++ b := rfl
    rw [e1, ih, hor_snoc]
    rw [e2, ih [x], List.length_append, List.length_singleton, Nat.add_comm 1, Nat.pow_succ]
    have e3 : hor [x] = x - 48 := by simp [hor]
    rw [e3]
    generalize 10 ^ b.length = p
    grind
theorem ten_len (n : Nat) : (limbs (10 ^ n)).length ≤ n + 1 := by
  refine limbs_len_of_lt ?_
  have h1 : (10 : Nat) ^ n ≤ 4294967296 ^ n := Nat.pow_le_pow_left (by omega) n
  have h2 : (4294967296 : Nat) ^ n < 4294967296 ^ (n + 1) := Nat.pow_lt_pow_right (by omega) (by omega)
  omega
theorem hor_limbs {bs : List Nat} (h : digB bs = true) : (limbs (hor bs)).length ≤ bs.length + 1 :=
  Nat.le_trans (limbs_len_mono (Nat.le_of_lt (hor_len h))) (ten_len _)
theorem hor3 {bs : List Nat} (h : digB bs = true) (hl : bs.length ≤ 3) : hor bs ≤ 999 := by
  have h1 := hor_len h
  have h2 := Nat.pow_le_pow_right (n := 10) (by omega) hl
  omega

/-- The part behind e. -/
noncomputable def exU (s : List Nat) : List Nat := if s.drop 1 ≠ [] ∧ ((s.drop 1).getD 0 0 = 43 ∨ (s.drop 1).getD 0 0 = 45) then (s.drop 1).drop 1 else s.drop 1
def exDown (s : List Nat) : Prop := s.drop 1 ≠ [] ∧ (s.drop 1).getD 0 0 = 45
def exOk (s : List Nat) : Prop := (s.getD 0 0 = 101 ∨ s.getD 0 0 = 69) ∧ exU s ≠ [] ∧ (exU s).length ≤ 3 ∧ digs (exU s) = (exU s).length
noncomputable def exN (s : List Nat) : Nat := if exOk s then hor (exU s) else 0
theorem exN_le (s : List Nat) : exN s ≤ 999 := by
  unfold exN
  split
  · rename_i h
    exact hor3 (digs_all.1 h.2.2.2) h.2.2.1
  · omega

/-- What a text is read as: the error and the number. -/
noncomputable def fin4 (s : Prop) (n d : Nat) : Int × Rat := if (2048 : Int) < bitsQ (mkRat (sg s n) d) then (2, 0) else (0, mkRat (sg s n) d)
noncomputable def fin3 (s : Prop) (n d : Nat) (r : List Nat) : Int × Rat :=
  if r = [] then fin4 s n d else if exOk r then (if exDown r then fin4 s n (d * 10 ^ exN r) else fin4 s (n * 10 ^ exN r) d) else (4, 0)
def slash (r : List Nat) : Prop := r ≠ [] ∧ r.getD 0 0 = 47
def dot (r : List Nat) : Prop := r ≠ [] ∧ r.getD 0 0 = 46
noncomputable def fin2 (s : Prop) (bs : List Nat) : Int × Rat :=
  if digs bs = 0 then (4, 0) else
  if slash (bs.drop (digs bs)) then
    (if (bs.drop (digs bs)).drop 1 = [] ∨ digs ((bs.drop (digs bs)).drop 1) ≠ ((bs.drop (digs bs)).drop 1).length then (4, 0) else if hor ((bs.drop (digs bs)).drop 1) = 0 then (3, 0) else fin3 s (hor (bs.take (digs bs))) (hor ((bs.drop (digs bs)).drop 1)) [])
  else if dot (bs.drop (digs bs)) then
    (if digs ((bs.drop (digs bs)).drop 1) = 0 then (4, 0) else fin3 s (hor (bs.take (digs bs) ++ ((bs.drop (digs bs)).drop 1).take (digs ((bs.drop (digs bs)).drop 1)))) (10 ^ digs ((bs.drop (digs bs)).drop 1)) ((bs.drop (digs bs)).drop (digs ((bs.drop (digs bs)).drop 1) + 1)))
  else fin3 s (hor (bs.take (digs bs))) 1 (bs.drop (digs bs))
def parNeg (bs : List Nat) : Prop := (0 : Int) < ↑bs.length ∧ bs.getD 0 0 = 45
noncomputable def parBody (bs : List Nat) : List Nat := if parNeg bs then bs.drop 1 else bs
theorem parBody_t {bs : List Nat} (h : parNeg bs) : parBody bs = bs.drop 1 := if_pos h
theorem parBody_f {bs : List Nat} (h : ¬ parNeg bs) : parBody bs = bs := if_neg h
noncomputable def parQ (bs : List Nat) : Int × Rat := if 4096 < bs.length then (2, 0) else fin2 (parNeg bs) (parBody bs)
theorem exp_bad {s : List Nat} (h : s.getD 0 0 ≠ 101 ∧ s.getD 0 0 ≠ 69) : ¬ exOk s := fun e => e.1.elim h.1 h.2
theorem exp_bad2 {s u : List Nat} (hu : exU s = u) (h : (u = [] ∨ (3 : Int) < ↑u.length) ∨ (↑(0 + digs (u.drop 0)) : Int) ≠ ↑u.length) : ¬ exOk s := by
  rintro ⟨_, h1, h2, h3⟩
  rw [hu] at h1 h2 h3
  rw [List.drop_zero, Nat.zero_add] at h
  rcases h with (h | h) | h
  · exact h1 h
  · omega
  · exact h (by omega)
theorem exp_ok {s u : List Nat} (h0 : ¬ (s.getD 0 0 ≠ 101 ∧ s.getD 0 0 ≠ 69)) (hu : exU s = u) (h : ¬ ((u = [] ∨ (3 : Int) < ↑u.length) ∨ (↑(0 + digs (u.drop 0)) : Int) ≠ ↑u.length)) : exOk s := by
  rw [List.drop_zero, Nat.zero_add] at h
  refine ⟨by omega, ?_, ?_, ?_⟩
  · rw [hu]; exact fun e => h (.inl (.inl e))
  · rw [hu]; have : ¬ (3 : Int) < ↑u.length := fun e => h (.inl (.inr e)); omega
  · rw [hu]; have : ¬ (↑(digs u) : Int) ≠ ↑u.length := fun e => h (.inr e); omega
theorem exN_t {s : List Nat} (h : exOk s) : exN s = hor (exU s) := if_pos h
theorem exN_f {s : List Nat} (h : ¬ exOk s) : exN s = 0 := if_neg h
theorem exU_t {s : List Nat} (h : s.drop 1 ≠ [] ∧ ((s.drop 1).getD 0 0 = 43 ∨ (s.drop 1).getD 0 0 = 45)) : exU s = (s.drop 1).drop 1 := if_pos h
theorem exU_f {s : List Nat} (h : ¬ (s.drop 1 ≠ [] ∧ ((s.drop 1).getD 0 0 = 43 ∨ (s.drop 1).getD 0 0 = 45))) : exU s = s.drop 1 := if_neg h

theorem perr_take {s : List Nat} (hl : s.length ≤ 4096) : perr (s.take (digs s)) = if digs s = 0 then 4 else 0 := by
  have h1 := digs_le s
  have h2 : (s.take (digs s)).length = digs s := by rw [List.length_take]; omega
  unfold perr
  rw [h2, if_neg (by omega), digs_digB, if_pos rfl]
theorem pval_take {s : List Nat} (hl : s.length ≤ 4096) : pval (s.take (digs s)) = hor (s.take (digs s)) := by
  have h1 := digs_le s
  have h2 : (s.take (digs s)).length = digs s := by rw [List.length_take]; omega
  unfold pval
  rw [h2, if_neg (by omega), digs_digB, if_pos rfl]
theorem err4 {p : Prop} [Decidable p] : (if p then 4 else 0 : Int) ≠ 0 ↔ p := by
  by_cases h : p
  · simp [h]
  · simp [h]
theorem perr_ne {b : List Nat} (hl : b.length ≤ 4096) : perr b ≠ 0 ↔ (b = [] ∨ digs b ≠ b.length) := by
  rw [show digs b ≠ b.length ↔ ¬ digB b = true from not_congr digs_all]
  by_cases h1 : b = []
  · subst h1; simp [perr]
  · have h2 := List.length_pos_iff.2 h1
    by_cases h3 : digB b = true
    · rw [(parse_ok hl (by omega) h3).1]; simp [h1, h3]
    · rw [(parse_bad hl (by omega) (by simpa using h3)).1]; simp [h1, h3]
theorem pval_dig {b : List Nat} (hl : b.length ≤ 4096) (h : digB b = true) : pval b = hor b := by
  unfold pval; rw [if_neg (by omega), if_pos h]
theorem perr_dig {b : List Nat} (hl : b.length ≤ 4096) (h0 : b ≠ []) (h : digB b = true) : perr b = 0 := (parse_ok hl (by have := List.length_pos_iff.2 h0; omega) h).1
theorem digB_app {a b : List Nat} (ha : digB a = true) (hb : digB b = true) : digB (a ++ b) = true := by
  simp only [digB, List.all_append, Bool.and_eq_true] at *
  exact ⟨ha, hb⟩

theorem fin2_none {s : Prop} {b : List Nat} (h : digs b = 0) : fin2 s b = (4, 0) := if_pos h
theorem fin2_slash_bad {s : Prop} {b r : List Nat} (h : digs b ≠ 0) (hr : r = b.drop (digs b)) (h1 : slash r) (h2 : r.drop 1 = [] ∨ digs (r.drop 1) ≠ (r.drop 1).length) : fin2 s b = (4, 0) := by
  subst hr; unfold fin2; rw [if_neg h, if_pos h1, if_pos h2]
theorem fin2_slash_zero {s : Prop} {b r : List Nat} (h : digs b ≠ 0) (hr : r = b.drop (digs b)) (h1 : slash r) (h2 : ¬ (r.drop 1 = [] ∨ digs (r.drop 1) ≠ (r.drop 1).length)) (h3 : hor (r.drop 1) = 0) : fin2 s b = (3, 0) := by
  subst hr; unfold fin2; rw [if_neg h, if_pos h1, if_neg h2, if_pos h3]
theorem fin2_slash {s : Prop} {b r : List Nat} (h : digs b ≠ 0) (hr : r = b.drop (digs b)) (h1 : slash r) (h2 : ¬ (r.drop 1 = [] ∨ digs (r.drop 1) ≠ (r.drop 1).length)) (h3 : hor (r.drop 1) ≠ 0) : fin2 s b = fin3 s (hor (b.take (digs b))) (hor (r.drop 1)) [] := by
  subst hr; unfold fin2; rw [if_neg h, if_pos h1, if_neg h2, if_neg h3]
theorem fin2_dot_bad {s : Prop} {b r : List Nat} (h : digs b ≠ 0) (hr : r = b.drop (digs b)) (h0 : ¬ slash r) (h1 : dot r) (h2 : digs (r.drop 1) = 0) : fin2 s b = (4, 0) := by
  subst hr; unfold fin2; rw [if_neg h, if_neg h0, if_pos h1, if_pos h2]
theorem fin2_dot {s : Prop} {b r : List Nat} (h : digs b ≠ 0) (hr : r = b.drop (digs b)) (h0 : ¬ slash r) (h1 : dot r) (h2 : digs (r.drop 1) ≠ 0) : fin2 s b = fin3 s (hor (b.take (digs b) ++ (r.drop 1).take (digs (r.drop 1)))) (10 ^ digs (r.drop 1)) (r.drop (digs (r.drop 1) + 1)) := by
  subst hr; unfold fin2; rw [if_neg h, if_neg h0, if_pos h1, if_neg h2]
theorem fin2_plain {s : Prop} {b r : List Nat} (h : digs b ≠ 0) (hr : r = b.drop (digs b)) (h0 : ¬ slash r) (h1 : ¬ dot r) : fin2 s b = fin3 s (hor (b.take (digs b))) 1 r := by
  subst hr; unfold fin2; rw [if_neg h, if_neg h0, if_neg h1]
theorem fin3_nil (s : Prop) (n d : Nat) : fin3 s n d [] = fin4 s n d := if_pos rfl
theorem fin3_bad {s : Prop} {n d : Nat} {r : List Nat} (h : r ≠ []) (h1 : ¬ exOk r) : fin3 s n d r = (4, 0) := by unfold fin3; rw [if_neg h, if_neg h1]
theorem fin3_down {s : Prop} {n d : Nat} {r : List Nat} (h : r ≠ []) (h1 : exOk r) (h2 : exDown r) : fin3 s n d r = fin4 s n (d * 10 ^ exN r) := by unfold fin3; rw [if_neg h, if_pos h1, if_pos h2]
theorem fin3_up {s : Prop} {n d : Nat} {r : List Nat} (h : r ≠ []) (h1 : exOk r) (h2 : ¬ exDown r) : fin3 s n d r = fin4 s (n * 10 ^ exN r) d := by unfold fin3; rw [if_neg h, if_pos h1, if_neg h2]
theorem fin4_big {s : Prop} {n d : Nat} (h : (2048 : Int) < bitsQ (mkRat (sg s n) d)) : fin4 s n d = (2, 0) := if_pos h
theorem fin4_ok {s : Prop} {n d : Nat} (h : ¬ (2048 : Int) < bitsQ (mkRat (sg s n) d)) : fin4 s n d = (0, mkRat (sg s n) d) := if_neg h
theorem parQ_big {bs : List Nat} (h : (4096 : Int) < ↑bs.length) : parQ bs = (2, 0) := if_pos (by omega)
theorem parQ_fin {bs : List Nat} (h : ¬ (4096 : Int) < ↑bs.length) : parQ bs = fin2 (parNeg bs) (parBody bs) := if_neg (by omega)
theorem lenpos {bs : List Nat} : (0 : Int) < ↑bs.length ↔ bs ≠ [] := by
  rw [← List.length_pos_iff]; omega
theorem slash_iff {r : List Nat} : ((0 : Int) < ↑r.length ∧ r.getD 0 0 = 47) ↔ slash r := by rw [lenpos]; rfl
theorem dot_iff {r : List Nat} : ((0 : Int) < ↑r.length ∧ r.getD 0 0 = 46) ↔ dot r := by rw [lenpos]; rfl
theorem slash_bad {r : List Nat} (h : (↑(digs (r.drop 1)) : Int) = 0 ∨ (↑(digs (r.drop 1)) : Int) + 1 ≠ ↑r.length) (h0 : slash r) : r.drop 1 = [] ∨ digs (r.drop 1) ≠ (r.drop 1).length := by
  have h1 := List.length_pos_iff.2 h0.1
  have h2 := List.length_drop (i := 1) (l := r)
  by_cases h3 : r.drop 1 = []
  · exact .inl h3
  · have := List.length_pos_iff.2 h3
    exact .inr (by omega)
theorem slash_good {r : List Nat} (h : ¬ ((↑(digs (r.drop 1)) : Int) = 0 ∨ (↑(digs (r.drop 1)) : Int) + 1 ≠ ↑r.length)) (h0 : slash r) : ¬ (r.drop 1 = [] ∨ digs (r.drop 1) ≠ (r.drop 1).length) := by
  have h1 := List.length_pos_iff.2 h0.1
  have h2 := List.length_drop (i := 1) (l := r)
  rintro (h3 | h3)
  · rw [h3] at h; exact h (.inl rfl)
  · exact h (.inr (by omega))
theorem exp_bad3 {s : List Nat} (h : s.getD 0 0 ≠ 69 ∧ s.getD 0 0 ≠ 101) : ¬ exOk s := fun e => e.1.elim h.2 h.1
theorem exp_bad4 {s u : List Nat} (hu : exU s = u) (h : ((↑(digs u) : Int) < 1 ∨ 3 < (↑(digs u) : Int)) ∨ (↑(digs u) : Int) ≠ ↑u.length) : ¬ exOk s := by
  rintro ⟨_, h1, h2, h3⟩
  rw [hu] at h1 h2 h3
  have := List.length_pos_iff.2 h1
  omega
theorem exp_ok4 {s u : List Nat} (h0 : ¬ (s.getD 0 0 ≠ 69 ∧ s.getD 0 0 ≠ 101)) (hu : exU s = u) (h : ¬ (((↑(digs u) : Int) < 1 ∨ 3 < (↑(digs u) : Int)) ∨ (↑(digs u) : Int) ≠ ↑u.length)) : exOk s := by
  refine ⟨by omega, ?_, ?_, ?_⟩
  · rw [hu, ← List.length_pos_iff]; omega
  · rw [hu]; omega
  · rw [hu]; omega
theorem exDown_iff {s : List Nat} : ((0 : Int) < ↑(s.drop 1).length ∧ (s.drop 1).getD 0 0 = 45) ↔ exDown s := by rw [lenpos]; rfl
theorem exU_t' {s : List Nat} (h : ((0 : Int) < ↑(s.drop 1).length ∧ (s.drop 1).getD 0 0 = 45) ∨ ((0 : Int) < ↑(s.drop 1).length ∧ (s.drop 1).getD 0 0 = 43)) : exU s = (s.drop 1).drop 1 := by
  rw [lenpos] at h
  exact exU_t (h.elim (fun h => ⟨h.1, .inr h.2⟩) (fun h => ⟨h.1, .inl h.2⟩))
theorem exU_f' {s : List Nat} (h : ¬ (((0 : Int) < ↑(s.drop 1).length ∧ (s.drop 1).getD 0 0 = 45) ∨ ((0 : Int) < ↑(s.drop 1).length ∧ (s.drop 1).getD 0 0 = 43))) : exU s = s.drop 1 := by
  rw [lenpos] at h
  exact exU_f (fun e => h (e.2.elim (fun e2 => .inr ⟨e.1, e2⟩) (fun e2 => .inl ⟨e.1, e2⟩)))
theorem hor_dot {a b : List Nat} {n : Nat} (h : b.length = n) : hor a * 10 ^ n + hor b = hor (a ++ b) := by rw [hor_app, h]
theorem fin4_lq {s : Prop} {n d : Nat} (h : bitsQ (mkRat (sg s n) d) ≤ 2048) : lq (mkRat (sg s n) d) ≤ 65 := by
  generalize mkRat (sg s n) d = q at *
  unfold bitsQ at h
  have h1 := lt_pow_bitsN q.num.natAbs
  have h2 := lt_pow_bitsN q.den
  have e : (4294967296 : Nat) ^ 64 = 2 ^ (32 * 64) := (Nat.pow_mul 2 32 64).symm
  have h3 := Nat.pow_le_pow_right (n := 2) (by omega) (show bitsN q.num.natAbs ≤ 32 * 64 by omega)
  have h4 := Nat.pow_le_pow_right (n := 2) (by omega) (show bitsN q.den ≤ 32 * 64 by omega)
  have h5 := limbs_len_of_lt (n := q.num.natAbs) (k := 64) (by rw [e]; omega)
  have h6 := limbs_len_of_lt (n := q.den) (k := 64) (by rw [e]; omega)
  unfold lq
  omega
theorem lq_fin4 (s : Prop) (n d : Nat) : lq (fin4 s n d).2 ≤ 65 := by
  unfold fin4
  split
  · show lq 0 ≤ 65; rw [lq_zero]; omega
  · exact fin4_lq (by omega)
theorem lq_fin3 (s : Prop) (n d : Nat) (r : List Nat) : lq (fin3 s n d r).2 ≤ 65 := by
  have h0 : lq (0 : Rat) ≤ 65 := by rw [lq_zero]; omega
  unfold fin3
  split
  · exact lq_fin4 _ _ _
  · split
    · split <;> exact lq_fin4 _ _ _
    · exact h0
theorem lq_par (bs : List Nat) : lq (parQ bs).2 ≤ 65 := by
  have h0 : lq (0 : Rat) ≤ 65 := by rw [lq_zero]; omega
  unfold parQ
  split
  · exact h0
  · generalize parBody bs = b
    generalize parNeg bs = s
    unfold fin2
    split
    · exact h0
    · split
      · split
        · exact h0
        · split
          · exact h0
          · exact lq_fin3 _ _ _ _
      · split
        · split
          · exact h0
          · exact lq_fin3 _ _ _ _
        · exact lq_fin3 _ _ _ _
end Bk

namespace Go.Proofs.Ytfpjclgbieppeaa
open Bk Go
set_option linter.unusedVariables false
set_option linter.unusedSimpArgs false
set_option maxRecDepth 10000

end Go.Proofs.Ytfpjclgbieppeaa

namespace Bk
set_option linter.unusedVariables false
set_option linter.unusedSimpArgs false
open Go Go.RowKit
open Classical

/-! ### Aggregates of rational numbers -/

/-- The cells of rational numbers. -/
def RatsC (h : Mem) : List Value → List Rat → Prop
  | cs, [] => cs = []
  | cs, q :: qs => ∃ vn vd rest, cs = vB (q.num < 0) :: vn :: vd :: rest ∧ Us .u32 h vn (limbs q.num.natAbs) ∧ Us .u32 h vd (limbs (denN q.den)) ∧ RatsC h rest qs
/-- A value of rational numbers. -/
def IsRats (h : Mem) (v : Value) (qs : List Rat) : Prop := ∃ cs, v = .agg cs.toArray ∧ RatsC h cs qs

theorem RatsC.mono {h h' : Mem} (hh : MLe h h') : ∀ {qs : List Rat} {cs : List Value}, RatsC h cs qs → RatsC h' cs qs
  | [], _, r => r
  | _ :: _, _, ⟨vn, vd, rest, e, h1, h2, r⟩ => ⟨vn, vd, rest, e, h1.mono hh, h2.mono hh, r.mono hh⟩
theorem IsRats.mono {h h' : Mem} {v : Value} {qs : List Rat} (s : IsRats h v qs) (hh : MLe h h') : IsRats h' v qs := by
  obtain ⟨cs, e, r⟩ := s
  exact ⟨cs, e, r.mono hh⟩
theorem RatsC.len {h : Mem} : ∀ {qs : List Rat} {cs : List Value}, RatsC h cs qs → cs.length = 3 * qs.length
  | [], _, r => by rw [r]; rfl
  | _ :: qs, _, ⟨vn, vd, rest, e, _, _, r⟩ => by rw [e]; simp only [List.length_cons]; have := r.len; omega
theorem RatsC.oneCell {h : Mem} : ∀ {qs : List Rat} {cs : List Value}, RatsC h cs qs → cs.all (·.oneCell') = true
  | [], _, r => by rw [r]; rfl
  | _ :: qs, _, ⟨vn, vd, rest, e, h1, h2, r⟩ => by
    rw [e, List.all_cons, List.all_cons, List.all_cons, h1.oneCell, h2.oneCell, r.oneCell]; rfl
theorem RatsC.append {h : Mem} : ∀ {qs ps : List Rat} {cs ds : List Value}, RatsC h cs qs → RatsC h ds ps → RatsC h (cs ++ ds) (qs ++ ps)
  | [], _, _, _, r, s => by rw [r]; exact s
  | _ :: _, _, _, _, ⟨vn, vd, rest, e, h1, h2, r⟩, s => ⟨vn, vd, _, by rw [e]; rfl, h1, h2, r.append s⟩
theorem RatsC.drop {h : Mem} : ∀ {qs : List Rat} {cs : List Value} (a : Nat), RatsC h cs qs → RatsC h (cs.drop (3 * a)) (qs.drop a)
  | qs, cs, 0, r => r
  | [], cs, a + 1, r => by rw [r]; simp [RatsC]
  | _ :: qs, cs, a + 1, ⟨vn, vd, rest, e, h1, h2, r⟩ => by
    rw [e, show 3 * (a + 1) = 3 * a + 3 by omega]
    exact r.drop a
theorem RatsC.take {h : Mem} : ∀ {qs : List Rat} {cs : List Value} (a : Nat), RatsC h cs qs → RatsC h (cs.take (3 * a)) (qs.take a)
  | qs, cs, 0, r => by simp [RatsC]
  | [], cs, a + 1, r => by rw [r]; simp [RatsC]
  | _ :: qs, cs, a + 1, ⟨vn, vd, rest, e, h1, h2, r⟩ => by
    rw [e, show 3 * (a + 1) = 3 * a + 3 by omega]
    exact ⟨vn, vd, _, rfl, h1, h2, r.take a⟩

/-! ### Loops, round by round -/
section
variable {P : Program} {n : Nat} {w0 : World} {h0 : Mem} {e : List (Nat × Value)} {L : List Res} {h : Mem} {Q : Exit → Act → World → Prop}
variable {ds : Option Tmp} {ty : TypeId} {ps : String} {af : Array Edge} {gd : Option (Nat × Bool)}

/-- A loop's body is about to run, and all goes well. -/
def LoopW (P : Program) (c : Code) (Q : Exit → Act → World → Prop) (a : Act) (w : World) : Prop :=
  ∀ (b : Frame) (k : List Item) (cs : List Frame), ∃ x a' w', Q x a' w' ∧ Arrives P (lone (b.at a (.code c :: .inLoop c :: k)) cs w) b k cs x a' w'

theorem loopW_of {c : Code} {a : Act} {w : World} (hw : c.wp P (Exit.then (LoopW P c Q) Q) a w) : LoopW P c Q a w := by
  intro b k cs
  obtain ⟨x, a1, w1, hq, harr⟩ := hw b (.inLoop c :: k) cs
  cases x with
  | normal =>
    obtain ⟨x2, a2, w2, hq2, harr2⟩ := hq b k cs
    exact ⟨x2, a2, w2, hq2, .of_steps (Steps.trans harr (.one step_inLoop)) harr2⟩
  | exit id => exact ⟨_, a1, w1, hq, .pass (x := .inLoop c) rfl (fun _ _ => .inl (by simp)) harr⟩
  | goto l => exact ⟨_, a1, w1, hq, .pass (x := .inLoop c) rfl (fun _ _ => .inl (by simp)) harr⟩
  | ret => exact ⟨_, a1, w1, hq, .pass (x := .inLoop c) rfl (fun _ _ => .inl (by simp)) harr⟩
  | panic ch => exact ⟨_, a1, w1, hq, .pass (x := .inLoop c) rfl (fun _ _ => .inl (by simp)) harr⟩
  | outgrown => exact ⟨_, a1, w1, hq, .pass (x := .inLoop c) rfl (fun _ _ => .inl (by simp)) harr⟩
/-- The first round. -/
theorem gc_loop1 {c : Code} (k : GC P n w0 h0 c (Exit.then (LoopW P c Q) Q) e L h) : GC P n w0 h0 (.loop c) Q e L h := by
  intro a w E S b k' cs
  obtain ⟨x, a', w', hq, harr⟩ := loopW_of (k a w E S) b k' cs
  exact ⟨x, a', w', hq, .of_steps (.one step_loop) harr⟩
/-- Another round. -/
theorem gq_loop1 {c : Code} (k : GC P n w0 h0 c (Exit.then (LoopW P c Q) Q) e L h) : GQ n w0 h0 (Exit.then (LoopW P c Q) Q) .normal e L h :=
  fun a w E S => loopW_of (k a w E S)

/-- A value, written otherwise. -/
theorem OpV.cv {o : Oper} {v v' : Value} (hv : OpV P n w0 h0 o e L h v) (e' : v = v') : OpV P n w0 h0 o e L h v' := e' ▸ hv
end
end Bk

namespace Bk
set_option linter.unusedVariables false
set_option linter.unusedSimpArgs false
open Go Go.RowKit
section
variable {P : Program} {n : Nat} {w0 : World} {h0 : Mem} {e : List (Nat × Value)} {L : List Res} {h : Mem}
variable {ds : Option Tmp} {ty : TypeId} {ps : String} {af : Array Edge} {gd : Option (Nat × Bool)}

/-- A pointer that is none of nil. -/
theorem ov_nilcheck {x : Operand} {b k : Nat} (hx : evalO e x = some (vP b k)) : OpV P n w0 h0 ⟨ds, .nilCheck x, ty, ps, af, gd⟩ e L h (vP b k) := by
  intro a w Ev S
  simp [execOp, Ev.eval hx]
/-- The address of an element of an array. -/
theorem ov_index_arr {t E : TypeId} {x y : Operand} {b k m sz : Nat} {q : Int} (i : Nat) (ht : P.underlying t = some (.array m E)) (hsz : ∀ w, (Go.sizeOf E).run P w = .ok sz w) (hx : evalO e x = some (vP b k)) (hy : evalO e y = some (vI q)) (hq : q = (i : Int)) (hi : i < m) :
    OpV P n w0 h0 ⟨ds, .indexAddr t x y, ty, ps, af, gd⟩ e L h (vP b (k + i * sz)) := by
  subst hq
  intro a w Ev S
  simp [execOp, Ev.eval hx, Ev.eval hy, Instr.indexAt, vI, asIntOf, run_underlying ht, hsz, Instr.sureAddr, hi, addr_add]
/-- An array is built. -/
theorem ov_build_arr {t E : TypeId} {m sz : Nat} {i : TypeInfo} {z : Value} {parts : List (Nat × Operand)} {ps' : List (Nat × Value)} {vs : List Value} (ht : P.underlying t = some (.array m E)) (hi : P.info? t = some i) (hz : i.zero = some z)
    (hsz : ∀ w, (Go.sizeOf E).run P w = .ok sz w) (hp : PartsV e parts ps') (hf : Instr.fill (fun i => some (i * sz, sz)) z.cells ps' = some vs.toArray) :
    OpV P n w0 h0 ⟨ds, .build t parts.toArray, ty, ps, af, gd⟩ e L h (.agg vs.toArray) := by
  intro a w Ev S
  have hpa : (parts.toArray.map fun (p : Nat × Operand) => (p.1, a.eval p.2)).toList = ps' := by
    rw [List.map_toArray]
    exact hp.eval Ev
  have hz' : (zeroValue t).run P w = .ok z w := by simp [zeroValue, typeInfo, hi, hz]
  simp only [execOp, Instr.build]
  rw [show (parts.toArray.map fun (i, x) => (i, a.eval x)).toList = ps' from hpa]
  simp only [Sem.run_bind, hz', Result.andThen_ok, run_underlying ht, hsz, hf]
  rfl
theorem part_agg {E : TypeId} {d : TypeDesc} {sz off : Nat} {cs vs : List Value} (hu : P.underlying E = some d) (hd : d.isRow = true) (hsz : ∀ w, (Go.sizeOf E).run P w = .ok sz w) (hv : (cs.drop off).take sz = vs) (w : World) : (part E cs.toArray off).run P w = .ok (.agg vs.toArray) w := by
  have h1 : (isAgg E).run P w = .ok true w := by
    simp only [isAgg, Sem.run_bind, run_underlying hu, Result.andThen_ok]
    cases d <;> simp [TypeDesc.isRow] at hd <;> rfl
  simp only [part, Sem.run_bind, h1, Result.andThen_ok, hsz, if_true]
  subst hv
  simp [Sem.run, List.extract_toArray, List.extract_eq_take_drop, List.take_drop]
/-- An element of an array's value. -/
theorem ov_index_agg {t E : TypeId} {x y : Operand} {m sz : Nat} {q : Int} {cs : List Value} {v : Value} (i : Nat) (ht : P.underlying t = some (.array m E)) (hsz : ∀ w, (Go.sizeOf E).run P w = .ok sz w) (hx : evalO e x = some (.agg cs.toArray)) (hy : evalO e y = some (vI q)) (hq : q = (i : Int)) (hi : i < m)
    (hv : ∀ w, (part E cs.toArray (i * sz)).run P w = .ok v w) : OpV P n w0 h0 ⟨ds, .index t x y, ty, ps, af, gd⟩ e L h v := by
  subst hq
  intro a w Ev S
  have h3 : (0 : Int) ≤ (i : Int) ∧ (i : Int) < (m : Int) := by omega
  simp [execOp, Ev.eval hx, Ev.eval hy, Instr.index, vI, asIntOf, run_underlying ht, hsz, hi, hv]
end
end Bk

namespace Bk
set_option linter.unusedVariables false
set_option linter.unusedSimpArgs false
open Go Go.RowKit
open Classical

/-- A slice of ints. -/
structure Is (h : Mem) (v : Value) (xs : List Int) : Prop where
  sl : Sl h 1 v xs.length (xs.map vI)
  rng : ∀ x ∈ xs, -9223372036854775808 ≤ x ∧ x < 9223372036854775808
theorem Is.mono {h h' : Mem} {v : Value} {xs : List Int} (s : Is h v xs) (hh : MLe h h') : Is h' v xs := ⟨s.sl.mono hh, s.rng⟩
theorem Is.nil (h : Mem) : Is h (.slice none 0 0) [] := ⟨Sl.nil h 1, by simp⟩
theorem Is.one {h : Mem} {v : Value} {xs : List Int} (s : Is h v xs) : ∃ a cap, v = .slice a xs.length cap := s.sl.one
theorem Is.lt63 {h : Mem} {v : Value} {xs : List Int} (s : Is h v xs) : xs.length < 9223372036854775808 := s.sl.lt63
theorem Is.get {h : Mem} {v : Value} {xs : List Int} (s : Is h v xs) (i : Nat) : -9223372036854775808 ≤ xs.getD i 0 ∧ xs.getD i 0 < 9223372036854775808 := by
  by_cases hi : i < xs.length
  · rw [List.getD_eq_getElem?_getD, List.getElem?_eq_getElem hi]
    exact s.rng _ (List.getElem_mem hi)
  · rw [List.getD_eq_getElem?_getD, List.getElem?_eq_none (by omega)]
    exact ⟨by decide, by decide⟩
theorem Is.oneCell {h : Mem} {v : Value} {xs : List Int} (s : Is h v xs) : v.oneCell' = true := by
  obtain ⟨a, cap, rfl⟩ := s.one
  rfl
theorem Is.cells {h : Mem} {v : Value} {xs : List Int} (s : Is h v xs) : v.cells = [v].toArray := by
  obtain ⟨a, cap, rfl⟩ := s.one
  rfl
theorem oci {h : Mem} {v : Value} {xs : List Int} {cs : List Value} (s : Is h v xs) (r : cs.all (·.oneCell') = true) : (v :: cs).all (·.oneCell') = true := by
  rw [List.all_cons, s.oneCell, r]; rfl

theorem is_of_row {w : World} {a : Option Addr} {len cap : Nat} {zs : List Int}
    (h : (a = none ∧ len = 0 ∧ cap = 0 ∧ zs = []) ∨ ∃ x, a = some x ∧ len ≤ cap ∧ cap ≤ maxLen ∧ zs.length = cap ∧ (∀ i, i < zs.length → w.cell? (x.add i) = some (.int .i64 (zs.getD i 0))) ∧ ∀ n ∈ zs, (Lit.int .i64 n).wf = true) :
    ∃ xs : List Int, Is (mem w) (.slice a len cap) xs := by
  rcases h with ⟨rfl, rfl, rfl, rfl⟩ | ⟨x, rfl, h1, h2, h3, h4, h5⟩
  · exact ⟨[], Is.nil _⟩
  · refine ⟨zs.take len, ⟨?_, ?_⟩⟩
    · have hl : (zs.take len).length = len := by simp; omega
      rw [hl]
      refine ⟨_, cap, rfl, h1, h2, by simp; omega, fun i hi => ?_⟩
      have hi' : i < len := by simp at hi; omega
      have hc := h4 i (by omega)
      have hspot : (x.add 0).spot = none := World.cell?_spot (h4 0 (by omega))
      obtain ⟨b, o, sp⟩ := x
      simp [Addr.add] at hspot
      subst hspot
      refine ⟨b, o, rfl, ?_⟩
      rw [addr_add] at hc
      rw [cell_of_world hc, List.getElem?_map, List.getElem?_take, if_pos hi', List.getElem?_eq_getElem (by omega)]
      rw [List.getD_eq_getElem?_getD, List.getElem?_eq_getElem (by omega)]
      rfl
    · intro n hn
      exact int_of_wf (h5 n (List.mem_of_mem_take hn))

section
variable {P : Program} {n : Nat} {w0 : World} {h0 : Mem} {e : List (Nat × Value)} {L : List Res} {h : Mem} {Q : Exit → Act → World → Prop}
variable {ds : Option Tmp} {ty : TypeId} {ps : String} {af : Array Edge} {gd : Option (Nat × Bool)}

theorem ov_len_is {v : Value} {xs : List Int} {t E : TypeId} {x : Operand} (ht : P.underlying t = some (.slice E)) (hx : evalO e x = some v) (hv : Is h v xs) :
    OpV P n w0 h0 ⟨ds, .call { callee := .builtin .len, args := #[x], argTypes := #[t] }, ty, ps, af, gd⟩ e L h (vI (xs.length : Int)) := ov_len_sl ht hx hv.one
theorem ov_index_is {v : Value} {xs : List Int} {t E : TypeId} {x y : Operand} {q : Int} (i : Nat) (ht : P.underlying t = some (.slice E)) (hsz : ∀ w, (Go.sizeOf E).run P w = .ok 1 w) (hx : evalO e x = some v) (hy : evalO e y = some (vI q))
    (hv : Is h v xs) (hq : q = (i : Int)) (hi : i < xs.length) : OpV P n w0 h0 ⟨ds, .indexAddr t x y, ty, ps, af, gd⟩ e L h (elemPtr 1 v i) := ov_index i ht hsz hx hy hv.sl hq hi (by omega)
theorem ov_load_is {v : Value} {xs : List Int} {t : TypeId} {x : Operand} {i : Nat} (ha : ∀ w, (isAgg t).run P w = .ok false w) (hx : evalO e x = some (elemPtr 1 v i)) (hv : Is h v xs) (hi : i < xs.length) :
    OpV P n w0 h0 ⟨ds, .load t x, ty, ps, af, gd⟩ e L h (vI (xs.getD i 0)) :=
  ov_load1 ha hx hv.sl (by rw [List.getElem?_map, List.getElem?_eq_getElem hi, List.getD_eq_getElem?_getD, List.getElem?_eq_getElem hi]; rfl)
/-- The rest of a division, also of a negative number. -/
theorem ov_remt_i {t yt : TypeId} {x y : Operand} {p q : Int} (hx : evalO e x = some (vI p)) (hy : evalO e y = some (vI q)) (h3 : 0 < q) :
    OpV P n w0 h0 ⟨ds, .binOp .rem t x y yt, ty, ps, af, gd⟩ e L h (vI (p.tmod q)) := by
  intro a w E S
  have h7 : q ≠ 0 := by omega
  simp [execOp, E.eval hx, E.eval hy, vI, eqGuard_int, binOp, Op.intDiv, h7]
/-- A division, also of a negative number. -/
theorem ov_quot_i {t yt : TypeId} {x y : Operand} {p q : Int} (hx : evalO e x = some (vI p)) (hy : evalO e y = some (vI q)) (h1 : -9223372036854775808 ≤ p) (h2 : p < 9223372036854775808) (h3 : 0 < q) :
    OpV P n w0 h0 ⟨ds, .binOp .quo t x y yt, ty, ps, af, gd⟩ e L h (vI (p.tdiv q)) := by
  intro a w E S
  have h7 : q ≠ 0 := by omega
  have h4 : -9223372036854775808 ≤ p.tdiv q ∧ p.tdiv q < 9223372036854775808 := by
    rcases Int.le_total 0 p with hp | hp
    · rw [Int.tdiv_eq_ediv_of_nonneg hp]
      have h5 : 0 ≤ p / q := Int.ediv_nonneg hp (by omega)
      have h6 : p / q ≤ p := Int.ediv_le_self q hp
      omega
    · have h8 : (-p).tdiv q = (-p) / q := Int.tdiv_eq_ediv_of_nonneg (by omega)
      rw [Int.neg_tdiv] at h8
      have h5 : 0 ≤ (-p) / q := Int.ediv_nonneg (by omega) (by omega)
      have h6 : (-p) / q ≤ -p := Int.ediv_le_self q (by omega)
      omega
  simp [execOp, E.eval hx, E.eval hy, vI, eqGuard_int, binOp, Op.intDiv, h7, wrap_i (x := p.tdiv q) h4.1 h4.2]
end
/-- A call that changes one thing that is owned. -/
def RetMut (w0 : World) (h0 : Mem) (h : Mem) (L : List Res) (G : Mem → Value → Res → Prop) : Ending → World → Prop :=
  RetOwn w0 h0 (fun g v K => ∃ q', (q' :: L).Sublist K ∧ MLe h g ∧ G g v q')
section
variable {P : Program} {n : Nat} {w0 : World} {h0 : Mem} {e : List (Nat × Value)} {L : List Res} {h : Mem} {Q : Exit → Act → World → Prop}
variable {ty : TypeId} {ps : String} {af : Array Edge}
theorem gl_call_mut2 {ops : Array Oper} {rest : List Oper} {d f : Nat} {xs : List Operand} {ts : Array TypeId} {vs : List Value} {A B : List Res} {q : Res} {G : Mem → Value → Res → Prop} (hcall : ∀ args w, (callFunc f args).run P w = .ok (.enter f args) w) (hvs : Evals e xs vs)
    (hc : ∀ X w, St w0 h0 (q :: X) h w → Calls P f vs.toArray w (RetMut w0 h0 h X G)) (hn : Nat.ble (d + 1) n = true) (k : ∀ v g q', MLe h g → G g v q' → GL P n w0 h0 ops Q rest ((d, v) :: e) (A ++ q' :: B) g) :
    GL P n w0 h0 ops Q (⟨some d, .call { callee := .value (.func f), args := xs.toArray, argTypes := ts }, ty, ps, af, none⟩ :: rest) e (A ++ q :: B) h := by
  refine gl_front ?_
  refine gl_call_mut rfl rfl rfl hn hcall hvs (hc (A ++ B)) ?_
  rintro v g K ⟨q', hK, hle, hG⟩
  have := k v g q' hle hG
  exact fun a w Ev S => this a w Ev ((S.sublist hK).perm List.perm_middle.symm)
section
variable {ops : Array Oper} {R : List Res} {d : Nat}
theorem s_call_mut {W' : List (Nat × Value) → List Res → Mem → Prop} {f : Nat} {xs : List Operand} {ts : Array TypeId} {vs : List Value} {A B : List Res} {q : Res} {G : Mem → Value → Res → Prop} (hcall : ∀ args w, (callFunc f args).run P w = .ok (.enter f args) w) (hvs : Evals e xs vs)
    (hc : ∀ X w, St w0 h0 (q :: X) h w → Calls P f vs.toArray w (RetMut w0 h0 h X G)) (hn : Nat.ble (d + 1) n = true) (hR : ∀ r ∈ R, ∀ q', r ∈ A ++ q :: B → r ∈ A ++ q' :: B)
    (k : ∀ v g q', MLe h g → G g v q' → W' ((d, v) :: e) (A ++ q' :: B) g) :
    Step P n w0 h0 ops R ⟨some d, .call { callee := .value (.func f), args := xs.toArray, argTypes := ts }, ty, ps, af, none⟩ e (A ++ q :: B) h W' := by
  intro X a w E S
  have S1 : St w0 h0 (q :: (A ++ B ++ X)) h w := S.perm (by simp)
  unfold RunsTo
  rw [if_pos (wn rfl)]
  have hargs : xs.toArray.map a.eval = vs.toArray := by rw [List.map_toArray, E.evals hvs]
  have hr : (execOp a.eval ⟨some d, .call { callee := .value (.func f), args := xs.toArray, argTypes := ts }, ty, ps, af, none⟩).run P w = .ok (.enter f vs.toArray) w := by
    simp only [execOp, resolve, Act.eval]
    simp [Deferred.ofValue, invoke, hcall, hargs]
  rw [hr]
  refine (hc _ w S1).mono ?_
  rintro e' w' ⟨v, g, K, rfl, ⟨q', hK, hle, hG⟩, S'⟩
  have S2 : St w0 h0 (A ++ q' :: B ++ X) g w' := (S'.sublist hK).perm (by simpa using List.perm_middle.symm)
  exact ⟨v, rfl, fun d' hd => (by cases hd; exact Nat.le_of_ble_eq_true hn), A ++ q' :: B, g, hle, fun hh r hr => hR r hr q' (hh r hr), S2, k v g q' hle hG⟩
theorem mem_skip {A B : List Res} {q : Res} : ∀ r ∈ A ++ B, r ∈ A ++ q :: B := by
  intro r hr
  simp only [List.mem_append, List.mem_cons] at hr ⊢
  rcases hr with h | h
  · exact .inl h
  · exact .inr (.inr h)
theorem gc_draw1 {Q : Exit → Act → World → Prop} {id : Nat} {l : List Oper} {A B : List Res} {q : Res} (m : Nat) (al : Als) (ord : List (Nat × Kd)) (hm : P.follows .mixedOrders = true) (hal : AlOk P n al)
    (hchk : (Region.noSelect l.toArray && chkAl l.toArray al && (al.all fun x => decide (x.1 < m)) && chk l.toArray m ord (Array.replicate l.length false) (al.map (·.1))) = true) (hae : ∀ x ∈ al, al.lookup x.1 = some x.2 ∧ e.lookup x.2.1 = none)
    (k : W P n w0 h0 l.toArray Q (A ++ B) al ord e (A ++ q :: B) h) : GC P n w0 h0 (.region id l.toArray true) Q e (A ++ q :: B) h := gc_draw m (A ++ B) al ord hm hal hchk hae mem_skip k
theorem mem_kept {R A B : List Res} {q : Res} (hR : ∀ r ∈ R, r ∈ A ++ B) : ∀ r ∈ R, ∀ q', r ∈ A ++ q :: B → r ∈ A ++ q' :: B := fun r hr q' _ => mem_skip r (hR r hr)
end
end
/-- A number from 0 on. -/
def modZ (p q : Int) : Int := if p.tmod q < 0 then p.tmod q + q else p.tmod q
theorem tmod_range (p : Int) {q : Int} (hq : 0 < q) : -q < p.tmod q ∧ p.tmod q < q := by
  have h1 := Int.tmod_lt_of_pos p hq
  have h2 := Int.tmod_lt_of_pos (-p) hq
  rw [Int.neg_tmod] at h2
  omega
theorem modZ_range (p : Int) {q : Int} (hq : 0 < q) : 0 ≤ modZ p q ∧ modZ p q < q := by
  have := tmod_range p hq
  unfold modZ
  split <;> omega
/-- A part of a whole. -/
def partN (n : Int) : Int := 1 + modZ (n.tdiv 17) 12
noncomputable def partQ (n : Int) : Rat := makeQ (modZ n (partN n + 1)) (partN n)
end Bk
