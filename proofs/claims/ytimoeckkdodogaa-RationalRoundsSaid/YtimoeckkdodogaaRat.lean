/- Rational numbers: a number with a sign, limbs above and limbs below, and what it stands for. -/
import Derived.Test.YtimoeckkdodogaaBox
import Derived.Test.YtimoeckkdodogaaTxt
namespace Bk
set_option linter.unusedVariables false
set_option linter.unusedSimpArgs false
open Go Go.RowKit
open Classical

/-- A number with a sign. -/
noncomputable def sg (s : Prop) (n : Nat) : Int := if s then -(n : Int) else n
theorem sg_t {s : Prop} (h : s) (n : Nat) : sg s n = -(n : Int) := if_pos h
theorem sg_f {s : Prop} (h : ¬ s) (n : Nat) : sg s n = n := if_neg h
theorem sg_natAbs (s : Prop) (n : Nat) : (sg s n).natAbs = n := by
  by_cases h : s
  · rw [sg_t h]; omega
  · rw [sg_f h]; omega
theorem sg_zero (s : Prop) : sg s 0 = 0 := by
  by_cases h : s
  · rw [sg_t h]; omega
  · rw [sg_f h]; omega
theorem sg_neg (s : Prop) (n : Nat) : sg s n < 0 ↔ s ∧ n ≠ 0 := by
  by_cases h : s
  · rw [sg_t h]; exact ⟨fun h1 => ⟨h, by omega⟩, fun h1 => by omega⟩
  · rw [sg_f h]; exact ⟨fun h1 => by omega, fun h1 => absurd h1.1 h⟩
theorem sg_div (s : Prop) {n g : Nat} (h : g ∣ n) : sg s n / (g : Int) = sg s (n / g) := by
  by_cases hs : s
  · rw [sg_t hs, sg_t hs]
    obtain ⟨k, rfl⟩ := h
    rcases Nat.eq_zero_or_pos g with h0 | h0
    · subst h0; simp
    · rw [Nat.mul_div_cancel_left _ h0, Int.natCast_mul, ← Int.mul_neg, Int.mul_ediv_cancel_left _ (by omega)]
  · rw [sg_f hs, sg_f hs]; omega
theorem sg_num (q : Rat) : sg (q.num < 0) q.num.natAbs = q.num := by
  by_cases h : q.num < 0
  · rw [sg_t h]; omega
  · rw [sg_f h]; omega

/-- The limbs below. -/
def denN (d : Nat) : Nat := if d = 1 then 0 else d
theorem denN_one : denN 1 = 0 := rfl
theorem denN_ne {d : Nat} (h : d ≠ 1) : denN d = d := if_neg h
theorem denL_nil_iff {d : Nat} (h0 : d ≠ 0) : limbs (denN d) = [] ↔ d = 1 := by
  by_cases h : d = 1
  · subst h; rw [denN_one, limbs_zero]; simp
  · rw [denN_ne h]
    exact ⟨fun e => by have := limbs_len_pos.2 h0; rw [e] at this; simp at this, fun e => absurd e h⟩
theorem denL_den (q : Rat) : (if limbs (denN q.den) = [] then [1] else limbs (denN q.den)) = limbs q.den := by
  by_cases h : q.den = 1
  · rw [if_pos ((denL_nil_iff q.den_nz).2 h), h, limbs_one (by omega) (by omega)]
  · rw [if_neg (fun e => h ((denL_nil_iff q.den_nz).1 e)), denN_ne h]
/-- v is the valid number q. -/
def IsRat (h : Mem) (v : Value) (q : Rat) : Prop := ∃ vn vd, v = .agg #[vB (q.num < 0), vn, vd] ∧ Us .u32 h vn (limbs q.num.natAbs) ∧ Us .u32 h vd (limbs (denN q.den))

theorem zb : vB ((0 : Rat).num < 0) = .bool false := vB_false (by decide)
theorem us_zero_num (h : Mem) : Us .u32 h (.slice none 0 0) (limbs (0 : Rat).num.natAbs) := by
  have : limbs (0 : Rat).num.natAbs = [] := limbs_zero
  rw [this]; exact Us.nil _ _
theorem us_zero_den (h : Mem) : Us .u32 h (.slice none 0 0) (limbs (denN (0 : Rat).den)) := by
  have : limbs (denN (0 : Rat).den) = [] := limbs_zero
  rw [this]; exact Us.nil _ _
theorem IsRat.zero (h : Mem) : IsRat h (.agg #[vB ((0 : Rat).num < 0), .slice none 0 0, .slice none 0 0]) 0 := ⟨_, _, rfl, us_zero_num _, us_zero_den _⟩

/-- The lowest terms. -/
theorem mkRat_num {s : Prop} {n d : Nat} (hd : d ≠ 0) : (mkRat (sg s n) d).num = sg s (n / Nat.gcd n d) := by
  rw [Rat.num_mkRat, if_neg hd, sg_natAbs, Nat.gcd_comm]
  exact sg_div s (Nat.gcd_dvd_left n d)
theorem mkRat_den {s : Prop} {n d : Nat} (hd : d ≠ 0) : (mkRat (sg s n) d).den = d / Nat.gcd n d := by
  rw [Rat.den_mkRat, if_neg hd, sg_natAbs, Nat.gcd_comm]

theorem IsRat.make {h : Mem} {s : Prop} {n d : Nat} {vn vd : Value} (hn0 : n ≠ 0) (hd0 : d ≠ 0) (hn : Us .u32 h vn (limbs (n / Nat.gcd n d))) (hd : Us .u32 h vd (limbs (denN (d / Nat.gcd n d)))) : IsRat h (.agg #[vB s, vn, vd]) (mkRat (sg s n) d) := by
  have hg : n / Nat.gcd n d ≠ 0 := by
    have h1 := Nat.gcd_dvd_left n d
    have h2 := Nat.gcd_pos_of_pos_left d (Nat.pos_of_ne_zero hn0)
    exact Nat.ne_of_gt (Nat.div_pos (Nat.le_of_dvd (Nat.pos_of_ne_zero hn0) h1) h2)
  refine ⟨vn, vd, ?_, ?_, ?_⟩
  · have : vB ((mkRat (sg s n) d).num < 0) = vB s := by
      rw [mkRat_num hd0]
      exact vB_iff ⟨fun h => ((sg_neg _ _).1 h).1, fun h => (sg_neg _ _).2 ⟨h, hg⟩⟩
    rw [this]
  · rw [mkRat_num hd0, sg_natAbs]; exact hn
  · rw [mkRat_den hd0]; exact hd

noncomputable def absQ (q : Rat) : Rat := if q.num < 0 then -q else q
theorem absQ_num (q : Rat) : (absQ q).num = q.num.natAbs := by
  unfold absQ
  by_cases h : q.num < 0
  · rw [if_pos h, Rat.neg_num]; omega
  · rw [if_neg h]; omega
theorem absQ_den (q : Rat) : (absQ q).den = q.den := by
  unfold absQ
  by_cases h : q.num < 0
  · rw [if_pos h, Rat.neg_den]
  · rw [if_neg h]
theorem IsRat.abs {h : Mem} {q : Rat} {vn vd : Value} (hn : Us .u32 h vn (limbs q.num.natAbs)) (hd : Us .u32 h vd (limbs (denN q.den))) : IsRat h (.agg #[.bool false, vn, vd]) (absQ q) := by
  refine ⟨vn, vd, ?_, ?_, ?_⟩
  · rw [vB_false (by rw [absQ_num]; omega)]
  · rw [absQ_num]; exact hn
  · rw [absQ_den]; exact hd
theorem IsRat.negB {h : Mem} {q : Rat} {vn vd : Value} (hn : Us .u32 h vn (limbs q.num.natAbs)) (hd : Us .u32 h vd (limbs (denN q.den))) : IsRat h (.agg #[vB (¬ q.num < 0 ∧ (0 : Int) < ↑(limbs q.num.natAbs).length), vn, vd]) (-q) := by
  refine ⟨vn, vd, ?_, ?_, ?_⟩
  · have : vB ((-q).num < 0) = vB (¬ q.num < 0 ∧ (0 : Int) < ↑(limbs q.num.natAbs).length) := by
      have h1 := limbs_len_pos (n := q.num.natAbs)
      rw [Rat.neg_num]
      exact vB_iff ⟨fun h => ⟨by omega, by omega⟩, fun h => by omega⟩
    rw [this]
  · rw [Rat.neg_num, Int.natAbs_neg]; exact hn
  · rw [Rat.neg_den]; exact hd

theorem limbs_len_add' {m n k : Nat} (h1 : (limbs m).length ≤ k) (h2 : (limbs n).length ≤ k) : (limbs (m + n)).length ≤ k + 1 := by
  refine limbs_len_of_lt ?_
  have a1 := Nat.lt_of_lt_of_le (limbs_lt_pow m) (Nat.pow_le_pow_right (by decide) h1)
  have a2 := Nat.lt_of_lt_of_le (limbs_lt_pow n) (Nat.pow_le_pow_right (by decide) h2)
  rw [Nat.pow_succ]
  generalize 4294967296 ^ k = p at *
  omega
theorem putL {xs : List Nat} {lo n : Nat} (h : lo + 1 ≤ xs.length) (h0 : n ≠ 0) (hn : n < 4294967296) : xs.set lo n = xs.take lo ++ limbs n ++ xs.drop (lo + (limbs n).length) := by
  rw [limbs_one h0 hn, List.set_eq_take_append_cons_drop, if_pos (by omega)]
  simp
theorem putL2 {xs : List Nat} {lo n : Nat} (h : lo + 2 ≤ xs.length) (hn : n < 18446744073709551616) (hn' : 4294967296 ≤ n) : (xs.set lo (n % 4294967296)).set (lo + 1) (n / 4294967296) = xs.take lo ++ limbs n ++ xs.drop (lo + (limbs n).length) := by
  have e : limbs n = [n % 4294967296, n / 4294967296] := by rw [limbs_pos (by omega), limbs_one (t := n / 4294967296) (by omega) (by omega)]
  rw [e]
  apply List.ext_getElem?
  intro i
  simp only [List.getElem?_set, List.length_set, List.getElem?_append, List.length_append, List.length_take, List.length_cons, List.length_nil, List.getElem?_take, List.getElem?_drop]
  rcases Nat.lt_trichotomy i lo with hi | hi | hi
  · rw [if_neg (by omega), if_neg (by omega), if_pos (by omega), if_pos (by omega), if_pos (by omega)]
  · subst hi
    rw [if_neg (by omega), if_pos rfl, if_pos (by omega), if_pos (by omega), if_neg (by omega)]
    simp [show min i xs.length = i by omega]
  · by_cases h1 : i = lo + 1
    · subst h1
      rw [if_pos rfl, if_pos (by omega), if_pos (by omega), if_neg (by omega)]
      simp [show min lo xs.length = lo by omega]
    · rw [if_neg (by omega), if_neg (by omega), if_neg (by omega)]
      congr 1
      omega
/-- A number with a sign, as a rational one. -/
noncomputable def rz (s : Prop) (n : Rat) : Rat := if s then -n else n
theorem rz_t {s : Prop} (h : s) (n : Rat) : rz s n = -n := if_pos h
theorem rz_f {s : Prop} (h : ¬ s) (n : Rat) : rz s n = n := if_neg h
theorem mk_div (s : Prop) (n d : Nat) : mkRat (sg s n) d = rz s n / d := by
  rw [Rat.mkRat_eq_div]
  by_cases h : s
  · rw [sg_t h, rz_t h, Rat.intCast_neg]; rfl
  · rw [sg_f h, rz_f h]; rfl
theorem mk_self (q : Rat) : mkRat (sg (q.num < 0) q.num.natAbs) q.den = q := by rw [sg_num, Rat.mkRat_self]
theorem cast_ne {d : Nat} (h : d ≠ 0) : (d : Rat) ≠ 0 := fun e => h (Rat.natCast_eq_zero_iff.1 e)
theorem den_ne (q : Rat) : q.den ≠ 0 := q.den_nz

theorem mk_zero (s : Prop) (d : Nat) : mkRat (sg s 0) d = 0 := by rw [sg_zero, Rat.zero_mkRat]
theorem mk_zero' (s : Prop) (n : Nat) : mkRat (sg s n) 0 = 0 := by rw [Rat.mkRat_zero]
theorem mk_iff {s t : Prop} (h : s ↔ t) (n d : Nat) : mkRat (sg s n) d = mkRat (sg t n) d := by rw [propext h]

theorem mk_add (s : Prop) {n m d e : Nat} (hd : d ≠ 0) (he : e ≠ 0) : mkRat (sg s n) d + mkRat (sg s m) e = mkRat (sg s (n * e + m * d)) (d * e) := by
  rw [mk_div, mk_div, mk_div, Rat.natCast_mul, Rat.natCast_add, Rat.natCast_mul, Rat.natCast_mul]
  have h1 := cast_ne hd
  have h2 := cast_ne he
  generalize (d : Rat) = D at *
  generalize (e : Rat) = E at *
  generalize (n : Rat) = N at *
  generalize (m : Rat) = M at *
  by_cases h : s
  · rw [rz_t h, rz_t h, rz_t h]; grind
  · rw [rz_f h, rz_f h, rz_f h]; grind
theorem mk_sub {s t : Prop} (hst : ¬ (s ↔ t)) {n m d e : Nat} (hd : d ≠ 0) (he : e ≠ 0) (hle : m * d ≤ n * e) : mkRat (sg s n) d + mkRat (sg t m) e = mkRat (sg s (n * e - m * d)) (d * e) := by
  have hsub : ((n * e - m * d : Nat) : Rat) = n * e - m * d := by
    have h3 : n * e - m * d + m * d = n * e := by omega
    have h4 : ((n * e - m * d + m * d : Nat) : Rat) = ((n * e : Nat) : Rat) := by rw [h3]
    rw [Rat.natCast_add, Rat.natCast_mul, Rat.natCast_mul] at h4
    generalize ((n * e - m * d : Nat) : Rat) = X at *
    grind
  rw [mk_div, mk_div, mk_div, hsub, Rat.natCast_mul]
  have h1 := cast_ne hd
  have h2 := cast_ne he
  generalize (d : Rat) = D at *
  generalize (e : Rat) = E at *
  generalize (n : Rat) = N at *
  generalize (m : Rat) = M at *
  by_cases h : s
  · have ht : ¬ t := fun ht => hst ⟨fun _ => ht, fun _ => h⟩
    rw [rz_t h, rz_f ht, rz_t h]; grind
  · have ht : t := Classical.byContradiction fun ht => hst ⟨fun a => absurd a h, fun a => absurd a ht⟩
    rw [rz_f h, rz_t ht, rz_f h]; grind
theorem mk_sub' {s t : Prop} (hst : ¬ (s ↔ t)) {n m d e : Nat} (hd : d ≠ 0) (he : e ≠ 0) (hle : n * e ≤ m * d) : mkRat (sg s n) d + mkRat (sg t m) e = mkRat (sg t (m * d - n * e)) (d * e) := by
  rw [Rat.add_comm, mk_sub (fun h => hst h.symm) he hd hle, Nat.mul_comm e d]
theorem mk_mul (s t : Prop) (n m d e : Nat) : mkRat (sg s n) d * mkRat (sg t m) e = mkRat (sg (¬ (s ↔ t)) (n * m)) (d * e) := by
  rw [Rat.mkRat_mul_mkRat]
  congr 1
  by_cases h : s <;> by_cases h' : t
  · rw [sg_t h, sg_t h', sg_f (by simp [h, h']), Int.natCast_mul, Int.neg_mul_neg]
  · rw [sg_t h, sg_f h', sg_t (by simp [h, h']), Int.natCast_mul, Int.neg_mul]
  · rw [sg_f h, sg_t h', sg_t (by simp [h, h']), Int.natCast_mul, Int.mul_neg]
  · rw [sg_f h, sg_f h', sg_f (by simp [h, h']), Int.natCast_mul]
theorem mk_quo (s t : Prop) {n m d e : Nat} (hd : d ≠ 0) (hm : m ≠ 0) (he : e ≠ 0) : mkRat (sg s n) d / mkRat (sg t m) e = mkRat (sg (¬ (s ↔ t)) (n * e)) (d * m) := by
  rw [mk_div, mk_div, mk_div, Rat.natCast_mul, Rat.natCast_mul]
  have h1 := cast_ne hd
  have h2 := cast_ne hm
  have h3 := cast_ne he
  generalize (d : Rat) = D at *
  generalize (e : Rat) = E at *
  generalize (n : Rat) = N at *
  generalize (m : Rat) = M at *
  by_cases h : s <;> by_cases h' : t
  · rw [rz_t h, rz_t h', rz_f (by simp [h, h'])]; grind
  · rw [rz_t h, rz_f h', rz_t (by simp [h, h'])]; grind
  · rw [rz_f h, rz_t h', rz_t (by simp [h, h'])]; grind
  · rw [rz_f h, rz_f h', rz_f (by simp [h, h'])]; grind
theorem mk_neg (s : Prop) (n d : Nat) : -mkRat (sg s n) d = mkRat (sg (¬ s) n) d := by
  rw [Rat.neg_mkRat]
  congr 1
  by_cases h : s
  · rw [sg_t h, sg_f (by simp [h])]; omega
  · rw [sg_f h, sg_t h]

/-- The same factor above and below. -/
theorem mk_scale (s : Prop) (n d : Nat) {k : Nat} (hk : k ≠ 0) : mkRat (sg s (n * k)) (d * k) = mkRat (sg s n) d := by
  rw [mk_div, mk_div, Rat.natCast_mul, Rat.natCast_mul]
  have h1 := cast_ne hk
  by_cases hd : d = 0
  · subst hd
    have : ((0 : Nat) : Rat) = 0 := rfl
    rw [this]
    grind
  have h2 := cast_ne hd
  generalize (d : Rat) = D at *
  generalize (k : Rat) = K at *
  generalize (n : Rat) = N at *
  by_cases h : s
  · rw [rz_t h, rz_t h]; grind
  · rw [rz_f h, rz_f h]; grind

/-- The greater length of numerator and denominator. -/
def lq (q : Rat) : Nat := max (limbs q.num.natAbs).length (limbs q.den).length
theorem lq_num (q : Rat) : (limbs q.num.natAbs).length ≤ lq q := Nat.le_max_left _ _
theorem lq_den (q : Rat) : (limbs q.den).length ≤ lq q := Nat.le_max_right _ _
theorem denL_len (d : Nat) : (limbs (denN d)).length ≤ (limbs d).length := by
  by_cases h : d = 1
  · subst h; rw [denN_one, limbs_zero]; simp
  · rw [denN_ne h]; exact Nat.le_refl _
theorem lq_denL (q : Rat) : (limbs (denN q.den)).length ≤ lq q := Nat.le_trans (denL_len _) (lq_den q)
theorem lq_pos (q : Rat) : 0 < lq q := Nat.lt_of_lt_of_le (limbs_len_pos.2 q.den_nz) (lq_den q)
theorem lq_mk {s : Prop} {n d k : Nat} (hn : (limbs n).length ≤ k) (hd : (limbs d).length ≤ k) (hk : 0 < k) : lq (mkRat (sg s n) d) ≤ k := by
  by_cases h0 : d = 0
  · subst h0
    rw [mk_zero']
    refine Nat.max_le.2 ⟨?_, ?_⟩
    · have : (limbs (0 : Rat).num.natAbs) = [] := limbs_zero
      rw [this]; simp
    · have : limbs (0 : Rat).den = [1] := by rw [show (0 : Rat).den = 1 from rfl, limbs_pos (by omega), limbs_zero]
      rw [this]; exact hk
  · refine Nat.max_le.2 ⟨?_, ?_⟩
    · rw [mkRat_num h0, sg_natAbs]
      exact Nat.le_trans (limbs_len_mono (Nat.div_le_self _ _)) hn
    · rw [mkRat_den h0]
      exact Nat.le_trans (limbs_len_mono (Nat.div_le_self _ _)) hd
theorem lq_zero : lq 0 = 1 := by
  have h := lq_mk (s := False) (n := 0) (d := 0) (k := 1) (by rw [limbs_zero]; simp) (by rw [limbs_zero]; simp) (by omega)
  rw [mk_zero'] at h
  have := lq_pos 0
  omega
theorem lq_neg (q : Rat) : lq (-q) = lq q := by unfold lq; rw [Rat.neg_num, Rat.neg_den, Int.natAbs_neg]
theorem lq_abs (q : Rat) : lq (absQ q) = lq q := by unfold lq; rw [absQ_num, absQ_den, Int.natAbs_natCast]
theorem lq_mul (a b : Rat) : lq (a * b) ≤ lq a + lq b := by
  rw [← mk_self a, ← mk_self b, mk_mul, mk_self, mk_self]
  have h1 := lq_num a; have h2 := lq_num b; have h3 := lq_den a; have h4 := lq_den b; have h5 := lq_pos a
  exact lq_mk (Nat.le_trans (limbs_len_mul _ _) (by omega)) (Nat.le_trans (limbs_len_mul _ _) (by omega)) (by omega)
theorem lq_add (a b : Rat) : lq (a + b) ≤ lq a + lq b + 1 := by
  have h1 := lq_num a; have h2 := lq_num b; have h3 := lq_den a; have h4 := lq_den b; have h5 := lq_pos a
  have h6 := limbs_len_mul a.num.natAbs b.den
  have h7 := limbs_len_mul b.num.natAbs a.den
  have h8 := limbs_len_mul a.den b.den
  have e : a + b = mkRat (sg (a.num < 0) a.num.natAbs) a.den + mkRat (sg (b.num < 0) b.num.natAbs) b.den := by rw [mk_self, mk_self]
  rw [e]
  by_cases h : (a.num < 0) ↔ (b.num < 0)
  · rw [mk_iff h, mk_add _ a.den_nz b.den_nz]
    refine lq_mk (Nat.le_trans (limbs_len_add' ?_ ?_) (Nat.le_refl _)) (by omega) (by omega)
    · omega
    · omega
  · rcases Nat.le_total (b.num.natAbs * a.den) (a.num.natAbs * b.den) with hle | hle
    · rw [mk_sub h a.den_nz b.den_nz hle]
      exact lq_mk (Nat.le_trans (limbs_len_mono (Nat.sub_le _ _)) (by omega)) (by omega) (by omega)
    · rw [mk_sub' h a.den_nz b.den_nz hle]
      exact lq_mk (Nat.le_trans (limbs_len_mono (Nat.sub_le _ _)) (by omega)) (by omega) (by omega)
theorem lq_sub (a b : Rat) : lq (a - b) ≤ lq a + lq b + 1 := by
  rw [Rat.sub_eq_add_neg]
  have := lq_add a (-b)
  rw [lq_neg] at this
  exact this
theorem num_ne {q : Rat} : q.num.natAbs ≠ 0 ↔ q ≠ 0 := by
  rw [Int.natAbs_ne_zero]; exact not_congr Rat.num_eq_zero
theorem lq_quo (a b : Rat) : lq (a / b) ≤ lq a + lq b := by
  have h1 := lq_num a; have h2 := lq_num b; have h3 := lq_den a; have h4 := lq_den b; have h5 := lq_pos a
  by_cases hb : b = 0
  · subst hb
    have : a / 0 = 0 := by grind
    rw [this, lq_zero]
    omega
  have e : a / b = mkRat (sg (a.num < 0) a.num.natAbs) a.den / mkRat (sg (b.num < 0) b.num.natAbs) b.den := by rw [mk_self, mk_self]
  rw [e, mk_quo _ _ a.den_nz (num_ne.2 hb) b.den_nz]
  exact lq_mk (Nat.le_trans (limbs_len_mul _ _) (by omega)) (Nat.le_trans (limbs_len_mul _ _) (by omega)) (by omega)

/-- The order. -/
noncomputable def cmpQ (a b : Rat) : Int := if a < b then -1 else if a = b then 0 else 1
noncomputable def sgnQ (q : Rat) : Int := if q = 0 then 0 else if q.num < 0 then -1 else 1
theorem lt_mk (s : Prop) {n m d e : Nat} (hd : d ≠ 0) (he : e ≠ 0) : mkRat (sg s n) d < mkRat (sg s m) e ↔ if s then m * d < n * e else n * e < m * d := by
  have e1 : ∀ x y : Nat, (x : Rat) < (y : Rat) ↔ x < y := fun x y => by rw [Rat.natCast_lt_natCast]
  have h1 : (0 : Rat) < (d : Rat) := by rw [show (0 : Rat) = ((0 : Nat) : Rat) from rfl, e1]; omega
  have h2 : (0 : Rat) < (e : Rat) := by rw [show (0 : Rat) = ((0 : Nat) : Rat) from rfl, e1]; omega
  rw [mk_div, mk_div, ← e1, ← e1, Rat.natCast_mul, Rat.natCast_mul, Rat.div_lt_iff h1]
  generalize (d : Rat) = D at *
  generalize (e : Rat) = E at *
  generalize (n : Rat) = N at *
  generalize (m : Rat) = M at *
  have e3 : ∀ X : Rat, X / E * D = X * D / E := fun X => by grind
  rw [e3, Rat.lt_div_iff h2]
  by_cases h : s
  · rw [rz_t h, rz_t h, if_pos h]; grind
  · rw [rz_f h, rz_f h, if_neg h]
theorem eq_mk (s : Prop) {n m d e : Nat} (hd : d ≠ 0) (he : e ≠ 0) : mkRat (sg s n) d = mkRat (sg s m) e ↔ n * e = m * d := by
  rw [Rat.mkRat_eq_iff hd he]
  by_cases h : s
  · rw [sg_t h, sg_t h]
    rw [Int.neg_mul, Int.neg_mul, Int.neg_inj, ← Int.natCast_mul, ← Int.natCast_mul]
    omega
  · rw [sg_f h, sg_f h, ← Int.natCast_mul, ← Int.natCast_mul]; omega
theorem cmp_mk (s : Prop) {n m d e : Nat} (hd : d ≠ 0) (he : e ≠ 0) : cmpQ (mkRat (sg s n) d) (mkRat (sg s m) e) = if s then -(cmpN (n * e) (m * d)) else cmpN (n * e) (m * d) := by
  unfold cmpQ cmpN
  by_cases h : s
  · simp only [lt_mk s hd he, eq_mk s hd he, if_pos h]
    by_cases h1 : m * d < n * e
    · rw [if_pos h1, if_neg (by omega), if_neg (by omega)]
    · rw [if_neg h1]
      by_cases h2 : n * e = m * d
      · rw [if_pos h2, if_neg (by omega)]; rfl
      · rw [if_neg h2, if_pos (by omega)]; rfl
  · simp only [lt_mk s hd he, eq_mk s hd he, if_neg h]
theorem cmpQ_num (a b : Rat) (h : (a.num < 0) ↔ (b.num < 0)) : cmpQ a b = if a.num < 0 then -(cmpN (a.num.natAbs * b.den) (b.num.natAbs * a.den)) else cmpN (a.num.natAbs * b.den) (b.num.natAbs * a.den) := by
  have := cmp_mk (a.num < 0) (n := a.num.natAbs) (m := b.num.natAbs) a.den_nz b.den_nz
  rw [mk_self, mk_iff h, mk_self] at this
  rw [this]
  by_cases h : a.num < 0
  · rw [if_pos h, if_pos h]
  · rw [if_neg h, if_neg h]
theorem num_neg_iff (q : Rat) : q.num < 0 ↔ q < 0 := by
  have := Rat.num_nonneg (q := q)
  rw [← Rat.not_le, ← this]; omega
theorem cmpQ_sgn {a b : Rat} (h : sgnQ a ≠ sgnQ b) : cmpQ a b = if sgnQ a < sgnQ b then -1 else 1 := by
  have ea : sgnQ a = if a = 0 then 0 else if a < 0 then -1 else 1 := by unfold sgnQ; simp only [num_neg_iff]
  have eb : sgnQ b = if b = 0 then 0 else if b < 0 then -1 else 1 := by unfold sgnQ; simp only [num_neg_iff]
  rw [ea, eb] at h ⊢
  unfold cmpQ
  clear ea eb
  grind
theorem sgnQ_range (q : Rat) : -1 ≤ sgnQ q ∧ sgnQ q ≤ 1 := by
  unfold sgnQ
  split
  · omega
  · split <;> omega
theorem cmpQ_range (a b : Rat) : -1 ≤ cmpQ a b ∧ cmpQ a b ≤ 1 := by
  unfold cmpQ
  split
  · omega
  · split <;> omega
theorem cmpQ_neg {a b : Rat} : cmpQ a b < 0 ↔ a < b := by
  unfold cmpQ
  by_cases h : a < b
  · simp [h]
  · by_cases h' : a = b
    · simp [h']
    · simp [h, h']
theorem cmpQ_pos {a b : Rat} : 0 < cmpQ a b ↔ b < a := by
  unfold cmpQ
  by_cases h : a < b
  · simp [h]; grind
  · by_cases h' : a = b
    · simp [h']
    · simp [h, h']; grind
theorem cmpQ_zero {a b : Rat} : cmpQ a b = 0 ↔ a = b := by
  unfold cmpQ
  by_cases h : a < b
  · simp [h]; grind
  · by_cases h' : a = b
    · simp [h']
    · simp [h, h']
/-- Numerator and denominator have at most one limb. -/
def smallQ (q : Rat) : Prop := (limbs q.num.natAbs).length ≤ 1 ∧ (limbs (denN q.den)).length ≤ 1
theorem smallQ_not {q : Rat} (h : (1 : Int) < ↑(limbs q.num.natAbs).length ∨ (1 : Int) < ↑(limbs (denN q.den)).length) : ¬ smallQ q := fun ⟨h1, h2⟩ => by omega
theorem smallQ_of {q : Rat} (h : ¬ ((1 : Int) < ↑(limbs q.num.natAbs).length ∨ (1 : Int) < ↑(limbs (denN q.den)).length)) : smallQ q := ⟨by omega, by omega⟩
theorem lt_one_limb {n : Nat} (h : (limbs n).length ≤ 1) : n < 4294967296 := by
  have := Nat.lt_of_lt_of_le (limbs_lt_pow n) (Nat.pow_le_pow_right (by decide) h)
  omega
theorem denL_one {d : Nat} (h : (↑(limbs (denN d)).length : Int) = 1) : (limbs (denN d)).getD 0 0 = d := by
  by_cases h1 : d = 1
  · subst h1; rw [denN_one, limbs_zero] at h; simp at h
  · rw [denN_ne h1] at h ⊢
    have h3 := lt_one_limb (n := d) (by omega)
    have h4 : d ≠ 0 := limbs_len_pos.1 (by omega)
    rw [limbs_one h4 h3]; rfl
theorem denL_zero {d : Nat} (h0 : d ≠ 0) (h : ¬ (↑(limbs (denN d)).length : Int) = 1) (h1 : (limbs (denN d)).length ≤ 1) : d = 1 := by
  by_cases h2 : d = 1
  · exact h2
  · rw [denN_ne h2] at h h1
    have := limbs_len_pos.2 h0
    omega
theorem denL_nil {q : Rat} (h : ¬ (↑(limbs (denN q.den)).length : Int) = 1) (hs : smallQ q) : q.den = 1 := denL_zero q.den_nz h hs.2
theorem smallQ_num {q : Rat} (h : smallQ q) : q.num.natAbs < 4294967296 := lt_one_limb h.1
theorem smallQ_den {q : Rat} (h : smallQ q) : q.den < 4294967296 := by
  by_cases h1 : q.den = 1
  · omega
  · have h2 := h.2
    rw [denN_ne h1] at h2
    exact lt_one_limb h2
noncomputable def pN (q : Rat) : Nat := if smallQ q then q.num.natAbs else 0
noncomputable def pD (q : Rat) : Nat := if smallQ q then q.den else 0
theorem pN_t {q : Rat} (h : smallQ q) : pN q = q.num.natAbs := if_pos h
theorem pN_f {q : Rat} (h : ¬ smallQ q) : pN q = 0 := if_neg h
theorem pD_t {q : Rat} (h : smallQ q) : pD q = q.den := if_pos h
theorem pD_f {q : Rat} (h : ¬ smallQ q) : pD q = 0 := if_neg h
theorem bitsN_eq_zero {n : Nat} : bitsN n = 0 ↔ n = 0 := by
  unfold bitsN
  by_cases h : n = 0
  · simp [h]
  · simp [h]
theorem limb_one_iff {Y : Nat} : ((↑(limbs Y).length : Int) = 1 ∧ (limbs Y).getD 0 0 = 1) ↔ Y = 1 := by
  constructor
  · intro ⟨h1, h2⟩
    have h3 := lt_one_limb (n := Y) (by omega)
    have h4 : Y ≠ 0 := limbs_len_pos.1 (by omega)
    rw [limbs_one h4 h3] at h2
    exact h2
  · intro h
    subst h
    rw [limbs_one (by omega) (by omega)]
    exact ⟨rfl, rfl⟩
theorem bitsN_one {n : Nat} (h : ¬ (1 : Int) < ↑(bitsN n)) (h0 : n ≠ 0) : n = 1 := by
  have h1 := lt_pow_bitsN n
  have h2 := Nat.pow_le_pow_right (n := 2) (by decide) (show bitsN n ≤ 1 by omega)
  omega
theorem IsRat.fin {h : Mem} {s : Prop} {n d : Nat} {vn vd : Value} (hn0 : n ≠ 0) (hd0 : d ≠ 0) (hn : Us .u32 h vn (limbs (n / Nat.gcd n d))) (hd : Us .u32 h vd (limbs (d / Nat.gcd n d))) (h1 : ¬ ((↑(limbs (d / Nat.gcd n d)).length : Int) = 1 ∧ (limbs (d / Nat.gcd n d)).getD 0 0 = 1)) : IsRat h (.agg #[vB s, vn, vd]) (mkRat (sg s n) d) :=
  IsRat.make hn0 hd0 hn (by rw [denN_ne (fun e => h1 (limb_one_iff.2 e))]; exact hd)
theorem IsRat.fin1 {h : Mem} {s : Prop} {n d : Nat} {vn : Value} (hn0 : n ≠ 0) (hd0 : d ≠ 0) (hn : Us .u32 h vn (limbs (n / Nat.gcd n d))) (h1 : (↑(limbs (d / Nat.gcd n d)).length : Int) = 1 ∧ (limbs (d / Nat.gcd n d)).getD 0 0 = 1) : IsRat h (.agg #[vB s, vn, .slice none 0 0]) (mkRat (sg s n) d) :=
  IsRat.make hn0 hd0 hn (by rw [limb_one_iff.1 h1, denN_one, limbs_zero]; exact Us.nil _ _)
theorem one_limbs : [1] = limbs 1 := (limbs_one (by omega) (by omega)).symm
theorem len_one : (limbs 1).length = 1 := by rw [← one_limbs]; rfl
theorem limbs_len_gcd (m n : Nat) : (limbs (Nat.gcd m n)).length ≤ max (limbs m).length (limbs n).length := by
  by_cases h : m = 0
  · subst h; rw [Nat.gcd_zero_left]; omega
  · have := limbs_len_mono (Nat.gcd_le_left n (Nat.pos_of_ne_zero h))
    omega
end Bk
