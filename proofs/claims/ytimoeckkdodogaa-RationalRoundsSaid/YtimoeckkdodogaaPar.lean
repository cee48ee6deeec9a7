/- The texts of rational numbers, in plain lists of bytes. -/
import Derived.Test.YtimoeckkdodogaaRat2
import Derived.Test.YtimoeckkdodogaaStr
namespace Bk
set_option linter.unusedVariables false
set_option linter.unusedSimpArgs false
open Go Go.RowKit
open Classical

/-- A number's text. -/
noncomputable def txtQ (q : Rat) : List Nat := (if q.num < 0 then [45] else []) ++ txt q.num.natAbs ++ (if denN q.den = 0 then [] else [47] ++ txt (denN q.den))
theorem byB_txtQ (q : Rat) : ByB (txtQ q) := by
  unfold txtQ
  refine ByB.app (ByB.app ?_ (byB_txt _)) ?_
  · split
    · unfold ByB; decide
    · exact ByB.nil
  · split
    · exact ByB.nil
    · exact ByB.app (by unfold ByB; decide) (byB_txt _)
theorem txtQ_len (q : Rat) : (txtQ q).length ≤ 20 * lq q + 4 := by
  unfold txtQ
  have h1 := txt_len q.num.natAbs
  have h2 := txt_len (denN q.den)
  have h3 := lq_num q
  have h4 := lq_denL q
  have h5 : (if q.num < 0 then [45] else ([] : List Nat)).length ≤ 1 := by split <;> simp
  have h6 : (if denN q.den = 0 then [] else [47] ++ txt (denN q.den)).length ≤ 1 + (txt (denN q.den)).length := by split <;> simp <;> omega
  rw [List.length_append, List.length_append]
  have h7 : (limbs (denN q.den)).length ≤ lq q := h4
  omega
theorem denN_zero_len {q : Rat} : (0 : Int) < ↑(limbs (denN q.den)).length ↔ ¬ denN q.den = 0 := by
  have := limbs_len_pos (n := denN q.den)
  omega
theorem txtQ_td {q : Rat} (h1 : q.num < 0) (h2 : ¬ (0 : Int) < ↑(limbs (denN q.den)).length) : [45] ++ txt q.num.natAbs = txtQ q := by
  unfold txtQ
  rw [if_pos h1, if_pos (Classical.not_not.1 fun e => h2 (denN_zero_len.2 e)), List.append_nil]
theorem txtQ_t {q : Rat} (h1 : q.num < 0) (h2 : (0 : Int) < ↑(limbs (denN q.den)).length) : [45] ++ txt q.num.natAbs ++ ([47] ++ txt (denN q.den)) = txtQ q := by
  unfold txtQ
  rw [if_pos h1, if_neg (denN_zero_len.1 h2)]
theorem txtQ_nd {q : Rat} (h1 : ¬ q.num < 0) (h2 : ¬ (0 : Int) < ↑(limbs (denN q.den)).length) : txt q.num.natAbs = txtQ q := by
  unfold txtQ
  rw [if_neg h1, if_pos (Classical.not_not.1 fun e => h2 (denN_zero_len.2 e)), List.append_nil, List.nil_append]
theorem txtQ_nt {q : Rat} (h1 : ¬ q.num < 0) (h2 : (0 : Int) < ↑(limbs (denN q.den)).length) : txt q.num.natAbs ++ ([47] ++ txt (denN q.den)) = txtQ q := by
  unfold txtQ
  rw [if_neg h1, if_neg (denN_zero_len.1 h2), List.nil_append]

/-- How many digits a text begins with. -/
def digs : List Nat → Nat
  | [] => 0
  | b :: bs => if 48 ≤ b ∧ b ≤ 57 then digs bs + 1 else 0
theorem digs_le (bs : List Nat) : digs bs ≤ bs.length := by
  induction bs with
  | nil => simp [digs]
  | cons b bs ih => rw [digs]; split <;> simp <;> omega
theorem digs_step {bs : List Nat} {k : Nat} (hk : k < bs.length) (h1 : 48 ≤ bs.getD k 0) (h2 : bs.getD k 0 ≤ 57) : digs (bs.drop k) = digs (bs.drop (k + 1)) + 1 := by
  rw [drop_eq_cons bs k hk, digs, if_pos ⟨h1, h2⟩]
theorem digs_stop {bs : List Nat} {k : Nat} (h : ¬ (k < bs.length ∧ 48 ≤ bs.getD k 0 ∧ bs.getD k 0 ≤ 57)) : digs (bs.drop k) = 0 := by
  by_cases hk : k < bs.length
  · rw [drop_eq_cons bs k hk, digs, if_neg fun e => h ⟨hk, e⟩]
  · rw [List.drop_of_length_le (by omega)]; rfl
theorem digs_digB (bs : List Nat) : digB (bs.take (digs bs)) = true := by
  induction bs with
  | nil => rfl
  | cons b bs ih =>
    rw [digs]
    split
    · rename_i h
      rw [List.take_succ_cons]
      simp only [digB, List.all_cons, Bool.and_eq_true, decide_eq_true_eq]
      exact ⟨h, ih⟩
    · rfl
theorem digs_all {bs : List Nat} : digs bs = bs.length ↔ digB bs = true := by
  constructor
  · intro h
    have := digs_digB bs
    rw [h, List.take_length] at this
    exact this
  · intro h
    induction bs with
    | nil => rfl
    | cons b bs ih =>
      simp only [digB, List.all_cons, Bool.and_eq_true, decide_eq_true_eq] at h
      rw [digs, if_pos h.1, ih h.2, List.length_cons]
theorem digs_app {a b : List Nat} (h : digB a = true) : digs (a ++ b) = a.length + digs b := by
  induction a with
  | nil => simp
  | cons x a ih =>
    simp only [digB, List.all_cons, Bool.and_eq_true, decide_eq_true_eq] at h
    rw [List.cons_append, digs, if_pos h.1, ih h.2, List.length_cons]; omega
theorem hor_app (a b : List Nat) : hor (a ++ b) = hor a * 10 ^ b.length + hor b := by
  induction b generalizing a with
  | nil => simp [hor_nil]
  | cons x b ih =>
    have e1 : a ++ x :: b = (a ++ [x]) ++ b := by simp
    have e2 : x :: b = [x] ++ b := rfl
    rw [e1, ih, hor_snoc]
    rw [e2, ih [x], List.length_append, List.length_singleton, Nat.add_comm 1, Nat.pow_succ]
    have e3 : hor [x] = x - 48 := by simp [hor]
    rw [e3]
    generalize 10 ^ b.length = p
    grind
theorem ten_len (n : Nat) : (limbs (10 ^ n)).length ≤ n + 1 := by
  refine limbs_len_of_lt ?_
  have h1 : (10 : Nat) ^ n ≤ 4294967296 ^ n := Nat.pow_le_pow_left (by omega) n
  have h2 : (4294967296 : Nat) ^ n < 4294967296 ^ (n + 1) := Nat.pow_lt_pow_right (by omega) (by omega)
  omega
theorem hor_limbs {bs : List Nat} (h : digB bs = true) : (limbs (hor bs)).length ≤ bs.length + 1 :=
  Nat.le_trans (limbs_len_mono (Nat.le_of_lt (hor_len h))) (ten_len _)
theorem hor3 {bs : List Nat} (h : digB bs = true) (hl : bs.length ≤ 3) : hor bs ≤ 999 := by
  have h1 := hor_len h
  have h2 := Nat.pow_le_pow_right (n := 10) (by omega) hl
  omega

/-- The part behind e. -/
noncomputable def exU (s : List Nat) : List Nat := if s.drop 1 ≠ [] ∧ ((s.drop 1).getD 0 0 = 43 ∨ (s.drop 1).getD 0 0 = 45) then (s.drop 1).drop 1 else s.drop 1
def exDown (s : List Nat) : Prop := s.drop 1 ≠ [] ∧ (s.drop 1).getD 0 0 = 45
def exOk (s : List Nat) : Prop := (s.getD 0 0 = 101 ∨ s.getD 0 0 = 69) ∧ exU s ≠ [] ∧ (exU s).length ≤ 3 ∧ digs (exU s) = (exU s).length
noncomputable def exN (s : List Nat) : Nat := if exOk s then hor (exU s) else 0
theorem exN_le (s : List Nat) : exN s ≤ 999 := by
  unfold exN
  split
  · rename_i h
    exact hor3 (digs_all.1 h.2.2.2) h.2.2.1
  · omega

/-- What a text is read as: the error and the number. -/
noncomputable def fin4 (s : Prop) (n d : Nat) : Int × Rat := if (2048 : Int) < bitsQ (mkRat (sg s n) d) then (2, 0) else (0, mkRat (sg s n) d)
noncomputable def fin3 (s : Prop) (n d : Nat) (r : List Nat) : Int × Rat :=
  if r = [] then fin4 s n d else if exOk r then (if exDown r then fin4 s n (d * 10 ^ exN r) else fin4 s (n * 10 ^ exN r) d) else (4, 0)
def slash (r : List Nat) : Prop := r ≠ [] ∧ r.getD 0 0 = 47
def dot (r : List Nat) : Prop := r ≠ [] ∧ r.getD 0 0 = 46
noncomputable def fin2 (s : Prop) (bs : List Nat) : Int × Rat :=
  if digs bs = 0 then (4, 0) else
  if slash (bs.drop (digs bs)) then
    (if (bs.drop (digs bs)).drop 1 = [] ∨ digs ((bs.drop (digs bs)).drop 1) ≠ ((bs.drop (digs bs)).drop 1).length then (4, 0) else if hor ((bs.drop (digs bs)).drop 1) = 0 then (3, 0) else fin3 s (hor (bs.take (digs bs))) (hor ((bs.drop (digs bs)).drop 1)) [])
  else if dot (bs.drop (digs bs)) then
    (if digs ((bs.drop (digs bs)).drop 1) = 0 then (4, 0) else fin3 s (hor (bs.take (digs bs) ++ ((bs.drop (digs bs)).drop 1).take (digs ((bs.drop (digs bs)).drop 1)))) (10 ^ digs ((bs.drop (digs bs)).drop 1)) ((bs.drop (digs bs)).drop (digs ((bs.drop (digs bs)).drop 1) + 1)))
  else fin3 s (hor (bs.take (digs bs))) 1 (bs.drop (digs bs))
def parNeg (bs : List Nat) : Prop := (0 : Int) < ↑bs.length ∧ bs.getD 0 0 = 45
noncomputable def parBody (bs : List Nat) : List Nat := if parNeg bs then bs.drop 1 else bs
theorem parBody_t {bs : List Nat} (h : parNeg bs) : parBody bs = bs.drop 1 := if_pos h
theorem parBody_f {bs : List Nat} (h : ¬ parNeg bs) : parBody bs = bs := if_neg h
noncomputable def parQ (bs : List Nat) : Int × Rat := if 4096 < bs.length then (2, 0) else fin2 (parNeg bs) (parBody bs)
theorem exp_bad {s : List Nat} (h : s.getD 0 0 ≠ 101 ∧ s.getD 0 0 ≠ 69) : ¬ exOk s := fun e => e.1.elim h.1 h.2
theorem exp_bad2 {s u : List Nat} (hu : exU s = u) (h : (u = [] ∨ (3 : Int) < ↑u.length) ∨ (↑(0 + digs (u.drop 0)) : Int) ≠ ↑u.length) : ¬ exOk s := by
  rintro ⟨_, h1, h2, h3⟩
  rw [hu] at h1 h2 h3
  rw [List.drop_zero, Nat.zero_add] at h
  rcases h with (h | h) | h
  · exact h1 h
  · omega
  · exact h (by omega)
theorem exp_ok {s u : List Nat} (h0 : ¬ (s.getD 0 0 ≠ 101 ∧ s.getD 0 0 ≠ 69)) (hu : exU s = u) (h : ¬ ((u = [] ∨ (3 : Int) < ↑u.length) ∨ (↑(0 + digs (u.drop 0)) : Int) ≠ ↑u.length)) : exOk s := by
  rw [List.drop_zero, Nat.zero_add] at h
  refine ⟨by omega, ?_, ?_, ?_⟩
  · rw [hu]; exact fun e => h (.inl (.inl e))
  · rw [hu]; have : ¬ (3 : Int) < ↑u.length := fun e => h (.inl (.inr e)); omega
  · rw [hu]; have : ¬ (↑(digs u) : Int) ≠ ↑u.length := fun e => h (.inr e); omega
theorem exN_t {s : List Nat} (h : exOk s) : exN s = hor (exU s) := if_pos h
theorem exN_f {s : List Nat} (h : ¬ exOk s) : exN s = 0 := if_neg h
theorem exU_t {s : List Nat} (h : s.drop 1 ≠ [] ∧ ((s.drop 1).getD 0 0 = 43 ∨ (s.drop 1).getD 0 0 = 45)) : exU s = (s.drop 1).drop 1 := if_pos h
theorem exU_f {s : List Nat} (h : ¬ (s.drop 1 ≠ [] ∧ ((s.drop 1).getD 0 0 = 43 ∨ (s.drop 1).getD 0 0 = 45))) : exU s = s.drop 1 := if_neg h

theorem perr_take {s : List Nat} (hl : s.length ≤ 4096) : perr (s.take (digs s)) = if digs s = 0 then 4 else 0 := by
  have h1 := digs_le s
  have h2 : (s.take (digs s)).length = digs s := by rw [List.length_take]; omega
  unfold perr
  rw [h2, if_neg (by omega), digs_digB, if_pos rfl]
theorem pval_take {s : List Nat} (hl : s.length ≤ 4096) : pval (s.take (digs s)) = hor (s.take (digs s)) := by
  have h1 := digs_le s
  have h2 : (s.take (digs s)).length = digs s := by rw [List.length_take]; omega
  unfold pval
  rw [h2, if_neg (by omega), digs_digB, if_pos rfl]
theorem err4 {p : Prop} [Decidable p] : (if p then 4 else 0 : Int) ≠ 0 ↔ p := by
  by_cases h : p
  · simp [h]
  · simp [h]
theorem perr_ne {b : List Nat} (hl : b.length ≤ 4096) : perr b ≠ 0 ↔ (b = [] ∨ digs b ≠ b.length) := by
  rw [show digs b ≠ b.length ↔ ¬ digB b = true from not_congr digs_all]
  by_cases h1 : b = []
  · subst h1; simp [perr]
  · have h2 := List.length_pos_iff.2 h1
    by_cases h3 : digB b = true
    · rw [(parse_ok hl (by omega) h3).1]; simp [h1, h3]
    · rw [(parse_bad hl (by omega) (by simpa using h3)).1]; simp [h1, h3]
theorem pval_dig {b : List Nat} (hl : b.length ≤ 4096) (h : digB b = true) : pval b = hor b := by
  unfold pval; rw [if_neg (by omega), if_pos h]
theorem perr_dig {b : List Nat} (hl : b.length ≤ 4096) (h0 : b ≠ []) (h : digB b = true) : perr b = 0 := (parse_ok hl (by have := List.length_pos_iff.2 h0; omega) h).1
theorem digB_app {a b : List Nat} (ha : digB a = true) (hb : digB b = true) : digB (a ++ b) = true := by
  simp only [digB, List.all_append, Bool.and_eq_true] at *
  exact ⟨ha, hb⟩

theorem fin2_none {s : Prop} {b : List Nat} (h : digs b = 0) : fin2 s b = (4, 0) := if_pos h
theorem fin2_slash_bad {s : Prop} {b r : List Nat} (h : digs b ≠ 0) (hr : r = b.drop (digs b)) (h1 : slash r) (h2 : r.drop 1 = [] ∨ digs (r.drop 1) ≠ (r.drop 1).length) : fin2 s b = (4, 0) := by
  subst hr; unfold fin2; rw [if_neg h, if_pos h1, if_pos h2]
theorem fin2_slash_zero {s : Prop} {b r : List Nat} (h : digs b ≠ 0) (hr : r = b.drop (digs b)) (h1 : slash r) (h2 : ¬ (r.drop 1 = [] ∨ digs (r.drop 1) ≠ (r.drop 1).length)) (h3 : hor (r.drop 1) = 0) : fin2 s b = (3, 0) := by
  subst hr; unfold fin2; rw [if_neg h, if_pos h1, if_neg h2, if_pos h3]
theorem fin2_slash {s : Prop} {b r : List Nat} (h : digs b ≠ 0) (hr : r = b.drop (digs b)) (h1 : slash r) (h2 : ¬ (r.drop 1 = [] ∨ digs (r.drop 1) ≠ (r.drop 1).length)) (h3 : hor (r.drop 1) ≠ 0) : fin2 s b = fin3 s (hor (b.take (digs b))) (hor (r.drop 1)) [] := by
  subst hr; unfold fin2; rw [if_neg h, if_pos h1, if_neg h2, if_neg h3]
theorem fin2_dot_bad {s : Prop} {b r : List Nat} (h : digs b ≠ 0) (hr : r = b.drop (digs b)) (h0 : ¬ slash r) (h1 : dot r) (h2 : digs (r.drop 1) = 0) : fin2 s b = (4, 0) := by
  subst hr; unfold fin2; rw [if_neg h, if_neg h0, if_pos h1, if_pos h2]
theorem fin2_dot {s : Prop} {b r : List Nat} (h : digs b ≠ 0) (hr : r = b.drop (digs b)) (h0 : ¬ slash r) (h1 : dot r) (h2 : digs (r.drop 1) ≠ 0) : fin2 s b = fin3 s (hor (b.take (digs b) ++ (r.drop 1).take (digs (r.drop 1)))) (10 ^ digs (r.drop 1)) (r.drop (digs (r.drop 1) + 1)) := by
  subst hr; unfold fin2; rw [if_neg h, if_neg h0, if_pos h1, if_neg h2]
theorem fin2_plain {s : Prop} {b r : List Nat} (h : digs b ≠ 0) (hr : r = b.drop (digs b)) (h0 : ¬ slash r) (h1 : ¬ dot r) : fin2 s b = fin3 s (hor (b.take (digs b))) 1 r := by
  subst hr; unfold fin2; rw [if_neg h, if_neg h0, if_neg h1]
theorem fin3_nil (s : Prop) (n d : Nat) : fin3 s n d [] = fin4 s n d := if_pos rfl
theorem fin3_bad {s : Prop} {n d : Nat} {r : List Nat} (h : r ≠ []) (h1 : ¬ exOk r) : fin3 s n d r = (4, 0) := by unfold fin3; rw [if_neg h, if_neg h1]
theorem fin3_down {s : Prop} {n d : Nat} {r : List Nat} (h : r ≠ []) (h1 : exOk r) (h2 : exDown r) : fin3 s n d r = fin4 s n (d * 10 ^ exN r) := by unfold fin3; rw [if_neg h, if_pos h1, if_pos h2]
theorem fin3_up {s : Prop} {n d : Nat} {r : List Nat} (h : r ≠ []) (h1 : exOk r) (h2 : ¬ exDown r) : fin3 s n d r = fin4 s (n * 10 ^ exN r) d := by unfold fin3; rw [if_neg h, if_pos h1, if_neg h2]
theorem fin4_big {s : Prop} {n d : Nat} (h : (2048 : Int) < bitsQ (mkRat (sg s n) d)) : fin4 s n d = (2, 0) := if_pos h
theorem fin4_ok {s : Prop} {n d : Nat} (h : ¬ (2048 : Int) < bitsQ (mkRat (sg s n) d)) : fin4 s n d = (0, mkRat (sg s n) d) := if_neg h
theorem parQ_big {bs : List Nat} (h : (4096 : Int) < ↑bs.length) : parQ bs = (2, 0) := if_pos (by omega)
theorem parQ_fin {bs : List Nat} (h : ¬ (4096 : Int) < ↑bs.length) : parQ bs = fin2 (parNeg bs) (parBody bs) := if_neg (by omega)
theorem lenpos {bs : List Nat} : (0 : Int) < ↑bs.length ↔ bs ≠ [] := by
  rw [← List.length_pos_iff]; omega
theorem slash_iff {r : List Nat} : ((0 : Int) < ↑r.length ∧ r.getD 0 0 = 47) ↔ slash r := by rw [lenpos]; rfl
theorem dot_iff {r : List Nat} : ((0 : Int) < ↑r.length ∧ r.getD 0 0 = 46) ↔ dot r := by rw [lenpos]; rfl
theorem slash_bad {r : List Nat} (h : (↑(digs (r.drop 1)) : Int) = 0 ∨ (↑(digs (r.drop 1)) : Int) + 1 ≠ ↑r.length) (h0 : slash r) : r.drop 1 = [] ∨ digs (r.drop 1) ≠ (r.drop 1).length := by
  have h1 := List.length_pos_iff.2 h0.1
  have h2 := List.length_drop (i := 1) (l := r)
  by_cases h3 : r.drop 1 = []
  · exact .inl h3
  · have := List.length_pos_iff.2 h3
    exact .inr (by omega)
theorem slash_good {r : List Nat} (h : ¬ ((↑(digs (r.drop 1)) : Int) = 0 ∨ (↑(digs (r.drop 1)) : Int) + 1 ≠ ↑r.length)) (h0 : slash r) : ¬ (r.drop 1 = [] ∨ digs (r.drop 1) ≠ (r.drop 1).length) := by
  have h1 := List.length_pos_iff.2 h0.1
  have h2 := List.length_drop (i := 1) (l := r)
  rintro (h3 | h3)
  · rw [h3] at h; exact h (.inl rfl)
  · exact h (.inr (by omega))
theorem exp_bad3 {s : List Nat} (h : s.getD 0 0 ≠ 69 ∧ s.getD 0 0 ≠ 101) : ¬ exOk s := fun e => e.1.elim h.2 h.1
theorem exp_bad4 {s u : List Nat} (hu : exU s = u) (h : ((↑(digs u) : Int) < 1 ∨ 3 < (↑(digs u) : Int)) ∨ (↑(digs u) : Int) ≠ ↑u.length) : ¬ exOk s := by
  rintro ⟨_, h1, h2, h3⟩
  rw [hu] at h1 h2 h3
  have := List.length_pos_iff.2 h1
  omega
theorem exp_ok4 {s u : List Nat} (h0 : ¬ (s.getD 0 0 ≠ 69 ∧ s.getD 0 0 ≠ 101)) (hu : exU s = u) (h : ¬ (((↑(digs u) : Int) < 1 ∨ 3 < (↑(digs u) : Int)) ∨ (↑(digs u) : Int) ≠ ↑u.length)) : exOk s := by
  refine ⟨by omega, ?_, ?_, ?_⟩
  · rw [hu, ← List.length_pos_iff]; omega
  · rw [hu]; omega
  · rw [hu]; omega
theorem exDown_iff {s : List Nat} : ((0 : Int) < ↑(s.drop 1).length ∧ (s.drop 1).getD 0 0 = 45) ↔ exDown s := by rw [lenpos]; rfl
theorem exU_t' {s : List Nat} (h : ((0 : Int) < ↑(s.drop 1).length ∧ (s.drop 1).getD 0 0 = 45) ∨ ((0 : Int) < ↑(s.drop 1).length ∧ (s.drop 1).getD 0 0 = 43)) : exU s = (s.drop 1).drop 1 := by
  rw [lenpos] at h
  exact exU_t (h.elim (fun h => ⟨h.1, .inr h.2⟩) (fun h => ⟨h.1, .inl h.2⟩))
theorem exU_f' {s : List Nat} (h : ¬ (((0 : Int) < ↑(s.drop 1).length ∧ (s.drop 1).getD 0 0 = 45) ∨ ((0 : Int) < ↑(s.drop 1).length ∧ (s.drop 1).getD 0 0 = 43))) : exU s = s.drop 1 := by
  rw [lenpos] at h
  exact exU_f (fun e => h (e.2.elim (fun e2 => .inr ⟨e.1, e2⟩) (fun e2 => .inl ⟨e.1, e2⟩)))
theorem hor_dot {a b : List Nat} {n : Nat} (h : b.length = n) : hor a * 10 ^ n + hor b = hor (a ++ b) := by rw [hor_app, h]
theorem fin4_lq {s : Prop} {n d : Nat} (h : bitsQ (mkRat (sg s n) d) ≤ 2048) : lq (mkRat (sg s n) d) ≤ 65 := by
  generalize mkRat (sg s n) d = q at *
  unfold bitsQ at h
  have h1 := lt_pow_bitsN q.num.natAbs
  have h2 := lt_pow_bitsN q.den
  have e : (4294967296 : Nat) ^ 64 = 2 ^ (32 * 64) := (Nat.pow_mul 2 32 64).symm
  have h3 := Nat.pow_le_pow_right (n := 2) (by omega) (show bitsN q.num.natAbs ≤ 32 * 64 by omega)
  have h4 := Nat.pow_le_pow_right (n := 2) (by omega) (show bitsN q.den ≤ 32 * 64 by omega)
  have h5 := limbs_len_of_lt (n := q.num.natAbs) (k := 64) (by rw [e]; omega)
  have h6 := limbs_len_of_lt (n := q.den) (k := 64) (by rw [e]; omega)
  unfold lq
  omega
theorem lq_fin4 (s : Prop) (n d : Nat) : lq (fin4 s n d).2 ≤ 65 := by
  unfold fin4
  split
  · show lq 0 ≤ 65; rw [lq_zero]; omega
  · exact fin4_lq (by omega)
theorem lq_fin3 (s : Prop) (n d : Nat) (r : List Nat) : lq (fin3 s n d r).2 ≤ 65 := by
  have h0 : lq (0 : Rat) ≤ 65 := by rw [lq_zero]; omega
  unfold fin3
  split
  · exact lq_fin4 _ _ _
  · split
    · split <;> exact lq_fin4 _ _ _
    · exact h0
theorem lq_par (bs : List Nat) : lq (parQ bs).2 ≤ 65 := by
  have h0 : lq (0 : Rat) ≤ 65 := by rw [lq_zero]; omega
  unfold parQ
  split
  · exact h0
  · generalize parBody bs = b
    generalize parNeg bs = s
    unfold fin2
    split
    · exact h0
    · split
      · split
        · exact h0
        · split
          · exact h0
          · exact lq_fin3 _ _ _ _
      · split
        · split
          · exact h0
          · exact lq_fin3 _ _ _ _
        · exact lq_fin3 _ _ _ _
end Bk
