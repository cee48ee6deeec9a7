/- Plain laws for the statements of chapter 2. -/
import Derived.Test.YtimoeckkdodogaaPar
namespace Bk
set_option linter.unusedVariables false
set_option linter.unusedSimpArgs false
open Go Go.RowKit
open Classical

theorem bitsQ_le {q : Rat} (h : lq q ≤ 64) : bitsQ q ≤ 2048 := by
  have h1 := bits_len q.num.natAbs
  have h2 := bits_len q.den
  have h3 := lq_num q
  have h4 := lq_den q
  unfold bitsQ
  omega
theorem txt_head (n : Nat) (rest : List Nat) : (txt n ++ rest).getD 0 0 ≠ 45 ∧ (0 : Nat) < (txt n ++ rest).length := by
  have h1 := txt_ne n
  have h2 := digB_get (digB_txt n) (i := 0) h1
  have h3 : (txt n ++ rest).getD 0 0 = (txt n).getD 0 0 := by
    rw [List.getD_eq_getElem?_getD, List.getD_eq_getElem?_getD, List.getElem?_append_left h1]
  rw [h3, List.length_append]
  omega
theorem fin2_txt {s : Prop} {n : Nat} {t : List Nat} (ht : t = [] ∨ ∃ d, d ≠ 0 ∧ t = 47 :: txt d) : fin2 s (txt n ++ t) = fin4 s n (if t = [] then 1 else hor (t.drop 1)) := by
  have hd : digs (txt n ++ t) = (txt n).length := by
    rw [digs_app (digB_txt n)]
    rcases ht with h | ⟨d, _, h⟩
    · rw [h]; rfl
    · rw [h]; rfl
  have h0 : digs (txt n ++ t) ≠ 0 := by have := txt_ne n; omega
  have hr : t = (txt n ++ t).drop (digs (txt n ++ t)) := by rw [hd, List.drop_left]
  have ht2 : (txt n ++ t).take (digs (txt n ++ t)) = txt n := by rw [hd, List.take_left]
  rcases ht with h | ⟨d, hd0, h⟩
  · rw [if_pos h, fin2_plain h0 hr (fun e => e.1 h) (fun e => e.1 h), ht2, hor_txt, h, fin3_nil]
  · have hs : slash t := by rw [h]; exact ⟨by simp, rfl⟩
    have h1 : t.drop 1 = txt d := by rw [h]; rfl
    have h2 : ¬ (t.drop 1 = [] ∨ digs (t.drop 1) ≠ (t.drop 1).length) := by
      rw [h1]
      rintro (e | e)
      · have := txt_ne d; rw [e] at this; simp at this
      · exact e (digs_all.2 (digB_txt d))
    rw [if_neg (by rw [h]; simp), fin2_slash h0 hr hs h2 (by rw [h1, hor_txt]; exact hd0), ht2, hor_txt, fin3_nil]
theorem par_txt {q : Rat} (h : lq q ≤ 60) : parQ (txtQ q) = (0, q) := by
  have hl := txtQ_len q
  rw [parQ_fin (by omega)]
  have hT : ∃ t, txtQ q = (if q.num < 0 then [45] else []) ++ (txt q.num.natAbs ++ t) ∧ (t = [] ∨ ∃ d, d ≠ 0 ∧ t = 47 :: txt d) ∧ (if t = [] then 1 else hor (t.drop 1)) = q.den := by
    unfold txtQ
    by_cases h1 : q.den = 1
    · refine ⟨[], ?_, .inl rfl, by rw [if_pos rfl, h1]⟩
      rw [if_pos (show denN q.den = 0 by rw [h1]; rfl)]
      simp
    · refine ⟨47 :: txt q.den, ?_, .inr ⟨q.den, q.den_nz, rfl⟩, ?_⟩
      · rw [denN_ne h1, if_neg q.den_nz]
        simp
      · rw [if_neg (by simp)]
        exact hor_txt q.den
  obtain ⟨t, h1, h2, h3⟩ := hT
  have hn : parNeg (txtQ q) ↔ q.num < 0 := by
    rw [h1]
    by_cases hs : q.num < 0
    · rw [if_pos hs]
      exact ⟨fun _ => hs, fun _ => ⟨by simp; omega, rfl⟩⟩
    · rw [if_neg hs]
      exact ⟨fun e => absurd e.2 (txt_head _ _).1, fun e => absurd e hs⟩
  have hb : parBody (txtQ q) = txt q.num.natAbs ++ t := by
    by_cases hs : q.num < 0
    · rw [parBody_t (hn.2 hs), h1, if_pos hs]; rfl
    · rw [parBody_f (fun e => hs (hn.1 e)), h1, if_neg hs]; rfl
  rw [hb, propext hn, fin2_txt h2, h3]
  have hq : mkRat (sg (q.num < 0) q.num.natAbs) q.den = q := mk_self q
  rw [fin4_ok (by rw [hq]; have := bitsQ_le (q := q) (by omega); omega), hq]

/-! the examples -/
theorem txt_dig {n : Nat} (h0 : n ≠ 0) (h : n < 10) : txt n = [48 + n] := by
  unfold txt
  rw [if_neg h0, chLE_pos h0, show n / 10 = 0 by omega, chLE_zero, Nat.mod_eq_of_lt h]; rfl
theorem ex_a : makeQ 6 (-4) = mkRat (sg True 3) 2 := by
  rw [← makeQ_eq (by omega), show (6 : Int).natAbs = 3 * 2 from rfl, show (-4 : Int).natAbs = 2 * 2 from rfl, mk_scale _ _ _ (by omega)]
  exact mk_iff (by simp) 3 2
theorem ex_num {s : Prop} {n d : Nat} (hd : d ≠ 0) (hg : Nat.gcd n d = 1) : (mkRat (sg s n) d).num = sg s n ∧ (mkRat (sg s n) d).den = d := by
  rw [mkRat_num hd, mkRat_den hd, hg, Nat.div_one, Nat.div_one]
  exact ⟨rfl, rfl⟩
theorem ex_txt {n d : Nat} (hn0 : n ≠ 0) (hn : n < 10) (hd0 : d ≠ 0) (hd : d < 10) (hg : Nat.gcd n d = 1) : txtQ (mkRat (sg True n) d) = if d = 1 then [45, 48 + n] else [45, 48 + n, 47, 48 + d] := by
  obtain ⟨h1, h2⟩ := ex_num (s := True) hd0 hg
  unfold txtQ
  rw [h1, h2, sg_t trivial, if_pos (by omega), show (-(n : Int)).natAbs = n by omega, txt_dig hn0 hn]
  by_cases h : d = 1
  · rw [if_pos h, if_pos (by rw [h]; rfl)]; rfl
  · rw [if_neg h, denN_ne h, if_neg hd0, txt_dig hd0 hd]; rfl
theorem ex_t1 : txtQ (makeQ 6 (-4)) = [45, 51, 47, 50] := by
  rw [ex_a, ex_txt (by omega) (by omega) (by omega) (by omega) (by decide), if_neg (by omega)]
theorem ex_fl : floorQ (makeQ 6 (-4)) = mkRat (sg True 2) 1 := by
  rw [ex_a, ← floor_eq _ (by omega), if_pos ⟨trivial, by omega⟩]
theorem ex_t3 : txtQ (floorQ (makeQ 6 (-4))) = [45, 50] := by
  rw [ex_fl, ex_txt (by omega) (by omega) (by omega) (by omega) (by decide), if_pos rfl]
theorem ex_b : parQ [45, 49, 46, 50, 53, 101, 45, 49] = (0, mkRat (sg True 1) 8) := by
  have hN : parNeg [45, 49, 46, 50, 53, 101, 45, 49] := ⟨by decide, rfl⟩
  have hd : digs [49, 46, 50, 53, 101, 45, 49] = 1 := rfl
  have hd2 : digs ((46 :: [50, 53, 101, 45, 49]).drop 1) = 2 := rfl
  have hU : exU [101, 45, 49] = [49] := exU_t ⟨by simp, .inr rfl⟩
  have hO : exOk [101, 45, 49] := ⟨.inl rfl, by rw [hU]; simp, by rw [hU]; simp, by rw [hU]; rfl⟩
  have hE : exN [101, 45, 49] = 1 := by rw [exN_t hO, hU]; rfl
  rw [parQ_fin (by decide), parBody_t hN]
  show fin2 _ [49, 46, 50, 53, 101, 45, 49] = _
  rw [fin2_dot (r := 46 :: [50, 53, 101, 45, 49]) (by rw [hd]; omega) rfl (fun e => by have := e.2; simp at this) ⟨by simp, rfl⟩ (by rw [hd2]; omega), hd2, hd]
  show fin3 _ 125 100 [101, 45, 49] = _
  rw [fin3_down (by simp) hO ⟨by simp, rfl⟩, hE]
  have e : mkRat (sg (parNeg [45, 49, 46, 50, 53, 101, 45, 49]) 125) (100 * 10 ^ 1) = mkRat (sg True 1) 8 := by
    rw [show 125 = 1 * 125 from rfl, show 100 * 10 ^ 1 = 8 * 125 from rfl, mk_scale _ _ _ (by omega)]
    exact mk_iff (by simp [hN]) 1 8
  have hb : ¬ (2048 : Int) < bitsQ (mkRat (sg True 1) 8) := by
    obtain ⟨h1, h2⟩ := ex_num (s := True) (n := 1) (d := 8) (by omega) (by decide)
    unfold bitsQ
    rw [h1, h2, sg_natAbs]
    decide
  rw [fin4_ok (by rw [e]; exact hb), e]
theorem ex_t2 : txtQ (parQ [45, 49, 46, 50, 53, 101, 45, 49]).2 = [45, 49, 47, 56] := by
  rw [ex_b]
  show txtQ (mkRat (sg True 1) 8) = _
  rw [ex_txt (by omega) (by omega) (by omega) (by omega) (by decide), if_neg (by omega)]
theorem dV_len (ys : List Nat) (hf : Fit ys) : (limbs (dV ys)).length ≤ ys.length + 1 := by
  unfold dV
  split
  · rw [len_one]; omega
  · have := limbs_len_le hf; omega
end Bk
