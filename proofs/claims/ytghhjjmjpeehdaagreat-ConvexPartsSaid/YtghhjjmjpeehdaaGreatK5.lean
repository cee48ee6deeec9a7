/- Texts that the proof needs, part 5. -/
import Derived.Test.YtghhjjmjpeehdaaGreatK4
namespace Bk
set_option linter.unusedVariables false
set_option linter.unusedSimpArgs false
open Classical
def inC (P : Nat → P2) (n : Nat) (p : P2) : Prop := ∀ m, m < n → 0 ≤ cr (P m) (P ((m + 1) % n)) p
def afZ (w : Rat × Rat × Rat) (p : P2) : Rat := w.1 + w.2.1 * p.1 + w.2.2 * p.2
theorem bary (w : Rat × Rat × Rat) (a b c p : P2) : cr a b c * afZ w p = afZ w a * cr b c p + afZ w b * cr c a p + afZ w c * cr a b p := by unfold cr afZ; grind
theorem af_lp (w : Rat × Rat × Rat) (t : Rat) (a b : P2) : afZ w (lp t a b) = (1 - t) * afZ w a + t * afZ w b := by unfold afZ lp; grind
theorem nonneg_div {x y : Rat} (hx : 0 < x) (h : 0 ≤ x * y) : 0 ≤ y := by
  refine Rat.not_lt.1 fun e => ?_
  have := Rat.mul_pos (a := x) (b := -y) hx (by grind)
  grind
theorem z6 {f : Nat → Rat} : ∀ d, 0 ≤ f 1 → f (1 + d + 1) ≤ 0 → ∃ k, 1 ≤ k ∧ k ≤ 1 + d ∧ 0 ≤ f k ∧ f (k + 1) ≤ 0
  | 0, h1, h2 => ⟨1, Nat.le_refl _, Nat.le_refl _, h1, h2⟩
  | d + 1, h1, h2 => by
    rcases Rat.le_total (a := 0) (b := f (1 + d + 1)) with h | h
    · exact ⟨1 + d + 1, by omega, by omega, h, h2⟩
    · obtain ⟨k, a, b, c, e⟩ := z6 d h1 h
      exact ⟨k, a, by omega, c, e⟩
theorem hull {P : Nat → P2} {n : Nat} {p : P2} (h3 : 3 ≤ n) (hp : inC P n p) : ∃ k, 1 ≤ k ∧ k + 1 < n ∧ 0 ≤ cr (P 0) (P k) p ∧ 0 ≤ cr (P k) (P (k + 1)) p ∧ 0 ≤ cr (P (k + 1)) (P 0) p := by
  have h1 : 0 ≤ cr (P 0) (P 1) p := by
    have := hp 0 (by omega)
    rw [Nat.mod_eq_of_lt (show 0 + 1 < n by omega)] at this
    exact this
  have h2 : cr (P 0) (P (1 + (n - 3) + 1)) p ≤ 0 := by
    have := hp (n - 1) (by omega)
    rw [show n - 1 + 1 = n by omega, Nat.mod_self, cr_swap] at this
    rw [show 1 + (n - 3) + 1 = n - 1 by omega]
    grind
  obtain ⟨k, a, b, c, d⟩ := z6 (f := fun k => cr (P 0) (P k) p) (n - 3) h1 h2
  refine ⟨k, a, by omega, c, ?_, ?_⟩
  · have := hp k (by omega)
    rw [Nat.mod_eq_of_lt (show k + 1 < n by omega)] at this
    exact this
  · rw [cr_swap]; grind
theorem mY {P : Nat → P2} {n : Nat} {p : P2} {w : Rat × Rat × Rat} (h3 : 3 ≤ n) (h : lE P n) (hp : inC P n p) (hw : ∀ m, m < n → 0 ≤ afZ w (P m)) : 0 ≤ afZ w p := by
  obtain ⟨k, k1, k2, c1, c2, c3⟩ := hull h3 hp
  have hD := h 0 k (k + 1) (by omega) (by omega) k2
  refine nonneg_div hD ?_
  rw [bary]
  have a1 := Rat.mul_nonneg (hw 0 (by omega)) c2
  have a2 := Rat.mul_nonneg (hw k (by omega)) c3
  have a3 := Rat.mul_nonneg (hw (k + 1) k2) c1
  grind
def mkS (S : Nat → Int) (M : Mk) : Prop := if M.2 then S M.1 * S (M.1 + 1) < 0 else S M.1 ≤ 0
theorem nbr {S : Nat → Int} {A B : Mk} (hA : mkS S A) (hB : mkS S B) (hAB : aT A B) (hno : ∀ M, mkS S M → aT A M → aT M B → False) :
    (B.1 = A.1 ∨ (B.1 = A.1 + 1 ∧ B.2 = false)) ∨ (((A.2 = true ∨ S A.1 = 0) ∧ (B.2 = true ∨ S B.1 = 0)) ∧ (A.1 < B.1 ∧ ¬ (B.1 = A.1 + 1 ∧ B.2 = false)) ∧ ∀ m, A.1 < m → m < B.1 + (if B.2 then 1 else 0) → 0 < S m) := by
  obtain ⟨i, a⟩ := A; obtain ⟨j, b⟩ := B
  by_cases h0 : j = i ∨ (j = i + 1 ∧ b = false)
  · exact .inl h0
  refine .inr ?_
  have hij : i < j := by
    rcases hAB with h | h
    · exact h
    · exact absurd (.inl h.1.symm) h0
  have pos : ∀ m, i < m → m < j + (if b then 1 else 0) → 0 < S m := fun m h1 h2 => by
    refine Int.not_le.1 fun e => hno (m, false) e (.inl h1) ?_
    cases b with
    | false => exact .inl (by simpa using h2)
    | true =>
      have h3 : m < j + 1 := by simpa using h2
      rcases Nat.lt_succ_iff_lt_or_eq.1 h3 with h4 | h4
      · exact .inl h4
      · exact .inr ⟨h4, rfl, rfl⟩
  refine ⟨⟨?_, ?_⟩, ⟨hij, fun e => h0 (.inr e)⟩, pos⟩
  · cases a with
    | true => exact .inl rfl
    | false =>
      right
      have h1 : S i ≤ 0 := hA
      show S i = 0
      refine Classical.byContradiction fun e => ?_
      have h2 : 0 < S (i + 1) := by
        refine pos (i + 1) (by omega) ?_
        cases b with
        | false => simp; have : j ≠ i + 1 := fun e => h0 (.inr ⟨e, rfl⟩); omega
        | true => simp; omega
      refine hno (i, true) (Int.mul_neg_of_neg_of_pos (show S i < 0 by omega) h2) (.inr ⟨rfl, rfl, rfl⟩) (.inl hij)
  · cases b with
    | true => exact .inl rfl
    | false =>
      right
      have h1 : S j ≤ 0 := hB
      have hj : j ≠ i + 1 := fun e => h0 (.inr ⟨e, rfl⟩)
      show S j = 0
      refine Classical.byContradiction fun e => ?_
      have h2 : 0 < S (j - 1) := pos (j - 1) (by omega) (by simp; omega)
      refine hno (j - 1, true) ?_ (.inl (by show i < j - 1; omega)) (.inl (by show j - 1 < j; omega))
      show S (j - 1) * S (j - 1 + 1) < 0
      rw [show j - 1 + 1 = j by omega]
      exact Int.mul_neg_of_pos_of_neg h2 (by omega)
def nxM (L : List Mk) (n q : Nat) : Mk := if q + 1 < L.length then L.getD (q + 1) (0, false) else ((L.getD 0 (0, false)).1 + n, (L.getD 0 (0, false)).2)
section
variable {s : Nat → Int} {n : Nat}
theorem mk_at {L : List Mk} {q : Nat} (hq : q < L.length) : L.getD q (0, false) = L[q] := by
  rw [List.getD_eq_getElem?_getD, List.getElem?_eq_getElem hq]; rfl
theorem mk_in {q : Nat} (hq : q < (mks s n n).length) : (mks s n n).getD q (0, false) ∈ mks s n n := by rw [mk_at hq]; exact List.getElem_mem hq
theorem mem_S {M : Mk} (hn : 0 < n) : mkS (fun m => s (m % n)) M ↔ ((M.1 % n, M.2) : Mk) ∈ mks s n n := by
  rw [jX]
  obtain ⟨i, b⟩ := M
  have h1 := Nat.mod_lt i hn
  unfold mkS chg
  cases b with
  | false => exact ⟨fun h => ⟨h1, h⟩, fun h => h.2⟩
  | true =>
    show (s (i % n) * s ((i + 1) % n) < 0) ↔ (i % n < n ∧ s (i % n) * s ((i % n + 1) % n) < 0)
    rw [Nat.mod_add_mod]
    exact ⟨fun h => ⟨h1, h⟩, fun h => h.2⟩
theorem nD {A : Mk} : ¬ aT A A := by
  rintro (h | ⟨_, h, h'⟩)
  · omega
  · rw [h] at h'; exact absurd h' (by decide)
theorem bY {A B : Mk} (h : aT A B) : ¬ aT B A := by
  rintro (k | ⟨k1, k2, k3⟩) <;> rcases h with h | ⟨h1, h2, h3⟩
  · omega
  · omega
  · omega
  · rw [k2] at h3; exact absurd h3 (by decide)
theorem rQ {a b : Nat} (hab : a < b) (hb : b < (mks s n n).length) : aT ((mks s n n).getD a (0, false)) ((mks s n n).getD b (0, false)) := by
  have hp := List.pairwise_iff_getElem.1 (aS (s := s) (n := n) n)
  rw [mk_at (by omega), mk_at hb]
  exact hp a b _ _ hab
theorem mk_index {M : Mk} (h : M ∈ mks s n n) : ∃ v, v < (mks s n n).length ∧ (mks s n n).getD v (0, false) = M := by
  obtain ⟨v, hv, e⟩ := List.mem_iff_getElem.1 h
  exact ⟨v, hv, by rw [mk_at hv]; exact e⟩
theorem sU {q : Nat} (hq : q < (mks s n n).length) : ((mks s n n).getD q (0, false)).1 < n := (jX.1 (mk_in hq)).1
theorem nb_list {q : Nat} (hq : q < (mks s n n).length) (hn : 0 < n) : mkS (fun m => s (m % n)) ((mks s n n).getD q (0, false)) ∧ mkS (fun m => s (m % n)) (nxM (mks s n n) n q) ∧ aT ((mks s n n).getD q (0, false)) (nxM (mks s n n) n q) ∧
    ∀ M, mkS (fun m => s (m % n)) M → aT ((mks s n n).getD q (0, false)) M → aT M (nxM (mks s n n) n q) → False := by
  have inS : ∀ {v}, v < (mks s n n).length → mkS (fun m => s (m % n)) ((mks s n n).getD v (0, false)) := fun {v} hv => by
    rw [mem_S hn, Nat.mod_eq_of_lt (sU hv)]
    exact mk_in hv
  refine ⟨inS hq, ?_, ?_, ?_⟩
  · unfold nxM
    split
    · rename_i h; exact inS h
    · rw [mem_S hn]
      have h0 : 0 < (mks s n n).length := by omega
      have e : ((((mks s n n).getD 0 (0, false)).1 + n) % n, ((mks s n n).getD 0 (0, false)).2) = (mks s n n).getD 0 (0, false) := by
        rw [Nat.add_mod_right, Nat.mod_eq_of_lt (sU h0)]
      rw [e]
      exact mk_in h0
  · unfold nxM
    split
    · rename_i h; exact rQ (by omega) h
    · have := sU hq
      exact .inl (by show _ < _ + n; omega)
  · intro M hM h1 h2
    rw [mem_S hn] at hM
    obtain ⟨v, hv, ev⟩ := mk_index hM
    unfold nxM at h2
    split at h2
    · rename_i h
      have hMn : M.1 < n := by
        have := sU h
        rcases h2 with k | ⟨k, _⟩ <;> omega
      rw [Nat.mod_eq_of_lt hMn] at ev
      have ev' : (mks s n n).getD v (0, false) = M := ev
      rw [← ev'] at h1 h2
      have g1 : q < v := Nat.not_le.1 fun e => by
        rcases Nat.lt_or_eq_of_le e with e | e
        · exact bY h1 (rQ e hq)
        · subst e; exact nD h1
      have g2 : v < q + 1 := Nat.not_le.1 fun e => by
        rcases Nat.lt_or_eq_of_le e with e | e
        · exact bY h2 (rQ e hv)
        · rw [← e] at h2; exact nD h2
      omega
    · rename_i h
      have h0 : 0 < (mks s n n).length := by omega
      have b0 := sU (s := s) (n := n) h0
      rcases Nat.lt_or_ge M.1 n with hMn | hMn
      · rw [Nat.mod_eq_of_lt hMn] at ev
        have ev' : (mks s n n).getD v (0, false) = M := ev
        rw [← ev'] at h1
        have g1 : q < v := Nat.not_le.1 fun e => by
          rcases Nat.lt_or_eq_of_le e with e | e
          · exact bY h1 (rQ e hq)
          · subst e; exact nD h1
        omega
      · -- M of the next round lies ahead of the first one
        have hM2 : M.1 < 2 * n := by
          rcases h2 with k | ⟨k, _⟩
          · have k' : M.1 < ((mks s n n).getD 0 (0, false)).1 + n := k
            omega
          · have k' : M.1 = ((mks s n n).getD 0 (0, false)).1 + n := k
            omega
        have em : M.1 % n = M.1 - n := by rw [Nat.mod_eq_sub_mod hMn, Nat.mod_eq_of_lt (by omega)]
        have h4 : aT (M.1 - n, M.2) ((mks s n n).getD 0 (0, false)) := by
          rcases h2 with k | ⟨k, k2, k3⟩
          · have k' : M.1 < ((mks s n n).getD 0 (0, false)).1 + n := k
            exact .inl (by show M.1 - n < _; omega)
          · have k' : M.1 = ((mks s n n).getD 0 (0, false)).1 + n := k
            exact .inr ⟨by show M.1 - n = _; omega, k2, k3⟩
        rw [em] at ev
        rw [← ev] at h4
        rcases Nat.eq_zero_or_pos v with e | e
        · subst e; exact nD h4
        · exact bY h4 (rQ e hv)
end
structure Cfg (P : Nat → P2) (n : Nat) (t : Nat → Rat) (s : Nat → Int) (w : Rat × Rat × Rat) : Prop where
  h3 : 3 ≤ n
  tri : lE P n
  per : ∀ m, t (m % n) = t m
  cross : ∀ m, m < n → chg s n m → (0 < t m ∧ t m < 1) ∧ afZ w (lp (t m) (P m) (P ((m + 1) % n))) = 0
  neg : ∀ m, m < n → (s m < 0 ↔ afZ w (P m) < 0)
  zero : ∀ m, m < n → (s m = 0 ↔ afZ w (P m) = 0)
section
variable {P : Nat → P2} {n : Nat} {t : Nat → Rat} {s : Nat → Int} {w : Rat × Rat × Rat}
theorem ex_mod (m : Nat) : ex P n (m % n) = ex P n m := by unfold ex; rw [Nat.mod_mod]
theorem ex_mod1 (m : Nat) : ex P n (m % n + 1) = ex P n (m + 1) := by unfold ex; rw [Nat.mod_add_mod]
theorem mkP_mod (hper : ∀ m, t (m % n) = t m) (M : Mk) : mkP P n t (M.1 % n, M.2) = mkP P n t M := by
  unfold mkP
  simp only [ex_mod, ex_mod1, hper]
theorem nx_pt (hper : ∀ m, t (m % n) = t m) {q : Nat} (hq : q < (mks s n n).length) : mkP P n t (nxM (mks s n n) n q) = mkP P n t ((mks s n n).getD ((q + 1) % (mks s n n).length) (0, false)) := by
  unfold nxM
  split
  · rename_i h; rw [Nat.mod_eq_of_lt h]
  · have h0 : 0 < (mks s n n).length := by omega
    rw [show q + 1 = (mks s n n).length by omega, Nat.mod_self, ← mkP_mod hper]
    show mkP P n t ((((mks s n n).getD 0 (0, false)).1 + n) % n, _) = _
    rw [Nat.add_mod_right, Nat.mod_eq_of_lt (sU h0)]
theorem zero_mk (C : Cfg P n t s w) {M : Mk} (hS : mkS (fun m => s (m % n)) M) (hz : M.2 = true ∨ s (M.1 % n) = 0) : afZ w (mkP P n t M) = 0 := by
  have hn : 0 < n := by have := C.h3; omega
  obtain ⟨i, b⟩ := M
  have hi := Nat.mod_lt i hn
  cases b with
  | false =>
    have : s (i % n) = 0 := by
      rcases hz with h | h
      · exact absurd h (by simp)
      · exact h
    exact (C.zero _ hi).1 this
  | true =>
    have hc : chg s n (i % n) := by
      have : s (i % n) * s ((i + 1) % n) < 0 := hS
      unfold chg
      rw [Nat.mod_add_mod]
      exact this
    have := (C.cross _ hi hc).2
    rw [C.per, Nat.mod_add_mod] at this
    exact this
theorem cr_seg (u v : Rat) (a b p : P2) : cr (lp u a b) (lp v a b) p = (v - u) * cr a b p := by unfold cr lp; grind
theorem lp_one (a b : P2) : lp 1 a b = b := by unfold lp; obtain ⟨b1, b2⟩ := b; rw [Prod.mk.injEq]; grind
theorem seg (C : Cfg P n t s w) {q : Nat} (hq : q < (mks s n n).length) :
    (∃ e u v, e < n ∧ mkP P n t ((mks s n n).getD q (0, false)) = lp u (ex P n e) (ex P n (e + 1)) ∧ mkP P n t (nxM (mks s n n) n q) = lp v (ex P n e) (ex P n (e + 1)) ∧ u ≤ v) ∨
    (afZ w (mkP P n t ((mks s n n).getD q (0, false))) = 0 ∧ afZ w (mkP P n t (nxM (mks s n n) n q)) = 0) := by
  have hn : 0 < n := by have := C.h3; omega
  obtain ⟨hA, hB, hAB, hno⟩ := nb_list hq hn
  have hb := sU hq
  rcases nbr hA hB hAB hno with h | ⟨⟨h1, h2⟩, _⟩
  · left
    generalize (mks s n n).getD q (0, false) = A at *
    generalize nxM (mks s n n) n q = B at *
    obtain ⟨i, a⟩ := A; obtain ⟨j, b⟩ := B
    have hi : i < n := hb
    have tin : s (i % n) * s ((i + 1) % n) < 0 → 0 < t i ∧ t i < 1 := fun e => (C.cross i hi (by unfold chg; rw [Nat.mod_eq_of_lt hi] at e; exact e)).1
    rcases h with h | ⟨h, h'⟩
    · have hji : j = i := h
      subst hji
      rcases hAB with k | ⟨_, ka, kb⟩
      · have : j < j := k; omega
      · have ka' : a = false := ka
        have kb' : b = true := kb
        subst ka' kb'
        exact ⟨j, 0, t j, hi, (nE _ _).symm, rfl, Rat.le_of_lt (tin hB).1⟩
    · have hji : j = i + 1 := h
      have hb' : b = false := h'
      subst hji hb'
      cases a with
      | false => exact ⟨i, 0, 1, hi, (nE _ _).symm, (lp_one _ _).symm, by decide⟩
      | true => exact ⟨i, t i, 1, hi, rfl, (lp_one _ _).symm, Rat.le_of_lt (tin hA).2⟩
  · exact .inr ⟨zero_mk C hA h1, zero_mk C hB h2⟩
theorem t6 (C : Cfg P n t s w) : lE (fun q => mkP P n t ((mks s n n).getD q (0, false))) (mks s n n).length := mks_tri C.h3 C.tri (fun m hm hc => (C.cross m hm hc).1)
theorem part_in (C : Cfg P n t s w) {p : P2} (hp : inC P n p) (hw : afZ w p < 0) {i : Nat} (hi : i < n) (hs : s i < 0) : inC (fun q => mkP P n t ((mks s n n).getD q (0, false))) (mks s n n).length p := by
  intro q hq
  show 0 ≤ cr (mkP P n t ((mks s n n).getD q (0, false))) (mkP P n t ((mks s n n).getD ((q + 1) % (mks s n n).length) (0, false))) p
  rw [← nx_pt C.per hq]
  rcases seg C hq with ⟨e, u, v, he, e1, e2, huv⟩ | ⟨e1, e2⟩
  · rw [e1, e2, cr_seg]
    refine Rat.mul_nonneg (by grind) ?_
    have := hp e he
    unfold ex
    rw [Nat.mod_eq_of_lt he]
    exact this
  · have hm : ((i, false) : Mk) ∈ mks s n n := jX.2 ⟨hi, Int.le_of_lt hs⟩
    obtain ⟨v, hv, ev⟩ := mk_index hm
    have hX : mkP P n t ((mks s n n).getD v (0, false)) = P i := by
      rw [ev]
      show ex P n i = P i
      unfold ex; rw [Nat.mod_eq_of_lt hi]
    have hg : afZ w (P i) < 0 := (C.neg i hi).1 hs
    have n1 : v ≠ q := fun e => by rw [← e, hX] at e1; rw [e1] at hg; exact absurd hg (by decide)
    have n2 : v ≠ (q + 1) % (mks s n n).length := fun e => by
      rw [nx_pt C.per hq, ← e, hX] at e2
      rw [e2] at hg; exact absurd hg (by decide)
    have hedge := bK (t6 C)
    obtain ⟨k, k2, k3, k4⟩ : ∃ k, 2 ≤ k ∧ k < (mks s n n).length ∧ (q + k) % (mks s n n).length = v := by
      generalize (mks s n n).length = r at *
      rcases Nat.lt_or_ge q v with h | h
      · refine ⟨v - q, ?_, by omega, by rw [show q + (v - q) = v by omega, Nat.mod_eq_of_lt hv]⟩
        have : v ≠ q + 1 := fun e => n2 (by rw [← e, Nat.mod_eq_of_lt hv])
        omega
      · refine ⟨v + r - q, ?_, by omega, by rw [show q + (v + r - q) = v + r by omega, Nat.add_mod_right, Nat.mod_eq_of_lt hv]⟩
        have : ¬ (q + 1 = r ∧ v = 0) := fun e => n2 (by rw [e.1, Nat.mod_self, e.2])
        omega
    have h1 := hedge q k hq k2 k3
    rw [k4] at h1
    simp only at h1
    rw [← nx_pt C.per hq, hX] at h1
    have hb := bary w (mkP P n t ((mks s n n).getD q (0, false))) (mkP P n t (nxM (mks s n n) n q)) (P i) p
    rw [e1, e2] at hb
    have h2 := Rat.mul_pos h1 (show 0 < -afZ w p by grind)
    refine Rat.le_of_lt (bU (x := -afZ w (P i)) (by grind) ?_)
    grind
theorem cr_af (a b p : P2) : cr a b p = afZ ((b.2 - a.2) * a.1 - (b.1 - a.1) * a.2, -(b.2 - a.2), b.1 - a.1) p := by unfold cr afZ; grind
theorem edge_nonneg (h : lE P n) {m i : Nat} (hm : m < n) (hi : i < n) : 0 ≤ cr (P m) (P ((m + 1) % n)) (P i) := by
  by_cases e1 : i = m
  · rw [e1, cr_end']; exact Rat.le_refl
  · by_cases e2 : i = (m + 1) % n
    · rw [e2, cr_dup]; exact Rat.le_refl
    · have hedge := bK h
      rcases Nat.lt_or_ge m i with k | k
      · have := hedge m (i - m) hm (by have : i ≠ m + 1 := fun e => e2 (by rw [← e, Nat.mod_eq_of_lt hi])
                                       omega) (by omega)
        rw [show m + (i - m) = i by omega, Nat.mod_eq_of_lt hi] at this
        exact Rat.le_of_lt this
      · have := hedge m (i + n - m) hm (by have : ¬ (m + 1 = n ∧ i = 0) := fun e => e2 (by rw [e.1, Nat.mod_self, e.2])
                                           omega) (by omega)
        rw [show m + (i + n - m) = i + n by omega, Nat.add_mod_right, Nat.mod_eq_of_lt hi] at this
        exact Rat.le_of_lt this
theorem af_mk (C : Cfg P n t s w) {w' : Rat × Rat × Rat} (hw : ∀ m, m < n → 0 ≤ afZ w' (P m)) {q : Nat} (hq : q < (mks s n n).length) : 0 ≤ afZ w' (mkP P n t ((mks s n n).getD q (0, false))) := by
  have hn : 0 < n := by have := C.h3; omega
  have hM := mk_in hq
  generalize (mks s n n).getD q (0, false) = M at *
  obtain ⟨i, b⟩ := M
  obtain ⟨hi, hc⟩ := jX.1 hM
  have hi' : i < n := hi
  have e1 : ex P n i = P i := by unfold ex; rw [Nat.mod_eq_of_lt hi']
  cases b with
  | false => show 0 ≤ afZ w' (ex P n i); rw [e1]; exact hw i hi'
  | true =>
    have ht := (C.cross i hi' hc).1
    show 0 ≤ afZ w' (lp (t i) (ex P n i) (P ((i + 1) % n)))
    rw [af_lp, e1]
    have a1 := Rat.mul_nonneg (a := 1 - t i) (by grind) (hw i hi')
    have a2 := Rat.mul_nonneg (Rat.le_of_lt ht.1) (hw _ (Nat.mod_lt (i + 1) hn))
    grind
theorem t7 (C : Cfg P n t s w) {p : P2} (hr : 3 ≤ (mks s n n).length) (hp : inC (fun q => mkP P n t ((mks s n n).getD q (0, false))) (mks s n n).length p) : inC P n p := by
  intro m hm
  rw [cr_af]
  refine mY hr (t6 C) hp (fun q hq => ?_)
  refine af_mk C (fun i hi => ?_) hq
  rw [← cr_af]
  exact edge_nonneg C.tri hm hi
def cx (u v : P2) : Rat := u.1 * v.2 - v.1 * u.2
def arC (P : Nat → P2) (n : Nat) : Nat → Rat
  | 0 => 0
  | m + 1 => arC P n m + cx (P m) (P ((m + 1) % n))
def arO (P : Nat → P2) (n : Nat) (o : P2) : Nat → Rat
  | 0 => 0
  | m + 1 => arO P n o m + cr o (P m) (P ((m + 1) % n))
noncomputable def om (S : Nat → Int) (t : Nat → Rat) (e : Nat) : Rat :=
  if S e ≤ 0 ∧ S (e + 1) ≤ 0 then 1 else if S e < 0 ∧ 0 < S (e + 1) then t e else if 0 < S e ∧ S (e + 1) < 0 then 1 - t e else 0
noncomputable def usum (S : Nat → Int) (t : Nat → Rat) (k : Nat → Rat) : Nat → Rat
  | 0 => 0
  | e + 1 => usum S t k e + om S t e * k e
noncomputable def uM (S : Nat → Int) (t : Nat → Rat) (k : Nat → Rat) (M : Mk) : Rat := usum S t k M.1 + if M.2 = true ∧ S M.1 < 0 then t M.1 * k M.1 else 0
end
def ngW (w : Rat × Rat × Rat) : Rat × Rat × Rat := (-w.1, -w.2.1, -w.2.2)
theorem af_ng (w : Rat × Rat × Rat) (p : P2) : afZ (ngW w) p = -afZ w p := by unfold afZ ngW; grind
theorem chg_ng {s : Nat → Int} {n m : Nat} : chg (fun m => -s m) n m ↔ chg s n m := by
  unfold chg
  rw [Int.neg_mul_neg]
section
variable {P : Nat → P2} {n : Nat} {t : Nat → Rat} {s : Nat → Int} {w : Rat × Rat × Rat}
theorem Cfg.ng (C : Cfg P n t s w) : Cfg P n t (fun m => -s m) (ngW w) where
  h3 := C.h3
  tri := C.tri
  per := C.per
  cross := fun m hm hc => ⟨(C.cross m hm (chg_ng.1 hc)).1, by rw [af_ng, (C.cross m hm (chg_ng.1 hc)).2]; rfl⟩
  neg := fun m hm => by
    have h1 := C.neg m hm
    have h2 := C.zero m hm
    rw [af_ng]
    have e1 : (-s m < 0) ↔ ¬ (s m < 0 ∨ s m = 0) := by omega
    rw [e1, h1, h2]
    grind
  zero := fun m hm => by
    have h2 := C.zero m hm
    rw [af_ng]
    have e1 : (-s m = 0) ↔ s m = 0 := by omega
    rw [e1, h2]
    grind
end
end Bk
namespace Bk
set_option linter.unusedVariables false
set_option linter.unusedSimpArgs false
open Classical
noncomputable def pt2 (pl : Pl) (p : Pt) : P2 := pr p (axI pl.1) (axJ pl.1)
abbrev zT : Pt := T3.mk (0 : Rat) 0 0
def kV (pl : Pl) (l : List Pt) : Prop :=
  (3 ≤ l.length ∧ ¬ pl.1 = zT) ∧ (∀ m, m < l.length → sdZ pl (gp l m) = 0) ∧ ∀ m k, m < l.length → 2 ≤ k → k < l.length → 0 < orZ (pt2 pl (gp l m)) (pt2 pl (nx l m)) (pt2 pl (gp l ((m + k) % l.length)))
theorem or_pos {a b c : P2} : 0 < orZ a b c ↔ 0 < cr a b c := y8
theorem valid_edge {pl : Pl} {l : List Pt} (h : kV pl l) : edgeT (fun m => pt2 pl (gp l m)) l.length := fun i k h1 h2 h3 => or_pos.1 (h.2.2 i k h1 h2 h3)
theorem nV {pl : Pl} {l : List Pt} (h : kV pl l) : lE (fun m => pt2 pl (gp l m)) l.length := j6 h.1.1 (valid_edge h)
theorem oO {pl : Pl} {l : List Pt} (h3 : 3 ≤ l.length) (hn : ¬ pl.1 = zT) (hon : ∀ m, m < l.length → sdZ pl (gp l m) = 0) (ht : lE (fun m => pt2 pl (gp l m)) l.length) : kV pl l :=
  ⟨⟨h3, hn⟩, hon, fun i k h1 h2 h3 => or_pos.2 (bK ht i k h1 h2 h3)⟩
theorem at_lerp (t : Rat) (a b : Pt) (i : Nat) : (lerp t a b).at i = a.at i + t * (b.at i - a.at i) := by
  rcases i with _ | _ | i <;> rfl
theorem t5 (pl : Pl) (t : Rat) (a b : Pt) : pt2 pl (lerp t a b) = lp t (pt2 pl a) (pt2 pl b) := by
  unfold pt2 pr lp
  rw [at_lerp, at_lerp]
theorem iL (pl : Pl) (t : Rat) (a b : Pt) : hgt pl (lerp t a b) = (1 - t) * hgt pl a + t * hgt pl b := by
  unfold hgt uT lerp
  grind
theorem gX {pl : Pl} {p : Pt} : sdZ pl p = 0 ↔ hgt pl p = 0 := uP
theorem oX {pl : Pl} {p : Pt} : sdZ pl p < 0 ↔ hgt pl p < 0 := qW
theorem oW {pl : Pl} {p : Pt} : 0 < sdZ pl p ↔ 0 < hgt pl p := y8
theorem sd_le {pl : Pl} {p : Pt} : sdZ pl p ≤ 0 ↔ hgt pl p ≤ 0 := by
  have h := oW (pl := pl) (p := p)
  rw [← Int.not_lt, ← Rat.not_lt, h]
theorem sd_ge {pl : Pl} {p : Pt} : 0 ≤ sdZ pl p ↔ 0 ≤ hgt pl p := by
  have h := oX (pl := pl) (p := p)
  rw [← Int.not_lt, ← Rat.not_lt, h]
theorem hH {a b : Int} (h : a * b < 0) : (a < 0 ∧ 0 < b) ∨ (0 < a ∧ b < 0) := by
  rcases Int.lt_trichotomy a 0 with h1 | h1 | h1
  · left; refine ⟨h1, Int.not_le.1 fun e => ?_⟩
    have := Int.mul_nonneg_of_nonpos_of_nonpos (Int.le_of_lt h1) e; omega
  · rw [h1, Int.zero_mul] at h; omega
  · right; refine ⟨h1, Int.not_le.1 fun e => ?_⟩
    have := Int.mul_nonneg (Int.le_of_lt h1) e; omega
theorem quo_in {A B : Rat} (h : (A < 0 ∧ 0 < B) ∨ (0 < A ∧ B < 0)) : ¬ A - B = 0 ∧ 0 < A / (A - B) ∧ A / (A - B) < 1 := by
  have hne : ¬ A - B = 0 := by grind
  have e : (A - B) * (A / (A - B)) = A := by rw [Rat.mul_comm, Rat.div_mul_cancel hne]
  generalize A / (A - B) = t at *
  refine ⟨hne, ?_, ?_⟩
  · rcases h with h | h
    · exact bU (x := B - A) (by grind) (by grind)
    · exact bU (x := A - B) (by grind) (by grind)
  · have : 0 < 1 - t := by
      rcases h with h | h
      · exact bU (x := B - A) (by grind) (by grind)
      · exact bU (x := A - B) (by grind) (by grind)
    grind
theorem cut_t {pl : Pl} {a b : Pt} (h : sdZ pl a * sdZ pl b < 0) : (0 < cutT pl a b ∧ cutT pl a b < 1) ∧ hgt pl (btw pl a b) = 0 := by
  have h1 : (hgt pl a < 0 ∧ 0 < hgt pl b) ∨ (0 < hgt pl a ∧ hgt pl b < 0) := by
    rcases hH h with ⟨a1, a2⟩ | ⟨a1, a2⟩
    · exact .inl ⟨oX.1 a1, oW.1 a2⟩
    · exact .inr ⟨oW.1 a1, oX.1 a2⟩
  obtain ⟨hne, h2, h3⟩ := quo_in h1
  have e : cutT pl a b = hgt pl a / (hgt pl a - hgt pl b) := if_neg hne
  unfold btw
  rw [iL, e]
  refine ⟨⟨h2, h3⟩, ?_⟩
  have e2 : hgt pl a / (hgt pl a - hgt pl b) * (hgt pl a - hgt pl b) = hgt pl a := Rat.div_mul_cancel hne
  generalize hgt pl a / (hgt pl a - hgt pl b) = t at *
  grind
noncomputable def mk3 (c : Pl) (l : List Pt) (M : Mk) : Pt := if M.2 then btw c (gp l M.1) (nx l M.1) else gp l M.1
noncomputable def sgB (c : Pl) (l : List Pt) (m : Nat) : Int := sdZ c (gp l m)
noncomputable def sgF (c : Pl) (l : List Pt) (m : Nat) : Int := -sdZ c (gp l m)
theorem chgB {c : Pl} {l : List Pt} {m : Nat} : chg (sgB c l) l.length m ↔ xP c l m := Iff.rfl
theorem chgF {c : Pl} {l : List Pt} {m : Nat} : chg (sgF c l) l.length m ↔ xP c l m := by
  unfold chg sgF xP
  rw [Int.neg_mul_neg]
theorem bk_mks (c : Pl) (l : List Pt) : ∀ m, bN c l m = (mks (sgB c l) l.length m).map (mk3 c l)
  | 0 => rfl
  | m + 1 => by
    show _ ++ _ ++ _ = (_ ++ _ ++ _ : List Mk).map _
    rw [List.map_append, List.map_append, bk_mks c l m]
    congr 1
    · congr 1
      show (if sgB c l m ≤ 0 then _ else _) = _
      split <;> rfl
    · by_cases h : xP c l m
      · rw [if_pos h, if_pos (chgB.2 h)]; rfl
      · rw [if_neg h, if_neg (fun e => h (chgB.1 e))]; rfl
theorem fr_mks (c : Pl) (l : List Pt) : ∀ m, bI c l m = (mks (sgF c l) l.length m).map (mk3 c l)
  | 0 => rfl
  | m + 1 => by
    show _ ++ _ ++ _ = (_ ++ _ ++ _ : List Mk).map _
    rw [List.map_append, List.map_append, fr_mks c l m]
    have e : (0 ≤ sdZ c (gp l m)) ↔ sgF c l m ≤ 0 := by unfold sgF; omega
    congr 1
    · congr 1
      by_cases h : 0 ≤ sdZ c (gp l m)
      · rw [if_pos h, if_pos (e.1 h)]; rfl
      · rw [if_neg h, if_neg (fun k => h (e.2 k))]; rfl
    · by_cases h : xP c l m
      · rw [if_pos h, if_pos (chgF.2 h)]; rfl
      · rw [if_neg h, if_neg (fun e => h (chgF.1 e))]; rfl
theorem nL {c : Pl} {l : List Pt} {L : List Mk} {q : Nat} (h : q < L.length) : gp (L.map (mk3 c l)) q = mk3 c l (L.getD q (0, false)) := by
  unfold gp
  rw [List.getD_eq_getElem?_getD, List.getD_eq_getElem?_getD, List.getElem?_map, List.getElem?_eq_getElem h]
  rfl
noncomputable def tC (c : Pl) (l : List Pt) (m : Nat) : Rat := cutT c (gp l (m % l.length)) (nx l (m % l.length))
theorem tC_lt {c : Pl} {l : List Pt} {m : Nat} (h : m < l.length) : tC c l m = cutT c (gp l m) (nx l m) := by unfold tC; rw [Nat.mod_eq_of_lt h]
theorem tC_per (c : Pl) (l : List Pt) (m : Nat) : tC c l (m % l.length) = tC c l m := by unfold tC; rw [Nat.mod_mod]
theorem oH {pl c : Pl} {l : List Pt} {M : Mk} (h : M.1 < l.length) : pt2 pl (mk3 c l M) = mkP (fun m => pt2 pl (gp l m)) l.length (tC c l) M := by
  obtain ⟨i, b⟩ := M
  have hi : i < l.length := h
  unfold mk3 mkP
  have e1 : ex (fun m => pt2 pl (gp l m)) l.length i = pt2 pl (gp l i) := by unfold ex; rw [Nat.mod_eq_of_lt hi]
  have e2 : ex (fun m => pt2 pl (gp l m)) l.length (i + 1) = pt2 pl (nx l i) := rfl
  simp only [e1, e2, tC_lt hi]
  split
  · exact t5 _ _ _ _
  · rfl
theorem pM {pl c : Pl} {l : List Pt} {s : Nat → Int} (h : kV pl l) (hs : ∀ m, chg s l.length m ↔ xP c l m) {i j : Nat} (hi : i < l.length) (hj : j < l.length) (h1 : s i < 0) (h2 : 0 < s j) : kV pl ((mks s l.length l.length).map (mk3 c l)) := by
  have hl := w6 hi hj h1 h2
  have hlen : ((mks s l.length l.length).map (mk3 c l)).length = (mks s l.length l.length).length := List.length_map ..
  have mem : ∀ q, q < (mks s l.length l.length).length → (mks s l.length l.length).getD q (0, false) ∈ mks s l.length l.length := fun q hq => by
    rw [List.getD_eq_getElem?_getD, List.getElem?_eq_getElem hq]; exact List.getElem_mem hq
  refine oO (by rw [hlen]; exact hl) h.1.2 (fun m hm => ?_) ?_
  · rw [hlen] at hm
    rw [nL hm]
    have hM := jX.1 (mem m hm)
    generalize (mks s l.length l.length).getD m (0, false) = M at *
    obtain ⟨q, b⟩ := M
    have hq : q < l.length := hM.1
    unfold mk3
    cases b with
    | false => exact h.2.1 q hq
    | true =>
      show sdZ pl (btw c (gp l q) (nx l q)) = 0
      unfold btw
      rw [gX, iL, gX.1 (h.2.1 q hq), gX.1 (h.2.1 _ (Nat.mod_lt _ (by omega)))]
      grind
  · rw [hlen]
    have ht := mks_tri (t := tC c l) (s := s) h.1.1 (nV h) (fun m hm hc => by rw [tC_lt hm]; exact (cut_t ((hs m).1 hc)).1)
    intro a b d hab hbd hd
    have := ht a b d hab hbd hd
    show 0 < cr (pt2 pl (gp _ a)) (pt2 pl (gp _ b)) (pt2 pl (gp _ d))
    rw [nL (by omega), nL (by omega), nL hd, oH (jX.1 (mem a (by omega))).1, oH (jX.1 (mem b (by omega))).1, oH (jX.1 (mem d hd)).1]
    exact this
theorem iN {pl : Pl} {l : List Pt} (c : Pl) (h : kV pl l) : kV pl (tB c l) ∨ tB c l = [] := by
  by_cases ha : qG c l l.length
  · by_cases hb : qN c l l.length
    · obtain ⟨i, hi, h1⟩ := (rJ _).1 hb
      obtain ⟨j, hj, h2⟩ := (rK _).1 ha
      rw [(fT ha hb).1, bk_mks]
      exact .inl (pM h (fun m => chgB) hi hj h1 h2)
    · exact .inr (rY ha hb).1
  · rw [(tZ ha).1]; exact .inl h
theorem cutF_valid {pl : Pl} {l : List Pt} (c : Pl) (h : kV pl l) : kV pl (tA c l) ∨ tA c l = [] := by
  by_cases ha : qG c l l.length
  · by_cases hb : qN c l l.length
    · obtain ⟨i, hi, h1⟩ := (rJ _).1 hb
      obtain ⟨j, hj, h2⟩ := (rK _).1 ha
      rw [(fT ha hb).2, fr_mks]
      exact .inl (pM h (fun m => chgF) hj hi (by unfold sgF; omega) (by unfold sgF; omega))
    · rw [(rY ha hb).2]; exact .inl h
  · exact .inr (tZ ha).2
def detT (a b c : Pt) : Rat := uT a (uW b c)
theorem det_or {pl : Pl} {a b c : Pt} (hn : ¬ pl.1 = zT) (ha : sdZ pl a = 0) (hb : sdZ pl b = 0) (hc : sdZ pl c = 0) : uY (uT (uW (tM b a) (tM c a)) pl.1) = orZ (pt2 pl a) (pt2 pl b) (pt2 pl c) := by
  have hk : ¬ pl.1.at (axK pl.1) = 0 := fun e => hn ((aB _).1 e)
  have h1 := turns_eq pl (qT pl a) (qT pl b) (qT pl c) hk
  rw [mK hk ha, mK hk hb, mK hk hc, area3] at h1
  exact h1.symm
theorem det_eq (a b c n : Pt) : uT (uW (tM b a) (tM c a)) n = detT (tM b a) (tM c a) n := by
  unfold detT uT uW tM
  grind
theorem up_or {pl : Pl} {a b p : Pt} (hn : ¬ pl.1 = zT) (ha : sdZ pl a = 0) (hb : sdZ pl b = 0) (hp : sdZ pl p = 0) : uY (uT (uW (tM b a) pl.1) p - uT (uW (tM b a) pl.1) a) = -orZ (pt2 pl a) (pt2 pl b) (pt2 pl p) := by
  rw [← det_or hn ha hb hp]
  have e : uT (uW (tM b a) pl.1) p - uT (uW (tM b a) pl.1) a = -uT (uW (tM b a) (tM p a)) pl.1 := by
    unfold uT uW tM; grind
  rw [e, pF, pF]
  generalize uT (uW (tM b a) (tM p a)) pl.1 = x
  grind
end Bk
namespace Bk
set_option linter.unusedVariables false
set_option linter.unusedSimpArgs false
open Go Go.RowKit
open Classical
theorem s_one3 {α : Type} {ρ : Rp α} {h : Mem} {v : Value} {xs : List α} (s : (rpS ρ).Is h v xs) : ∃ a m cap, v = .slice a m cap := by
  obtain ⟨a, cap, e⟩ := s_one s
  exact ⟨a, _, cap, e⟩
theorem nil_of {α : Type} {ρ : Rp α} {h : Mem} {v : Value} {xs : List α} (s : (rpS ρ).Is h v xs) (hk : 0 < ρ.n) (hn : ∃ m cap, v = .slice none m cap) : xs = [] := by
  obtain ⟨ds, ⟨a, cap, e, h1, h2, h3, h4⟩, r⟩ := of_s s
  obtain ⟨m, cap', e'⟩ := hn
  rw [e] at e'
  injection e' with e1 e2 e3
  refine List.eq_nil_of_length_eq_zero ?_
  rcases Nat.eq_zero_or_pos ds.length with h0 | h0
  · rw [h0] at h3
    rcases Nat.mul_eq_zero.1 h3.symm with h5 | h5
    · exact h5
    · omega
  · obtain ⟨b, o, hb, _⟩ := h4 0 h0
    rw [e1] at hb
    exact absurd hb (by simp)
theorem j7 {k : Nat} {h : Mem} {v : Value} {p : T3 Rat} (s : (rpT (rpQ k)).Is h v p) : lq p.x ≤ k ∧ lq p.y ≤ k ∧ lq p.z ≤ k := by
  obtain ⟨cs, ⟨a, b, _, ra, c, d, _, rc, rd⟩, _⟩ := s
  exact ⟨ra.2, rc.2, rd.2⟩
theorem oU {K k : Nat} {h : Mem} {v : Value} {p : T3 Rat} (s : (rpT (rpQ K)).Is h v p) (h1 : lq p.x ≤ k) (h2 : lq p.y ≤ k) (h3 : lq p.z ≤ k) : (rpT (rpQ k)).Is h v p := by
  obtain ⟨cs, ⟨a, b, e, ra, c, d, e', rc, rd⟩, ev⟩ := s
  exact ⟨cs, ⟨a, b, e, ⟨ra.1, h1⟩, c, d, e', ⟨rc.1, h2⟩, ⟨rd.1, h3⟩⟩, ev⟩
theorem list_same {α : Type} {d : α} {a b : List α} (hl : a.length = b.length) (h : ∀ u, u < b.length → a.getD u d = b.getD u d) : a = b := by
  refine List.ext_getElem hl fun q h1 h2 => ?_
  have := h q h2
  rw [List.getD_eq_getElem?_getD, List.getD_eq_getElem?_getD, List.getElem?_eq_getElem h1, List.getElem?_eq_getElem h2] at this
  exact this
theorem y7 {a b : Rat} (h : ¬ (¬ smB a ∨ ¬ smB b)) : (smB a ∧ smB b) ∧ (-72057594037927936 ≤ smZ a * smZ b ∧ smZ a * smZ b ≤ 72057594037927936) := by
  have h1 : smB a ∧ smB b := by
    constructor
    · exact Classical.not_not.1 fun e => h (.inl e)
    · exact Classical.not_not.1 fun e => h (.inr e)
  have e1 := (fG h1.1).2
  have e2 := (fG h1.2).2
  refine ⟨h1, ?_⟩
  have key : ∀ {x y : Int}, 0 ≤ x → x < 268435456 → 0 ≤ y → y < 268435456 → 0 ≤ x * y ∧ x * y ≤ 72057594037927936 := by
    intro x y hx hx' hy hy'
    have k1 := Int.mul_nonneg hx hy
    have k2 : x * y ≤ 268435456 * 268435456 := Int.mul_le_mul (by omega) (by omega) hy (by omega)
    omega
  generalize smZ a = u at *
  generalize smZ b = v at *
  rcases Int.le_total 0 u with hu | hu <;> rcases Int.le_total 0 v with hv | hv
  · have := key hu (by omega) hv (by omega); omega
  · have := key hu (by omega) (y := -v) (by omega) (by omega)
    rw [Int.mul_neg] at this; omega
  · have := key (x := -u) (by omega) (by omega) hv (by omega)
    rw [Int.neg_mul] at this; omega
  · have := key (x := -u) (y := -v) (by omega) (by omega) (by omega) (by omega)
    rw [Int.neg_mul_neg] at this; omega
theorem side_sum {s : Pl} {p : Pt} (hx : smB s.1.x ∧ smB p.x) (hy : smB s.1.y ∧ smB p.y) (hz : smB s.1.z ∧ smB p.z) (hd : smB s.2) : iU ((0 : Int) + smZ s.1.x * smZ p.x + smZ s.1.y * smZ p.y + smZ s.1.z * smZ p.z - smZ s.2) = sdZ s p := by
  rw [← g3]
  unfold sdZ hgt uT
  congr 1
  rw [Rat.intCast_sub, Rat.intCast_add, Rat.intCast_add, Rat.intCast_add, Rat.intCast_mul, Rat.intCast_mul, Rat.intCast_mul]
  rw [← (fG hx.1).1, ← (fG hx.2).1, ← (fG hy.1).1, ← (fG hy.2).1, ← (fG hz.1).1, ← (fG hz.2).1, ← (fG hd).1]
  have e : ((0 : Int) : Rat) = 0 := rfl
  rw [e]
  grind
theorem side_cmp (s : Pl) (p : Pt) : kK (uT s.1 p) s.2 = sdZ s p := iO _ _
theorem mem_getD {L : List (List Pt)} {n m : Nat} (hm : m < L.length) (h : ∀ x, x ∈ L → x.length ≤ n) : (L.getD m []).length ≤ n := by
  rw [List.getD_eq_getElem?_getD, List.getElem?_eq_getElem hm]
  exact h _ (List.getElem_mem hm)
theorem mx_next {a s : Int} {p : Prop} (h : 0 < a ↔ p) (h0 : 0 ≤ a) : (0 < max a s ↔ (p ∨ 0 < s)) ∧ 0 ≤ max a s := by rw [← h]; omega
theorem mn_next {a s : Int} {p : Prop} (h : a < 0 ↔ p) (h0 : a ≤ 0) : (min a s < 0 ↔ (p ∨ s < 0)) ∧ min a s ≤ 0 := by rw [← h]; omega
theorem cut_nb {pl : Pl} {l : List Pt} (ha : qG pl l l.length) (hb : ¬ qN pl l l.length) : tB pl l = [] ∧ tA pl l = bI pl l l.length := by
  unfold tB tA
  rw [if_neg (fun e => e.elim hb fun e => e ha), if_pos ha]
  exact ⟨rfl, rfl⟩
theorem cut_na {pl : Pl} {l : List Pt} (ha : ¬ qG pl l l.length) : tB pl l = bN pl l l.length ∧ tA pl l = [] := by
  unfold tB tA
  rw [if_pos (.inr ha), if_neg ha]
  exact ⟨rfl, rfl⟩
end Bk
namespace Go.Proofs.YtghhjjmjpeehdaaGreat
open Bk Go Tryz
set_option linter.unusedVariables false
set_option linter.unusedSimpArgs false
set_option maxRecDepth 10000
theorem rV {w0 : World} {h0 : Mem} (hs : MLe h0 (mem w0)) {k l : Nat} {va : Value} {a : (T3 Rat)} (ra : (rpT (rpQ k)).Is h0 va a) {vb : Value} {b : (T3 Rat)} (rb : (rpT (rpQ l)).Is h0 vb b) (hcd0 : k + l ≤ 1000000000) : Calls Tryz.prog 19 #[va, vb] w0 (Ret w0 h0 (fun h r => (rpT (rpQ (k + l + 1))).Is h r (T3.mk (a.x + b.x) (a.y + b.y) (a.z + b.z)))) := by
  obtain ⟨a1, a2, a3⟩ := j7 ra
  obtain ⟨b1, b2, b3⟩ := j7 rb
  exact (o_r4_add hs ra rb hcd0).mono (jD fun h r x => oU x (by have := pS a.x b.x; show lq (a.x + b.x) ≤ _; omega) (by have := pS a.y b.y; show lq (a.y + b.y) ≤ _; omega) (by have := pS a.z b.z; show lq (a.z + b.z) ≤ _; omega))
theorem tW {w0 : World} {h0 : Mem} (hs : MLe h0 (mem w0)) {k l : Nat} {va : Value} {a : (T3 Rat)} (ra : (rpT (rpQ k)).Is h0 va a) {vb : Value} {b : (T3 Rat)} (rb : (rpT (rpQ l)).Is h0 vb b) (hcd0 : k + l ≤ 1000000000) : Calls Tryz.prog 23 #[va, vb] w0 (Ret w0 h0 (fun h r => (rpT (rpQ (k + l + 1))).Is h r (T3.mk (a.x - b.x) (a.y - b.y) (a.z - b.z)))) := by
  obtain ⟨a1, a2, a3⟩ := j7 ra
  obtain ⟨b1, b2, b3⟩ := j7 rb
  exact (o_r4_sub hs ra rb hcd0).mono (jD fun h r x => oU x (by have := iG a.x b.x; show lq (a.x - b.x) ≤ _; omega) (by have := iG a.y b.y; show lq (a.y - b.y) ≤ _; omega) (by have := iG a.z b.z; show lq (a.z - b.z) ≤ _; omega))
theorem pP {w0 : World} {h0 : Mem} (hs : MLe h0 (mem w0)) {l k : Nat} {vq : Value} {q : Rat} (rq : (rpQ l).Is h0 vq q) {va : Value} {a : (T3 Rat)} (ra : (rpT (rpQ k)).Is h0 va a) (hcd0 : k + l ≤ 1000000000) : Calls Tryz.prog 20 #[vq, va] w0 (Ret w0 h0 (fun h r => (rpT (rpQ (k + l))).Is h r (T3.mk (q * a.x) (q * a.y) (q * a.z)))) := by
  obtain ⟨a1, a2, a3⟩ := j7 ra
  have hq := (of_q rq).2
  exact (o_r4_scale hs rq ra hcd0).mono (jD fun h r x => oU x (by have := iH q a.x; show lq (q * a.x) ≤ _; omega) (by have := iH q a.y; show lq (q * a.y) ≤ _; omega) (by have := iH q a.z; show lq (q * a.z) ≤ _; omega))
theorem o_each_add {w0 : World} {h0 : Mem}  (hs : MLe h0 (mem w0)) {k l : Nat} {va : Value} {a : (T3 Rat)} (ra : (rpT (rpQ k)).Is h0 va a) {vb : Value} {b : (T3 Rat)} (rb : (rpT (rpQ l)).Is h0 vb b) (hcd0 : k + l ≤ 10000000000)  :
    Calls Tryz.prog 115 #[va, vb, vF 71 []] w0 (Ret w0 h0 (fun h r => (rpT (rpQ (k + l + 1 + 1))).Is h r (T3.mk (a.x + b.x) (a.y + b.y) (a.z + b.z)))) := by
 refine zP (n := 24) (e := [(0, va), (1, vb), (2, vF 71 [])]) (vs := [va, vb, vF 71 []]) func115 rfl rfl (bL rfl) hs e3z (zC (zA (zK (yW (ρ := (rpT (rpQ k))) rfl ra) rfl rfl rfl ?_)))
 intro v3 q3 hq3
 obtain ⟨b3, cs3, rfl, rfl, rb3⟩ := hq3
 refine zK (yW (ρ := (rpT (rpQ l))) rfl rb) rfl rfl rfl ?_
 intro v4 q4 hq4
 obtain ⟨b4, cs4, rfl, rfl, rb4⟩ := hq4
 refine zK (yY (ρ := (rpT (rpQ (k + l + 1 + 1)))) (X := (T3.mk (0 : Rat) 0 0)) yD rfl rfl (wH (wA (by omega)))) rfl rfl rfl ?_
 intro v6 q6 hq6
 obtain ⟨b6, cs6, rfl, rfl, rb6⟩ := hq6
 refine zD (zB (zC (zA (zK (yY (ρ := (rpT (rpQ (k + l + 1 + 1)))) (X := (T3.mk (0 : Rat) 0 0)) yD rfl rfl (wH (wA (by omega)))) rfl rfl rfl ?_))))
 intro v7 q7 hq7
 obtain ⟨b7, cs7, rfl, rfl, rb7⟩ := hq7
 refine zD (zB (zC (zC (zA (mv (v := vI (0)) rfl rfl (zD (zB (zS (jW (zC (zA (gv (OpV.tr (by decide) (zW (q := 3) rfl rfl)) rfl (zD ?_)))))))))))))
 refine zB (zC (xQ rfl (zL (zB (zC (zS (zC (zA (mv rfl rfl (asg rfl rfl (zD (zB ?_))))))))))))
 refine yI 10 _ [] [(0, .q), (1, .q), (2, .q), (3, .q), (4, .q), (5, .q), (6, .q), (7, .q), (8, .c), (9, .q), (10, .t)] xI nX (by kernel_rfl) nX (fun r hr => hr) (w_q rfl (fun h' L' hh hR => zF rfl) rfl (w_q rfl (fun h' L' hh hR => zF rfl) rfl (w_q rfl (fun h' L' hh hR => zF rfl) rfl (w_q rfl (fun h' L' hh hR => (zH (sz := 3) 0 underlying32 sizeOf30 rfl rfl rfl (by decide)).cv (show _ = vP b3 0 from congrArg (vP b3) (by rfl))) rfl (yP (F := fun v_ => (rpQ k).Is h0 v_ a.x) rfl (zE xZ (Pc.tx (Pc.here _)) rfl rfl rb3 rfl) (yF (.tail _ (.tail _ (.tail _ (.head _))))) rfl ?_)))))
 intro v16u1 r16u1
 refine w_q rfl (fun h' L' hh hR => zF rfl) rfl (w_q rfl (fun h' L' hh hR => (zH (sz := 3) 0 underlying32 sizeOf30 rfl rfl rfl (by decide)).cv (show _ = vP b4 0 from congrArg (vP b4) (by rfl))) rfl (yP (F := fun v_ => (rpQ l).Is h0 v_ b.x) rfl (zE xZ (Pc.tx (Pc.here _)) rfl rfl rb4 rfl) (yF (.tail _ (.tail _ (.head _)))) rfl ?_))
 intro v19u1 r19u1
 refine w_c rfl (sE (fS (vs := [_, _]) call71 rfl e2z) rfl (fun w hs => sL hs r16u1 r19u1 (by omega)) ?_)
 intro v20u1 h1 hh1 r20u1
 change (rpQ (k + l + 1)).Is h1 v20u1 (a.x + b.x) at r20u1
 refine w_q rfl (fun h' L' hh hR => (zH (sz := 3) 0 underlying32 sizeOf30 rfl rfl rfl (by decide)).cv (show _ = vP b7 0 from congrArg (vP b7) (by rfl))) rfl ?_
 replace rb7 := rb7.mono hh1
 refine xY (A := []) (F := fun c_ => (rpT (rpQ (k + l + 1 + 1))).R h1 c_ (T3.mk (a.x + b.x) (0 : Rat) (0 : Rat))) rfl (yG sizeOf30 (Pc.tx (Pc.here _)) rfl rfl rfl rb7 (r20u1.le (Le.q (l := k + l + 1 + 1) (by omega))) rfl) ?_
 intro cs_1 rb_2
 refine xA (xB (zJ (e' := [(2, _), (3, _), (4, _), (6, _), (7, _), (9, _)]) e6 (zB (zA (gv ((zR (q := 1) rfl rfl (by omega) (by omega)).cv (show _ = vI (1) from rfl)) rfl (mv rfl rfl (zD (xT (zC (zA (gv (OpV.tr (by decide) (zW (q := 3) rfl rfl)) rfl (zD (zB ?_)))))))))))))
 refine zC (xQ rfl (zL (zB (zC (zS (zC (zA (mv rfl rfl (asg rfl rfl (zD (zB ?_)))))))))))
 refine yI 10 _ [] [(0, .q), (1, .q), (2, .q), (3, .q), (4, .q), (5, .q), (6, .q), (7, .q), (8, .c), (9, .q), (10, .t)] xI nX (by kernel_rfl) nX (fun r hr => hr) (w_q rfl (fun h' L' hh hR => zF rfl) rfl (w_q rfl (fun h' L' hh hR => zF rfl) rfl (w_q rfl (fun h' L' hh hR => zF rfl) rfl (w_q rfl (fun h' L' hh hR => (zH (sz := 3) 1 underlying32 sizeOf30 rfl rfl rfl (by decide)).cv (show _ = vP b3 3 from congrArg (vP b3) (by rfl))) rfl ?_))))
 replace rb3 := rb3.mono hh1
 refine yP (F := fun v_ => (rpQ k).Is h1 v_ a.y) rfl (zE xZ (Pc.ty (Pc.here _)) rfl rfl rb3 rfl) (yF (.tail _ (.tail _ (.tail _ (.head _))))) rfl ?_
 intro v16u2 r16u2
 refine w_q rfl (fun h' L' hh hR => zF rfl) rfl (w_q rfl (fun h' L' hh hR => (zH (sz := 3) 1 underlying32 sizeOf30 rfl rfl rfl (by decide)).cv (show _ = vP b4 3 from congrArg (vP b4) (by rfl))) rfl ?_)
 replace rb4 := rb4.mono hh1
 refine yP (F := fun v_ => (rpQ l).Is h1 v_ b.y) rfl (zE xZ (Pc.ty (Pc.here _)) rfl rfl rb4 rfl) (yF (.tail _ (.tail _ (.head _)))) rfl ?_
 intro v19u2 r19u2
 refine w_c rfl (sE (fS (vs := [_, _]) call71 rfl e2z) rfl (fun w hs => sL hs r16u2 r19u2 (by omega)) ?_)
 intro v20u2 h2 hh2 r20u2
 change (rpQ (k + l + 1)).Is h2 v20u2 (a.y + b.y) at r20u2
 refine w_q rfl (fun h' L' hh hR => (zH (sz := 3) 1 underlying32 sizeOf30 rfl rfl rfl (by decide)).cv (show _ = vP b7 3 from congrArg (vP b7) (by rfl))) rfl ?_
 replace rb_2 := rb_2.mono hh2
 refine xY (A := []) (F := fun c_ => (rpT (rpQ (k + l + 1 + 1))).R h2 c_ (T3.mk (a.x + b.x) (a.y + b.y) (0 : Rat))) rfl (yG sizeOf30 (Pc.ty (Pc.here _)) rfl rfl rfl rb_2 (r20u2.le (Le.q (l := k + l + 1 + 1) (by omega))) rfl) ?_
 intro cs_3 rb_4
 refine xA (xB (zJ (e' := [(2, _), (3, _), (4, _), (6, _), (7, _), (9, _)]) e6 (zB (zA (gv ((zR (q := 1) rfl rfl (by omega) (by omega)).cv (show _ = vI (2) from rfl)) rfl (mv rfl rfl (zD (xT (zC (zA (gv (OpV.tr (by decide) (zW (q := 3) rfl rfl)) rfl (zD (zB ?_)))))))))))))
 refine zC (xQ rfl (zL (zB (zC (zS (zC (zA (mv rfl rfl (asg rfl rfl (zD (zB ?_)))))))))))
 refine yI 10 _ [] [(0, .q), (1, .q), (2, .q), (3, .q), (4, .q), (5, .q), (6, .q), (7, .q), (8, .c), (9, .q), (10, .t)] xI nX (by kernel_rfl) nX (fun r hr => hr) (w_q rfl (fun h' L' hh hR => zF rfl) rfl (w_q rfl (fun h' L' hh hR => zF rfl) rfl (w_q rfl (fun h' L' hh hR => zF rfl) rfl (w_q rfl (fun h' L' hh hR => (zH (sz := 3) 2 underlying32 sizeOf30 rfl rfl rfl (by decide)).cv (show _ = vP b3 6 from congrArg (vP b3) (by rfl))) rfl ?_))))
 replace rb3 := rb3.mono hh2
 refine yP (F := fun v_ => (rpQ k).Is h2 v_ a.z) rfl (zE xZ (Pc.tz (Pc.here _)) rfl rfl rb3 rfl) (yF (.tail _ (.tail _ (.tail _ (.head _))))) rfl ?_
 intro v16u3 r16u3
 refine w_q rfl (fun h' L' hh hR => zF rfl) rfl (w_q rfl (fun h' L' hh hR => (zH (sz := 3) 2 underlying32 sizeOf30 rfl rfl rfl (by decide)).cv (show _ = vP b4 6 from congrArg (vP b4) (by rfl))) rfl ?_)
 replace rb4 := rb4.mono hh2
 refine yP (F := fun v_ => (rpQ l).Is h2 v_ b.z) rfl (zE xZ (Pc.tz (Pc.here _)) rfl rfl rb4 rfl) (yF (.tail _ (.tail _ (.head _)))) rfl ?_
 intro v19u3 r19u3
 refine w_c rfl (sE (fS (vs := [_, _]) call71 rfl e2z) rfl (fun w hs => sL hs r16u3 r19u3 (by omega)) ?_)
 intro v20u3 h3 hh3 r20u3
 change (rpQ (k + l + 1)).Is h3 v20u3 (a.z + b.z) at r20u3
 refine w_q rfl (fun h' L' hh hR => (zH (sz := 3) 2 underlying32 sizeOf30 rfl rfl rfl (by decide)).cv (show _ = vP b7 6 from congrArg (vP b7) (by rfl))) rfl ?_
 replace rb_4 := rb_4.mono hh3
 refine xY (A := []) (F := fun c_ => (rpT (rpQ (k + l + 1 + 1))).R h3 c_ (T3.mk (a.x + b.x) (a.y + b.y) (a.z + b.z))) rfl (yG sizeOf30 (Pc.tz (Pc.here _)) rfl rfl rfl rb_4 (r20u3.le (Le.q (l := k + l + 1 + 1) (by omega))) rfl) ?_
 intro cs_5 rb_6
 refine xA (xB (zJ (e' := [(2, _), (3, _), (4, _), (6, _), (7, _), (9, _)]) e6 (zB (zA (gv ((zR (q := 1) rfl rfl (by omega) (by omega)).cv (show _ = vI (3) from rfl)) rfl (mv rfl rfl (zD (xT (zC (zA (gv (OpV.fa (by decide) (zW (q := 3) rfl rfl)) rfl (zD (zB ?_)))))))))))))
 refine zC (vZ rfl (xM (yE (yE (xL (zB (zC (zA (wF (F := fun v_ => (rpT (rpQ (k + l + 1 + 1))).Is h3 v_ (T3.mk (a.x + b.x) (a.y + b.y) (a.z + b.z))) (zE yZ (Pc.here _) rfl rfl rb_6 rfl) (yF (.head _)) rfl ?_)))))))))
 intro v23u4 r23u4
 replace rb6 := rb6.mono ((hh1.trans hh2).trans hh3)
 refine wB (A := [_]) (F := fun c_ => (rpT (rpQ (k + l + 1 + 1))).R h3 c_ (T3.mk (a.x + b.x) (a.y + b.y) (a.z + b.z))) (yG sizeOf32 (Pc.here _) rfl rfl rfl rb6 r23u4 rfl) ?_
 intro cs_7 rb_8
 refine zD (zB (zQ (uG (gJ (t := 6) yZ (.tail _ (.head _)) rfl rb_8) ?_)))
 intro w_9 hvw_9 rr_10
 refine xW (fun E S => yQ rfl hvw_9 E S) ?_
 exact rr_10
theorem o_each_sub {w0 : World} {h0 : Mem}  (hs : MLe h0 (mem w0)) {k l : Nat} {va : Value} {a : (T3 Rat)} (ra : (rpT (rpQ k)).Is h0 va a) {vb : Value} {b : (T3 Rat)} (rb : (rpT (rpQ l)).Is h0 vb b) (hcd0 : k + l ≤ 10000000000)  :
    Calls Tryz.prog 115 #[va, vb, vF 70 []] w0 (Ret w0 h0 (fun h r => (rpT (rpQ (k + l + 1 + 1))).Is h r (T3.mk (a.x - b.x) (a.y - b.y) (a.z - b.z)))) := by
 refine zP (n := 24) (e := [(0, va), (1, vb), (2, vF 70 [])]) (vs := [va, vb, vF 70 []]) func115 rfl rfl (bL rfl) hs e3z (zC (zA (zK (yW (ρ := (rpT (rpQ k))) rfl ra) rfl rfl rfl ?_)))
 intro v3 q3 hq3
 obtain ⟨b3, cs3, rfl, rfl, rb3⟩ := hq3
 refine zK (yW (ρ := (rpT (rpQ l))) rfl rb) rfl rfl rfl ?_
 intro v4 q4 hq4
 obtain ⟨b4, cs4, rfl, rfl, rb4⟩ := hq4
 refine zK (yY (ρ := (rpT (rpQ (k + l + 1 + 1)))) (X := (T3.mk (0 : Rat) 0 0)) yD rfl rfl (wH (wA (by omega)))) rfl rfl rfl ?_
 intro v6 q6 hq6
 obtain ⟨b6, cs6, rfl, rfl, rb6⟩ := hq6
 refine zD (zB (zC (zA (zK (yY (ρ := (rpT (rpQ (k + l + 1 + 1)))) (X := (T3.mk (0 : Rat) 0 0)) yD rfl rfl (wH (wA (by omega)))) rfl rfl rfl ?_))))
 intro v7 q7 hq7
 obtain ⟨b7, cs7, rfl, rfl, rb7⟩ := hq7
 refine zD (zB (zC (zC (zA (mv (v := vI (0)) rfl rfl (zD (zB (zS (jW (zC (zA (gv (OpV.tr (by decide) (zW (q := 3) rfl rfl)) rfl (zD ?_)))))))))))))
 refine zB (zC (xQ rfl (zL (zB (zC (zS (zC (zA (mv rfl rfl (asg rfl rfl (zD (zB ?_))))))))))))
 refine yI 10 _ [] [(0, .q), (1, .q), (2, .q), (3, .q), (4, .q), (5, .q), (6, .q), (7, .q), (8, .c), (9, .q), (10, .t)] xI nX (by kernel_rfl) nX (fun r hr => hr) (w_q rfl (fun h' L' hh hR => zF rfl) rfl (w_q rfl (fun h' L' hh hR => zF rfl) rfl (w_q rfl (fun h' L' hh hR => zF rfl) rfl (w_q rfl (fun h' L' hh hR => (zH (sz := 3) 0 underlying32 sizeOf30 rfl rfl rfl (by decide)).cv (show _ = vP b3 0 from congrArg (vP b3) (by rfl))) rfl (yP (F := fun v_ => (rpQ k).Is h0 v_ a.x) rfl (zE xZ (Pc.tx (Pc.here _)) rfl rfl rb3 rfl) (yF (.tail _ (.tail _ (.tail _ (.head _))))) rfl ?_)))))
 intro v16u5 r16u5
 refine w_q rfl (fun h' L' hh hR => zF rfl) rfl (w_q rfl (fun h' L' hh hR => (zH (sz := 3) 0 underlying32 sizeOf30 rfl rfl rfl (by decide)).cv (show _ = vP b4 0 from congrArg (vP b4) (by rfl))) rfl (yP (F := fun v_ => (rpQ l).Is h0 v_ b.x) rfl (zE xZ (Pc.tx (Pc.here _)) rfl rfl rb4 rfl) (yF (.tail _ (.tail _ (.head _)))) rfl ?_))
 intro v19u5 r19u5
 refine w_c rfl (sE (fS (vs := [_, _]) call70 rfl e2z) rfl (fun w hs => gZ hs r16u5 r19u5 (by omega)) ?_)
 intro v20u5 h1 hh1 r20u5
 change (rpQ (k + l + 1)).Is h1 v20u5 (a.x - b.x) at r20u5
 refine w_q rfl (fun h' L' hh hR => (zH (sz := 3) 0 underlying32 sizeOf30 rfl rfl rfl (by decide)).cv (show _ = vP b7 0 from congrArg (vP b7) (by rfl))) rfl ?_
 replace rb7 := rb7.mono hh1
 refine xY (A := []) (F := fun c_ => (rpT (rpQ (k + l + 1 + 1))).R h1 c_ (T3.mk (a.x - b.x) (0 : Rat) (0 : Rat))) rfl (yG sizeOf30 (Pc.tx (Pc.here _)) rfl rfl rfl rb7 (r20u5.le (Le.q (l := k + l + 1 + 1) (by omega))) rfl) ?_
 intro cs_11 rb_12
 refine xA (xB (zJ (e' := [(2, _), (3, _), (4, _), (6, _), (7, _), (9, _)]) e6 (zB (zA (gv ((zR (q := 1) rfl rfl (by omega) (by omega)).cv (show _ = vI (1) from rfl)) rfl (mv rfl rfl (zD (xT (zC (zA (gv (OpV.tr (by decide) (zW (q := 3) rfl rfl)) rfl (zD (zB ?_)))))))))))))
 refine zC (xQ rfl (zL (zB (zC (zS (zC (zA (mv rfl rfl (asg rfl rfl (zD (zB ?_)))))))))))
 refine yI 10 _ [] [(0, .q), (1, .q), (2, .q), (3, .q), (4, .q), (5, .q), (6, .q), (7, .q), (8, .c), (9, .q), (10, .t)] xI nX (by kernel_rfl) nX (fun r hr => hr) (w_q rfl (fun h' L' hh hR => zF rfl) rfl (w_q rfl (fun h' L' hh hR => zF rfl) rfl (w_q rfl (fun h' L' hh hR => zF rfl) rfl (w_q rfl (fun h' L' hh hR => (zH (sz := 3) 1 underlying32 sizeOf30 rfl rfl rfl (by decide)).cv (show _ = vP b3 3 from congrArg (vP b3) (by rfl))) rfl ?_))))
 replace rb3 := rb3.mono hh1
 refine yP (F := fun v_ => (rpQ k).Is h1 v_ a.y) rfl (zE xZ (Pc.ty (Pc.here _)) rfl rfl rb3 rfl) (yF (.tail _ (.tail _ (.tail _ (.head _))))) rfl ?_
 intro v16u6 r16u6
 refine w_q rfl (fun h' L' hh hR => zF rfl) rfl (w_q rfl (fun h' L' hh hR => (zH (sz := 3) 1 underlying32 sizeOf30 rfl rfl rfl (by decide)).cv (show _ = vP b4 3 from congrArg (vP b4) (by rfl))) rfl ?_)
 replace rb4 := rb4.mono hh1
 refine yP (F := fun v_ => (rpQ l).Is h1 v_ b.y) rfl (zE xZ (Pc.ty (Pc.here _)) rfl rfl rb4 rfl) (yF (.tail _ (.tail _ (.head _)))) rfl ?_
 intro v19u6 r19u6
 refine w_c rfl (sE (fS (vs := [_, _]) call70 rfl e2z) rfl (fun w hs => gZ hs r16u6 r19u6 (by omega)) ?_)
 intro v20u6 h2 hh2 r20u6
 change (rpQ (k + l + 1)).Is h2 v20u6 (a.y - b.y) at r20u6
 refine w_q rfl (fun h' L' hh hR => (zH (sz := 3) 1 underlying32 sizeOf30 rfl rfl rfl (by decide)).cv (show _ = vP b7 3 from congrArg (vP b7) (by rfl))) rfl ?_
 replace rb_12 := rb_12.mono hh2
 refine xY (A := []) (F := fun c_ => (rpT (rpQ (k + l + 1 + 1))).R h2 c_ (T3.mk (a.x - b.x) (a.y - b.y) (0 : Rat))) rfl (yG sizeOf30 (Pc.ty (Pc.here _)) rfl rfl rfl rb_12 (r20u6.le (Le.q (l := k + l + 1 + 1) (by omega))) rfl) ?_
 intro cs_13 rb_14
 refine xA (xB (zJ (e' := [(2, _), (3, _), (4, _), (6, _), (7, _), (9, _)]) e6 (zB (zA (gv ((zR (q := 1) rfl rfl (by omega) (by omega)).cv (show _ = vI (2) from rfl)) rfl (mv rfl rfl (zD (xT (zC (zA (gv (OpV.tr (by decide) (zW (q := 3) rfl rfl)) rfl (zD (zB ?_)))))))))))))
 refine zC (xQ rfl (zL (zB (zC (zS (zC (zA (mv rfl rfl (asg rfl rfl (zD (zB ?_)))))))))))
 refine yI 10 _ [] [(0, .q), (1, .q), (2, .q), (3, .q), (4, .q), (5, .q), (6, .q), (7, .q), (8, .c), (9, .q), (10, .t)] xI nX (by kernel_rfl) nX (fun r hr => hr) (w_q rfl (fun h' L' hh hR => zF rfl) rfl (w_q rfl (fun h' L' hh hR => zF rfl) rfl (w_q rfl (fun h' L' hh hR => zF rfl) rfl (w_q rfl (fun h' L' hh hR => (zH (sz := 3) 2 underlying32 sizeOf30 rfl rfl rfl (by decide)).cv (show _ = vP b3 6 from congrArg (vP b3) (by rfl))) rfl ?_))))
 replace rb3 := rb3.mono hh2
 refine yP (F := fun v_ => (rpQ k).Is h2 v_ a.z) rfl (zE xZ (Pc.tz (Pc.here _)) rfl rfl rb3 rfl) (yF (.tail _ (.tail _ (.tail _ (.head _))))) rfl ?_
 intro v16u7 r16u7
 refine w_q rfl (fun h' L' hh hR => zF rfl) rfl (w_q rfl (fun h' L' hh hR => (zH (sz := 3) 2 underlying32 sizeOf30 rfl rfl rfl (by decide)).cv (show _ = vP b4 6 from congrArg (vP b4) (by rfl))) rfl ?_)
 replace rb4 := rb4.mono hh2
 refine yP (F := fun v_ => (rpQ l).Is h2 v_ b.z) rfl (zE xZ (Pc.tz (Pc.here _)) rfl rfl rb4 rfl) (yF (.tail _ (.tail _ (.head _)))) rfl ?_
 intro v19u7 r19u7
 refine w_c rfl (sE (fS (vs := [_, _]) call70 rfl e2z) rfl (fun w hs => gZ hs r16u7 r19u7 (by omega)) ?_)
 intro v20u7 h3 hh3 r20u7
 change (rpQ (k + l + 1)).Is h3 v20u7 (a.z - b.z) at r20u7
 refine w_q rfl (fun h' L' hh hR => (zH (sz := 3) 2 underlying32 sizeOf30 rfl rfl rfl (by decide)).cv (show _ = vP b7 6 from congrArg (vP b7) (by rfl))) rfl ?_
 replace rb_14 := rb_14.mono hh3
 refine xY (A := []) (F := fun c_ => (rpT (rpQ (k + l + 1 + 1))).R h3 c_ (T3.mk (a.x - b.x) (a.y - b.y) (a.z - b.z))) rfl (yG sizeOf30 (Pc.tz (Pc.here _)) rfl rfl rfl rb_14 (r20u7.le (Le.q (l := k + l + 1 + 1) (by omega))) rfl) ?_
 intro cs_15 rb_16
 refine xA (xB (zJ (e' := [(2, _), (3, _), (4, _), (6, _), (7, _), (9, _)]) e6 (zB (zA (gv ((zR (q := 1) rfl rfl (by omega) (by omega)).cv (show _ = vI (3) from rfl)) rfl (mv rfl rfl (zD (xT (zC (zA (gv (OpV.fa (by decide) (zW (q := 3) rfl rfl)) rfl (zD (zB ?_)))))))))))))
 refine zC (vZ rfl (xM (yE (yE (xL (zB (zC (zA (wF (F := fun v_ => (rpT (rpQ (k + l + 1 + 1))).Is h3 v_ (T3.mk (a.x - b.x) (a.y - b.y) (a.z - b.z))) (zE yZ (Pc.here _) rfl rfl rb_16 rfl) (yF (.head _)) rfl ?_)))))))))
 intro v23u8 r23u8
 replace rb6 := rb6.mono ((hh1.trans hh2).trans hh3)
 refine wB (A := [_]) (F := fun c_ => (rpT (rpQ (k + l + 1 + 1))).R h3 c_ (T3.mk (a.x - b.x) (a.y - b.y) (a.z - b.z))) (yG sizeOf32 (Pc.here _) rfl rfl rfl rb6 r23u8 rfl) ?_
 intro cs_17 rb_18
 refine zD (zB (zQ (uG (gJ (t := 6) yZ (.tail _ (.head _)) rfl rb_18) ?_)))
 intro w_19 hvw_19 rr_20
 refine xW (fun E S => yQ rfl hvw_19 E S) ?_
 exact rr_20
theorem o_each_mul {w0 : World} {h0 : Mem}  (hs : MLe h0 (mem w0)) {k l : Nat} {va : Value} {a : (T3 Rat)} (ra : (rpT (rpQ k)).Is h0 va a) {vb : Value} {b : (T3 Rat)} (rb : (rpT (rpQ l)).Is h0 vb b) (hcd0 : k + l ≤ 10000000000)  :
    Calls Tryz.prog 115 #[va, vb, vF 103 []] w0 (Ret w0 h0 (fun h r => (rpT (rpQ (k + l + 1))).Is h r (T3.mk (a.x * b.x) (a.y * b.y) (a.z * b.z)))) := by
 refine zP (n := 24) (e := [(0, va), (1, vb), (2, vF 103 [])]) (vs := [va, vb, vF 103 []]) func115 rfl rfl (bL rfl) hs e3z (zC (zA (zK (yW (ρ := (rpT (rpQ k))) rfl ra) rfl rfl rfl ?_)))
 intro v3 q3 hq3
 obtain ⟨b3, cs3, rfl, rfl, rb3⟩ := hq3
 refine zK (yW (ρ := (rpT (rpQ l))) rfl rb) rfl rfl rfl ?_
 intro v4 q4 hq4
 obtain ⟨b4, cs4, rfl, rfl, rb4⟩ := hq4
 refine zK (yY (ρ := (rpT (rpQ (k + l + 1)))) (X := (T3.mk (0 : Rat) 0 0)) yD rfl rfl (wH (wA (by omega)))) rfl rfl rfl ?_
 intro v6 q6 hq6
 obtain ⟨b6, cs6, rfl, rfl, rb6⟩ := hq6
 refine zD (zB (zC (zA (zK (yY (ρ := (rpT (rpQ (k + l + 1)))) (X := (T3.mk (0 : Rat) 0 0)) yD rfl rfl (wH (wA (by omega)))) rfl rfl rfl ?_))))
 intro v7 q7 hq7
 obtain ⟨b7, cs7, rfl, rfl, rb7⟩ := hq7
 refine zD (zB (zC (zC (zA (mv (v := vI (0)) rfl rfl (zD (zB (zS (jW (zC (zA (gv (OpV.tr (by decide) (zW (q := 3) rfl rfl)) rfl (zD ?_)))))))))))))
 refine zB (zC (xQ rfl (zL (zB (zC (zS (zC (zA (mv rfl rfl (asg rfl rfl (zD (zB ?_))))))))))))
 refine yI 10 _ [] [(0, .q), (1, .q), (2, .q), (3, .q), (4, .q), (5, .q), (6, .q), (7, .q), (8, .c), (9, .q), (10, .t)] xI nX (by kernel_rfl) nX (fun r hr => hr) (w_q rfl (fun h' L' hh hR => zF rfl) rfl (w_q rfl (fun h' L' hh hR => zF rfl) rfl (w_q rfl (fun h' L' hh hR => zF rfl) rfl (w_q rfl (fun h' L' hh hR => (zH (sz := 3) 0 underlying32 sizeOf30 rfl rfl rfl (by decide)).cv (show _ = vP b3 0 from congrArg (vP b3) (by rfl))) rfl (yP (F := fun v_ => (rpQ k).Is h0 v_ a.x) rfl (zE xZ (Pc.tx (Pc.here _)) rfl rfl rb3 rfl) (yF (.tail _ (.tail _ (.tail _ (.head _))))) rfl ?_)))))
 intro v16u9 r16u9
 refine w_q rfl (fun h' L' hh hR => zF rfl) rfl (w_q rfl (fun h' L' hh hR => (zH (sz := 3) 0 underlying32 sizeOf30 rfl rfl rfl (by decide)).cv (show _ = vP b4 0 from congrArg (vP b4) (by rfl))) rfl (yP (F := fun v_ => (rpQ l).Is h0 v_ b.x) rfl (zE xZ (Pc.tx (Pc.here _)) rfl rfl rb4 rfl) (yF (.tail _ (.tail _ (.head _)))) rfl ?_))
 intro v19u9 r19u9
 refine w_c rfl (sE (fS (vs := [_, _]) call103 rfl e2z) rfl (fun w hs => tH hs r16u9 r19u9 (by omega)) ?_)
 intro v20u9 h1 hh1 r20u9
 change (rpQ (k + l)).Is h1 v20u9 (a.x * b.x) at r20u9
 refine w_q rfl (fun h' L' hh hR => (zH (sz := 3) 0 underlying32 sizeOf30 rfl rfl rfl (by decide)).cv (show _ = vP b7 0 from congrArg (vP b7) (by rfl))) rfl ?_
 replace rb7 := rb7.mono hh1
 refine xY (A := []) (F := fun c_ => (rpT (rpQ (k + l + 1))).R h1 c_ (T3.mk (a.x * b.x) (0 : Rat) (0 : Rat))) rfl (yG sizeOf30 (Pc.tx (Pc.here _)) rfl rfl rfl rb7 (r20u9.le (Le.q (l := k + l + 1) (by omega))) rfl) ?_
 intro cs_21 rb_22
 refine xA (xB (zJ (e' := [(2, _), (3, _), (4, _), (6, _), (7, _), (9, _)]) e6 (zB (zA (gv ((zR (q := 1) rfl rfl (by omega) (by omega)).cv (show _ = vI (1) from rfl)) rfl (mv rfl rfl (zD (xT (zC (zA (gv (OpV.tr (by decide) (zW (q := 3) rfl rfl)) rfl (zD (zB ?_)))))))))))))
 refine zC (xQ rfl (zL (zB (zC (zS (zC (zA (mv rfl rfl (asg rfl rfl (zD (zB ?_)))))))))))
 refine yI 10 _ [] [(0, .q), (1, .q), (2, .q), (3, .q), (4, .q), (5, .q), (6, .q), (7, .q), (8, .c), (9, .q), (10, .t)] xI nX (by kernel_rfl) nX (fun r hr => hr) (w_q rfl (fun h' L' hh hR => zF rfl) rfl (w_q rfl (fun h' L' hh hR => zF rfl) rfl (w_q rfl (fun h' L' hh hR => zF rfl) rfl (w_q rfl (fun h' L' hh hR => (zH (sz := 3) 1 underlying32 sizeOf30 rfl rfl rfl (by decide)).cv (show _ = vP b3 3 from congrArg (vP b3) (by rfl))) rfl ?_))))
 replace rb3 := rb3.mono hh1
 refine yP (F := fun v_ => (rpQ k).Is h1 v_ a.y) rfl (zE xZ (Pc.ty (Pc.here _)) rfl rfl rb3 rfl) (yF (.tail _ (.tail _ (.tail _ (.head _))))) rfl ?_
 intro v16u10 r16u10
 refine w_q rfl (fun h' L' hh hR => zF rfl) rfl (w_q rfl (fun h' L' hh hR => (zH (sz := 3) 1 underlying32 sizeOf30 rfl rfl rfl (by decide)).cv (show _ = vP b4 3 from congrArg (vP b4) (by rfl))) rfl ?_)
 replace rb4 := rb4.mono hh1
 refine yP (F := fun v_ => (rpQ l).Is h1 v_ b.y) rfl (zE xZ (Pc.ty (Pc.here _)) rfl rfl rb4 rfl) (yF (.tail _ (.tail _ (.head _)))) rfl ?_
 intro v19u10 r19u10
 refine w_c rfl (sE (fS (vs := [_, _]) call103 rfl e2z) rfl (fun w hs => tH hs r16u10 r19u10 (by omega)) ?_)
 intro v20u10 h2 hh2 r20u10
 change (rpQ (k + l)).Is h2 v20u10 (a.y * b.y) at r20u10
 refine w_q rfl (fun h' L' hh hR => (zH (sz := 3) 1 underlying32 sizeOf30 rfl rfl rfl (by decide)).cv (show _ = vP b7 3 from congrArg (vP b7) (by rfl))) rfl ?_
 replace rb_22 := rb_22.mono hh2
 refine xY (A := []) (F := fun c_ => (rpT (rpQ (k + l + 1))).R h2 c_ (T3.mk (a.x * b.x) (a.y * b.y) (0 : Rat))) rfl (yG sizeOf30 (Pc.ty (Pc.here _)) rfl rfl rfl rb_22 (r20u10.le (Le.q (l := k + l + 1) (by omega))) rfl) ?_
 intro cs_23 rb_24
 refine xA (xB (zJ (e' := [(2, _), (3, _), (4, _), (6, _), (7, _), (9, _)]) e6 (zB (zA (gv ((zR (q := 1) rfl rfl (by omega) (by omega)).cv (show _ = vI (2) from rfl)) rfl (mv rfl rfl (zD (xT (zC (zA (gv (OpV.tr (by decide) (zW (q := 3) rfl rfl)) rfl (zD (zB ?_)))))))))))))
 refine zC (xQ rfl (zL (zB (zC (zS (zC (zA (mv rfl rfl (asg rfl rfl (zD (zB ?_)))))))))))
 refine yI 10 _ [] [(0, .q), (1, .q), (2, .q), (3, .q), (4, .q), (5, .q), (6, .q), (7, .q), (8, .c), (9, .q), (10, .t)] xI nX (by kernel_rfl) nX (fun r hr => hr) (w_q rfl (fun h' L' hh hR => zF rfl) rfl (w_q rfl (fun h' L' hh hR => zF rfl) rfl (w_q rfl (fun h' L' hh hR => zF rfl) rfl (w_q rfl (fun h' L' hh hR => (zH (sz := 3) 2 underlying32 sizeOf30 rfl rfl rfl (by decide)).cv (show _ = vP b3 6 from congrArg (vP b3) (by rfl))) rfl ?_))))
 replace rb3 := rb3.mono hh2
 refine yP (F := fun v_ => (rpQ k).Is h2 v_ a.z) rfl (zE xZ (Pc.tz (Pc.here _)) rfl rfl rb3 rfl) (yF (.tail _ (.tail _ (.tail _ (.head _))))) rfl ?_
 intro v16u11 r16u11
 refine w_q rfl (fun h' L' hh hR => zF rfl) rfl (w_q rfl (fun h' L' hh hR => (zH (sz := 3) 2 underlying32 sizeOf30 rfl rfl rfl (by decide)).cv (show _ = vP b4 6 from congrArg (vP b4) (by rfl))) rfl ?_)
 replace rb4 := rb4.mono hh2
 refine yP (F := fun v_ => (rpQ l).Is h2 v_ b.z) rfl (zE xZ (Pc.tz (Pc.here _)) rfl rfl rb4 rfl) (yF (.tail _ (.tail _ (.head _)))) rfl ?_
 intro v19u11 r19u11
 refine w_c rfl (sE (fS (vs := [_, _]) call103 rfl e2z) rfl (fun w hs => tH hs r16u11 r19u11 (by omega)) ?_)
 intro v20u11 h3 hh3 r20u11
 change (rpQ (k + l)).Is h3 v20u11 (a.z * b.z) at r20u11
 refine w_q rfl (fun h' L' hh hR => (zH (sz := 3) 2 underlying32 sizeOf30 rfl rfl rfl (by decide)).cv (show _ = vP b7 6 from congrArg (vP b7) (by rfl))) rfl ?_
 replace rb_24 := rb_24.mono hh3
 refine xY (A := []) (F := fun c_ => (rpT (rpQ (k + l + 1))).R h3 c_ (T3.mk (a.x * b.x) (a.y * b.y) (a.z * b.z))) rfl (yG sizeOf30 (Pc.tz (Pc.here _)) rfl rfl rfl rb_24 (r20u11.le (Le.q (l := k + l + 1) (by omega))) rfl) ?_
 intro cs_25 rb_26
 refine xA (xB (zJ (e' := [(2, _), (3, _), (4, _), (6, _), (7, _), (9, _)]) e6 (zB (zA (gv ((zR (q := 1) rfl rfl (by omega) (by omega)).cv (show _ = vI (3) from rfl)) rfl (mv rfl rfl (zD (xT (zC (zA (gv (OpV.fa (by decide) (zW (q := 3) rfl rfl)) rfl (zD (zB ?_)))))))))))))
 refine zC (vZ rfl (xM (yE (yE (xL (zB (zC (zA (wF (F := fun v_ => (rpT (rpQ (k + l + 1))).Is h3 v_ (T3.mk (a.x * b.x) (a.y * b.y) (a.z * b.z))) (zE yZ (Pc.here _) rfl rfl rb_26 rfl) (yF (.head _)) rfl ?_)))))))))
 intro v23u12 r23u12
 replace rb6 := rb6.mono ((hh1.trans hh2).trans hh3)
 refine wB (A := [_]) (F := fun c_ => (rpT (rpQ (k + l + 1))).R h3 c_ (T3.mk (a.x * b.x) (a.y * b.y) (a.z * b.z))) (yG sizeOf32 (Pc.here _) rfl rfl rfl rb6 r23u12 rfl) ?_
 intro cs_27 rb_28
 refine zD (zB (zQ (uG (gJ (t := 6) yZ (.tail _ (.head _)) rfl rb_28) ?_)))
 intro w_29 hvw_29 rr_30
 refine xW (fun E S => yQ rfl hvw_29 E S) ?_
 exact rr_30
theorem o_v_add {w0 : World} {h0 : Mem}  (hs : MLe h0 (mem w0)) {k l : Nat} {va : Value} {a : (T3 Rat)} (ra : (rpT (rpQ k)).Is h0 va a) {vb : Value} {b : (T3 Rat)} (rb : (rpT (rpQ l)).Is h0 vb b) (hcd0 : k + l ≤ 10000000000)  :
    Calls Tryz.prog 80 #[va, vb] w0 (Ret w0 h0 (fun h r => (rpT (rpQ (k + l + 2))).Is h r (T3.mk (a.x + b.x) (a.y + b.y) (a.z + b.z)))) := by
 refine zP (n := 8) (e := [(0, va), (1, vb)]) (vs := [va, vb]) func80 rfl rfl (bL rfl) hs e2z (zC (zA (zK (yW (ρ := (rpT (rpQ k))) rfl ra) rfl rfl rfl ?_)))
 intro v2 q2 hq2
 obtain ⟨b2, cs2, rfl, rfl, rb2⟩ := hq2
 refine zK (yW (ρ := (rpT (rpQ l))) rfl rb) rfl rfl rfl ?_
 intro v3 q3 hq3
 obtain ⟨b3, cs3, rfl, rfl, rb3⟩ := hq3
 refine zK (yY (ρ := (rpT (rpQ (k + l + 2)))) (X := (T3.mk (0 : Rat) 0 0)) yD rfl rfl (wH (wA (by omega)))) rfl rfl rfl ?_
 intro v4 q4 hq4
 obtain ⟨b4, cs4, rfl, rfl, rb4⟩ := hq4
 refine zD (zB (zC (zA (wF (F := fun v_ => (rpT (rpQ k)).Is h0 v_ a) (zE yZ (Pc.here _) rfl rfl rb2 rfl) (yF (.tail _ (.tail _ (.head _)))) rfl ?_))))
 intro v5 r5
 refine wF (F := fun v_ => (rpT (rpQ l)).Is h0 v_ b) (zE yZ (Pc.here _) rfl rfl rb3 rfl) (yF (.tail _ (.head _))) rfl ?_
 intro v6 r6
 refine zM (vs := [_, _, _]) rfl rfl rfl rfl call115 e3z (fun w hs => o_each_add hs r5 r6 (by omega)) ?_
 intro v7 h1 hh1 r7
 change (rpT (rpQ (k + l + 1 + 1))).Is h1 v7 (T3.mk (a.x + b.x) (a.y + b.y) (a.z + b.z)) at r7
 replace r7 := Rp.Is.le r7 (Le.t (Le.q (l := k + l + 2) (by omega)))
 replace rb4 := rb4.mono hh1
 refine wB (A := []) (F := fun c_ => (rpT (rpQ (k + l + 2))).R h1 c_ (T3.mk (a.x + b.x) (a.y + b.y) (a.z + b.z))) (yG sizeOf32 (Pc.here _) rfl rfl rfl rb4 r7 rfl) ?_
 intro cs_31 rb_32
 refine zD (zB (zQ (uG (gJ (t := 4) yZ (.head _) rfl rb_32) ?_)))
 intro w_33 hvw_33 rr_34
 refine xW (fun E S => yQ rfl hvw_33 E S) ?_
 exact rr_34
theorem o_v_sub {w0 : World} {h0 : Mem}  (hs : MLe h0 (mem w0)) {k l : Nat} {va : Value} {a : (T3 Rat)} (ra : (rpT (rpQ k)).Is h0 va a) {vb : Value} {b : (T3 Rat)} (rb : (rpT (rpQ l)).Is h0 vb b) (hcd0 : k + l ≤ 10000000000)  :
    Calls Tryz.prog 78 #[va, vb] w0 (Ret w0 h0 (fun h r => (rpT (rpQ (k + l + 2))).Is h r (T3.mk (a.x - b.x) (a.y - b.y) (a.z - b.z)))) := by
 refine zP (n := 8) (e := [(0, va), (1, vb)]) (vs := [va, vb]) func78 rfl rfl (bL rfl) hs e2z (zC (zA (zK (yW (ρ := (rpT (rpQ k))) rfl ra) rfl rfl rfl ?_)))
 intro v2 q2 hq2
 obtain ⟨b2, cs2, rfl, rfl, rb2⟩ := hq2
 refine zK (yW (ρ := (rpT (rpQ l))) rfl rb) rfl rfl rfl ?_
 intro v3 q3 hq3
 obtain ⟨b3, cs3, rfl, rfl, rb3⟩ := hq3
 refine zK (yY (ρ := (rpT (rpQ (k + l + 2)))) (X := (T3.mk (0 : Rat) 0 0)) yD rfl rfl (wH (wA (by omega)))) rfl rfl rfl ?_
 intro v4 q4 hq4
 obtain ⟨b4, cs4, rfl, rfl, rb4⟩ := hq4
 refine zD (zB (zC (zA (wF (F := fun v_ => (rpT (rpQ k)).Is h0 v_ a) (zE yZ (Pc.here _) rfl rfl rb2 rfl) (yF (.tail _ (.tail _ (.head _)))) rfl ?_))))
 intro v5 r5
 refine wF (F := fun v_ => (rpT (rpQ l)).Is h0 v_ b) (zE yZ (Pc.here _) rfl rfl rb3 rfl) (yF (.tail _ (.head _))) rfl ?_
 intro v6 r6
 refine zM (vs := [_, _, _]) rfl rfl rfl rfl call115 e3z (fun w hs => o_each_sub hs r5 r6 (by omega)) ?_
 intro v7 h1 hh1 r7
 change (rpT (rpQ (k + l + 1 + 1))).Is h1 v7 (T3.mk (a.x - b.x) (a.y - b.y) (a.z - b.z)) at r7
 replace r7 := Rp.Is.le r7 (Le.t (Le.q (l := k + l + 2) (by omega)))
 replace rb4 := rb4.mono hh1
 refine wB (A := []) (F := fun c_ => (rpT (rpQ (k + l + 2))).R h1 c_ (T3.mk (a.x - b.x) (a.y - b.y) (a.z - b.z))) (yG sizeOf32 (Pc.here _) rfl rfl rfl rb4 r7 rfl) ?_
 intro cs_35 rb_36
 refine zD (zB (zQ (uG (gJ (t := 4) yZ (.head _) rfl rb_36) ?_)))
 intro w_37 hvw_37 rr_38
 refine xW (fun E S => yQ rfl hvw_37 E S) ?_
 exact rr_38
theorem o_v_scale {w0 : World} {h0 : Mem}  (hs : MLe h0 (mem w0)) {l k : Nat} {vq : Value} {q : Rat} (rq : (rpQ l).Is h0 vq q) {va : Value} {a : (T3 Rat)} (ra : (rpT (rpQ k)).Is h0 va a) (hcd0 : k + l ≤ 1000000000)  :
    Calls Tryz.prog 82 #[vq, va] w0 (Ret w0 h0 (fun h r => (rpT (rpQ (k + l + 2))).Is h r (T3.mk (q * a.x) (q * a.y) (q * a.z)))) := by
 refine zP (n := 11) (e := [(0, vq), (1, va)]) (vs := [vq, va]) func82 rfl rfl (bL rfl) hs e2z (zC (zA (zK (yW (ρ := (rpQ l)) rfl rq) rfl rfl rfl ?_)))
 intro v2 q2 hq2
 obtain ⟨b2, cs2, rfl, rfl, rb2⟩ := hq2
 refine zK (yW (ρ := (rpT (rpQ k))) rfl ra) rfl rfl rfl ?_
 intro v3 q3 hq3
 obtain ⟨b3, cs3, rfl, rfl, rb3⟩ := hq3
 refine zK (yY (ρ := (rpT (rpQ (k + l + 2)))) (X := (T3.mk (0 : Rat) 0 0)) yD rfl rfl (wH (wA (by omega)))) rfl rfl rfl ?_
 intro v4 q4 hq4
 obtain ⟨b4, cs4, rfl, rfl, rb4⟩ := hq4
 refine zD (zB (zC (zA (wF (F := fun v_ => (rpQ l).Is h0 v_ q) (zE xZ (Pc.here _) rfl rfl rb2 rfl) (yF (.tail _ (.tail _ (.head _)))) rfl ?_))))
 intro v5 r5
 refine wF (F := fun v_ => (rpQ l).Is h0 v_ q) (zE xZ (Pc.here _) rfl rfl rb2 rfl) (yF (.tail _ (.tail _ (.head _)))) rfl ?_
 intro v6 r6
 refine wF (F := fun v_ => (rpQ l).Is h0 v_ q) (zE xZ (Pc.here _) rfl rfl rb2 rfl) (yF (.tail _ (.tail _ (.head _)))) rfl ?_
 intro v7 r7
 refine wF (F := fun v_ => (rpT (rpQ (l + 1))).Is h0 v_ (T3.mk q q q)) (wW (ps' := [(0, _), (1, _), (2, _)]) underlying32 yD rfl rfl sizeOf30 e6 rfl (wH (wA (by omega))) (yX rfl (Pc.tx (Pc.here _)) (r5.le (Le.q (l := l + 1) (by omega))) (yX rfl (Pc.ty (Pc.here _)) (r6.le (Le.q (l := l + 1) (by omega))) (yX rfl (Pc.tz (Pc.here _)) (r7.le (Le.q (l := l + 1) (by omega))) wD)))) vW rfl ?_
 intro v8 r8
 refine wF (F := fun v_ => (rpT (rpQ k)).Is h0 v_ a) (zE yZ (Pc.here _) rfl rfl rb3 rfl) (yF (.tail _ (.head _))) rfl ?_
 intro v9 r9
 refine zM (vs := [_, _, _]) rfl rfl rfl rfl call115 e3z (fun w hs => o_each_mul hs r8 r9 (by omega)) ?_
 intro v10 h1 hh1 r10
 change (rpT (rpQ ((l + 1) + k + 1))).Is h1 v10 (T3.mk (q * a.x) (q * a.y) (q * a.z)) at r10
 replace r10 := Rp.Is.le r10 (Le.t (Le.q (l := k + l + 2) (by omega)))
 replace rb4 := rb4.mono hh1
 refine wB (A := []) (F := fun c_ => (rpT (rpQ (k + l + 2))).R h1 c_ (T3.mk (q * a.x) (q * a.y) (q * a.z))) (yG sizeOf32 (Pc.here _) rfl rfl rfl rb4 r10 rfl) ?_
 intro cs_39 rb_40
 refine zD (zJ (e' := [(4, _)]) ⟨rfl, trivial⟩ (zB (zQ (uG (gJ (t := 4) yZ (.head _) rfl rb_40) ?_))))
 intro w_41 hvw_41 rr_42
 refine xW (fun E S => yQ rfl hvw_41 E S) ?_
 exact rr_42
theorem o_v_dot {w0 : World} {h0 : Mem}  (hs : MLe h0 (mem w0)) {k l : Nat} {va : Value} {a : (T3 Rat)} (ra : (rpT (rpQ k)).Is h0 va a) {vb : Value} {b : (T3 Rat)} (rb : (rpT (rpQ l)).Is h0 vb b) (hcd0 : k + l ≤ 1000000000)  :
    Calls Tryz.prog 79 #[va, vb] w0 (Ret w0 h0 (fun h r => (rpQ (3 * k + 3 * l + 9)).Is h r (uT a b))) := by
 refine zP (n := 21) (e := [(0, va), (1, vb)]) (vs := [va, vb]) func79 rfl rfl (bL rfl) hs e2z (zC (zA (zK (yW (ρ := (rpT (rpQ k))) rfl ra) rfl rfl rfl ?_)))
 intro v2 q2 hq2
 obtain ⟨b2, cs2, rfl, rfl, rb2⟩ := hq2
 refine zK (yW (ρ := (rpT (rpQ l))) rfl rb) rfl rfl rfl ?_
 intro v3 q3 hq3
 obtain ⟨b3, cs3, rfl, rfl, rb3⟩ := hq3
 refine zK (yY (ρ := (rpQ (3 * k + 3 * l + 9))) (X := (0 : Rat)) wQ rfl rfl (wA (by omega))) rfl rfl rfl ?_
 intro v4 q4 hq4
 obtain ⟨b4, cs4, rfl, rfl, rb4⟩ := hq4
 refine zD (zB (zC (zA (zK (yY (ρ := (rpQ 1)) (X := (0 : Rat)) wQ rfl rfl (wA (by decide))) rfl rfl rfl ?_))))
 intro v5 q5 hq5
 obtain ⟨b5, cs5, rfl, rfl, rb5⟩ := hq5
 refine zD (zB (zC (zC (zA (mv (v := vI (0)) rfl rfl (zD (zB (zS (jW (zC (zA (gv (OpV.tr (by decide) (zW (q := 3) rfl rfl)) rfl (zD ?_)))))))))))))
 refine zB (zC (xQ rfl (zL (zB (zC (zS (zC (zA (mv rfl rfl (asg rfl rfl (zD (zB ?_))))))))))))
 refine yI 9 _ [] [(0, .q), (1, .q), (2, .q), (3, .q), (4, .q), (5, .q), (6, .q), (7, .c), (8, .c), (9, .t)] xI nX (by kernel_rfl) nX (fun r hr => hr) (yP (F := fun v_ => (rpQ 1).Is h0 v_ (0 : Rat)) rfl (zE xZ (Pc.here _) rfl rfl rb5 rfl) (yF (.head _)) rfl ?_)
 intro v10u13 r10u13
 refine w_q rfl (fun h' L' hh hR => zF rfl) rfl (w_q rfl (fun h' L' hh hR => (zH (sz := 3) 0 underlying32 sizeOf30 rfl rfl rfl (by decide)).cv (show _ = vP b2 0 from congrArg (vP b2) (by rfl))) rfl (yP (F := fun v_ => (rpQ k).Is h0 v_ a.x) rfl (zE xZ (Pc.tx (Pc.here _)) rfl rfl rb2 rfl) (yF (.tail _ (.tail _ (.tail _ (.head _))))) rfl ?_))
 intro v13u13 r13u13
 refine w_q rfl (fun h' L' hh hR => zF rfl) rfl (w_q rfl (fun h' L' hh hR => (zH (sz := 3) 0 underlying32 sizeOf30 rfl rfl rfl (by decide)).cv (show _ = vP b3 0 from congrArg (vP b3) (by rfl))) rfl (yP (F := fun v_ => (rpQ l).Is h0 v_ b.x) rfl (zE xZ (Pc.tx (Pc.here _)) rfl rfl rb3 rfl) (yF (.tail _ (.tail _ (.head _)))) rfl ?_))
 intro v16u13 r16u13
 refine w_c rfl ?_
 refine zY (vs := [_, _]) call103 e2z (fun w hs => tH hs r13u13 r16u13 (by omega)) rfl ?_
 intro v17u13 h1 hh1 r17u13
 change (rpQ (k + l)).Is h1 v17u13 (a.x * b.x) at r17u13
 refine w_c rfl ?_
 replace r10u13 := r10u13.mono hh1
 refine zY (vs := [_, _]) call71 e2z (fun w hs => sL hs r10u13 r17u13 (by omega)) rfl ?_
 intro v18u13 h2 hh2 r18u13
 change (rpQ (1 + (k + l) + 1)).Is h2 v18u13 ((0 : Rat) + (a.x * b.x)) at r18u13
 replace r18u13 := Rp.Is.le r18u13 (Le.q (l := k + l + 2) (by omega))
 replace rb5 := rb5.mono (hh1.trans hh2)
 have rw_43 := (Le.q (l := k + l + 2) (by omega)).R rb5
 refine xY (A := []) (F := fun c_ => (rpQ (k + l + 2)).R h2 c_ ((0 : Rat) + (a.x * b.x))) rfl (yG sizeOf30 (Pc.here _) rfl rfl rfl rw_43 r18u13 rfl) ?_
 intro cs_44 rb_45
 refine xA (xB (zJ (e' := [(2, _), (3, _), (4, _), (5, _), (7, _)]) e5 (zB (zA (gv ((zR (q := 1) rfl rfl (by omega) (by omega)).cv (show _ = vI (1) from rfl)) rfl (mv rfl rfl (zD (xT (zC (zA (gv (OpV.tr (by decide) (zW (q := 3) rfl rfl)) rfl (zD (zB ?_)))))))))))))
 refine zC (xQ rfl (zL (zB (zC (zS (zC (zA (mv rfl rfl (asg rfl rfl (zD (zB ?_)))))))))))
 refine yI 9 _ [] [(0, .q), (1, .q), (2, .q), (3, .q), (4, .q), (5, .q), (6, .q), (7, .c), (8, .c), (9, .t)] xI nX (by kernel_rfl) nX (fun r hr => hr) (yP (F := fun v_ => (rpQ (k + l + 2)).Is h2 v_ ((0 : Rat) + (a.x * b.x))) rfl (zE xZ (Pc.here _) rfl rfl rb_45 rfl) (yF (.head _)) rfl ?_)
 intro v10u14 r10u14
 refine w_q rfl (fun h' L' hh hR => zF rfl) rfl (w_q rfl (fun h' L' hh hR => (zH (sz := 3) 1 underlying32 sizeOf30 rfl rfl rfl (by decide)).cv (show _ = vP b2 3 from congrArg (vP b2) (by rfl))) rfl ?_)
 replace rb2 := rb2.mono (hh1.trans hh2)
 refine yP (F := fun v_ => (rpQ k).Is h2 v_ a.y) rfl (zE xZ (Pc.ty (Pc.here _)) rfl rfl rb2 rfl) (yF (.tail _ (.tail _ (.tail _ (.head _))))) rfl ?_
 intro v13u14 r13u14
 refine w_q rfl (fun h' L' hh hR => zF rfl) rfl (w_q rfl (fun h' L' hh hR => (zH (sz := 3) 1 underlying32 sizeOf30 rfl rfl rfl (by decide)).cv (show _ = vP b3 3 from congrArg (vP b3) (by rfl))) rfl ?_)
 replace rb3 := rb3.mono (hh1.trans hh2)
 refine yP (F := fun v_ => (rpQ l).Is h2 v_ b.y) rfl (zE xZ (Pc.ty (Pc.here _)) rfl rfl rb3 rfl) (yF (.tail _ (.tail _ (.head _)))) rfl ?_
 intro v16u14 r16u14
 refine w_c rfl ?_
 refine zY (vs := [_, _]) call103 e2z (fun w hs => tH hs r13u14 r16u14 (by omega)) rfl ?_
 intro v17u14 h3 hh3 r17u14
 change (rpQ (k + l)).Is h3 v17u14 (a.y * b.y) at r17u14
 refine w_c rfl ?_
 replace r10u14 := r10u14.mono hh3
 refine zY (vs := [_, _]) call71 e2z (fun w hs => sL hs r10u14 r17u14 (by omega)) rfl ?_
 intro v18u14 h4 hh4 r18u14
 change (rpQ ((k + l + 2) + (k + l) + 1)).Is h4 v18u14 (((0 : Rat) + (a.x * b.x)) + (a.y * b.y)) at r18u14
 replace r18u14 := Rp.Is.le r18u14 (Le.q (l := 2 * k + 2 * l + 3) (by omega))
 replace rb_45 := rb_45.mono (hh3.trans hh4)
 have rw_46 := (Le.q (l := 2 * k + 2 * l + 3) (by omega)).R rb_45
 refine xY (A := []) (F := fun c_ => (rpQ (2 * k + 2 * l + 3)).R h4 c_ (((0 : Rat) + (a.x * b.x)) + (a.y * b.y))) rfl (yG sizeOf30 (Pc.here _) rfl rfl rfl rw_46 r18u14 rfl) ?_
 intro cs_47 rb_48
 refine xA (xB (zJ (e' := [(2, _), (3, _), (4, _), (5, _), (7, _)]) e5 (zB (zA (gv ((zR (q := 1) rfl rfl (by omega) (by omega)).cv (show _ = vI (2) from rfl)) rfl (mv rfl rfl (zD (xT (zC (zA (gv (OpV.tr (by decide) (zW (q := 3) rfl rfl)) rfl (zD (zB ?_)))))))))))))
 refine zC (xQ rfl (zL (zB (zC (zS (zC (zA (mv rfl rfl (asg rfl rfl (zD (zB ?_)))))))))))
 refine yI 9 _ [] [(0, .q), (1, .q), (2, .q), (3, .q), (4, .q), (5, .q), (6, .q), (7, .c), (8, .c), (9, .t)] xI nX (by kernel_rfl) nX (fun r hr => hr) (yP (F := fun v_ => (rpQ (2 * k + 2 * l + 3)).Is h4 v_ (((0 : Rat) + (a.x * b.x)) + (a.y * b.y))) rfl (zE xZ (Pc.here _) rfl rfl rb_48 rfl) (yF (.head _)) rfl ?_)
 intro v10u15 r10u15
 refine w_q rfl (fun h' L' hh hR => zF rfl) rfl (w_q rfl (fun h' L' hh hR => (zH (sz := 3) 2 underlying32 sizeOf30 rfl rfl rfl (by decide)).cv (show _ = vP b2 6 from congrArg (vP b2) (by rfl))) rfl ?_)
 replace rb2 := rb2.mono (hh3.trans hh4)
 refine yP (F := fun v_ => (rpQ k).Is h4 v_ a.z) rfl (zE xZ (Pc.tz (Pc.here _)) rfl rfl rb2 rfl) (yF (.tail _ (.tail _ (.tail _ (.head _))))) rfl ?_
 intro v13u15 r13u15
 refine w_q rfl (fun h' L' hh hR => zF rfl) rfl (w_q rfl (fun h' L' hh hR => (zH (sz := 3) 2 underlying32 sizeOf30 rfl rfl rfl (by decide)).cv (show _ = vP b3 6 from congrArg (vP b3) (by rfl))) rfl ?_)
 replace rb3 := rb3.mono (hh3.trans hh4)
 refine yP (F := fun v_ => (rpQ l).Is h4 v_ b.z) rfl (zE xZ (Pc.tz (Pc.here _)) rfl rfl rb3 rfl) (yF (.tail _ (.tail _ (.head _)))) rfl ?_
 intro v16u15 r16u15
 refine w_c rfl ?_
 refine zY (vs := [_, _]) call103 e2z (fun w hs => tH hs r13u15 r16u15 (by omega)) rfl ?_
 intro v17u15 h5 hh5 r17u15
 change (rpQ (k + l)).Is h5 v17u15 (a.z * b.z) at r17u15
 refine w_c rfl ?_
 replace r10u15 := r10u15.mono hh5
 refine zY (vs := [_, _]) call71 e2z (fun w hs => sL hs r10u15 r17u15 (by omega)) rfl ?_
 intro v18u15 h6 hh6 r18u15
 change (rpQ ((2 * k + 2 * l + 3) + (k + l) + 1)).Is h6 v18u15 ((((0 : Rat) + (a.x * b.x)) + (a.y * b.y)) + (a.z * b.z)) at r18u15
 replace r18u15 := Rp.Is.le r18u15 (Le.q (l := 3 * k + 3 * l + 4) (by omega))
 replace rb_48 := rb_48.mono (hh5.trans hh6)
 have rw_49 := (Le.q (l := 3 * k + 3 * l + 4) (by omega)).R rb_48
 refine xY (A := []) (F := fun c_ => (rpQ (3 * k + 3 * l + 4)).R h6 c_ ((((0 : Rat) + (a.x * b.x)) + (a.y * b.y)) + (a.z * b.z))) rfl (yG sizeOf30 (Pc.here _) rfl rfl rfl rw_49 r18u15 rfl) ?_
 intro cs_50 rb_51
 refine xA (xB (zJ (e' := [(2, _), (3, _), (4, _), (5, _), (7, _)]) e5 (zB (zA (gv ((zR (q := 1) rfl rfl (by omega) (by omega)).cv (show _ = vI (3) from rfl)) rfl (mv rfl rfl (zD (xT (zC (zA (gv (OpV.fa (by decide) (zW (q := 3) rfl rfl)) rfl (zD (zB ?_)))))))))))))
 refine zC (vZ rfl (xM (yE (yE (xL (zB (zC (zA (wF (F := fun v_ => (rpQ (3 * k + 3 * l + 4)).Is h6 v_ ((((0 : Rat) + (a.x * b.x)) + (a.y * b.y)) + (a.z * b.z))) (zE xZ (Pc.here _) rfl rfl rb_51 rfl) (yF (.head _)) rfl ?_)))))))))
 intro v20u16 r20u16
 replace rb4 := rb4.mono (((((hh1.trans hh2).trans hh3).trans hh4).trans hh5).trans hh6)
 refine wB (A := [_]) (F := fun c_ => (rpQ (3 * k + 3 * l + 9)).R h6 c_ ((((0 : Rat) + (a.x * b.x)) + (a.y * b.y)) + (a.z * b.z))) (yG sizeOf30 (Pc.here _) rfl rfl rfl rb4 (r20u16.le (Le.q (l := 3 * k + 3 * l + 9) (by omega))) rfl) ?_
 intro cs_52 rb_53
 refine zD (zB (zQ (uG (gJ (t := 4) xZ (.tail _ (.head _)) rfl rb_53) ?_)))
 intro w_54 hvw_54 rr_55
 refine xW (fun E S => yQ rfl hvw_54 E S) ?_
 exact (Rp.Is.cast rr_55 (by unfold uT; grind))
theorem o_v_same {w0 : World} {h0 : Mem}  (hs : MLe h0 (mem w0)) {k l : Nat} {va : Value} {a : (T3 Rat)} (ra : (rpT (rpQ k)).Is h0 va a) {vb : Value} {b : (T3 Rat)} (rb : (rpT (rpQ l)).Is h0 vb b) (hcd0 : k + l ≤ 10000000000)  :
    Calls Tryz.prog 97 #[va, vb] w0 (Ret w0 h0 (fun _ r => r = vB (a = b))) := by
 refine zP (n := 18) (e := [(0, va), (1, vb)]) (vs := [va, vb]) func97 rfl rfl (bL rfl) hs e2z (zC (zA (zK (yW (ρ := (rpT (rpQ k))) rfl ra) rfl rfl rfl ?_)))
 intro v2 q2 hq2
 obtain ⟨b2, cs2, rfl, rfl, rb2⟩ := hq2
 refine zK (yW (ρ := (rpT (rpQ l))) rfl rb) rfl rfl rfl ?_
 intro v3 q3 hq3
 obtain ⟨b3, cs3, rfl, rfl, rb3⟩ := hq3
 refine asg rfl rfl (zD (zB (zC (zC (zA (mv (v := vI (0)) rfl rfl (zD (zB (zS (jW (zC (zA (gv (OpV.tr (by decide) (zW (q := 3) rfl rfl)) rfl ?_)))))))))))))
 refine zD (zB (zC (xQ rfl (zL (zB (zC (zS (zC (zA (mv rfl rfl (asg rfl rfl (zD (zB ?_)))))))))))))
 refine zC ?_
 refine yI 8 _ [] [(0, .q), (1, .q), (2, .q), (3, .q), (4, .q), (5, .q), (6, .c), (7, .q)] xI nX (by kernel_rfl) nX (fun r hr => hr) (w_q rfl (fun h' L' hh hR => zF rfl) rfl (w_q rfl (fun h' L' hh hR => (zH (sz := 3) 0 underlying32 sizeOf30 rfl rfl rfl (by decide)).cv (show _ = vP b2 0 from congrArg (vP b2) (by rfl))) rfl (yP (F := fun v_ => (rpQ k).Is h0 v_ a.x) rfl (zE xZ (Pc.tx (Pc.here _)) rfl rfl rb2 rfl) (yF (.tail _ (.head _))) rfl ?_)))
 intro v11u21 r11u21
 refine w_q rfl (fun h' L' hh hR => zF rfl) rfl (w_q rfl (fun h' L' hh hR => (zH (sz := 3) 0 underlying32 sizeOf30 rfl rfl rfl (by decide)).cv (show _ = vP b3 0 from congrArg (vP b3) (by rfl))) rfl (yP (F := fun v_ => (rpQ l).Is h0 v_ b.x) rfl (zE xZ (Pc.tx (Pc.here _)) rfl rfl rb3 rfl) (yF (.head _)) rfl ?_))
 intro v14u21 r14u21
 refine w_c rfl ?_
 refine zY (vs := [_, _]) call122 e2z (fun w hs => aQ hs r11u21 r14u21 (by omega)) rfl ?_
 intro v15u21 h1 hh1 r15u21
 obtain rfl : v15u21 = vB (a.x = b.x) := r15u21
 refine w_q rfl (fun h' L' hh hR => kZ rfl) rfl (xA (zJ (e' := [(2, _), (3, _), (6, _), (16, _)]) e4z (zB ?_)))
 refine zO rfl (fun hc16 => ?_) (fun hc16 => ?_)
 ·
  refine zC (zA (asg rfl rfl (zD (zB (zQ (wY (zX (zX (wY (zX (yH rfl rfl ?_)))))))))))
  first | exact (xJ (by rw [cL]; grind)).symm | exact (yS (by rw [cL]; grind)).symm
 refine zL (xB (zB (zA (gv ((zR (q := 1) rfl rfl (by omega) (by omega)).cv (show _ = vI (1) from rfl)) rfl (mv rfl rfl (zD (xT (zC (zA (gv (OpV.tr (by decide) (zW (q := 3) rfl rfl)) rfl (zD (zB (zC ?_)))))))))))))
 refine xQ rfl (zL (zB (zC (zS (zC (zA (mv rfl rfl (asg rfl rfl (zD (zB (zC ?_)))))))))))
 refine yI 8 _ [] [(0, .q), (1, .q), (2, .q), (3, .q), (4, .q), (5, .q), (6, .c), (7, .q)] xI nX (by kernel_rfl) nX (fun r hr => hr) (w_q rfl (fun h' L' hh hR => zF rfl) rfl (w_q rfl (fun h' L' hh hR => (zH (sz := 3) 1 underlying32 sizeOf30 rfl rfl rfl (by decide)).cv (show _ = vP b2 3 from congrArg (vP b2) (by rfl))) rfl ?_))
 replace rb2 := rb2.mono hh1
 refine yP (F := fun v_ => (rpQ k).Is h1 v_ a.y) rfl (zE xZ (Pc.ty (Pc.here _)) rfl rfl rb2 rfl) (yF (.tail _ (.head _))) rfl ?_
 intro v11u22 r11u22
 refine w_q rfl (fun h' L' hh hR => zF rfl) rfl (w_q rfl (fun h' L' hh hR => (zH (sz := 3) 1 underlying32 sizeOf30 rfl rfl rfl (by decide)).cv (show _ = vP b3 3 from congrArg (vP b3) (by rfl))) rfl ?_)
 replace rb3 := rb3.mono hh1
 refine yP (F := fun v_ => (rpQ l).Is h1 v_ b.y) rfl (zE xZ (Pc.ty (Pc.here _)) rfl rfl rb3 rfl) (yF (.head _)) rfl ?_
 intro v14u22 r14u22
 refine w_c rfl ?_
 refine zY (vs := [_, _]) call122 e2z (fun w hs => aQ hs r11u22 r14u22 (by omega)) rfl ?_
 intro v15u22 h2 hh2 r15u22
 obtain rfl : v15u22 = vB (a.y = b.y) := r15u22
 refine w_q rfl (fun h' L' hh hR => kZ rfl) rfl (xA (zJ (e' := [(2, _), (3, _), (6, _), (16, _)]) e4z (zB ?_)))
 refine zO rfl (fun hc16 => ?_) (fun hc16 => ?_)
 ·
  refine zC (zA (asg rfl rfl (zD (zB (zQ (wY (zX (zX (wY (zX (yH rfl rfl ?_)))))))))))
  first | exact (xJ (by rw [cL]; grind)).symm | exact (yS (by rw [cL]; grind)).symm
 refine zL (xB (zB (zA (gv ((zR (q := 1) rfl rfl (by omega) (by omega)).cv (show _ = vI (2) from rfl)) rfl (mv rfl rfl (zD (xT (zC (zA (gv (OpV.tr (by decide) (zW (q := 3) rfl rfl)) rfl (zD (zB (zC ?_)))))))))))))
 refine xQ rfl (zL (zB (zC (zS (zC (zA (mv rfl rfl (asg rfl rfl (zD (zB (zC ?_)))))))))))
 refine yI 8 _ [] [(0, .q), (1, .q), (2, .q), (3, .q), (4, .q), (5, .q), (6, .c), (7, .q)] xI nX (by kernel_rfl) nX (fun r hr => hr) (w_q rfl (fun h' L' hh hR => zF rfl) rfl (w_q rfl (fun h' L' hh hR => (zH (sz := 3) 2 underlying32 sizeOf30 rfl rfl rfl (by decide)).cv (show _ = vP b2 6 from congrArg (vP b2) (by rfl))) rfl ?_))
 replace rb2 := rb2.mono hh2
 refine yP (F := fun v_ => (rpQ k).Is h2 v_ a.z) rfl (zE xZ (Pc.tz (Pc.here _)) rfl rfl rb2 rfl) (yF (.tail _ (.head _))) rfl ?_
 intro v11u23 r11u23
 refine w_q rfl (fun h' L' hh hR => zF rfl) rfl (w_q rfl (fun h' L' hh hR => (zH (sz := 3) 2 underlying32 sizeOf30 rfl rfl rfl (by decide)).cv (show _ = vP b3 6 from congrArg (vP b3) (by rfl))) rfl ?_)
 replace rb3 := rb3.mono hh2
 refine yP (F := fun v_ => (rpQ l).Is h2 v_ b.z) rfl (zE xZ (Pc.tz (Pc.here _)) rfl rfl rb3 rfl) (yF (.head _)) rfl ?_
 intro v14u23 r14u23
 refine w_c rfl ?_
 refine zY (vs := [_, _]) call122 e2z (fun w hs => aQ hs r11u23 r14u23 (by omega)) rfl ?_
 intro v15u23 h3 hh3 r15u23
 obtain rfl : v15u23 = vB (a.z = b.z) := r15u23
 refine w_q rfl (fun h' L' hh hR => kZ rfl) rfl (xA (zJ (e' := [(2, _), (3, _), (6, _), (16, _)]) e4z (zB ?_)))
 refine zO rfl (fun hc16 => ?_) (fun hc16 => ?_)
 ·
  refine zC (zA (asg rfl rfl (zD (zB (zQ (wY (zX (zX (wY (zX (yH rfl rfl ?_)))))))))))
  first | exact (xJ (by rw [cL]; grind)).symm | exact (yS (by rw [cL]; grind)).symm
 refine zL (xB (zB (zA (gv ((zR (q := 1) rfl rfl (by omega) (by omega)).cv (show _ = vI (3) from rfl)) rfl (mv rfl rfl (zD (xT (zC (zA (gv (OpV.fa (by decide) (zW (q := 3) rfl rfl)) rfl (zD (zB (zC ?_)))))))))))))
 refine vZ rfl (xM (yE (yE (xL (zB (zC (zA (asg rfl rfl (zD (zB (zQ (yH rfl rfl ?_))))))))))))
 first | exact (xJ (by rw [cL]; grind)).symm | exact (yS (by rw [cL]; grind)).symm
theorem o_v_zero {w0 : World} {h0 : Mem}  (hs : MLe h0 (mem w0)) {k : Nat} {va : Value} {a : (T3 Rat)} (ra : (rpT (rpQ k)).Is h0 va a) (hcd0 : k ≤ 1000000000)  :
    Calls Tryz.prog 63 #[va] w0 (Ret w0 h0 (fun _ r => r = vB (a = (T3.mk (0 : Rat) 0 0)))) := by
 refine zP (n := 6) (e := [(0, va)]) (vs := [va]) func63 rfl rfl (bL rfl) hs ⟨rfl, trivial⟩ (zC (zA (zK (yW (ρ := (rpT (rpQ k))) rfl ra) rfl rfl rfl ?_)))
 intro v1 q1 hq1
 obtain ⟨b1, cs1, rfl, rfl, rb1⟩ := hq1
 refine asg rfl rfl (zD (zB (zC (zA (wF (F := fun v_ => (rpT (rpQ k)).Is h0 v_ a) (zE yZ (Pc.here _) rfl rfl rb1 rfl) (yF (.head _)) rfl ?_)))))
 intro v3 r3
 refine wF (F := fun v_ => (rpT (rpQ 1)).Is h0 v_ (T3.mk (0 : Rat) 0 0)) (wW (ps' := []) underlying32 yD rfl rfl sizeOf30 trivial rfl (wH (wA (by decide))) wD) vW rfl ?_
 intro v4 r4
 refine zM (vs := [_, _]) rfl rfl rfl rfl call97 e2z (fun w hs => o_v_same hs r3 r4 (by omega)) ?_
 intro v5 h1 hh1 r5
 obtain rfl : v5 = vB (a = (T3.mk (0 : Rat) 0 0)) := r5
 refine asg rfl rfl (zD (zB (zQ (yH rfl rfl ?_))))
 rfl
theorem lW {w0 : World} {h0 : Mem}  (hs : MLe h0 (mem w0)) {m l k : Nat} {vs : Value} {s : ((T3 Rat) × Rat)} (rs : (rpP (rpT (rpQ m)) (rpQ l)).Is h0 vs s) {vp : Value} {p : (T3 Rat)} (rp : (rpT (rpQ k)).Is h0 vp p) (hcd0 : k ≤ 100000000) (hcd1 : l ≤ 100000000) (hcd2 : m ≤ 100000000)  :
    Calls Tryz.prog 99 #[vs, vp] w0 (Ret w0 h0 (fun _ r => r = vI (sdZ s p))) := by
 refine zP (n := 12) (e := [(0, vs), (1, vp)]) (vs := [vs, vp]) func99 rfl rfl (bL rfl) hs e2z (zC (zA (zK (yW (ρ := (rpP (rpT (rpQ m)) (rpQ l))) rfl rs) rfl rfl rfl ?_)))
 intro v2 q2 hq2
 obtain ⟨b2, cs2, rfl, rfl, rb2⟩ := hq2
 refine zK (yW (ρ := (rpT (rpQ k))) rfl rp) rfl rfl rfl ?_
 intro v3 q3 hq3
 obtain ⟨b3, cs3, rfl, rfl, rb3⟩ := hq3
 refine asg (v := vI (0)) rfl rfl (zD (zB (zC ?_)))
 refine yI 8 _ [] [(0, .q), (1, .q), (2, .q), (4, .q), (5, .q), (3, .c), (6, .c), (7, .q)] xI nX (by kernel_rfl) nX (fun r hr => hr) (w_q rfl (fun h' L' hh hR => (zI underlying34 rfl sizeOf32 rfl).cv (show _ = vP b2 0 from congrArg (vP b2) (by rfl))) rfl (yP (F := fun v_ => (rpT (rpQ m)).Is h0 v_ s.1) rfl (zE yZ (Pc.fst (Pc.here _)) rfl rfl rb2 rfl) (yF (.tail _ (.head _))) rfl ?_))
 intro v6 r6
 refine yP (F := fun v_ => (rpT (rpQ k)).Is h0 v_ p) rfl (zE yZ (Pc.here _) rfl rfl rb3 rfl) (yF (.head _)) rfl ?_
 intro v7 r7
 refine w_q rfl (fun h' L' hh hR => (zI underlying34 rfl sizeOf30 rfl).cv (show _ = vP b2 9 from congrArg (vP b2) (by rfl))) rfl (yP (F := fun v_ => (rpQ l).Is h0 v_ s.2) rfl (zE xZ (Pc.snd (Pc.here _)) rfl rfl rb2 rfl) (yF (.tail _ (.head _))) rfl ?_)
 intro v10 r10
 refine w_c rfl ?_
 refine zY (vs := [_, _]) call79 e2z (fun w hs => o_v_dot hs r6 r7 (by omega)) rfl ?_
 intro v8 h1 hh1 r8
 change (rpQ (3 * m + 3 * k + 9)).Is h1 v8 (uT s.1 p) at r8
 replace r8 := Rp.Is.le r8 (Le.q (l := 3 * k + 3 * m + 9) (by omega))
 refine w_c rfl ?_
 replace r10 := r10.mono hh1
 refine zY (vs := [_, _]) call104 e2z (fun w hs => dP hs r8 r10 (by omega)) rfl ?_
 intro v11 h2 hh2 r11
 obtain rfl : v11 = vI (kK (uT s.1 p) s.2) := r11
 have hcr11 := tR (uT s.1 p) s.2
 refine w_q rfl (fun h' L' hh hR => zZ rfl) rfl (xA (zJ (e' := [(4, _)]) ⟨rfl, trivial⟩ (zB (zQ (yH rfl rfl ?_)))))
 exact congrArg vI (side_cmp s p)
theorem rU {w0 : World} {h0 : Mem}  (hs : MLe h0 (mem w0)) {m l k : Nat} {vs : Value} {s : ((T3 Rat) × Rat)} (rs : (rpP (rpT (rpQ m)) (rpQ l)).Is h0 vs s) {vp : Value} {p : (T3 Rat)} (rp : (rpT (rpQ k)).Is h0 vp p) (hcd0 : k ≤ 100000000) (hcd1 : l ≤ 100000000) (hcd2 : m ≤ 100000000)  :
    Calls Tryz.prog 25 #[vs, vp] w0 (Ret w0 h0 (fun _ r => r = vI (sdZ s p))) := by
 refine zP (n := 13) (e := [(0, vs), (1, vp)]) (vs := [vs, vp]) func25 rfl rfl (bL rfl) hs e2z (zC (zA (zK (yW (ρ := (rpP (rpT (rpQ m)) (rpQ l))) rfl rs) rfl rfl rfl ?_)))
 intro v2 q2 hq2
 obtain ⟨b2, cs2, rfl, rfl, rb2⟩ := hq2
 refine zK (yW (ρ := (rpT (rpQ k))) rfl rp) rfl rfl rfl ?_
 intro v3 q3 hq3
 obtain ⟨b3, cs3, rfl, rfl, rb3⟩ := hq3
 refine asg (v := vI (0)) rfl rfl (zD (zB (zC ?_)))
 refine yI 9 _ [] [(0, .q), (1, .q), (2, .q), (4, .q), (5, .q), (3, .c), (6, .c), (7, .c), (8, .q)] xI nX (by kernel_rfl) nX (fun r hr => hr) (w_q rfl (fun h' L' hh hR => (zI underlying34 rfl sizeOf32 rfl).cv (show _ = vP b2 0 from congrArg (vP b2) (by rfl))) rfl (yP (F := fun v_ => (rpT (rpQ m)).Is h0 v_ s.1) rfl (zE yZ (Pc.fst (Pc.here _)) rfl rfl rb2 rfl) (yF (.tail _ (.head _))) rfl ?_))
 intro v6 r6
 refine yP (F := fun v_ => (rpT (rpQ k)).Is h0 v_ p) rfl (zE yZ (Pc.here _) rfl rfl rb3 rfl) (yF (.head _)) rfl ?_
 intro v7 r7
 refine w_q rfl (fun h' L' hh hR => (zI underlying34 rfl sizeOf30 rfl).cv (show _ = vP b2 9 from congrArg (vP b2) (by rfl))) rfl (yP (F := fun v_ => (rpQ l).Is h0 v_ s.2) rfl (zE xZ (Pc.snd (Pc.here _)) rfl rfl rb2 rfl) (yF (.tail _ (.head _))) rfl ?_)
 intro v10 r10
 refine w_c rfl ?_
 refine zY (vs := [_, _]) call57 e2z (fun w hs => cZ hs r6 r7 (by omega)) rfl ?_
 intro v8 h1 hh1 r8
 change (rpQ (3 * m + 3 * k + 9)).Is h1 v8 (uT s.1 p) at r8
 replace r8 := Rp.Is.le r8 (Le.q (l := 3 * k + 3 * m + 9) (by omega))
 refine w_c rfl ?_
 replace r10 := r10.mono hh1
 refine zY (vs := [_, _]) call56 e2z (fun w hs => jE hs r8 r10 (by omega)) rfl ?_
 intro v11 h2 hh2 r11
 change (rpQ ((3 * k + 3 * m + 9) + l + 1)).Is h2 v11 ((uT s.1 p) - s.2) at r11
 replace r11 := Rp.Is.le r11 (Le.q (l := 3 * k + l + 3 * m + 10) (by omega))
 refine w_c rfl ?_
 refine zY (vs := [_]) call50 ⟨rfl, trivial⟩ (fun w hs => gQ hs r11 (by omega)) rfl ?_
 intro v12 h3 hh3 r12
 obtain rfl : v12 = vI (uY ((uT s.1 p) - s.2)) := r12
 have hsr12 := uC ((uT s.1 p) - s.2)
 refine w_q rfl (fun h' L' hh hR => zZ rfl) rfl (xA (zJ (e' := [(4, _)]) ⟨rfl, trivial⟩ (zB (zQ (yH rfl rfl ?_)))))
 rfl
theorem dS {w0 : World} {h0 : Mem}  (hs : MLe h0 (mem w0)) {m l k : Nat} {vs : Value} {s : ((T3 Rat) × Rat)} (rs : (rpP (rpT (rpQ m)) (rpQ l)).Is h0 vs s) {vp : Value} {p : (T3 Rat)} (rp : (rpT (rpQ k)).Is h0 vp p) (hcd0 : k ≤ 100000000) (hcd1 : l ≤ 100000000) (hcd2 : m ≤ 100000000)  :
    Calls Tryz.prog 64 #[vs, vp] w0 (Ret w0 h0 (fun _ r => r = vI (sdZ s p))) := by
 refine zP (n := 61) (e := [(0, vs), (1, vp)]) (vs := [vs, vp]) func64 rfl rfl (bL rfl) hs e2z (zC (zA (zK (yW (ρ := (rpP (rpT (rpQ m)) (rpQ l))) rfl rs) rfl rfl rfl ?_)))
 intro v2 q2 hq2
 obtain ⟨b2, cs2, rfl, rfl, rb2⟩ := hq2
 refine zK (yW (ρ := (rpT (rpQ k))) rfl rp) rfl rfl rfl ?_
 intro v3 q3 hq3
 obtain ⟨b3, cs3, rfl, rfl, rb3⟩ := hq3
 refine asg (v := vI (0)) rfl rfl (zD (zB (zC (zA (asg (v := vI (0)) rfl rfl (zD (zB (zC (zC (zA (mv (v := vI (0)) rfl rfl (zD (zB ?_)))))))))))))
 refine zS (jW (zC (zA (gv (OpV.tr (by decide) (zW (q := 3) rfl rfl)) rfl (zD (zB (zC (xQ rfl (zL (zB (zC (zS (zC ?_)))))))))))))
 refine zA (mv rfl rfl (asg rfl rfl (zD (zB (zC (zA (mv rfl rfl (gv ((zI underlying34 rfl sizeOf32 rfl).cv (show _ = vP b2 0 from congrArg (vP b2) (by rfl))) rfl (gv ((zH (sz := 3) 0 underlying32 sizeOf30 rfl rfl rfl (by decide)).cv (show _ = vP b2 0 from congrArg (vP b2) (by rfl))) rfl (wF (F := fun v_ => (rpQ m).Is h0 v_ s.1.x) (zE xZ (Pc.fst (Pc.tx (Pc.here _))) rfl rfl rb2 rfl) (yF (.tail _ (.head _))) rfl ?_))))))))))
 intro v20u25 r20u25
 refine zM (vs := [_]) rfl rfl rfl rfl call98 ⟨rfl, trivial⟩ (fun w hs => gA hs r20u25) ?_
 intro v21u25 h1 hh1 r21u25
 obtain rfl := r21u25
 refine mv rfl rfl (gv (zN (vs := [_, _]) rfl rfl) rfl (gv (zN (vs := [_, _]) rfl rfl) rfl (asg rfl rfl (asg rfl rfl (zD (zJ (e' := [(2, _), (3, _), (5, _), (13, _), (6, _), (7, _), (8, _)]) e7 (zB (zC (zA (mv rfl rfl (gv ((zH (sz := 3) 0 underlying32 sizeOf30 rfl rfl rfl (by decide)).cv (show _ = vP b3 0 from congrArg (vP b3) (by rfl))) rfl ?_)))))))))))
 replace rb3 := rb3.mono hh1
 refine wF (F := fun v_ => (rpQ k).Is h1 v_ p.x) (zE xZ (Pc.tx (Pc.here _)) rfl rfl rb3 rfl) (yF (.head _)) rfl ?_
 intro v27u25 r27u25
 refine zM (vs := [_]) rfl rfl rfl rfl call98 ⟨rfl, trivial⟩ (fun w hs => gA hs r27u25) ?_
 intro v28u25 h2 hh2 r28u25
 obtain rfl := r28u25
 refine mv rfl rfl (gv (zN (vs := [_, _]) rfl rfl) rfl (gv (zN (vs := [_, _]) rfl rfl) rfl (asg rfl rfl (asg rfl rfl (zD (zB (zC (zC (zA (mv rfl rfl (gv (kZ rfl) rfl ?_)))))))))))
 refine vS (ι := Unit) 4 (fun _ => True) (fun _ => [(36, vB ((¬ (smB s.1.x)) ∨ (¬ (smB p.x)))), (2, vP b2 0), (3, vP b3 0), (5, vI (0)), (13, vI (0)), (7, vI (smZ s.1.x)), (9, vI (smZ p.x))]) (fun _ => [.var b3 32 cs3, .var b2 34 cs2]) (fun _ => h2) ?_ ?_
 ·
  refine wI (¬ (smB s.1.x)) (fun hg => ?_) (fun hg => ?_)
  ·
   refine xH (zF (v := .bool true) (congrArg some (xJ hg))) rfl rfl rfl (yK rfl rfl rfl rfl rfl rfl (yK rfl rfl rfl rfl rfl rfl (gv (xC rfl rfl) rfl (zD ?_))))
   refine yM () trivial ⟨?_, rfl, rfl, rfl, rfl, rfl, rfl, trivial⟩ rfl rfl
   exact congrArg some (qU hg)
  refine xH (zF (v := .bool false) (congrArg some (yS hg))) rfl rfl rfl (yU rfl rfl rfl (mv rfl rfl (yU rfl rfl rfl (gv (kZ rfl) rfl (gv (xN rfl rfl) rfl (zD ?_))))))
  refine yM () trivial ⟨?_, rfl, rfl, rfl, rfl, rfl, rfl, trivial⟩ rfl rfl
  exact congrArg some (qV hg)
 intro _ _
 show GL _ _ _ _ _ _ _ [(36, vB ((¬ (smB s.1.x)) ∨ (¬ (smB p.x)))), (2, vP b2 0), (3, vP b3 0), (5, vI (0)), (13, vI (0)), (7, vI (smZ s.1.x)), (9, vI (smZ p.x))] [.var b3 32 cs3, .var b2 34 cs2] h2
 refine zD (zB ?_)
 refine zO rfl (fun hc36 => ?_) (fun hc36 => ?_)
 ·
  refine zC (zA ?_)
  replace rb2 := rb2.mono (hh1.trans hh2)
  refine wF (F := fun v_ => (rpP (rpT (rpQ m)) (rpQ l)).Is h2 v_ s) (zE jM (Pc.here _) rfl rfl rb2 rfl) (yF (.tail _ (.head _))) rfl ?_
  intro v37u25 r37u25
  replace rb3 := rb3.mono hh2
  refine wF (F := fun v_ => (rpT (rpQ k)).Is h2 v_ p) (zE yZ (Pc.here _) rfl rfl rb3 rfl) (yF (.head _)) rfl ?_
  intro v38u25 r38u25
  refine zM (vs := [_, _]) rfl rfl rfl rfl call99 e2z (fun w hs => lW hs r37u25 r38u25 (by omega) (by omega) (by omega)) ?_
  intro v39u25 h3 hh3 r39u25
  obtain rfl : v39u25 = vI (sdZ s p) := r39u25
  have hsd39u25 := kD s p
  refine asg rfl rfl (zD (zJ (e' := [(4, _)]) ⟨rfl, trivial⟩ (zB (zQ (zX (wY (zX (zX (wY (zX (yH rfl rfl ?_)))))))))))
  rfl
 obtain ⟨hsm, hpr⟩ := y7 hc36
 refine zL (zB (zA (mv rfl rfl (mv rfl rfl (mv rfl rfl (gv (jU rfl rfl (by omega) (by omega)) rfl (gv (zR rfl rfl (by omega) (by omega)) rfl (asg rfl rfl (zD (xB (zB (zA (gv ((zR (q := 1) rfl rfl (by omega) (by omega)).cv (show _ = vI (1) from rfl)) rfl ?_)))))))))))))
 refine mv rfl rfl (zD (xT (zC (zA (gv (OpV.tr (by decide) (zW (q := 3) rfl rfl)) rfl (zD (zB (zC (xQ rfl (zL (zJ (e' := [(2, _), (3, _), (5, _), (13, _)]) e4z (zB (zC ?_)))))))))))))
 refine zS (zC (zA (mv rfl rfl (asg rfl rfl (zD (zB (zC (zA (mv rfl rfl (gv ((zI underlying34 rfl sizeOf32 rfl).cv (show _ = vP b2 0 from congrArg (vP b2) (by rfl))) rfl (gv ((zH (sz := 3) 1 underlying32 sizeOf30 rfl rfl rfl (by decide)).cv (show _ = vP b2 3 from congrArg (vP b2) (by rfl))) rfl ?_)))))))))))
 replace rb2 := rb2.mono (hh1.trans hh2)
 refine wF (F := fun v_ => (rpQ m).Is h2 v_ s.1.y) (zE xZ (Pc.fst (Pc.ty (Pc.here _))) rfl rfl rb2 rfl) (yF (.tail _ (.head _))) rfl ?_
 intro v20u26 r20u26
 refine zM (vs := [_]) rfl rfl rfl rfl call98 ⟨rfl, trivial⟩ (fun w hs => gA hs r20u26) ?_
 intro v21u26 h3 hh3 r21u26
 obtain rfl := r21u26
 refine mv rfl rfl (gv (zN (vs := [_, _]) rfl rfl) rfl (gv (zN (vs := [_, _]) rfl rfl) rfl (asg rfl rfl (asg rfl rfl (zD (zB (zC (zA (mv rfl rfl (gv ((zH (sz := 3) 1 underlying32 sizeOf30 rfl rfl rfl (by decide)).cv (show _ = vP b3 3 from congrArg (vP b3) (by rfl))) rfl ?_))))))))))
 replace rb3 := rb3.mono (hh2.trans hh3)
 refine wF (F := fun v_ => (rpQ k).Is h3 v_ p.y) (zE xZ (Pc.ty (Pc.here _)) rfl rfl rb3 rfl) (yF (.head _)) rfl ?_
 intro v27u26 r27u26
 refine zM (vs := [_]) rfl rfl rfl rfl call98 ⟨rfl, trivial⟩ (fun w hs => gA hs r27u26) ?_
 intro v28u26 h4 hh4 r28u26
 obtain rfl := r28u26
 refine mv rfl rfl (gv (zN (vs := [_, _]) rfl rfl) rfl (gv (zN (vs := [_, _]) rfl rfl) rfl (asg rfl rfl (asg rfl rfl (zD (zJ (e' := [(2, _), (3, _), (5, _), (13, _), (7, _), (8, _), (9, _), (10, _)]) e8 (zB (zC (zC (zA (mv rfl rfl (gv (kZ rfl) rfl ?_))))))))))))
 refine vS (ι := Unit) 4 (fun _ => True) (fun _ => [(36, vB ((¬ (smB s.1.y)) ∨ (¬ (smB p.y)))), (2, vP b2 0), (3, vP b3 0), (5, vI ((0 : Int) + ((smZ s.1.x) * (smZ p.x)))), (13, vI (1)), (7, vI (smZ s.1.y)), (9, vI (smZ p.y))]) (fun _ => [.var b3 32 cs3, .var b2 34 cs2]) (fun _ => h4) ?_ ?_
 ·
  refine wI (¬ (smB s.1.y)) (fun hg => ?_) (fun hg => ?_)
  ·
   refine xH (zF (v := .bool true) (congrArg some (xJ hg))) rfl rfl rfl (yK rfl rfl rfl rfl rfl rfl (yK rfl rfl rfl rfl rfl rfl (gv (xC rfl rfl) rfl (zD ?_))))
   refine yM () trivial ⟨?_, rfl, rfl, rfl, rfl, rfl, rfl, trivial⟩ rfl rfl
   exact congrArg some (qU hg)
  refine xH (zF (v := .bool false) (congrArg some (yS hg))) rfl rfl rfl (yU rfl rfl rfl (mv rfl rfl (yU rfl rfl rfl (gv (kZ rfl) rfl (gv (xN rfl rfl) rfl (zD ?_))))))
  refine yM () trivial ⟨?_, rfl, rfl, rfl, rfl, rfl, rfl, trivial⟩ rfl rfl
  exact congrArg some (qV hg)
 intro _ _
 show GL _ _ _ _ _ _ _ [(36, vB ((¬ (smB s.1.y)) ∨ (¬ (smB p.y)))), (2, vP b2 0), (3, vP b3 0), (5, vI ((0 : Int) + ((smZ s.1.x) * (smZ p.x)))), (13, vI (1)), (7, vI (smZ s.1.y)), (9, vI (smZ p.y))] [.var b3 32 cs3, .var b2 34 cs2] h4
 refine zD (zB ?_)
 refine zO rfl (fun hc36 => ?_) (fun hc36 => ?_)
 ·
  refine zC (zA ?_)
  replace rb2 := rb2.mono (hh3.trans hh4)
  refine wF (F := fun v_ => (rpP (rpT (rpQ m)) (rpQ l)).Is h4 v_ s) (zE jM (Pc.here _) rfl rfl rb2 rfl) (yF (.tail _ (.head _))) rfl ?_
  intro v37u26 r37u26
  replace rb3 := rb3.mono hh4
  refine wF (F := fun v_ => (rpT (rpQ k)).Is h4 v_ p) (zE yZ (Pc.here _) rfl rfl rb3 rfl) (yF (.head _)) rfl ?_
  intro v38u26 r38u26
  refine zM (vs := [_, _]) rfl rfl rfl rfl call99 e2z (fun w hs => lW hs r37u26 r38u26 (by omega) (by omega) (by omega)) ?_
  intro v39u26 h5 hh5 r39u26
  obtain rfl : v39u26 = vI (sdZ s p) := r39u26
  have hsd39u26 := kD s p
  refine asg rfl rfl (zD (zJ (e' := [(4, _)]) ⟨rfl, trivial⟩ (zB (zQ (zX (wY (zX (zX (wY (zX (yH rfl rfl ?_)))))))))))
  rfl
 obtain ⟨hsm, hpr⟩ := y7 hc36
 refine zL (zB (zA (mv rfl rfl (mv rfl rfl (mv rfl rfl (gv (jU rfl rfl (by omega) (by omega)) rfl (gv (zR rfl rfl (by omega) (by omega)) rfl (asg rfl rfl (zD (xB (zB (zA (gv ((zR (q := 1) rfl rfl (by omega) (by omega)).cv (show _ = vI (2) from rfl)) rfl ?_)))))))))))))
 refine mv rfl rfl (zD (xT (zC (zA (gv (OpV.tr (by decide) (zW (q := 3) rfl rfl)) rfl (zD (zB (zC (xQ rfl (zL (zJ (e' := [(2, _), (3, _), (5, _), (13, _)]) e4z (zB (zC ?_)))))))))))))
 refine zS (zC (zA (mv rfl rfl (asg rfl rfl (zD (zB (zC (zA (mv rfl rfl (gv ((zI underlying34 rfl sizeOf32 rfl).cv (show _ = vP b2 0 from congrArg (vP b2) (by rfl))) rfl (gv ((zH (sz := 3) 2 underlying32 sizeOf30 rfl rfl rfl (by decide)).cv (show _ = vP b2 6 from congrArg (vP b2) (by rfl))) rfl ?_)))))))))))
 replace rb2 := rb2.mono (hh3.trans hh4)
 refine wF (F := fun v_ => (rpQ m).Is h4 v_ s.1.z) (zE xZ (Pc.fst (Pc.tz (Pc.here _))) rfl rfl rb2 rfl) (yF (.tail _ (.head _))) rfl ?_
 intro v20u27 r20u27
 refine zM (vs := [_]) rfl rfl rfl rfl call98 ⟨rfl, trivial⟩ (fun w hs => gA hs r20u27) ?_
 intro v21u27 h5 hh5 r21u27
 obtain rfl := r21u27
 refine mv rfl rfl (gv (zN (vs := [_, _]) rfl rfl) rfl (gv (zN (vs := [_, _]) rfl rfl) rfl (asg rfl rfl (asg rfl rfl (zD (zB (zC (zA (mv rfl rfl (gv ((zH (sz := 3) 2 underlying32 sizeOf30 rfl rfl rfl (by decide)).cv (show _ = vP b3 6 from congrArg (vP b3) (by rfl))) rfl ?_))))))))))
 replace rb3 := rb3.mono (hh4.trans hh5)
 refine wF (F := fun v_ => (rpQ k).Is h5 v_ p.z) (zE xZ (Pc.tz (Pc.here _)) rfl rfl rb3 rfl) (yF (.head _)) rfl ?_
 intro v27u27 r27u27
 refine zM (vs := [_]) rfl rfl rfl rfl call98 ⟨rfl, trivial⟩ (fun w hs => gA hs r27u27) ?_
 intro v28u27 h6 hh6 r28u27
 obtain rfl := r28u27
 refine mv rfl rfl (gv (zN (vs := [_, _]) rfl rfl) rfl (gv (zN (vs := [_, _]) rfl rfl) rfl (asg rfl rfl (asg rfl rfl (zD (zJ (e' := [(2, _), (3, _), (5, _), (13, _), (7, _), (8, _), (9, _), (10, _)]) e8 (zB (zC (zC (zA (mv rfl rfl (gv (kZ rfl) rfl ?_))))))))))))
 refine vS (ι := Unit) 4 (fun _ => True) (fun _ => [(36, vB ((¬ (smB s.1.z)) ∨ (¬ (smB p.z)))), (2, vP b2 0), (3, vP b3 0), (5, vI (((0 : Int) + ((smZ s.1.x) * (smZ p.x))) + ((smZ s.1.y) * (smZ p.y)))), (13, vI (2)), (7, vI (smZ s.1.z)), (9, vI (smZ p.z))]) (fun _ => [.var b3 32 cs3, .var b2 34 cs2]) (fun _ => h6) ?_ ?_
 ·
  refine wI (¬ (smB s.1.z)) (fun hg => ?_) (fun hg => ?_)
  ·
   refine xH (zF (v := .bool true) (congrArg some (xJ hg))) rfl rfl rfl (yK rfl rfl rfl rfl rfl rfl (yK rfl rfl rfl rfl rfl rfl (gv (xC rfl rfl) rfl (zD ?_))))
   refine yM () trivial ⟨?_, rfl, rfl, rfl, rfl, rfl, rfl, trivial⟩ rfl rfl
   exact congrArg some (qU hg)
  refine xH (zF (v := .bool false) (congrArg some (yS hg))) rfl rfl rfl (yU rfl rfl rfl (mv rfl rfl (yU rfl rfl rfl (gv (kZ rfl) rfl (gv (xN rfl rfl) rfl (zD ?_))))))
  refine yM () trivial ⟨?_, rfl, rfl, rfl, rfl, rfl, rfl, trivial⟩ rfl rfl
  exact congrArg some (qV hg)
 intro _ _
 show GL _ _ _ _ _ _ _ [(36, vB ((¬ (smB s.1.z)) ∨ (¬ (smB p.z)))), (2, vP b2 0), (3, vP b3 0), (5, vI (((0 : Int) + ((smZ s.1.x) * (smZ p.x))) + ((smZ s.1.y) * (smZ p.y)))), (13, vI (2)), (7, vI (smZ s.1.z)), (9, vI (smZ p.z))] [.var b3 32 cs3, .var b2 34 cs2] h6
 refine zD (zB ?_)
 refine zO rfl (fun hc36 => ?_) (fun hc36 => ?_)
 ·
  refine zC (zA ?_)
  replace rb2 := rb2.mono (hh5.trans hh6)
  refine wF (F := fun v_ => (rpP (rpT (rpQ m)) (rpQ l)).Is h6 v_ s) (zE jM (Pc.here _) rfl rfl rb2 rfl) (yF (.tail _ (.head _))) rfl ?_
  intro v37u27 r37u27
  replace rb3 := rb3.mono hh6
  refine wF (F := fun v_ => (rpT (rpQ k)).Is h6 v_ p) (zE yZ (Pc.here _) rfl rfl rb3 rfl) (yF (.head _)) rfl ?_
  intro v38u27 r38u27
  refine zM (vs := [_, _]) rfl rfl rfl rfl call99 e2z (fun w hs => lW hs r37u27 r38u27 (by omega) (by omega) (by omega)) ?_
  intro v39u27 h7 hh7 r39u27
  obtain rfl : v39u27 = vI (sdZ s p) := r39u27
  have hsd39u27 := kD s p
  refine asg rfl rfl (zD (zJ (e' := [(4, _)]) ⟨rfl, trivial⟩ (zB (zQ (zX (wY (zX (zX (wY (zX (yH rfl rfl ?_)))))))))))
  rfl
 obtain ⟨hsm, hpr⟩ := y7 hc36
 refine zL (zB (zA (mv rfl rfl (mv rfl rfl (mv rfl rfl (gv (jU rfl rfl (by omega) (by omega)) rfl (gv (zR rfl rfl (by omega) (by omega)) rfl (asg rfl rfl (zD (xB (zB (zA (gv ((zR (q := 1) rfl rfl (by omega) (by omega)).cv (show _ = vI (3) from rfl)) rfl ?_)))))))))))))
 refine mv rfl rfl (zD (xT (zC (zA (gv (OpV.fa (by decide) (zW (q := 3) rfl rfl)) rfl (zD (zB (zC (vZ rfl (xM (yE (yE (xL ?_)))))))))))))
 refine zJ (e' := [(2, _), (3, _), (5, _)]) e3z (zB (zC (zA (gv ((zI underlying34 rfl sizeOf30 rfl).cv (show _ = vP b2 9 from congrArg (vP b2) (by rfl))) rfl ?_))))
 replace rb2 := rb2.mono (hh5.trans hh6)
 refine wF (F := fun v_ => (rpQ l).Is h6 v_ s.2) (zE xZ (Pc.snd (Pc.here _)) rfl rfl rb2 rfl) (yF (.tail _ (.head _))) rfl ?_
 intro v48u28 r48u28
 refine zM (vs := [_]) rfl rfl rfl rfl call98 ⟨rfl, trivial⟩ (fun w hs => gA hs r48u28) ?_
 intro v49u28 h7 hh7 r49u28
 obtain rfl := r49u28
 refine mv rfl rfl (gv (zN (vs := [_, _]) rfl rfl) rfl (gv (zN (vs := [_, _]) rfl rfl) rfl (asg rfl rfl (asg rfl rfl (zD (zB (zC (zC (zA (mv rfl rfl (gv (kZ rfl) rfl (zD (zB ?_)))))))))))))
 refine zO rfl (fun hc53 => ?_) (fun hc53 => ?_)
 ·
  refine wM (e' := [(2, _), (3, _)]) e2z (zC (zA ?_))
  replace rb2 := rb2.mono hh7
  refine wF (F := fun v_ => (rpP (rpT (rpQ m)) (rpQ l)).Is h7 v_ s) (zE jM (Pc.here _) rfl rfl rb2 rfl) (yF (.tail _ (.head _))) rfl ?_
  intro v54u28 r54u28
  replace rb3 := rb3.mono (hh6.trans hh7)
  refine wF (F := fun v_ => (rpT (rpQ k)).Is h7 v_ p) (zE yZ (Pc.here _) rfl rfl rb3 rfl) (yF (.head _)) rfl ?_
  intro v55u28 r55u28
  refine zM (vs := [_, _]) rfl rfl rfl rfl call99 e2z (fun w hs => lW hs r54u28 r55u28 (by omega) (by omega) (by omega)) ?_
  intro v56u28 h8 hh8 r56u28
  obtain rfl : v56u28 = vI (sdZ s p) := r56u28
  have hsd56u28 := kD s p
  refine asg rfl rfl (zD (zB (zQ (zX (yH rfl rfl ?_)))))
  rfl
 have hsb := Classical.not_not.1 hc53
 have hsd := fG hsb
 refine wM (e' := [(5, _), (11, _)]) e2z (zL (zB (zC (zA (mv rfl rfl (mv rfl rfl (gv (xU rfl rfl (by omega) (by omega)) rfl ?_)))))))
 refine zM (vs := [_]) rfl rfl rfl rfl call100 ⟨rfl, trivial⟩ (fun w hs => dR hs (by omega) (by omega)) ?_
 intro v60u28 h8 hh8 r60u28
 obtain rfl : v60u28 = vI (iU (((((0 : Int) + ((smZ s.1.x) * (smZ p.x))) + ((smZ s.1.y) * (smZ p.y))) + ((smZ s.1.z) * (smZ p.z))) - (smZ s.2))) := r60u28
 refine asg rfl rfl (zD (zB (zQ (yH rfl rfl ?_))))
 exact congrArg vI (side_sum (by assumption) (by assumption) (by assumption) hsb)
end Go.Proofs.YtghhjjmjpeehdaaGreat
namespace Bk
set_option linter.unusedVariables false
set_option linter.unusedSimpArgs false
open Classical
noncomputable def yLoT (a b : Pt) : Pt := if 0 < kK a.y b.y then b else a
noncomputable def yHiT (a b : Pt) : Pt := if 0 < kK a.y b.y then a else b
noncomputable def whTo (L : List (List Pt)) (p : P2) (i j : Nat) : Nat → Int
  | 0 => -1
  | m + 1 => if insZ (L.getD m []) p i j = 1 then -(whTo L p i j m) else whTo L p i j m
noncomputable def whZ (L : List (List Pt)) (p : P2) (i j : Nat) : Int := if ∃ m, m < L.length ∧ insZ (L.getD m []) p i j = 0 then 0 else whTo L p i j L.length
end Bk
namespace Bk
set_option linter.unusedVariables false
set_option linter.unusedSimpArgs false
open Classical
def cutsP (a b : List Pt) (i j p q : Nat) : Prop := 1 < touch2 (oA a i j p) (mZ a i j p) (oA b i j q) (mZ b i j q)
def crossesP (a b : List Pt) (i j : Nat) : Prop := ∃ p q, p < a.length ∧ q < b.length ∧ cutsP a b i j p q
theorem cX {Q : Nat → Prop} {q : Nat} (h : ∀ v, v < q → Q v) (h1 : Q q) : ∀ v, v < q + 1 → Q v := fun v hv => by
  rcases Nat.lt_succ_iff_lt_or_eq.1 hv with h2 | h2
  · exact h v h2
  · subst h2; exact h1
noncomputable def mid2 (u v : P2) : P2 := (midQ u.1 v.1, midQ u.2 v.2)
noncomputable def withTo (c l : List Pt) (i j : Nat) : Nat → Int
  | 0 => 0
  | m + 1 => if insZ c (mid2 (oA l i j m) (mZ l i j m)) i j = 1 then withTo c l i j m + 1 else withTo c l i j m
def arZ (l : List Pt) (i j : Nat) : Rat := iR l i j l.length
noncomputable def wiZ (c l : List Pt) (i j : Nat) : Int := withTo c l i j l.length
abbrev gl (L : List (List Pt)) (m : Nat) : List Pt := L.getD m []
def betP (L : List (List Pt)) (i j k m : Nat) (best : Int) : Prop :=
  (0 < uY (arZ (gl L m) i j) ∧ wiZ (gl L m) (gl L k) i j = ↑(gl L k).length) ∧ (best < 0 ∨ kK (arZ (gl L m) i j) (arZ (gl L best.toNat) i j) < 0)
noncomputable def parTo (L : List (List Pt)) (i j k : Nat) : Nat → Int
  | 0 => -1
  | m + 1 => if betP L i j k m (parTo L i j k m) then ↑m else parTo L i j k m
noncomputable def pZ (L : List (List Pt)) (i j k : Nat) : Int := if 0 < uY (arZ (gl L k) i j) then -1 else parTo L i j k L.length
def sibP (L : List (List Pt)) (i j a b : Nat) : Prop := ((¬ b = a ∧ 0 ≤ pZ L i j a) ∧ pZ L i j b = pZ L i j a) ∧ 0 < wiZ (gl L b) (gl L a) i j
def lostP (L : List (List Pt)) (i j k : Nat) : Prop := ¬ 0 < uY (arZ (gl L k) i j) ∧ parTo L i j k L.length < 0
noncomputable def nestE (L : List (List Pt)) (i j : Nat) : Int :=
  if 16 < L.length ∨ ∃ m, m < L.length ∧ 64 < (gl L m).length then 2
  else if ∃ m, m < L.length ∧ ¬ simP (gl L m) i j then 8
  else if ∃ a b, a < b ∧ b < L.length ∧ crossesP (gl L a) (gl L b) i j then 32
  else if (∃ k, k < L.length ∧ lostP L i j k) ∨ ∃ a b, a < L.length ∧ b < L.length ∧ sibP L i j a b then 33 else 0
noncomputable def nestL (L : List (List Pt)) (i j : Nat) : List Int := if nestE L i j = 0 then (List.range L.length).map (pZ L i j) else []
theorem getD_set {α : Type} {l : List α} {k q : Nat} {x d : α} (hk : k < l.length) : (l.set k x).getD q d = if q = k then x else l.getD q d := by
  rw [List.getD_eq_getElem?_getD, List.getD_eq_getElem?_getD, List.getElem?_set]
  by_cases h : k = q
  · rw [if_pos h, if_pos hk, if_pos h.symm]; rfl
  · rw [if_neg h, if_neg (fun e => h e.symm)]
theorem g4 {α : Type} {l : List α} {k : Nat} {x d : α} {f : Nat → α} (hk : k < l.length) (h : ∀ q, q < k → l.getD q d = f q) (hx : x = f k) : ∀ q, q < k + 1 → (l.set k x).getD q d = f q := fun q hq => by
  rw [getD_set hk]
  split
  · rename_i e; rw [e, hx]
  · exact h q (by omega)
theorem set_at {α : Type} {l : List α} {k : Nat} {x d : α} (hk : k < l.length) : (l.set k x).getD k d = x := by rw [getD_set hk, if_pos rfl]
end Bk
namespace Go.Proofs.YtghhjjmjpeehdaaGreat
open Bk Go Tryz
set_option linter.unusedVariables false
set_option linter.unusedSimpArgs false
set_option maxRecDepth 10000
theorem s8 {w0 : World} {h0 : Mem}  (hs : MLe h0 (mem w0)) {k : Nat} {vp : Value} {p : (T3 Rat)} (rp : (rpT (rpQ k)).Is h0 vp p) (hcd0 : k ≤ 2000000000)  :
    Calls Tryz.prog 86 #[vp] w0 (Ret w0 h0 (fun h r => (rpT (rpQ (k + 1))).Is h r p)) := by
 refine zP (n := 13) (e := [(0, vp)]) (vs := [vp]) func86 rfl rfl (bL rfl) hs ⟨rfl, trivial⟩ (zC (zA (zK (yW (ρ := (rpT (rpQ k))) rfl rp) rfl rfl rfl ?_)))
 intro v1 q1 hq1
 obtain ⟨b1, cs1, rfl, rfl, rb1⟩ := hq1
 refine zK (yY (ρ := (rpT (rpQ (k + 1)))) (X := (T3.mk (0 : Rat) 0 0)) yD rfl rfl (wH (wA (by omega)))) rfl rfl rfl ?_
 intro v2 q2 hq2
 obtain ⟨b2, cs2, rfl, rfl, rb2⟩ := hq2
 refine zD (zB (zC ?_))
 refine yI 10 _ [] [(0, .q), (1, .q), (3, .q), (4, .q), (6, .q), (7, .q), (2, .c), (5, .c), (8, .c), (9, .q), (10, .t)] xI nX (by kernel_rfl) nX (fun r hr => hr) (w_q rfl (fun h' L' hh hR => (zH (sz := 3) (q := 0) 0 underlying32 sizeOf30 rfl rfl rfl (by decide)).cv (show _ = vP b1 0 from congrArg (vP b1) (by rfl))) rfl (yP (F := fun v_ => (rpQ k).Is h0 v_ p.x) rfl (zE xZ (Pc.tx (Pc.here _)) rfl rfl rb1 rfl) (yF (.tail _ (.head _))) rfl ?_))
 intro v4 r4
 refine w_q rfl (fun h' L' hh hR => (zH (sz := 3) (q := 1) 1 underlying32 sizeOf30 rfl rfl rfl (by decide)).cv (show _ = vP b1 3 from congrArg (vP b1) (by rfl))) rfl (yP (F := fun v_ => (rpQ k).Is h0 v_ p.y) rfl (zE xZ (Pc.ty (Pc.here _)) rfl rfl rb1 rfl) (yF (.tail _ (.head _))) rfl ?_)
 intro v7 r7
 refine w_q rfl (fun h' L' hh hR => (zH (sz := 3) (q := 2) 2 underlying32 sizeOf30 rfl rfl rfl (by decide)).cv (show _ = vP b1 6 from congrArg (vP b1) (by rfl))) rfl (yP (F := fun v_ => (rpQ k).Is h0 v_ p.z) rfl (zE xZ (Pc.tz (Pc.here _)) rfl rfl rb1 rfl) (yF (.tail _ (.head _))) rfl ?_)
 intro v10 r10
 refine w_c rfl ?_
 refine zY (vs := [_]) call111 ⟨rfl, trivial⟩ (fun w hs => mG hs r4 (by omega)) rfl ?_
 intro v5 h1 hh1 r5
 change (rpQ k).Is h1 v5 p.x at r5
 refine w_c rfl ?_
 replace r7 := r7.mono hh1
 refine zY (vs := [_]) call111 ⟨rfl, trivial⟩ (fun w hs => mG hs r7 (by omega)) rfl ?_
 intro v8 h2 hh2 r8
 change (rpQ k).Is h2 v8 p.y at r8
 refine w_c rfl ?_
 replace r10 := r10.mono (hh1.trans hh2)
 refine zY (vs := [_]) call111 ⟨rfl, trivial⟩ (fun w hs => mG hs r10 (by omega)) rfl ?_
 intro v11 h3 hh3 r11
 change (rpQ k).Is h3 v11 p.z at r11
 replace r5 := r5.mono (hh2.trans hh3)
 replace r8 := r8.mono hh3
 refine yP (F := fun v_ => (rpT (rpQ (k + 1))).Is h3 v_ (T3.mk p.x p.y p.z)) rfl (wW (ps' := [(0, _), (1, _), (2, _)]) underlying32 yD rfl rfl sizeOf30 e6 rfl (wH (wA (by omega))) (yX rfl (Pc.tx (Pc.here _)) (r5.le (Le.q (l := k + 1) (by omega))) (yX rfl (Pc.ty (Pc.here _)) (r8.le (Le.q (l := k + 1) (by omega))) (yX rfl (Pc.tz (Pc.here _)) (r11.le (Le.q (l := k + 1) (by omega))) wD)))) vW rfl ?_
 intro v12 r12
 replace rb2 := rb2.mono ((hh1.trans hh2).trans hh3)
 refine xY (A := []) (F := fun c_ => (rpT (rpQ (k + 1))).R h3 c_ (T3.mk p.x p.y p.z)) rfl (yG sizeOf32 (Pc.here _) rfl rfl rfl rb2 r12 rfl) ?_
 intro cs_1 rb_2
 refine xA (zJ (e' := [(2, _)]) ⟨rfl, trivial⟩ (zB (zQ (uG (gJ (t := 2) yZ (.head _) rfl rb_2) ?_))))
 intro w_3 hvw_3 rr_4
 refine xW (fun E S => yQ rfl hvw_3 E S) ?_
 exact rr_4
theorem w4 {w0 : World} {h0 : Mem}  (hs : MLe h0 (mem w0)) {k : Nat} {vl : Value} {l : (List (T3 Rat))} (rl : (rpS (rpT (rpQ k))).Is h0 vl l) (hcd0 : k ≤ 1000000000) (hcd1 : l.length ≤ 100000)  :
    Calls Tryz.prog 85 #[vl, vF 86 []] w0 (Ret w0 h0 (fun h r => (rpS (rpT (rpQ (k + 2)))).Is h r l)) := by
 have hll := s_lt rl
 refine zP (n := 28) (e := [(0, vl), (1, vF 86 [])]) (vs := [vl, vF 86 []]) func85 rfl rfl (bL rfl) hs e2z (zC (zA (asg rfl rfl (zD (zB (zC (zC (zA (mv rfl rfl (gv (eM underlying27 rfl (s_one3 rl)) rfl (zD (zB ?_))))))))))))
 refine zO rfl (fun hc9 => ?_) (fun hc9 => ?_)
 ·
  have hnil := nil_of rl p9N hc9
  refine zC (zA (asg rfl rfl (zD (zB (zQ (zX (yH rfl rfl ?_)))))))
  exact (Rp.Is.cast (bD _) (by exact hnil.symm))
 refine zL (zB (zC (zA (mv rfl rfl (gv (vE underlying27 rfl rl) rfl (zK (dT (ρ := (rpT (rpQ (k + 2)))) (X := (T3.mk (0 : Rat) 0 0)) (by' := 168) l.length underlying27 yD rfl rfl rfl rfl (wH (wA (by omega))) rfl rfl (by rfl) (by rfl) (by omega) (by omega)) rfl rfl rfl ?_))))))
 intro v12 q12 hq12
 obtain ⟨cs12, rfl, rl12⟩ := hq12
 refine asg rfl rfl (zD (zB (zC (zC (zA (mv rfl rfl (gv (vE underlying27 rfl rl) rfl (mv (v := vI (0)) rfl rfl (zD (zB (zS ?_)))))))))))
 refine wT (ι := Nat × List (T3 Rat) × Value × List Value × Mem) (fun (i, OU, s5_5, cs_6, ma) => MLe h0 ma ∧ (RL (rpT (rpQ (k + 2))) ma cs_6 OU ∧ (i ≤ l.length ∧ OU.length = l.length) ∧ ∀ u, u < i → OU.getD u (T3.mk (0 : Rat) 0 0) = l.getD u (T3.mk (0 : Rat) 0 0))) (fun (i, OU, s5_5, cs_6, ma) => [(1, vF 86 []), (5, s5_5), (13, vl), (14, vI (↑(l).length : Int)), (15, vI ↑i)]) (fun (i, OU, s5_5, cs_6, ma) => [.gs 32 9 s5_5 OU.length cs_6]) (fun (i, OU, s5_5, cs_6, ma) => ma) (fun (i, OU, s5_5, cs_6, ma) => l.length - i) (0, (List.replicate l.length (T3.mk (0 : Rat) 0 0)), v12, cs12, h0) ?_ e5 rfl rfl ?_
 ·
  refine ⟨MLe.refl _, ?_⟩
  refine ⟨rl12, ?_⟩
  exact ⟨⟨by omega, List.length_replicate⟩, fun u h => by omega⟩
 intro x hx
 obtain ⟨i, OU, s5_5, cs_6, ma⟩ := x
 obtain ⟨hmma, hinv⟩ := hx
 show GC _ _ _ _ _ _ [(1, vF 86 []), (5, s5_5), (13, vl), (14, vI (↑(l).length : Int)), (15, vI ↑i)] [.gs 32 9 s5_5 OU.length cs_6] ma
 obtain ⟨rl_7, hinv⟩ := hinv
 obtain ⟨⟨hi1, hi2⟩, hi3⟩ := hinv
 refine zC (zA (gv (zW rfl rfl) rfl (zD (zB (zC ?_)))))
 refine zO rfl (fun hc16 => ?_) (fun hc16 => ?_)
 ·
  refine zL (zB (zC (zS (zC (zA (mv rfl rfl ?_))))))
  replace rl := rl.mono hmma
  refine wF (F := fun v_ => AtP (rpT (rpQ k)) ma v_ (l.getD i (T3.mk (0 : Rat) 0 0))) (vN (T3.mk (0 : Rat) 0 0) i underlying27 yZ rfl rfl rl rfl (by omega) p9N) vW rfl ?_
  intro v18 r18
  refine wF (F := fun v_ => (rpT (rpQ k)).Is ma v_ (l.getD i (T3.mk (0 : Rat) 0 0))) (wP yZ rfl r18) vW rfl ?_
  intro v19 r19
  refine zK (yY (ρ := (rpT (rpQ (k + 1)))) (X := (T3.mk (0 : Rat) 0 0)) yD rfl rfl (wH (wA (by omega)))) rfl rfl rfl ?_
  intro v7 q7 hq7
  obtain ⟨b7, cs7, rfl, rfl, rb7⟩ := hq7
  refine asg rfl rfl (wB (A := []) (F := fun c_ => (rpT (rpQ (k + 1))).R ma c_ (l.getD i (T3.mk (0 : Rat) 0 0))) (yG sizeOf32 (Pc.here _) rfl rfl rfl rb7 (r19.le (Le.t (Le.q (l := k + 1) (by omega)))) rfl) ?_)
  intro cs_8 rb_9
  refine zD (zB (zA (mv rfl rfl (mv rfl rfl (mv rfl rfl (wF (F := fun v_ => (rpT (rpQ (k + 1))).Is ma v_ (l.getD i (T3.mk (0 : Rat) 0 0))) (zE yZ (Pc.here _) rfl rfl rb_9 rfl) (yF (.head _)) rfl ?_))))))
  intro v23 r23
  refine gl_enter (fS (vs := [_]) call86 rfl ⟨rfl, trivial⟩) rfl rfl rfl (fun w hs => s8 hs r23 (by first | omega | exact (mem_getD (by omega) (by assumption)))) ?_
  intro v24 h1 hh1 r24
  change (rpT (rpQ ((k + 1) + 1))).Is h1 v24 (l.getD i (T3.mk (0 : Rat) 0 0)) at r24
  replace r24 := Rp.Is.le r24 (Le.t (Le.q (l := k + 2) (by omega)))
  refine gv ((uQ i (.tail _ (.head _)) underlying27 sizeOf32 rfl rfl rfl (by first | omega | (simp only [lAz, lC, lN, lR, lS]; omega)) p9N).cv (show _ = xX 1 s5_5 ((i * 9 + 0)) from congrArg (xX 1 s5_5) (by rfl))) rfl ?_
  replace rl_7 := rl_7.mono hh1
  refine gl_updos (A := [_]) (F := fun c_ => RL (rpT (rpQ (k + 2))) h1 c_ (OU.set i (l.getD i (T3.mk (0 : Rat) 0 0)))) (upd_os sizeOf32 (Pc.arr (Pc.here _) (T3.mk (0 : Rat) 0 0) i (by first | omega | (simp only [lAz, lC, lN, lR, lS]; omega))) rfl p9N rfl rfl rl_7 r24 rfl) ?_
  intro cs_10 rl_11
  refine zD (xB (zJ (e' := [(1, _), (5, _), (13, _), (14, _), (15, _)]) e5 (zB (zA (gv (zR (q := 1) rfl rfl (by omega) (by omega)) rfl (mv rfl rfl (zD (xF (A := []) ?_))))))))
  refine yR ((i + 1), (OU.set i (l.getD i (T3.mk (0 : Rat) 0 0))), s5_5, cs_10, h1) ?_ ?_ e5 rfl rfl
  ·
   refine ⟨(hmma.trans hh1), ?_⟩
   refine ⟨rl_11, ?_⟩
   exact ⟨⟨by omega, by rw [lS]; exact hi2⟩, g4 (f := fun u => l.getD u (T3.mk (0 : Rat) 0 0)) (by omega) hi3 rfl⟩
  dsimp only
  omega
 have hall := list_same hi2 (fun u hu => hi3 u (by omega))
 refine xM (yE (yE (xL (zB (zC (zA (mv rfl rfl (asg rfl rfl (zD (zB (zQ (kI (A := []) (ρ := (rpT (rpQ (k + 2)))) rl_7 ?_))))))))))))
 intro h1 hh1 rs_12
 refine yH rfl rfl ?_
 exact (Rp.Is.cast rs_12 (by exact hall))
theorem lY {w0 : World} {h0 : Mem}  (hs : MLe h0 (mem w0)) {k : Nat} {vl : Value} {l : (List (T3 Rat))} (rl : (rpS (rpT (rpQ k))).Is h0 vl l) (hcd0 : k ≤ 1000000000) (hcd1 : l.length ≤ 100000)  :
    Calls Tryz.prog 48 #[vl] w0 (Ret w0 h0 (fun h r => (rpS (rpT (rpQ (k + 2)))).Is h r l)) := by
 refine zP (n := 5) (e := [(0, vl)]) (vs := [vl]) func48 rfl rfl (bL rfl) hs ⟨rfl, trivial⟩ (zC (zA (asg rfl rfl (zD (zB (zC (zA (mv rfl rfl ?_))))))))
 refine zM (vs := [_, _]) rfl rfl rfl rfl call85 e2z (fun w hs => w4 hs rl (by omega) (by omega)) ?_
 intro v4 h1 hh1 r4
 change (rpS (rpT (rpQ (k + 2)))).Is h1 v4 l at r4
 refine asg rfl rfl (zD (zB (zQ (yH rfl rfl ?_))))
 exact r4
theorem mX {w0 : World} {h0 : Mem}  (hs : MLe h0 (mem w0)) {m l k : Nat} {vs : Value} {s : ((T3 Rat) × Rat)} (rs : (rpP (rpT (rpQ m)) (rpQ l)).Is h0 vs s) {vp : Value} {p : (T3 Rat)} (rp : (rpT (rpQ k)).Is h0 vp p) (hcd0 : k ≤ 100000000) (hcd1 : l ≤ 100000000) (hcd2 : m ≤ 100000000)  :
    Calls Tryz.prog 117 #[vs, vp] w0 (Ret w0 h0 (fun h r => (rpQ (3 * k + l + 3 * m + 12)).Is h r (hgt s p))) := by
 refine zP (n := 12) (e := [(0, vs), (1, vp)]) (vs := [vs, vp]) func117 rfl rfl (bL rfl) hs e2z (zC (zA (zK (yW (ρ := (rpP (rpT (rpQ m)) (rpQ l))) rfl rs) rfl rfl rfl ?_)))
 intro v2 q2 hq2
 obtain ⟨b2, cs2, rfl, rfl, rb2⟩ := hq2
 refine zK (yW (ρ := (rpT (rpQ k))) rfl rp) rfl rfl rfl ?_
 intro v3 q3 hq3
 obtain ⟨b3, cs3, rfl, rfl, rb3⟩ := hq3
 refine zK (yY (ρ := (rpQ (3 * k + l + 3 * m + 12))) (X := (0 : Rat)) wQ rfl rfl (wA (by omega))) rfl rfl rfl ?_
 intro v4 q4 hq4
 obtain ⟨b4, cs4, rfl, rfl, rb4⟩ := hq4
 refine zD (zB (zC ?_))
 refine yI 7 _ [] [(0, .q), (1, .q), (2, .q), (4, .q), (5, .q), (3, .c), (6, .c), (7, .t)] xI nX (by kernel_rfl) nX (fun r hr => hr) (w_q rfl (fun h' L' hh hR => (zI underlying34 rfl sizeOf32 rfl).cv (show _ = vP b2 0 from congrArg (vP b2) (by rfl))) rfl (yP (F := fun v_ => (rpT (rpQ m)).Is h0 v_ s.1) rfl (zE yZ (Pc.fst (Pc.here _)) rfl rfl rb2 rfl) (yF (.tail _ (.tail _ (.head _)))) rfl ?_))
 intro v6 r6
 refine yP (F := fun v_ => (rpT (rpQ k)).Is h0 v_ p) rfl (zE yZ (Pc.here _) rfl rfl rb3 rfl) (yF (.tail _ (.head _))) rfl ?_
 intro v7 r7
 refine w_q rfl (fun h' L' hh hR => (zI underlying34 rfl sizeOf30 rfl).cv (show _ = vP b2 9 from congrArg (vP b2) (by rfl))) rfl (yP (F := fun v_ => (rpQ l).Is h0 v_ s.2) rfl (zE xZ (Pc.snd (Pc.here _)) rfl rfl rb2 rfl) (yF (.tail _ (.tail _ (.head _)))) rfl ?_)
 intro v10 r10
 refine w_c rfl ?_
 refine zY (vs := [_, _]) call79 e2z (fun w hs => o_v_dot hs r6 r7 (by omega)) rfl ?_
 intro v8 h1 hh1 r8
 change (rpQ (3 * m + 3 * k + 9)).Is h1 v8 (uT s.1 p) at r8
 replace r8 := Rp.Is.le r8 (Le.q (l := 3 * k + 3 * m + 9) (by omega))
 refine w_c rfl ?_
 replace r10 := r10.mono hh1
 refine zY (vs := [_, _]) call70 e2z (fun w hs => gZ hs r8 r10 (by omega)) rfl ?_
 intro v11 h2 hh2 r11
 change (rpQ ((3 * k + 3 * m + 9) + l + 1)).Is h2 v11 ((uT s.1 p) - s.2) at r11
 replace r11 := Rp.Is.le r11 (Le.q (l := 3 * k + l + 3 * m + 10) (by omega))
 replace rb4 := rb4.mono (hh1.trans hh2)
 refine xY (A := []) (F := fun c_ => (rpQ (3 * k + l + 3 * m + 12)).R h2 c_ ((uT s.1 p) - s.2)) rfl (yG sizeOf30 (Pc.here _) rfl rfl rfl rb4 (r11.le (Le.q (l := 3 * k + l + 3 * m + 12) (by omega))) rfl) ?_
 intro cs_19 rb_20
 refine xA (zJ (e' := [(4, _)]) ⟨rfl, trivial⟩ (zB (zQ (uG (gJ (t := 4) xZ (.head _) rfl rb_20) ?_))))
 intro w_21 hvw_21 rr_22
 refine xW (fun E S => yQ rfl hvw_21 E S) ?_
 exact rr_22
theorem eS {w0 : World} {h0 : Mem}  (hs : MLe h0 (mem w0)) {m l k : Nat} {vs : Value} {s : ((T3 Rat) × Rat)} (rs : (rpP (rpT (rpQ m)) (rpQ l)).Is h0 vs s) {vp : Value} {p : (T3 Rat)} (rp : (rpT (rpQ k)).Is h0 vp p) (hcd0 : k ≤ 100000000) (hcd1 : l ≤ 100000000) (hcd2 : m ≤ 100000000)  :
    Calls Tryz.prog 87 #[vs, vp] w0 (Ret w0 h0 (fun h r => (rpQ (3 * k + l + 3 * m + 12)).Is h r (hgt s p))) := by
 refine zP (n := 12) (e := [(0, vs), (1, vp)]) (vs := [vs, vp]) func87 rfl rfl (bL rfl) hs e2z (zC (zA (zK (yW (ρ := (rpP (rpT (rpQ m)) (rpQ l))) rfl rs) rfl rfl rfl ?_)))
 intro v2 q2 hq2
 obtain ⟨b2, cs2, rfl, rfl, rb2⟩ := hq2
 refine zK (yW (ρ := (rpT (rpQ k))) rfl rp) rfl rfl rfl ?_
 intro v3 q3 hq3
 obtain ⟨b3, cs3, rfl, rfl, rb3⟩ := hq3
 refine zK (yY (ρ := (rpQ (3 * k + l + 3 * m + 12))) (X := (0 : Rat)) wQ rfl rfl (wA (by omega))) rfl rfl rfl ?_
 intro v4 q4 hq4
 obtain ⟨b4, cs4, rfl, rfl, rb4⟩ := hq4
 refine zD (zB (zC ?_))
 refine yI 7 _ [] [(0, .q), (1, .q), (2, .q), (4, .q), (5, .q), (3, .c), (6, .c), (7, .t)] xI nX (by kernel_rfl) nX (fun r hr => hr) (w_q rfl (fun h' L' hh hR => (zI underlying34 rfl sizeOf32 rfl).cv (show _ = vP b2 0 from congrArg (vP b2) (by rfl))) rfl (yP (F := fun v_ => (rpT (rpQ m)).Is h0 v_ s.1) rfl (zE yZ (Pc.fst (Pc.here _)) rfl rfl rb2 rfl) (yF (.tail _ (.tail _ (.head _)))) rfl ?_))
 intro v6 r6
 refine yP (F := fun v_ => (rpT (rpQ k)).Is h0 v_ p) rfl (zE yZ (Pc.here _) rfl rfl rb3 rfl) (yF (.tail _ (.head _))) rfl ?_
 intro v7 r7
 refine w_q rfl (fun h' L' hh hR => (zI underlying34 rfl sizeOf30 rfl).cv (show _ = vP b2 9 from congrArg (vP b2) (by rfl))) rfl (yP (F := fun v_ => (rpQ l).Is h0 v_ s.2) rfl (zE xZ (Pc.snd (Pc.here _)) rfl rfl rb2 rfl) (yF (.tail _ (.tail _ (.head _)))) rfl ?_)
 intro v10 r10
 refine w_c rfl ?_
 refine zY (vs := [_, _]) call57 e2z (fun w hs => cZ hs r6 r7 (by omega)) rfl ?_
 intro v8 h1 hh1 r8
 change (rpQ (3 * m + 3 * k + 9)).Is h1 v8 (uT s.1 p) at r8
 replace r8 := Rp.Is.le r8 (Le.q (l := 3 * k + 3 * m + 9) (by omega))
 refine w_c rfl ?_
 replace r10 := r10.mono hh1
 refine zY (vs := [_, _]) call56 e2z (fun w hs => jE hs r8 r10 (by omega)) rfl ?_
 intro v11 h2 hh2 r11
 change (rpQ ((3 * k + 3 * m + 9) + l + 1)).Is h2 v11 ((uT s.1 p) - s.2) at r11
 replace r11 := Rp.Is.le r11 (Le.q (l := 3 * k + l + 3 * m + 10) (by omega))
 replace rb4 := rb4.mono (hh1.trans hh2)
 refine xY (A := []) (F := fun c_ => (rpQ (3 * k + l + 3 * m + 12)).R h2 c_ ((uT s.1 p) - s.2)) rfl (yG sizeOf30 (Pc.here _) rfl rfl rfl rb4 (r11.le (Le.q (l := 3 * k + l + 3 * m + 12) (by omega))) rfl) ?_
 intro cs_23 rb_24
 refine xA (zJ (e' := [(4, _)]) ⟨rfl, trivial⟩ (zB (zQ (uG (gJ (t := 4) xZ (.head _) rfl rb_24) ?_))))
 intro w_25 hvw_25 rr_26
 refine xW (fun E S => yQ rfl hvw_25 E S) ?_
 exact rr_26
theorem rB {w0 : World} {h0 : Mem}  (hs : MLe h0 (mem w0)) {m l k : Nat} {vs : Value} {s : ((T3 Rat) × Rat)} (rs : (rpP (rpT (rpQ m)) (rpQ l)).Is h0 vs s) {vp : Value} {p : (T3 Rat)} (rp : (rpT (rpQ k)).Is h0 vp p) {vq : Value} {q : (T3 Rat)} (rq : (rpT (rpQ k)).Is h0 vq q) (hcd0 : k ≤ 60000000) (hcd1 : l ≤ 1000000) (hcd2 : m ≤ 1000000)  :
    Calls Tryz.prog 84 #[vs, vp, vq] w0 (Ret w0 h0 (fun h r => (rpT (rpQ (12 * k + 3 * l + 9 * m + 50))).Is h r (btw s p q))) := by
 refine zP (n := 32) (e := [(0, vs), (1, vp), (2, vq)]) (vs := [vs, vp, vq]) func84 rfl rfl (bL rfl) hs e3z (zC (zA (zK (yW (ρ := (rpP (rpT (rpQ m)) (rpQ l))) rfl rs) rfl rfl rfl ?_)))
 intro v3 q3 hq3
 obtain ⟨b3, cs3, rfl, rfl, rb3⟩ := hq3
 refine zK (yW (ρ := (rpT (rpQ k))) rfl rp) rfl rfl rfl ?_
 intro v4 q4 hq4
 obtain ⟨b4, cs4, rfl, rfl, rb4⟩ := hq4
 refine zK (yW (ρ := (rpT (rpQ k))) rfl rq) rfl rfl rfl ?_
 intro v5 q5 hq5
 obtain ⟨b5, cs5, rfl, rfl, rb5⟩ := hq5
 refine zK (yY (ρ := (rpT (rpQ (12 * k + 3 * l + 9 * m + 50)))) (X := (T3.mk (0 : Rat) 0 0)) yD rfl rfl (wH (wA (by omega)))) rfl rfl rfl ?_
 intro v6 q6 hq6
 obtain ⟨b6, cs6, rfl, rfl, rb6⟩ := hq6
 refine zD (zB (zC ?_))
 refine yI 8 _ [(6, (7, 30, [.bool false, .slice none 0 0, .slice none 0 0])), (7, (8, 30, [.bool false, .slice none 0 0, .slice none 0 0]))] [(0, .q), (1, .q), (3, .q), (4, .q), (2, .c), (5, .c), (6, .a), (7, .a), (8, .t), (9, .t)] xI (jC.cons rfl (uU wQ rfl rfl) (jC.cons rfl (uU wQ rfl rfl) jC.nil)) (by kernel_rfl) (uV rfl rfl (uV rfl rfl jY)) (fun r hr => hr) (yP (F := fun v_ => (rpP (rpT (rpQ m)) (rpQ l)).Is h0 v_ s) rfl (zE jM (Pc.here _) rfl rfl rb3 rfl) (yF (.tail _ (.tail _ (.tail _ (.head _))))) rfl ?_)
 intro v11 r11
 refine yP (F := fun v_ => (rpT (rpQ k)).Is h0 v_ p) rfl (zE yZ (Pc.here _) rfl rfl rb4 rfl) (yF (.tail _ (.tail _ (.head _)))) rfl ?_
 intro v12 r12
 refine yP (F := fun v_ => (rpP (rpT (rpQ m)) (rpQ l)).Is h0 v_ s) rfl (zE jM (Pc.here _) rfl rfl rb3 rfl) (yF (.tail _ (.tail _ (.tail _ (.head _))))) rfl ?_
 intro v14 r14
 refine yP (F := fun v_ => (rpT (rpQ k)).Is h0 v_ q) rfl (zE yZ (Pc.here _) rfl rfl rb5 rfl) (yF (.tail _ (.head _))) rfl ?_
 intro v15 r15
 refine w_c rfl ?_
 refine zY (vs := [_, _]) call117 e2z (fun w hs => mX hs r11 r12 (by omega) (by omega) (by omega)) rfl ?_
 intro v13 h1 hh1 r13
 change (rpQ (3 * k + l + 3 * m + 12)).Is h1 v13 (hgt s p) at r13
 refine w_c rfl ?_
 replace r14 := r14.mono hh1
 replace r15 := r15.mono hh1
 refine zY (vs := [_, _]) call117 e2z (fun w hs => mX hs r14 r15 (by omega) (by omega) (by omega)) rfl ?_
 intro v16 h2 hh2 r16
 change (rpQ (3 * k + l + 3 * m + 12)).Is h2 v16 (hgt s q) at r16
 refine w_a rfl (fun b7 => ?_)
 have rb7 : (rpQ (3 * k + l + 3 * m + 12)).R h2 [.bool false, .slice none 0 0, .slice none 0 0] (0 : Rat) := (wA (by omega))
 refine w_a rfl (fun b8 => ?_)
 have rb8 : (rpQ (3 * k + l + 3 * m + 12)).R h2 [.bool false, .slice none 0 0, .slice none 0 0] (0 : Rat) := (wA (by omega))
 replace r13 := r13.mono hh2
 refine xY (A := [_]) (F := fun c_ => (rpQ (3 * k + l + 3 * m + 12)).R h2 c_ (hgt s p)) rfl (yG sizeOf30 (Pc.here _) rfl rfl rfl rb7 r13 rfl) ?_
 intro cs_27 rb_28
 refine xY (A := []) (F := fun c_ => (rpQ (3 * k + l + 3 * m + 12)).R h2 c_ (hgt s q)) rfl (yG sizeOf30 (Pc.here _) rfl rfl rfl rb8 r16 rfl) ?_
 intro cs_29 rb_30
 refine xA (zJ (e' := [(4, _), (5, _), (6, _), (7, _), (8, _)]) e5 (zB (zC ?_)))
 refine yI 11 _ [(8, (9, 30, [.bool false, .slice none 0 0, .slice none 0 0]))] [(0, .q), (1, .q), (2, .q), (3, .c), (4, .c), (5, .q), (6, .q), (7, .q), (8, .a), (9, .c), (10, .q)] xI (jC.cons rfl (uU wQ rfl rfl) jC.nil) (by kernel_rfl) (uV rfl rfl jY) (fun r hr => hr) (yP (F := fun v_ => (rpQ (3 * k + l + 3 * m + 12)).Is h2 v_ (hgt s p)) rfl (zE xZ (Pc.here _) rfl rfl rb_28 rfl) (yF (.tail _ (.head _))) rfl ?_)
 intro v18 r18
 refine yP (F := fun v_ => (rpQ (3 * k + l + 3 * m + 12)).Is h2 v_ (hgt s p)) rfl (zE xZ (Pc.here _) rfl rfl rb_28 rfl) (yF (.tail _ (.head _))) rfl ?_
 intro v19 r19
 refine yP (F := fun v_ => (rpQ (3 * k + l + 3 * m + 12)).Is h2 v_ (hgt s q)) rfl (zE xZ (Pc.here _) rfl rfl rb_30 rfl) (yF (.head _)) rfl ?_
 intro v20 r20
 refine w_c rfl ?_
 refine zY (vs := [_, _]) call70 e2z (fun w hs => gZ hs r19 r20 (by omega)) rfl ?_
 intro v21 h3 hh3 r21
 change (rpQ ((3 * k + l + 3 * m + 12) + (3 * k + l + 3 * m + 12) + 1)).Is h3 v21 ((hgt s p) - (hgt s q)) at r21
 replace r21 := Rp.Is.le r21 (Le.q (l := 6 * k + 2 * l + 6 * m + 25) (by omega))
 refine w_c rfl ?_
 replace r18 := r18.mono hh3
 refine zY (vs := [_, _]) call110 e2z (fun w hs => o_rat_quo hs r18 r21 (by omega)) rfl ?_
 intro v22 h4 hh4 r22
 obtain ⟨v22_0, rfl, r22_0⟩ := r22
 change (rpQ ((3 * k + l + 3 * m + 12) + (6 * k + 2 * l + 6 * m + 25))).Is h4 v22_0 (if ((hgt s p) - (hgt s q)) = 0 then 0 else (hgt s p) / ((hgt s p) - (hgt s q))) at r22_0
 replace r22_0 := Rp.Is.le r22_0 (Le.q (l := 9 * k + 3 * l + 9 * m + 37) (by omega))
 refine w_q rfl (fun h' L' hh hR => zF rfl) rfl (w_q rfl (fun h' L' hh hR => zN (vs := [_, _]) rfl rfl) rfl (w_q rfl (fun h' L' hh hR => zN (vs := [_, _]) rfl rfl) rfl ?_))
 refine w_a rfl (fun b9 => ?_)
 have rb9 : (rpQ (9 * k + 3 * l + 9 * m + 40)).R h4 [.bool false, .slice none 0 0, .slice none 0 0] (0 : Rat) := (wA (by omega))
 refine w_c rfl (fH (A := []) (F := fun c_ => (rpQ (9 * k + 3 * l + 9 * m + 40)).R h4 c_ (if ((hgt s p) - (hgt s q)) = 0 then 0 else (hgt s p) / ((hgt s p) - (hgt s q)))) (yG sizeOf30 (Pc.here _) rfl rfl rfl rb9 (r22_0.le (Le.q (l := 9 * k + 3 * l + 9 * m + 40) (by omega))) rfl) (xE (by first | (simp; done) | grind)) ?_)
 intro cs_31 rb_32
 refine w_q rfl (fun h' L' hh hR => zZ rfl) rfl (xA (zJ (e' := [(4, _), (5, _), (6, _), (9, _)]) e4z (zB (zC ?_))))
 refine yI 7 _ [] [(0, .q), (1, .q), (2, .q), (3, .q), (4, .c), (5, .c), (6, .c), (7, .t)] xI nX (by kernel_rfl) nX (fun r hr => hr) ?_
 replace rb4 := rb4.mono (((hh1.trans hh2).trans hh3).trans hh4)
 refine yP (F := fun v_ => (rpT (rpQ k)).Is h4 v_ p) rfl (zE yZ (Pc.here _) rfl rfl rb4 rfl) (yF (.tail _ (.tail _ (.tail _ (.tail _ (.tail _ (.head _))))))) rfl ?_
 intro v25 r25
 refine yP (F := fun v_ => (rpQ (9 * k + 3 * l + 9 * m + 40)).Is h4 v_ (if ((hgt s p) - (hgt s q)) = 0 then 0 else (hgt s p) / ((hgt s p) - (hgt s q)))) rfl (zE xZ (Pc.here _) rfl rfl rb_32 rfl) (yF (.head _)) rfl ?_
 intro v26 r26
 replace rb5 := rb5.mono (((hh1.trans hh2).trans hh3).trans hh4)
 refine yP (F := fun v_ => (rpT (rpQ k)).Is h4 v_ q) rfl (zE yZ (Pc.here _) rfl rfl rb5 rfl) (yF (.tail _ (.tail _ (.tail _ (.tail _ (.head _)))))) rfl ?_
 intro v27 r27
 refine yP (F := fun v_ => (rpT (rpQ k)).Is h4 v_ p) rfl (zE yZ (Pc.here _) rfl rfl rb4 rfl) (yF (.tail _ (.tail _ (.tail _ (.tail _ (.tail _ (.head _))))))) rfl ?_
 intro v28 r28
 refine w_c rfl ?_
 refine zY (vs := [_, _]) call78 e2z (fun w hs => o_v_sub hs r27 r28 (by omega)) rfl ?_
 intro v29 h5 hh5 r29
 change (rpT (rpQ (k + k + 2))).Is h5 v29 (T3.mk (q.x - p.x) (q.y - p.y) (q.z - p.z)) at r29
 replace r29 := Rp.Is.le r29 (Le.t (Le.q (l := 2 * k + 2) (by omega)))
 refine w_c rfl ?_
 replace r26 := r26.mono hh5
 refine zY (vs := [_, _]) call82 e2z (fun w hs => o_v_scale hs r26 r29 (by omega)) rfl ?_
 intro v30 h6 hh6 r30
 change (rpT (rpQ ((2 * k + 2) + (9 * k + 3 * l + 9 * m + 40) + 2))).Is h6 v30 (T3.mk ((if ((hgt s p) - (hgt s q)) = 0 then 0 else (hgt s p) / ((hgt s p) - (hgt s q))) * (q.x - p.x)) ((if ((hgt s p) - (hgt s q)) = 0 then 0 else (hgt s p) / ((hgt s p) - (hgt s q))) * (q.y - p.y)) ((if ((hgt s p) - (hgt s q)) = 0 then 0 else (hgt s p) / ((hgt s p) - (hgt s q))) * (q.z - p.z))) at r30
 replace r30 := Rp.Is.le r30 (Le.t (Le.q (l := 11 * k + 3 * l + 9 * m + 44) (by omega)))
 refine w_c rfl ?_
 replace r25 := r25.mono (hh5.trans hh6)
 refine zY (vs := [_, _]) call80 e2z (fun w hs => o_v_add hs r25 r30 (by omega)) rfl ?_
 intro v31 h7 hh7 r31
 change (rpT (rpQ (k + (11 * k + 3 * l + 9 * m + 44) + 2))).Is h7 v31 (T3.mk (p.x + ((if ((hgt s p) - (hgt s q)) = 0 then 0 else (hgt s p) / ((hgt s p) - (hgt s q))) * (q.x - p.x))) (p.y + ((if ((hgt s p) - (hgt s q)) = 0 then 0 else (hgt s p) / ((hgt s p) - (hgt s q))) * (q.y - p.y))) (p.z + ((if ((hgt s p) - (hgt s q)) = 0 then 0 else (hgt s p) / ((hgt s p) - (hgt s q))) * (q.z - p.z)))) at r31
 replace r31 := Rp.Is.le r31 (Le.t (Le.q (l := 12 * k + 3 * l + 9 * m + 46) (by omega)))
 replace rb6 := rb6.mono ((((((hh1.trans hh2).trans hh3).trans hh4).trans hh5).trans hh6).trans hh7)
 refine xY (A := [_, _, _]) (F := fun c_ => (rpT (rpQ (12 * k + 3 * l + 9 * m + 50))).R h7 c_ (T3.mk (p.x + ((if ((hgt s p) - (hgt s q)) = 0 then 0 else (hgt s p) / ((hgt s p) - (hgt s q))) * (q.x - p.x))) (p.y + ((if ((hgt s p) - (hgt s q)) = 0 then 0 else (hgt s p) / ((hgt s p) - (hgt s q))) * (q.y - p.y))) (p.z + ((if ((hgt s p) - (hgt s q)) = 0 then 0 else (hgt s p) / ((hgt s p) - (hgt s q))) * (q.z - p.z))))) rfl (yG sizeOf32 (Pc.here _) rfl rfl rfl rb6 (r31.le (Le.t (Le.q (l := 12 * k + 3 * l + 9 * m + 50) (by omega)))) rfl) ?_
 intro cs_33 rb_34
 refine xA (zJ (e' := [(6, _)]) ⟨rfl, trivial⟩ (zB (zQ (uG (gJ (t := 6) yZ (.tail _ (.tail _ (.tail _ (.head _)))) rfl rb_34) ?_))))
 intro w_35 hvw_35 rr_36
 refine xW (fun E S => yQ rfl hvw_35 E S) ?_
 exact rr_36
theorem sF {w0 : World} {h0 : Mem}  (hs : MLe h0 (mem w0)) {k m l : Nat} {vp : Value} {p : (T3 Rat)} (rp : (rpT (rpQ k)).Is h0 vp p) {vq : Value} {q : (T3 Rat)} (rq : (rpT (rpQ k)).Is h0 vq q) {vs : Value} {s : ((T3 Rat) × Rat)} (rs : (rpP (rpT (rpQ m)) (rpQ l)).Is h0 vs s) (hcd0 : k ≤ 60000000) (hcd1 : l ≤ 1000000) (hcd2 : m ≤ 1000000)  :
    Calls Tryz.prog 49 #[vp, vq, vs] w0 (Ret w0 h0 (fun h r => (rpT (rpQ (12 * k + 3 * l + 9 * m + 50))).Is h r (btw s p q))) := by
 refine zP (n := 32) (e := [(0, vp), (1, vq), (2, vs)]) (vs := [vp, vq, vs]) func49 rfl rfl (bL rfl) hs e3z (zC (zA (zK (yW (ρ := (rpT (rpQ k))) rfl rp) rfl rfl rfl ?_)))
 intro v3 q3 hq3
 obtain ⟨b3, cs3, rfl, rfl, rb3⟩ := hq3
 refine zK (yW (ρ := (rpT (rpQ k))) rfl rq) rfl rfl rfl ?_
 intro v4 q4 hq4
 obtain ⟨b4, cs4, rfl, rfl, rb4⟩ := hq4
 refine zK (yW (ρ := (rpP (rpT (rpQ m)) (rpQ l))) rfl rs) rfl rfl rfl ?_
 intro v5 q5 hq5
 obtain ⟨b5, cs5, rfl, rfl, rb5⟩ := hq5
 refine zK (yY (ρ := (rpT (rpQ (12 * k + 3 * l + 9 * m + 50)))) (X := (T3.mk (0 : Rat) 0 0)) yD rfl rfl (wH (wA (by omega)))) rfl rfl rfl ?_
 intro v6 q6 hq6
 obtain ⟨b6, cs6, rfl, rfl, rb6⟩ := hq6
 refine zD (zB (zC ?_))
 refine yI 8 _ [(6, (7, 30, [.bool false, .slice none 0 0, .slice none 0 0])), (7, (8, 30, [.bool false, .slice none 0 0, .slice none 0 0]))] [(0, .q), (1, .q), (3, .q), (4, .q), (2, .c), (5, .c), (6, .a), (7, .a), (8, .t), (9, .t)] xI (jC.cons rfl (uU wQ rfl rfl) (jC.cons rfl (uU wQ rfl rfl) jC.nil)) (by kernel_rfl) (uV rfl rfl (uV rfl rfl jY)) (fun r hr => hr) (yP (F := fun v_ => (rpP (rpT (rpQ m)) (rpQ l)).Is h0 v_ s) rfl (zE jM (Pc.here _) rfl rfl rb5 rfl) (yF (.tail _ (.head _))) rfl ?_)
 intro v11 r11
 refine yP (F := fun v_ => (rpT (rpQ k)).Is h0 v_ p) rfl (zE yZ (Pc.here _) rfl rfl rb3 rfl) (yF (.tail _ (.tail _ (.tail _ (.head _))))) rfl ?_
 intro v12 r12
 refine yP (F := fun v_ => (rpP (rpT (rpQ m)) (rpQ l)).Is h0 v_ s) rfl (zE jM (Pc.here _) rfl rfl rb5 rfl) (yF (.tail _ (.head _))) rfl ?_
 intro v14 r14
 refine yP (F := fun v_ => (rpT (rpQ k)).Is h0 v_ q) rfl (zE yZ (Pc.here _) rfl rfl rb4 rfl) (yF (.tail _ (.tail _ (.head _)))) rfl ?_
 intro v15 r15
 refine w_c rfl ?_
 refine zY (vs := [_, _]) call87 e2z (fun w hs => eS hs r11 r12 (by omega) (by omega) (by omega)) rfl ?_
 intro v13 h1 hh1 r13
 change (rpQ (3 * k + l + 3 * m + 12)).Is h1 v13 (hgt s p) at r13
 refine w_c rfl ?_
 replace r14 := r14.mono hh1
 replace r15 := r15.mono hh1
 refine zY (vs := [_, _]) call87 e2z (fun w hs => eS hs r14 r15 (by omega) (by omega) (by omega)) rfl ?_
 intro v16 h2 hh2 r16
 change (rpQ (3 * k + l + 3 * m + 12)).Is h2 v16 (hgt s q) at r16
 refine w_a rfl (fun b7 => ?_)
 have rb7 : (rpQ (3 * k + l + 3 * m + 12)).R h2 [.bool false, .slice none 0 0, .slice none 0 0] (0 : Rat) := (wA (by omega))
 refine w_a rfl (fun b8 => ?_)
 have rb8 : (rpQ (3 * k + l + 3 * m + 12)).R h2 [.bool false, .slice none 0 0, .slice none 0 0] (0 : Rat) := (wA (by omega))
 replace r13 := r13.mono hh2
 refine xY (A := [_]) (F := fun c_ => (rpQ (3 * k + l + 3 * m + 12)).R h2 c_ (hgt s p)) rfl (yG sizeOf30 (Pc.here _) rfl rfl rfl rb7 r13 rfl) ?_
 intro cs_37 rb_38
 refine xY (A := []) (F := fun c_ => (rpQ (3 * k + l + 3 * m + 12)).R h2 c_ (hgt s q)) rfl (yG sizeOf30 (Pc.here _) rfl rfl rfl rb8 r16 rfl) ?_
 intro cs_39 rb_40
 refine xA (zJ (e' := [(3, _), (4, _), (6, _), (7, _), (8, _)]) e5 (zB (zC ?_)))
 refine yI 11 _ [(8, (9, 30, [.bool false, .slice none 0 0, .slice none 0 0]))] [(0, .q), (1, .q), (2, .q), (3, .c), (4, .c), (5, .q), (6, .q), (7, .q), (8, .a), (9, .c), (10, .q)] xI (jC.cons rfl (uU wQ rfl rfl) jC.nil) (by kernel_rfl) (uV rfl rfl jY) (fun r hr => hr) (yP (F := fun v_ => (rpQ (3 * k + l + 3 * m + 12)).Is h2 v_ (hgt s p)) rfl (zE xZ (Pc.here _) rfl rfl rb_38 rfl) (yF (.tail _ (.head _))) rfl ?_)
 intro v18 r18
 refine yP (F := fun v_ => (rpQ (3 * k + l + 3 * m + 12)).Is h2 v_ (hgt s p)) rfl (zE xZ (Pc.here _) rfl rfl rb_38 rfl) (yF (.tail _ (.head _))) rfl ?_
 intro v19 r19
 refine yP (F := fun v_ => (rpQ (3 * k + l + 3 * m + 12)).Is h2 v_ (hgt s q)) rfl (zE xZ (Pc.here _) rfl rfl rb_40 rfl) (yF (.head _)) rfl ?_
 intro v20 r20
 refine w_c rfl ?_
 refine zY (vs := [_, _]) call56 e2z (fun w hs => jE hs r19 r20 (by omega)) rfl ?_
 intro v21 h3 hh3 r21
 change (rpQ ((3 * k + l + 3 * m + 12) + (3 * k + l + 3 * m + 12) + 1)).Is h3 v21 ((hgt s p) - (hgt s q)) at r21
 replace r21 := Rp.Is.le r21 (Le.q (l := 6 * k + 2 * l + 6 * m + 25) (by omega))
 refine w_c rfl ?_
 replace r18 := r18.mono hh3
 refine zY (vs := [_, _]) call88 e2z (fun w hs => eP hs r18 r21 (by omega)) rfl ?_
 intro v22 h4 hh4 r22
 obtain ⟨v22_0, rfl, r22_0⟩ := r22
 change (rpQ ((3 * k + l + 3 * m + 12) + (6 * k + 2 * l + 6 * m + 25))).Is h4 v22_0 (if ((hgt s p) - (hgt s q)) = 0 then 0 else (hgt s p) / ((hgt s p) - (hgt s q))) at r22_0
 replace r22_0 := Rp.Is.le r22_0 (Le.q (l := 9 * k + 3 * l + 9 * m + 37) (by omega))
 refine w_q rfl (fun h' L' hh hR => zF rfl) rfl (w_q rfl (fun h' L' hh hR => zN (vs := [_, _]) rfl rfl) rfl (w_q rfl (fun h' L' hh hR => zN (vs := [_, _]) rfl rfl) rfl ?_))
 refine w_a rfl (fun b9 => ?_)
 have rb9 : (rpQ (9 * k + 3 * l + 9 * m + 40)).R h4 [.bool false, .slice none 0 0, .slice none 0 0] (0 : Rat) := (wA (by omega))
 refine w_c rfl (fH (A := []) (F := fun c_ => (rpQ (9 * k + 3 * l + 9 * m + 40)).R h4 c_ (if ((hgt s p) - (hgt s q)) = 0 then 0 else (hgt s p) / ((hgt s p) - (hgt s q)))) (yG sizeOf30 (Pc.here _) rfl rfl rfl rb9 (r22_0.le (Le.q (l := 9 * k + 3 * l + 9 * m + 40) (by omega))) rfl) (xE (by first | (simp; done) | grind)) ?_)
 intro cs_41 rb_42
 refine w_q rfl (fun h' L' hh hR => zZ rfl) rfl (xA (zJ (e' := [(3, _), (4, _), (6, _), (9, _)]) e4z (zB (zC ?_))))
 refine yI 7 _ [] [(0, .q), (1, .q), (2, .q), (3, .q), (4, .c), (5, .c), (6, .c), (7, .t)] xI nX (by kernel_rfl) nX (fun r hr => hr) ?_
 replace rb3 := rb3.mono (((hh1.trans hh2).trans hh3).trans hh4)
 refine yP (F := fun v_ => (rpT (rpQ k)).Is h4 v_ p) rfl (zE yZ (Pc.here _) rfl rfl rb3 rfl) (yF (.tail _ (.tail _ (.tail _ (.tail _ (.tail _ (.tail _ (.head _)))))))) rfl ?_
 intro v25 r25
 refine yP (F := fun v_ => (rpQ (9 * k + 3 * l + 9 * m + 40)).Is h4 v_ (if ((hgt s p) - (hgt s q)) = 0 then 0 else (hgt s p) / ((hgt s p) - (hgt s q)))) rfl (zE xZ (Pc.here _) rfl rfl rb_42 rfl) (yF (.head _)) rfl ?_
 intro v26 r26
 replace rb4 := rb4.mono (((hh1.trans hh2).trans hh3).trans hh4)
 refine yP (F := fun v_ => (rpT (rpQ k)).Is h4 v_ q) rfl (zE yZ (Pc.here _) rfl rfl rb4 rfl) (yF (.tail _ (.tail _ (.tail _ (.tail _ (.tail _ (.head _))))))) rfl ?_
 intro v27 r27
 refine yP (F := fun v_ => (rpT (rpQ k)).Is h4 v_ p) rfl (zE yZ (Pc.here _) rfl rfl rb3 rfl) (yF (.tail _ (.tail _ (.tail _ (.tail _ (.tail _ (.tail _ (.head _)))))))) rfl ?_
 intro v28 r28
 refine w_c rfl ?_
 refine zY (vs := [_, _]) call23 e2z (fun w hs => tW hs r27 r28 (by omega)) rfl ?_
 intro v29 h5 hh5 r29
 change (rpT (rpQ (k + k + 1))).Is h5 v29 (T3.mk (q.x - p.x) (q.y - p.y) (q.z - p.z)) at r29
 replace r29 := Rp.Is.le r29 (Le.t (Le.q (l := 2 * k + 1) (by omega)))
 refine w_c rfl ?_
 replace r26 := r26.mono hh5
 refine zY (vs := [_, _]) call20 e2z (fun w hs => pP hs r26 r29 (by omega)) rfl ?_
 intro v30 h6 hh6 r30
 change (rpT (rpQ ((2 * k + 1) + (9 * k + 3 * l + 9 * m + 40)))).Is h6 v30 (T3.mk ((if ((hgt s p) - (hgt s q)) = 0 then 0 else (hgt s p) / ((hgt s p) - (hgt s q))) * (q.x - p.x)) ((if ((hgt s p) - (hgt s q)) = 0 then 0 else (hgt s p) / ((hgt s p) - (hgt s q))) * (q.y - p.y)) ((if ((hgt s p) - (hgt s q)) = 0 then 0 else (hgt s p) / ((hgt s p) - (hgt s q))) * (q.z - p.z))) at r30
 replace r30 := Rp.Is.le r30 (Le.t (Le.q (l := 11 * k + 3 * l + 9 * m + 41) (by omega)))
 refine w_c rfl ?_
 replace r25 := r25.mono (hh5.trans hh6)
 refine zY (vs := [_, _]) call19 e2z (fun w hs => rV hs r25 r30 (by omega)) rfl ?_
 intro v31 h7 hh7 r31
 change (rpT (rpQ (k + (11 * k + 3 * l + 9 * m + 41) + 1))).Is h7 v31 (T3.mk (p.x + ((if ((hgt s p) - (hgt s q)) = 0 then 0 else (hgt s p) / ((hgt s p) - (hgt s q))) * (q.x - p.x))) (p.y + ((if ((hgt s p) - (hgt s q)) = 0 then 0 else (hgt s p) / ((hgt s p) - (hgt s q))) * (q.y - p.y))) (p.z + ((if ((hgt s p) - (hgt s q)) = 0 then 0 else (hgt s p) / ((hgt s p) - (hgt s q))) * (q.z - p.z)))) at r31
 replace r31 := Rp.Is.le r31 (Le.t (Le.q (l := 12 * k + 3 * l + 9 * m + 42) (by omega)))
 replace rb6 := rb6.mono ((((((hh1.trans hh2).trans hh3).trans hh4).trans hh5).trans hh6).trans hh7)
 refine xY (A := [_, _, _]) (F := fun c_ => (rpT (rpQ (12 * k + 3 * l + 9 * m + 50))).R h7 c_ (T3.mk (p.x + ((if ((hgt s p) - (hgt s q)) = 0 then 0 else (hgt s p) / ((hgt s p) - (hgt s q))) * (q.x - p.x))) (p.y + ((if ((hgt s p) - (hgt s q)) = 0 then 0 else (hgt s p) / ((hgt s p) - (hgt s q))) * (q.y - p.y))) (p.z + ((if ((hgt s p) - (hgt s q)) = 0 then 0 else (hgt s p) / ((hgt s p) - (hgt s q))) * (q.z - p.z))))) rfl (yG sizeOf32 (Pc.here _) rfl rfl rfl rb6 (r31.le (Le.t (Le.q (l := 12 * k + 3 * l + 9 * m + 50) (by omega)))) rfl) ?_
 intro cs_43 rb_44
 refine xA (zJ (e' := [(6, _)]) ⟨rfl, trivial⟩ (zB (zQ (uG (gJ (t := 6) yZ (.tail _ (.tail _ (.tail _ (.head _)))) rfl rb_44) ?_))))
 intro w_45 hvw_45 rr_46
 refine xW (fun E S => yQ rfl hvw_45 E S) ?_
 exact rr_46
end Go.Proofs.YtghhjjmjpeehdaaGreat
namespace Go.Proofs.YtghhjjmjpeehdaaGreat
open Bk Go Tryz
set_option linter.unusedVariables false
set_option linter.unusedSimpArgs false
set_option maxRecDepth 10000
set_option maxHeartbeats 1000000 in
theorem s9 {w0 : World} {h0 : Mem}  (hs : MLe h0 (mem w0)) {k n m : Nat} {vl : Value} {l : (List (T3 Rat))} (rl : (rpS (rpT (rpQ k))).Is h0 vl l) {vs : Value} {s : ((T3 Rat) × Rat)} (rs : (rpP (rpT (rpQ n)) (rpQ m)).Is h0 vs s) (hcd0 : k ≤ 50000000) (hcd1 : m ≤ 1000000) (hcd2 : n ≤ 1000000) (hcd3 : l.length ≤ 100000)  :
    Calls Tryz.prog 47 #[vl, vs] w0 (Ret w0 h0 (fun h r => ∃ u0 u1, r = .tuple #[u0, u1] ∧ (rpS (rpT (rpQ (12 * k + 3 * m + 9 * n + 62)))).Is h u0 (tB s l) ∧ (rpS (rpT (rpQ (12 * k + 3 * m + 9 * n + 62)))).Is h u1 (tA s l))) := by
 refine zP (n := 110) (e := [(0, vl), (1, vs)]) (vs := [vl, vs]) func47 rfl rfl (bL rfl) hs e2z (zC (zA (zK (yW (ρ := (rpP (rpT (rpQ n)) (rpQ m))) rfl rs) rfl rfl rfl ?_)))
 intro v3 q3 hq3
 obtain ⟨b3, cs3, rfl, rfl, rb3⟩ := hq3
 refine asg rfl rfl (asg rfl rfl (zD (zB (zC (zA (mv rfl rfl (gv (vE underlying27 rfl rl) rfl (zK (dT (ρ := rpI) (X := (0 : Int)) (by' := 8) l.length underlying22 info3 rfl rfl rfl rfl iS rfl rfl (by rfl) (by rfl) (by omega) (by omega)) rfl rfl rfl ?_))))))))
 intro v17 q17 hq17
 obtain ⟨cs17, rfl, rl17⟩ := hq17
 refine asg rfl rfl (zD (zB (zC (zA (asg (v := vI (0)) rfl rfl (asg (v := vI (0)) rfl rfl (zD (zB (zC (zC (zA (mv rfl rfl (gv (vE underlying27 rfl rl) rfl ?_)))))))))))))
 refine mv (v := vI (0)) rfl rfl (zD (zB (zS ?_)))
 refine wT (ι := Nat × List Int × Int × Int × Value × List Value × Mem) (fun (i, SD, lo, hi, s6_1, cs_2, ma) => MLe h0 ma ∧ (RL rpI ma cs_2 SD ∧ ((i ≤ l.length ∧ SD.length = l.length) ∧ ∀ u, u < i → SD.getD u (0 : Int) = sdZ s (gp l u)) ∧ ((lo < 0 ↔ qN s l i) ∧ lo ≤ 0) ∧ ((0 < hi ↔ qG s l i) ∧ 0 ≤ hi) ∧ -1 ≤ lo ∧ hi ≤ 1)) (fun (i, SD, lo, hi, s6_1, cs_2, ma) => [(0, vl), (3, vP b3 0), (4, .slice none 0 0), (5, .slice none 0 0), (6, s6_1), (7, vI lo), (8, vI hi), (18, vl), (19, vI (↑(l).length : Int)), (20, vI ↑i)]) (fun (i, SD, lo, hi, s6_1, cs_2, ma) => [.gs 3 1 s6_1 SD.length cs_2, .var b3 34 cs3]) (fun (i, SD, lo, hi, s6_1, cs_2, ma) => ma) (fun (i, SD, lo, hi, s6_1, cs_2, ma) => l.length - i) (0, (List.replicate l.length (0 : Int)), (0 : Int), (0 : Int), v17, cs17, h0) ?_ ⟨rfl, rfl, rfl, rfl, rfl, rfl, rfl, rfl, rfl, rfl, trivial⟩ rfl rfl ?_
 ·
  refine ⟨MLe.refl _, ?_⟩
  refine ⟨rl17, ?_⟩
  exact ⟨⟨⟨by omega, List.length_replicate⟩, fun u h => by omega⟩, ⟨⟨fun h => by omega, fun h => h.elim⟩, by omega⟩, ⟨⟨fun h => by omega, fun h => h.elim⟩, by omega⟩, by omega, by omega⟩
 intro x hx
 obtain ⟨i, SD, lo, hi, s6_1, cs_2, ma⟩ := x
 obtain ⟨hmma, hinv⟩ := hx
 show GC _ _ _ _ _ _ [(0, vl), (3, vP b3 0), (4, .slice none 0 0), (5, .slice none 0 0), (6, s6_1), (7, vI lo), (8, vI hi), (18, vl), (19, vI (↑(l).length : Int)), (20, vI ↑i)] [.gs 3 1 s6_1 SD.length cs_2, .var b3 34 cs3] ma
 obtain ⟨rl_3, hinv⟩ := hinv
 obtain ⟨⟨⟨hi1, hi2⟩, hi3⟩, hlo, hhi, hl1, hh1⟩ := hinv
 have hr0 := kD s (gp l i)
 refine zC (zA (gv (zW rfl rfl) rfl (zD (zB (zC ?_)))))
 refine zO rfl (fun hc21 => ?_) (fun hc21 => ?_)
 ·
  refine zL (zB (zC (zS (zC (zA (mv rfl rfl ?_))))))
  replace rl := rl.mono hmma
  refine wF (F := fun v_ => AtP (rpT (rpQ k)) ma v_ (l.getD i (T3.mk (0 : Rat) 0 0))) (vN (T3.mk (0 : Rat) 0 0) i underlying27 yZ rfl rfl rl rfl (by omega) p9N) vW rfl ?_
  intro v23 r23
  refine wF (F := fun v_ => (rpT (rpQ k)).Is ma v_ (l.getD i (T3.mk (0 : Rat) 0 0))) (wP yZ rfl r23) vW rfl ?_
  intro v24 r24
  refine zK (yY (ρ := (rpT (rpQ (k + 1)))) (X := (T3.mk (0 : Rat) 0 0)) yD rfl rfl (wH (wA (by omega)))) rfl rfl rfl ?_
  intro v10 q10 hq10
  obtain ⟨b10, cs10, rfl, rfl, rb10⟩ := hq10
  refine asg rfl rfl (wB (A := []) (F := fun c_ => (rpT (rpQ (k + 1))).R ma c_ (l.getD i (T3.mk (0 : Rat) 0 0))) (yG sizeOf32 (Pc.here _) rfl rfl rfl rb10 (r24.le (Le.t (Le.q (l := k + 1) (by omega)))) rfl) ?_)
  intro cs_4 rb_5
  refine zD (zB (zC (zA (mv rfl rfl (mv rfl rfl ?_)))))
  replace rb3 := rb3.mono hmma
  refine wF (F := fun v_ => (rpP (rpT (rpQ n)) (rpQ m)).Is ma v_ s) (zE jM (Pc.here _) rfl rfl rb3 rfl) (yF (.tail _ (.tail _ (.head _)))) rfl ?_
  intro v27 r27
  refine wF (F := fun v_ => (rpT (rpQ (k + 1))).Is ma v_ (l.getD i (T3.mk (0 : Rat) 0 0))) (zE yZ (Pc.here _) rfl rfl rb_5 rfl) (yF (.head _)) rfl ?_
  intro v28 r28
  refine zM (vs := [_, _]) rfl rfl rfl rfl call64 e2z (fun w hs => dS hs r27 r28 (by omega) (by omega) (by omega)) ?_
  intro v29 h1 hh1 r29
  obtain rfl : v29 = vI (sdZ s (l.getD i (T3.mk (0 : Rat) 0 0))) := r29
  have hsd29 := kD s (l.getD i (T3.mk (0 : Rat) 0 0))
  refine gv ((uQ i (.tail _ (.head _)) underlying22 sizeOf3 rfl rfl rfl (by first | omega | (simp only [lAz, lC, lN, lR, lS]; omega)) p1N).cv (show _ = xX 1 s6_1 ((i * 1 + 0)) from congrArg (xX 1 s6_1) (by rfl))) rfl ?_
  replace rl_3 := rl_3.mono hh1
  refine gl_updos (A := [_]) (F := fun c_ => RL rpI h1 c_ (SD.set i (sdZ s (l.getD i (T3.mk (0 : Rat) 0 0))))) (upd_os sizeOf3 (Pc.arr (Pc.here _) (0 : Int) i (by first | omega | (simp only [lAz, lC, lN, lR, lS]; omega))) rfl p1N rfl rfl rl_3 (sZ (by omega) (by omega)) rfl) ?_
  intro cs_6 rl_7
  refine zD (zJ (e' := [(0, _), (3, _), (4, _), (5, _), (6, _), (7, _), (8, _), (18, _), (19, _), (20, _), (9, _)]) e11 (zB ?_))
  refine yI 14 _ [] [(0, .q), (1, .q), (2, .q), (3, .q), (4, .q), (5, .q), (6, .q), (7, .q), (8, .q), (9, .q), (10, .q), (11, .q), (12, .q), (13, .q)] xI nX (gK [0, 0, 0, 6, 8, 17, 0, 0, 0, 384, 512, 1088, 63, 8191] [16383, 16383, 16383, 16377, 16375, 16366, 16383, 16383, 16383, 15999, 15871, 15295, 16350, 14271] (by kernel_rfl)) nX (fun r hr => hr) (w_q rfl (fun h' L' hh hR => zF rfl) rfl (w_q rfl (fun h' L' hh hR => zF rfl) rfl (w_q rfl (fun h' L' hh hR => zF rfl) rfl (w_q rfl (fun h' L' hh hR => (uQ i (hR _ (.tail _ (.head _))) underlying22 sizeOf3 rfl rfl rfl (by first | omega | (simp only [lAz, lC, lN, lR, lS]; omega)) p1N).cv (show _ = xX 1 s6_1 ((i * 1 + 0)) from congrArg (xX 1 s6_1) (by rfl))) rfl (yP (F := fun v_ => rpI.Is h1 v_ ((SD.set i (sdZ s (l.getD i (T3.mk (0 : Rat) 0 0)))).getD i (0 : Int))) rfl (qR ty3 (Pc.arr (Pc.here _) (0 : Int) i (by first | omega | (simp only [lAz, lC, lN, lR, lS]; omega))) rfl p1N rfl rl_7 rfl) (yF (.tail _ (.head _))) rfl ?_)))))
  intro v35 r35
  obtain ⟨rfl, hl35, hu35⟩ := aC r35
  refine w_q rfl (fun h' L' hh hR => ov_min_i rfl rfl) rfl (w_q rfl (fun h' L' hh hR => zF rfl) rfl (w_q rfl (fun h' L' hh hR => zF rfl) rfl (w_q rfl (fun h' L' hh hR => zF rfl) rfl (w_q rfl (fun h' L' hh hR => (uQ i (hR _ (.tail _ (.head _))) underlying22 sizeOf3 rfl rfl rfl (by first | omega | (simp only [lAz, lC, lN, lR, lS]; omega)) p1N).cv (show _ = xX 1 s6_1 ((i * 1 + 0)) from congrArg (xX 1 s6_1) (by rfl))) rfl (yP (F := fun v_ => rpI.Is h1 v_ ((SD.set i (sdZ s (l.getD i (T3.mk (0 : Rat) 0 0)))).getD i (0 : Int))) rfl (qR ty3 (Pc.arr (Pc.here _) (0 : Int) i (by first | omega | (simp only [lAz, lC, lN, lR, lS]; omega))) rfl p1N rfl rl_7 rfl) (yF (.tail _ (.head _))) rfl ?_)))))
  intro v41 r41
  obtain ⟨rfl, hl41, hu41⟩ := aC r41
  refine w_q rfl (fun h' L' hh hR => ov_max_i rfl rfl) rfl (w_q rfl (fun h' L' hh hR => zZ rfl) rfl (w_q rfl (fun h' L' hh hR => zZ rfl) rfl (xA (xB (zJ (e' := [(0, _), (3, _), (4, _), (5, _), (6, _), (18, _), (19, _), (20, _), (7, _), (8, _)]) ⟨rfl, rfl, rfl, rfl, rfl, rfl, rfl, rfl, rfl, rfl, trivial⟩ (zB (zA (gv (zR (q := 1) rfl rfl (by omega) (by omega)) rfl (mv rfl rfl (zD (xF (A := []) ?_)))))))))))
  refine yR ((i + 1), (SD.set i (sdZ s (l.getD i (T3.mk (0 : Rat) 0 0)))), (min lo (sdZ s (gp l i))), (max hi (sdZ s (gp l i))), s6_1, cs_6, h1) ?_ ?_ ⟨rfl, rfl, rfl, rfl, rfl, ?_, ?_, rfl, rfl, rfl, trivial⟩ rfl rfl
  ·
   refine ⟨(hmma.trans hh1), ?_⟩
   refine ⟨rl_7, ?_⟩
   exact ⟨⟨⟨by omega, by rw [lS]; exact hi2⟩, g4 (f := fun u => sdZ s (gp l u)) (by omega) hi3 rfl⟩, mn_next hlo.1 hlo.2, mx_next hhi.1 hhi.2, by omega, by omega⟩
  ·
   dsimp only
   omega
  · exact congrArg (fun z => some (vI z)) (by rw [set_at (by omega)]; rfl)
  · exact congrArg (fun z => some (vI z)) (by rw [set_at (by omega)]; rfl)
 have ei : i = l.length := by omega
 have hS : ∀ u, u < l.length → SD.getD u (0 : Int) = sdZ s (gp l u) := fun u hu => hi3 u (by omega)
 rw [ei] at hlo hhi
 refine xM (yE (yE (xL (zB (zC (zS (zC (zA (mv rfl rfl (gv (wG (q := 0) rfl rfl) rfl (asg rfl rfl (zD (zB ?_)))))))))))))
 refine zO rfl (fun hc44 => ?_) (fun hc44 => ?_)
 ·
  refine wM (e' := [(0, _)]) ⟨rfl, trivial⟩ (zC (zA (mv rfl rfl (asg rfl rfl (asg rfl rfl (zD (zB (zQ (wY (zX (vJ rfl rfl rfl ?_)))))))))))
  replace rl := rl.mono hmma
  refine ⟨_, _, ?_, (Rp.Is.cast (Rp.Is.le rl (Le.s (Le.t (Le.q (l := 12 * k + 3 * m + 9 * n + 62) (by omega))))) (by exact (tZ (by rw [← hhi.1]; omega)).1.symm)), (Rp.Is.cast (bD _) (by exact (tZ (by rw [← hhi.1]; omega)).2.symm))⟩
  rfl
 refine zC (zA (mv rfl rfl (gv (wG (q := 0) rfl rfl) rfl (asg rfl rfl (zD (zJ (e' := [(0, _), (3, _), (4, _), (5, _), (6, _), (48, _)]) e6 (zB ?_)))))))
 refine zO rfl (fun hc48 => ?_) (fun hc48 => ?_)
 ·
  refine zC (zA (mv rfl rfl (asg rfl rfl (asg rfl rfl (zD (zB (zQ (wY (zX (vJ rfl rfl rfl ?_))))))))))
  replace rl := rl.mono hmma
  refine ⟨_, _, ?_, (Rp.Is.cast (bD _) (by exact (rY (by rw [← hhi.1]; omega) (by rw [← hlo.1]; omega)).1.symm)), (Rp.Is.cast (Rp.Is.le rl (Le.s (Le.t (Le.q (l := 12 * k + 3 * m + 9 * n + 62) (by omega))))) (by exact (rY (by rw [← hhi.1]; omega) (by rw [← hlo.1]; omega)).2.symm))⟩
  rfl
 refine zL (xB (zB (zC (zC (zA (mv rfl rfl ?_))))))
 replace rl := rl.mono hmma
 refine gv (vE underlying27 rfl rl) rfl (mv (v := vI (0)) rfl rfl (zD (zB (zS (aA 32 9 ?_)))))
 have rl_8 : RL (rpT (rpQ (12 * k + 3 * m + 9 * n + 62))) ma [] ([] : List (T3 Rat)) := RL.nil
 refine aA 32 9 ?_
 have rl_9 : RL (rpT (rpQ (12 * k + 3 * m + 9 * n + 62))) ma [] ([] : List (T3 Rat)) := RL.nil
 refine wT (ι := Nat × List (T3 Rat) × List (T3 Rat) × Value × List Value × Value × List Value × Mem) (fun (i, B, F, s4_10, cs_11, s5_13, cs_14, mb) => MLe ma mb ∧ (RL (rpT (rpQ (12 * k + 3 * m + 9 * n + 62))) mb cs_11 B ∧ RL (rpT (rpQ (12 * k + 3 * m + 9 * n + 62))) mb cs_14 F ∧ (i ≤ l.length ∧ B = bN s l i) ∧ F = bI s l i)) (fun (i, B, F, s4_10, cs_11, s5_13, cs_14, mb) => [(0, vl), (3, vP b3 0), (4, s4_10), (5, s5_13), (6, s6_1), (52, vl), (53, vI (↑(l).length : Int)), (54, vI ↑i)]) (fun (i, B, F, s4_10, cs_11, s5_13, cs_14, mb) => [.gs 32 9 s5_13 F.length cs_14, .gs 32 9 s4_10 B.length cs_11, .gs 3 1 s6_1 SD.length cs_2, .var b3 34 cs3]) (fun (i, B, F, s4_10, cs_11, s5_13, cs_14, mb) => mb) (fun (i, B, F, s4_10, cs_11, s5_13, cs_14, mb) => l.length - i) (0, [], [], (.slice none 0 0), [], (.slice none 0 0), [], ma) ?_ e8 rfl rfl ?_
 ·
  refine ⟨MLe.refl _, ?_⟩
  refine ⟨rl_8, rl_9, ?_⟩
  exact ⟨⟨by omega, rfl⟩, rfl⟩
 intro x hx
 obtain ⟨i, B, F, s4_10, cs_11, s5_13, cs_14, mb⟩ := x
 obtain ⟨hmmb, hinv⟩ := hx
 show GC _ _ _ _ _ _ [(0, vl), (3, vP b3 0), (4, s4_10), (5, s5_13), (6, s6_1), (52, vl), (53, vI (↑(l).length : Int)), (54, vI ↑i)] [.gs 32 9 s5_13 F.length cs_14, .gs 32 9 s4_10 B.length cs_11, .gs 3 1 s6_1 SD.length cs_2, .var b3 34 cs3] mb
 obtain ⟨rl_12, rl_15, hinv⟩ := hinv
 obtain ⟨⟨hi1, hB⟩, hF⟩ := hinv
 have hbl := j2 s l i
 have hfl := u6 s l i
 have hBl : B.length ≤ 2 * i := by rw [hB]; exact hbl
 have hFl : F.length ≤ 2 * i := by rw [hF]; exact hfl
 refine zC (zA (gv (zW rfl rfl) rfl (zD (zB (zC ?_)))))
 refine zO rfl (fun hc55 => ?_) (fun hc55 => ?_)
 ·
  have hd1 := hS i (by omega)
  have hd2 := hS ((i + 1) % l.length) (Nat.mod_lt _ (by omega))
  have hr1 := kD s (gp l i)
  have hr2 := kD s (gp l ((i + 1) % l.length))
  refine zL (zB (zC (zS (zC (zA (mv rfl rfl ?_))))))
  replace rl := rl.mono hmmb
  refine wF (F := fun v_ => AtP (rpT (rpQ k)) mb v_ (l.getD i (T3.mk (0 : Rat) 0 0))) (vN (T3.mk (0 : Rat) 0 0) i underlying27 yZ rfl rfl rl rfl (by omega) p9N) vW rfl ?_
  intro v57 r57
  refine wF (F := fun v_ => (rpT (rpQ k)).Is mb v_ (l.getD i (T3.mk (0 : Rat) 0 0))) (wP yZ rfl r57) vW rfl ?_
  intro v58 r58
  refine zK (yY (ρ := (rpT (rpQ (k + 1)))) (X := (T3.mk (0 : Rat) 0 0)) yD rfl rfl (wH (wA (by omega)))) rfl rfl rfl ?_
  intro v12 q12 hq12
  obtain ⟨b12, cs12, rfl, rfl, rb12⟩ := hq12
  refine asg rfl rfl (wB (A := []) (F := fun c_ => (rpT (rpQ (k + 1))).R mb c_ (l.getD i (T3.mk (0 : Rat) 0 0))) (yG sizeOf32 (Pc.here _) rfl rfl rfl rb12 (r58.le (Le.t (Le.q (l := k + 1) (by omega)))) rfl) ?_)
  intro cs_16 rb_17
  refine zD (zB (zC (zA (mv rfl rfl (gv (zR (q := 1) rfl rfl (by omega) (by omega)) rfl (mv rfl rfl (gv (vE underlying27 rfl rl) rfl (gv (uZ rfl rfl (by omega) (by omega)) rfl (asg rfl rfl (zD (zB (zC (zC ?_)))))))))))))
  refine zA (mv rfl rfl (mv rfl rfl (gv ((uQ i (.tail _ (.tail _ (.tail _ (.head _)))) underlying22 sizeOf3 rfl rfl rfl (by first | omega | (simp only [lAz, lC, lN, lR, lS]; omega)) p1N).cv (show _ = xX 1 s6_1 ((i * 1 + 0)) from congrArg (xX 1 s6_1) (by rfl))) rfl ?_)))
  replace rl_3 := rl_3.mono hmmb
  refine wF (F := fun v_ => rpI.Is mb v_ (SD.getD i (0 : Int))) (qR ty3 (Pc.arr (Pc.here _) (0 : Int) i (by first | omega | (simp only [lAz, lC, lN, lR, lS]; omega))) rfl p1N rfl rl_3 rfl) (yF (.tail _ (.tail _ (.tail _ (.head _))))) rfl ?_
  intro v67 r67
  obtain ⟨rfl, hl67, hu67⟩ := aC r67
  refine gv (tJ (q := 0) rfl rfl) rfl (zD (zJ (e' := [(0, _), (3, _), (4, _), (5, _), (6, _), (52, _), (53, _), (54, _), (12, _), (11, _), (13, _), (68, _)]) e12 (zB ?_)))
  refine zO rfl (fun hc68 => ?_) (fun hc68 => ?_)
  ·
   have hp1 : sdZ s (gp l i) ≤ 0 := by rw [← hS i (by omega)]; exact hc68
   refine zA (mv rfl rfl (wF (F := fun v_ => (rpT (rpQ (k + 1))).Is mb v_ (l.getD i (T3.mk (0 : Rat) 0 0))) (zE yZ (Pc.here _) rfl rfl rb_17 rfl) (yF (.head _)) rfl ?_))
   intro v70 r70
   refine zK (xD (ρ := (rpT (rpQ (k + 1)))) (m := 1) (xs := [(l.getD i (T3.mk (0 : Rat) 0 0))]) (ps' := [(0, _)]) underlying27 yD rfl rfl rfl (wH (wA (by omega))) e2z (yX rfl (Pc.arr (Pc.here _) (T3.mk (0 : Rat) 0 0) 0 (by decide)) r70 wD) (show 1 * 9 ≤ 16777216 from by decide) p9N) rfl rfl rfl ?_
   intro v71 q71 hq71
   obtain ⟨cs71, rfl, rl71⟩ := hq71
   refine kJ (A := []) (ρ := (rpT (rpQ (k + 1)))) rl71 ?_
   intro h1 hh1 rs_18
   replace rl_12 := rl_12.mono hh1
   refine jB (A := [_, _]) (yN (ρ := (rpT (rpQ (12 * k + 3 * m + 9 * n + 62)))) (bytes := 168) underlying27 yD rfl rfl rfl rfl p9N rfl rfl rl_12 (rs_18.le (Le.s (Le.t (Le.q (l := 12 * k + 3 * m + 9 * n + 62) (by omega))))) (by first | omega | (simp only [lAz, lC, lN, lR, lS]; omega)) (by first | omega | (simp only [lAz, lC, lN, lR, lS]; omega))) rfl rfl rfl ?_
   intro v72 q72 hq72
   obtain ⟨cs72, rfl, rl72⟩ := hq72
   refine asg rfl rfl (zD (zB (zC (zC (zA (mv rfl rfl (mv rfl rfl (gv ((uQ i (.tail _ (.tail _ (.tail _ (.head _)))) underlying22 sizeOf3 rfl rfl rfl (by first | omega | (simp only [lAz, lC, lN, lR, lS]; omega)) p1N).cv (show _ = xX 1 s6_1 ((i * 1 + 0)) from congrArg (xX 1 s6_1) (by rfl))) rfl ?_))))))))
   replace rl_3 := rl_3.mono hh1
   refine wF (F := fun v_ => rpI.Is h1 v_ (SD.getD i (0 : Int))) (qR ty3 (Pc.arr (Pc.here _) (0 : Int) i (by first | omega | (simp only [lAz, lC, lN, lR, lS]; omega))) rfl p1N rfl rl_3 rfl) (yF (.tail _ (.tail _ (.tail _ (.head _))))) rfl ?_
   intro v76 r76
   obtain ⟨rfl, hl76, hu76⟩ := aC r76
   refine gv (qJ (q := 0) rfl rfl) rfl (zD (zB ?_))
   refine zO rfl (fun hc77 => ?_) (fun hc77 => ?_)
   ·
    have hp2 : 0 ≤ sdZ s (gp l i) := by rw [← hS i (by omega)]; exact hc77
    refine zA (mv rfl rfl ?_)
    replace rb_17 := rb_17.mono hh1
    refine wF (F := fun v_ => (rpT (rpQ (k + 1))).Is h1 v_ (l.getD i (T3.mk (0 : Rat) 0 0))) (zE yZ (Pc.here _) rfl rfl rb_17 rfl) (yF (.head _)) rfl ?_
    intro v79 r79
    refine zK (xD (ρ := (rpT (rpQ (k + 1)))) (m := 1) (xs := [(l.getD i (T3.mk (0 : Rat) 0 0))]) (ps' := [(0, _)]) underlying27 yD rfl rfl rfl (wH (wA (by omega))) e2z (yX rfl (Pc.arr (Pc.here _) (T3.mk (0 : Rat) 0 0) 0 (by decide)) r79 wD) (show 1 * 9 ≤ 16777216 from by decide) p9N) rfl rfl rfl ?_
    intro v80 q80 hq80
    obtain ⟨cs80, rfl, rl80⟩ := hq80
    refine kJ (A := []) (ρ := (rpT (rpQ (k + 1)))) rl80 ?_
    intro h2 hh2 rs_19
    replace rl_15 := rl_15.mono (hh1.trans hh2)
    refine jB (A := [_]) (yN (ρ := (rpT (rpQ (12 * k + 3 * m + 9 * n + 62)))) (bytes := 168) underlying27 yD rfl rfl rfl rfl p9N rfl rfl rl_15 (rs_19.le (Le.s (Le.t (Le.q (l := 12 * k + 3 * m + 9 * n + 62) (by omega))))) (by first | omega | (simp only [lAz, lC, lN, lR, lS]; omega)) (by first | omega | (simp only [lAz, lC, lN, lR, lS]; omega))) rfl rfl rfl ?_
    intro v81 q81 hq81
    obtain ⟨cs81, rfl, rl81⟩ := hq81
    refine asg rfl rfl (zD (zJ (e' := [(0, _), (3, _), (6, _), (52, _), (53, _), (54, _), (12, _), (11, _), (13, _), (4, _), (5, _)]) e11 (zB (zC ?_))))
    refine yI 10 _ [] [(0, .q), (1, .q), (2, .q), (3, .q), (4, .q), (5, .q), (6, .q), (7, .q), (8, .q), (9, .q)] xI nX (by kernel_rfl) nX (fun r hr => hr) (w_q rfl (fun h' L' hh hR => zF rfl) rfl (w_q rfl (fun h' L' hh hR => zF rfl) rfl (w_q rfl (fun h' L' hh hR => (uQ i (hR _ (.tail _ (.tail _ (.tail _ (.head _))))) underlying22 sizeOf3 rfl rfl rfl (by first | omega | (simp only [lAz, lC, lN, lR, lS]; omega)) p1N).cv (show _ = xX 1 s6_1 ((i * 1 + 0)) from congrArg (xX 1 s6_1) (by rfl))) rfl ?_)))
    replace rl_3 := rl_3.mono hh2
    refine yP (F := fun v_ => rpI.Is h2 v_ (SD.getD i (0 : Int))) rfl (qR ty3 (Pc.arr (Pc.here _) (0 : Int) i (by first | omega | (simp only [lAz, lC, lN, lR, lS]; omega))) rfl p1N rfl rl_3 rfl) (yF (.tail _ (.tail _ (.tail _ (.head _))))) rfl ?_
    intro v85 r85
    obtain ⟨rfl, hl85, hu85⟩ := aC r85
    refine w_q rfl (fun h' L' hh hR => zF rfl) rfl (w_q rfl (fun h' L' hh hR => zF rfl) rfl (w_q rfl (fun h' L' hh hR => (uQ ((i + 1) % l.length) (hR _ (.tail _ (.tail _ (.tail _ (.head _))))) underlying22 sizeOf3 rfl rfl (by first | rfl | (push_cast; rfl)) (by rw [hi2]; exact Nat.mod_lt _ (by omega)) p1N).cv (show _ = xX 1 s6_1 ((((i + 1) % l.length) * 1 + 0)) from congrArg (xX 1 s6_1) (by rfl))) rfl (yP (F := fun v_ => rpI.Is h2 v_ (SD.getD ((i + 1) % l.length) (0 : Int))) rfl (qR ty3 (Pc.arr (Pc.here _) (0 : Int) ((i + 1) % l.length) (by rw [hi2]; exact Nat.mod_lt _ (by omega))) rfl p1N rfl rl_3 rfl) (yF (.tail _ (.tail _ (.tail _ (.head _))))) rfl ?_)))
    intro v89 r89
    obtain ⟨rfl, hl89, hu89⟩ := aC r89
    refine w_q rfl (fun h' L' hh hR => jU rfl rfl (by rw [hd1, hd2]; have := qO hr1 hr2; omega) (by rw [hd1, hd2]; have := qO hr1 hr2; omega)) rfl (w_q rfl (fun h' L' hh hR => zW (q := 0) rfl rfl) rfl (xA (zJ (e' := [(0, _), (3, _), (6, _), (52, _), (53, _), (54, _), (12, _), (13, _), (4, _), (5, _), (91, _)]) e11 (zB ?_))))
    refine zO rfl (fun hc91 => ?_) (fun hc91 => ?_)
    ·
     have hx1 : xP s l i := by have h := hc91; rw [hS i (by omega), hS ((i + 1) % l.length) (Nat.mod_lt _ (by omega))] at h; exact h
     refine zC ?_
     refine yI 8 _ [(7, (14, 32, [.bool false, .slice none 0 0, .slice none 0 0, .bool false, .slice none 0 0, .slice none 0 0, .bool false, .slice none 0 0, .slice none 0 0]))] [(0, .q), (1, .q), (2, .q), (3, .q), (4, .q), (5, .q), (6, .c), (7, .a), (8, .t)] xI (jC.cons rfl (uU yD rfl rfl) jC.nil) (by kernel_rfl) (uV rfl rfl jY) (fun r hr => hr) ?_
     replace rb3 := rb3.mono (((hmma.trans hmmb).trans hh1).trans hh2)
     refine yP (F := fun v_ => (rpP (rpT (rpQ n)) (rpQ m)).Is h2 v_ s) rfl (zE jM (Pc.here _) rfl rfl rb3 rfl) (yF (.tail _ (.tail _ (.tail _ (.tail _ (.head _)))))) rfl ?_
     intro v92 r92
     replace rb_17 := rb_17.mono hh2
     refine yP (F := fun v_ => (rpT (rpQ (k + 1))).Is h2 v_ (l.getD i (T3.mk (0 : Rat) 0 0))) rfl (zE yZ (Pc.here _) rfl rfl rb_17 rfl) (yF (.head _)) rfl ?_
     intro v93 r93
     refine w_q rfl (fun h' L' hh hR => zF rfl) rfl (w_q rfl (fun h' L' hh hR => zF rfl) rfl ?_)
     replace rl := rl.mono (hh1.trans hh2)
     refine yP (F := fun v_ => AtP (rpT (rpQ k)) h2 v_ (l.getD ((i + 1) % l.length) (T3.mk (0 : Rat) 0 0))) rfl (vN (T3.mk (0 : Rat) 0 0) ((i + 1) % l.length) underlying27 yZ rfl rfl rl (by first | rfl | (push_cast; rfl)) (by exact Nat.mod_lt _ (by omega)) p9N) vW rfl ?_
     intro v96 r96
     refine yP (F := fun v_ => (rpT (rpQ k)).Is h2 v_ (l.getD ((i + 1) % l.length) (T3.mk (0 : Rat) 0 0))) rfl (wP yZ rfl r96) vW rfl ?_
     intro v97 r97
     refine w_c rfl ?_
     refine zY (vs := [_, _, _]) call84 e3z (fun w hs => rB hs r92 r93 (r97.le (Le.t (Le.q (l := k + 1) (by omega)))) (by omega) (by omega) (by omega)) rfl ?_
     intro v98 h3 hh3 r98
     change (rpT (rpQ (12 * (k + 1) + 3 * m + 9 * n + 50))).Is h3 v98 (btw s (l.getD i (T3.mk (0 : Rat) 0 0)) (l.getD ((i + 1) % l.length) (T3.mk (0 : Rat) 0 0))) at r98
     replace r98 := Rp.Is.le r98 (Le.t (Le.q (l := 12 * k + 3 * m + 9 * n + 62) (by omega)))
     refine w_a rfl (fun b14 => ?_)
     have rb14 : (rpT (rpQ 1)).R h3 [.bool false, .slice none 0 0, .slice none 0 0, .bool false, .slice none 0 0, .slice none 0 0, .bool false, .slice none 0 0, .slice none 0 0] (T3.mk (0 : Rat) 0 0) := (wH (wA (by decide)))
     have rw_20 := (Le.t (Le.q (l := 12 * k + 3 * m + 9 * n + 62) (by omega))).R rb14
     refine xY (A := []) (F := fun c_ => (rpT (rpQ (12 * k + 3 * m + 9 * n + 62))).R h3 c_ (btw s (l.getD i (T3.mk (0 : Rat) 0 0)) (l.getD ((i + 1) % l.length) (T3.mk (0 : Rat) 0 0)))) rfl (yG sizeOf32 (Pc.here _) rfl rfl rfl rw_20 r98 rfl) ?_
     intro cs_21 rb_22
     refine xA (zJ (e' := [(0, _), (3, _), (6, _), (52, _), (53, _), (54, _), (4, _), (5, _), (14, _)]) e9 (zB ?_))
     refine yI 10 [.var b14 32 cs_21, .var b12 32 cs_16, .gs 3 1 s6_1 SD.length cs_2, .var b3 34 cs3] [] [(0, .q), (1, .q), (4, .q), (5, .q), (2, .d 3 6), (7, .c), (8, .q), (9, .q)] xI nX (by kernel_rfl) nX (by intro r hr; simp only [List.mem_cons, List.mem_append, List.not_mem_nil, or_false] at hr ⊢ <;> grind) (w_q rfl (fun h' L' hh hR => zF rfl) rfl (yP (F := fun v_ => (rpT (rpQ (12 * k + 3 * m + 9 * n + 62))).Is h3 v_ (btw s (l.getD i (T3.mk (0 : Rat) 0 0)) (l.getD ((i + 1) % l.length) (T3.mk (0 : Rat) 0 0)))) rfl (zE yZ (Pc.here _) rfl rfl rb_22 rfl) (yF (.head _)) rfl ?_))
     intro v100 r100
     refine w_q rfl (fun h' L' hh hR => zF rfl) rfl (yP (F := fun v_ => (rpT (rpQ (12 * k + 3 * m + 9 * n + 62))).Is h3 v_ (btw s (l.getD i (T3.mk (0 : Rat) 0 0)) (l.getD ((i + 1) % l.length) (T3.mk (0 : Rat) 0 0)))) rfl (zE yZ (Pc.here _) rfl rfl rb_22 rfl) (yF (.head _)) rfl ?_)
     intro v104 r104
     refine w_d rfl rfl rfl ?_ ?_
     ·
      refine qD (fun X => xD (ρ := (rpT (rpQ (12 * k + 3 * m + 9 * n + 62)))) (m := 1) (xs := [btw s (l.getD i (T3.mk (0 : Rat) 0 0)) (l.getD ((i + 1) % l.length) (T3.mk (0 : Rat) 0 0))]) (ps' := [(0, _)]) underlying27 yD rfl rfl rfl (wH (wA (by omega))) e2z (yX rfl (Pc.arr (Pc.here _) (T3.mk (0 : Rat) 0 0) 0 (by decide)) r100 wD) (show 1 * 9 ≤ 16777216 from by decide) p9N) rfl ?_
      intro v101 q101 hq101
      obtain ⟨cs101, rfl, rl101⟩ := hq101
      refine ⟨?_, ?_⟩
      ·
       refine xR (A := []) (ρ := (rpT (rpQ (12 * k + 3 * m + 9 * n + 62)))) rl101 (xS (by first | (simp; done) | grind)) ?_
       intro h4 hh4 rs_23
       replace rl72 := rl72.mono ((hh2.trans hh3).trans hh4)
       refine uK (A := [_, _, _]) (fun X => yN (ρ := (rpT (rpQ (12 * k + 3 * m + 9 * n + 62)))) (bytes := 168) underlying27 yD rfl rfl rfl rfl p9N rfl rfl rl72 rs_23 (by first | omega | (simp only [lAz, lC, lN, lR, lS]; omega)) (by first | omega | (simp only [lAz, lC, lN, lR, lS]; omega))) rfl (xE (by first | (simp; done) | grind)) ?_
       intro v102 q102 hq102
       obtain ⟨cs102, rfl, rl102⟩ := hq102
       replace r104 := r104.mono hh4
       refine qD (fun X => xD (ρ := (rpT (rpQ (12 * k + 3 * m + 9 * n + 62)))) (m := 1) (xs := [btw s (l.getD i (T3.mk (0 : Rat) 0 0)) (l.getD ((i + 1) % l.length) (T3.mk (0 : Rat) 0 0))]) (ps' := [(0, _)]) underlying27 yD rfl rfl rfl (wH (wA (by omega))) e2z (yX rfl (Pc.arr (Pc.here _) (T3.mk (0 : Rat) 0 0) 0 (by decide)) r104 wD) (show 1 * 9 ≤ 16777216 from by decide) p9N) rfl ?_
       intro v105 q105 hq105
       obtain ⟨cs105, rfl, rl105⟩ := hq105
       refine w_c rfl (xR (A := []) (ρ := (rpT (rpQ (12 * k + 3 * m + 9 * n + 62)))) rl105 (xS (by first | (simp; done) | grind)) ?_)
       intro h5 hh5 rs_24
       replace rl81 := rl81.mono ((hh3.trans hh4).trans hh5)
       refine uK (A := [_, _]) (fun X => yN (ρ := (rpT (rpQ (12 * k + 3 * m + 9 * n + 62)))) (bytes := 168) underlying27 yD rfl rfl rfl rfl p9N rfl rfl rl81 rs_24 (by first | omega | (simp only [lAz, lC, lN, lR, lS]; omega)) (by first | omega | (simp only [lAz, lC, lN, lR, lS]; omega))) rfl (xE (by first | (simp; done) | grind)) ?_
       intro v106 q106 hq106
       obtain ⟨cs106, rfl, rl106⟩ := hq106
       refine w_q rfl (fun h' L' hh hR => zZ rfl) rfl (w_q rfl (fun h' L' hh hR => zZ rfl) rfl (xA (xB (zB (zA (gv (zR (q := 1) rfl rfl (by omega) (by omega)) rfl (mv rfl rfl (zD (xF (A := []) (xF (A := []) ?_))))))))))
       refine yR ((i + 1), ((B ++ [(l.getD i (T3.mk (0 : Rat) 0 0))]) ++ [btw s (l.getD i (T3.mk (0 : Rat) 0 0)) (l.getD ((i + 1) % l.length) (T3.mk (0 : Rat) 0 0))]), ((F ++ [(l.getD i (T3.mk (0 : Rat) 0 0))]) ++ [btw s (l.getD i (T3.mk (0 : Rat) 0 0)) (l.getD ((i + 1) % l.length) (T3.mk (0 : Rat) 0 0))]), v102, cs102, v106, cs106, h5) ?_ ?_ e8 rfl rfl
       ·
        refine ⟨(((((hmmb.trans hh1).trans hh2).trans hh3).trans hh4).trans hh5), ?_⟩
        replace rl102 := rl102.mono hh5
        refine ⟨rl102, rl106, ?_⟩
        exact ⟨⟨by omega, (by first | exact jK hB hp1 hx1 | exact fF hB hp1 hx1 | exact fL hB hp1 hx1 | exact fM hB hp1 hx1)⟩, (by first | exact jJ hF hp2 hx1 | exact fE hF hp2 hx1 | exact fJ hF hp2 hx1 | exact fK hF hp2 hx1)⟩
       dsimp only
       omega
      refine qD (fun X => xD (ρ := (rpT (rpQ (12 * k + 3 * m + 9 * n + 62)))) (m := 1) (xs := [btw s (l.getD i (T3.mk (0 : Rat) 0 0)) (l.getD ((i + 1) % l.length) (T3.mk (0 : Rat) 0 0))]) (ps' := [(0, _)]) underlying27 yD rfl rfl rfl (wH (wA (by omega))) e2z (yX rfl (Pc.arr (Pc.here _) (T3.mk (0 : Rat) 0 0) 0 (by decide)) r104 wD) (show 1 * 9 ≤ 16777216 from by decide) p9N) rfl ?_
      intro v105 q105 hq105
      obtain ⟨cs105, rfl, rl105⟩ := hq105
      refine xR (A := [_]) (ρ := (rpT (rpQ (12 * k + 3 * m + 9 * n + 62)))) rl101 (xS (by first | (simp; done) | grind)) ?_
      intro h4 hh4 rs_25
      replace rl72 := rl72.mono ((hh2.trans hh3).trans hh4)
      refine uK (A := [_, _, _, _]) (fun X => yN (ρ := (rpT (rpQ (12 * k + 3 * m + 9 * n + 62)))) (bytes := 168) underlying27 yD rfl rfl rfl rfl p9N rfl rfl rl72 rs_25 (by first | omega | (simp only [lAz, lC, lN, lR, lS]; omega)) (by first | omega | (simp only [lAz, lC, lN, lR, lS]; omega))) rfl (xE (by first | (simp; done) | grind)) ?_
      intro v102 q102 hq102
      obtain ⟨cs102, rfl, rl102⟩ := hq102
      refine w_c rfl ?_
      replace rl105 := rl105.mono hh4
      refine xR (A := []) (ρ := (rpT (rpQ (12 * k + 3 * m + 9 * n + 62)))) rl105 (xS (by first | (simp; done) | grind)) ?_
      intro h5 hh5 rs_26
      replace rl81 := rl81.mono ((hh3.trans hh4).trans hh5)
      refine uK (A := [_, _]) (fun X => yN (ρ := (rpT (rpQ (12 * k + 3 * m + 9 * n + 62)))) (bytes := 168) underlying27 yD rfl rfl rfl rfl p9N rfl rfl rl81 rs_26 (by first | omega | (simp only [lAz, lC, lN, lR, lS]; omega)) (by first | omega | (simp only [lAz, lC, lN, lR, lS]; omega))) rfl (xE (by first | (simp; done) | grind)) ?_
      intro v106 q106 hq106
      obtain ⟨cs106, rfl, rl106⟩ := hq106
      refine w_q rfl (fun h' L' hh hR => zZ rfl) rfl (w_q rfl (fun h' L' hh hR => zZ rfl) rfl (xA (xB (zB (zA (gv (zR (q := 1) rfl rfl (by omega) (by omega)) rfl (mv rfl rfl (zD (xF (A := []) (xF (A := []) ?_))))))))))
      refine yR ((i + 1), ((B ++ [(l.getD i (T3.mk (0 : Rat) 0 0))]) ++ [btw s (l.getD i (T3.mk (0 : Rat) 0 0)) (l.getD ((i + 1) % l.length) (T3.mk (0 : Rat) 0 0))]), ((F ++ [(l.getD i (T3.mk (0 : Rat) 0 0))]) ++ [btw s (l.getD i (T3.mk (0 : Rat) 0 0)) (l.getD ((i + 1) % l.length) (T3.mk (0 : Rat) 0 0))]), v102, cs102, v106, cs106, h5) ?_ ?_ e8 rfl rfl
      ·
       refine ⟨(((((hmmb.trans hh1).trans hh2).trans hh3).trans hh4).trans hh5), ?_⟩
       replace rl102 := rl102.mono hh5
       refine ⟨rl102, rl106, ?_⟩
       exact ⟨⟨by omega, (by first | exact jK hB hp1 hx1 | exact fF hB hp1 hx1 | exact fL hB hp1 hx1 | exact fM hB hp1 hx1)⟩, (by first | exact jJ hF hp2 hx1 | exact fE hF hp2 hx1 | exact fJ hF hp2 hx1 | exact fK hF hp2 hx1)⟩
      dsimp only
      omega
     refine qD (fun X => xD (ρ := (rpT (rpQ (12 * k + 3 * m + 9 * n + 62)))) (m := 1) (xs := [btw s (l.getD i (T3.mk (0 : Rat) 0 0)) (l.getD ((i + 1) % l.length) (T3.mk (0 : Rat) 0 0))]) (ps' := [(0, _)]) underlying27 yD rfl rfl rfl (wH (wA (by omega))) e2z (yX rfl (Pc.arr (Pc.here _) (T3.mk (0 : Rat) 0 0) 0 (by decide)) r104 wD) (show 1 * 9 ≤ 16777216 from by decide) p9N) rfl ?_
     intro v105 q105 hq105
     obtain ⟨cs105, rfl, rl105⟩ := hq105
     refine qD (fun X => xD (ρ := (rpT (rpQ (12 * k + 3 * m + 9 * n + 62)))) (m := 1) (xs := [btw s (l.getD i (T3.mk (0 : Rat) 0 0)) (l.getD ((i + 1) % l.length) (T3.mk (0 : Rat) 0 0))]) (ps' := [(0, _)]) underlying27 yD rfl rfl rfl (wH (wA (by omega))) e2z (yX rfl (Pc.arr (Pc.here _) (T3.mk (0 : Rat) 0 0) 0 (by decide)) r100 wD) (show 1 * 9 ≤ 16777216 from by decide) p9N) rfl ?_
     intro v101 q101 hq101
     obtain ⟨cs101, rfl, rl101⟩ := hq101
     refine xR (A := []) (ρ := (rpT (rpQ (12 * k + 3 * m + 9 * n + 62)))) rl101 (xS (by first | (simp; done) | grind)) ?_
     intro h4 hh4 rs_27
     replace rl72 := rl72.mono ((hh2.trans hh3).trans hh4)
     refine uK (A := [_, _, _, _]) (fun X => yN (ρ := (rpT (rpQ (12 * k + 3 * m + 9 * n + 62)))) (bytes := 168) underlying27 yD rfl rfl rfl rfl p9N rfl rfl rl72 rs_27 (by first | omega | (simp only [lAz, lC, lN, lR, lS]; omega)) (by first | omega | (simp only [lAz, lC, lN, lR, lS]; omega))) rfl (xE (by first | (simp; done) | grind)) ?_
     intro v102 q102 hq102
     obtain ⟨cs102, rfl, rl102⟩ := hq102
     refine w_c rfl ?_
     replace rl105 := rl105.mono hh4
     refine xR (A := []) (ρ := (rpT (rpQ (12 * k + 3 * m + 9 * n + 62)))) rl105 (xS (by first | (simp; done) | grind)) ?_
     intro h5 hh5 rs_28
     replace rl81 := rl81.mono ((hh3.trans hh4).trans hh5)
     refine uK (A := [_, _]) (fun X => yN (ρ := (rpT (rpQ (12 * k + 3 * m + 9 * n + 62)))) (bytes := 168) underlying27 yD rfl rfl rfl rfl p9N rfl rfl rl81 rs_28 (by first | omega | (simp only [lAz, lC, lN, lR, lS]; omega)) (by first | omega | (simp only [lAz, lC, lN, lR, lS]; omega))) rfl (xE (by first | (simp; done) | grind)) ?_
     intro v106 q106 hq106
     obtain ⟨cs106, rfl, rl106⟩ := hq106
     refine w_q rfl (fun h' L' hh hR => zZ rfl) rfl (w_q rfl (fun h' L' hh hR => zZ rfl) rfl (xA (xB (zB (zA (gv (zR (q := 1) rfl rfl (by omega) (by omega)) rfl (mv rfl rfl (zD (xF (A := []) (xF (A := []) ?_))))))))))
     refine yR ((i + 1), ((B ++ [(l.getD i (T3.mk (0 : Rat) 0 0))]) ++ [btw s (l.getD i (T3.mk (0 : Rat) 0 0)) (l.getD ((i + 1) % l.length) (T3.mk (0 : Rat) 0 0))]), ((F ++ [(l.getD i (T3.mk (0 : Rat) 0 0))]) ++ [btw s (l.getD i (T3.mk (0 : Rat) 0 0)) (l.getD ((i + 1) % l.length) (T3.mk (0 : Rat) 0 0))]), v102, cs102, v106, cs106, h5) ?_ ?_ e8 rfl rfl
     ·
      refine ⟨(((((hmmb.trans hh1).trans hh2).trans hh3).trans hh4).trans hh5), ?_⟩
      replace rl102 := rl102.mono hh5
      refine ⟨rl102, rl106, ?_⟩
      exact ⟨⟨by omega, (by first | exact jK hB hp1 hx1 | exact fF hB hp1 hx1 | exact fL hB hp1 hx1 | exact fM hB hp1 hx1)⟩, (by first | exact jJ hF hp2 hx1 | exact fE hF hp2 hx1 | exact fJ hF hp2 hx1 | exact fK hF hp2 hx1)⟩
     dsimp only
     omega
    have hx1 : ¬ xP s l i := by have h := hc91; rw [hS i (by omega), hS ((i + 1) % l.length) (Nat.mod_lt _ (by omega))] at h; exact h
    refine zL (xB (zB (zA (gv (zR (q := 1) rfl rfl (by omega) (by omega)) rfl (mv rfl rfl (zD (xF (A := []) ?_)))))))
    refine yR ((i + 1), (B ++ [(l.getD i (T3.mk (0 : Rat) 0 0))]), (F ++ [(l.getD i (T3.mk (0 : Rat) 0 0))]), v72, cs72, v81, cs81, h2) ?_ ?_ e8 rfl rfl
    ·
     refine ⟨((hmmb.trans hh1).trans hh2), ?_⟩
     replace rl72 := rl72.mono hh2
     refine ⟨rl72, rl81, ?_⟩
     exact ⟨⟨by omega, (by first | exact jK hB hp1 hx1 | exact fF hB hp1 hx1 | exact fL hB hp1 hx1 | exact fM hB hp1 hx1)⟩, (by first | exact jJ hF hp2 hx1 | exact fE hF hp2 hx1 | exact fJ hF hp2 hx1 | exact fK hF hp2 hx1)⟩
    dsimp only
    omega
   have hp2 : ¬ 0 ≤ sdZ s (gp l i) := by rw [← hS i (by omega)]; exact hc77
   refine zL (zB (zC ?_))
   refine yI 10 _ [] [(0, .q), (1, .q), (2, .q), (3, .q), (4, .q), (5, .q), (6, .q), (7, .q), (8, .q), (9, .q)] xI nX (by kernel_rfl) nX (fun r hr => hr) (w_q rfl (fun h' L' hh hR => zF rfl) rfl (w_q rfl (fun h' L' hh hR => zF rfl) rfl (w_q rfl (fun h' L' hh hR => (uQ i (hR _ (.tail _ (.tail _ (.tail _ (.head _))))) underlying22 sizeOf3 rfl rfl rfl (by first | omega | (simp only [lAz, lC, lN, lR, lS]; omega)) p1N).cv (show _ = xX 1 s6_1 ((i * 1 + 0)) from congrArg (xX 1 s6_1) (by rfl))) rfl (yP (F := fun v_ => rpI.Is h1 v_ (SD.getD i (0 : Int))) rfl (qR ty3 (Pc.arr (Pc.here _) (0 : Int) i (by first | omega | (simp only [lAz, lC, lN, lR, lS]; omega))) rfl p1N rfl rl_3 rfl) (yF (.tail _ (.tail _ (.tail _ (.head _))))) rfl ?_))))
   intro v85 r85
   obtain ⟨rfl, hl85, hu85⟩ := aC r85
   refine w_q rfl (fun h' L' hh hR => zF rfl) rfl (w_q rfl (fun h' L' hh hR => zF rfl) rfl (w_q rfl (fun h' L' hh hR => (uQ ((i + 1) % l.length) (hR _ (.tail _ (.tail _ (.tail _ (.head _))))) underlying22 sizeOf3 rfl rfl (by first | rfl | (push_cast; rfl)) (by rw [hi2]; exact Nat.mod_lt _ (by omega)) p1N).cv (show _ = xX 1 s6_1 ((((i + 1) % l.length) * 1 + 0)) from congrArg (xX 1 s6_1) (by rfl))) rfl (yP (F := fun v_ => rpI.Is h1 v_ (SD.getD ((i + 1) % l.length) (0 : Int))) rfl (qR ty3 (Pc.arr (Pc.here _) (0 : Int) ((i + 1) % l.length) (by rw [hi2]; exact Nat.mod_lt _ (by omega))) rfl p1N rfl rl_3 rfl) (yF (.tail _ (.tail _ (.tail _ (.head _))))) rfl ?_)))
   intro v89 r89
   obtain ⟨rfl, hl89, hu89⟩ := aC r89
   refine w_q rfl (fun h' L' hh hR => jU rfl rfl (by rw [hd1, hd2]; have := qO hr1 hr2; omega) (by rw [hd1, hd2]; have := qO hr1 hr2; omega)) rfl (w_q rfl (fun h' L' hh hR => zW (q := 0) rfl rfl) rfl (xA (zJ (e' := [(0, _), (3, _), (5, _), (6, _), (52, _), (53, _), (54, _), (12, _), (13, _), (4, _), (91, _)]) e11 (zB ?_))))
   refine zO rfl (fun hc91 => ?_) (fun hc91 => ?_)
   ·
    have hx1 : xP s l i := by have h := hc91; rw [hS i (by omega), hS ((i + 1) % l.length) (Nat.mod_lt _ (by omega))] at h; exact h
    refine zC ?_
    refine yI 8 _ [(7, (14, 32, [.bool false, .slice none 0 0, .slice none 0 0, .bool false, .slice none 0 0, .slice none 0 0, .bool false, .slice none 0 0, .slice none 0 0]))] [(0, .q), (1, .q), (2, .q), (3, .q), (4, .q), (5, .q), (6, .c), (7, .a), (8, .t)] xI (jC.cons rfl (uU yD rfl rfl) jC.nil) (by kernel_rfl) (uV rfl rfl jY) (fun r hr => hr) ?_
    replace rb3 := rb3.mono ((hmma.trans hmmb).trans hh1)
    refine yP (F := fun v_ => (rpP (rpT (rpQ n)) (rpQ m)).Is h1 v_ s) rfl (zE jM (Pc.here _) rfl rfl rb3 rfl) (yF (.tail _ (.tail _ (.tail _ (.tail _ (.head _)))))) rfl ?_
    intro v92 r92
    replace rb_17 := rb_17.mono hh1
    refine yP (F := fun v_ => (rpT (rpQ (k + 1))).Is h1 v_ (l.getD i (T3.mk (0 : Rat) 0 0))) rfl (zE yZ (Pc.here _) rfl rfl rb_17 rfl) (yF (.head _)) rfl ?_
    intro v93 r93
    refine w_q rfl (fun h' L' hh hR => zF rfl) rfl (w_q rfl (fun h' L' hh hR => zF rfl) rfl ?_)
    replace rl := rl.mono hh1
    refine yP (F := fun v_ => AtP (rpT (rpQ k)) h1 v_ (l.getD ((i + 1) % l.length) (T3.mk (0 : Rat) 0 0))) rfl (vN (T3.mk (0 : Rat) 0 0) ((i + 1) % l.length) underlying27 yZ rfl rfl rl (by first | rfl | (push_cast; rfl)) (by exact Nat.mod_lt _ (by omega)) p9N) vW rfl ?_
    intro v96 r96
    refine yP (F := fun v_ => (rpT (rpQ k)).Is h1 v_ (l.getD ((i + 1) % l.length) (T3.mk (0 : Rat) 0 0))) rfl (wP yZ rfl r96) vW rfl ?_
    intro v97 r97
    refine w_c rfl ?_
    refine zY (vs := [_, _, _]) call84 e3z (fun w hs => rB hs r92 r93 (r97.le (Le.t (Le.q (l := k + 1) (by omega)))) (by omega) (by omega) (by omega)) rfl ?_
    intro v98 h2 hh2 r98
    change (rpT (rpQ (12 * (k + 1) + 3 * m + 9 * n + 50))).Is h2 v98 (btw s (l.getD i (T3.mk (0 : Rat) 0 0)) (l.getD ((i + 1) % l.length) (T3.mk (0 : Rat) 0 0))) at r98
    replace r98 := Rp.Is.le r98 (Le.t (Le.q (l := 12 * k + 3 * m + 9 * n + 62) (by omega)))
    refine w_a rfl (fun b14 => ?_)
    have rb14 : (rpT (rpQ 1)).R h2 [.bool false, .slice none 0 0, .slice none 0 0, .bool false, .slice none 0 0, .slice none 0 0, .bool false, .slice none 0 0, .slice none 0 0] (T3.mk (0 : Rat) 0 0) := (wH (wA (by decide)))
    have rw_29 := (Le.t (Le.q (l := 12 * k + 3 * m + 9 * n + 62) (by omega))).R rb14
    refine xY (A := []) (F := fun c_ => (rpT (rpQ (12 * k + 3 * m + 9 * n + 62))).R h2 c_ (btw s (l.getD i (T3.mk (0 : Rat) 0 0)) (l.getD ((i + 1) % l.length) (T3.mk (0 : Rat) 0 0)))) rfl (yG sizeOf32 (Pc.here _) rfl rfl rfl rw_29 r98 rfl) ?_
    intro cs_30 rb_31
    refine xA (zJ (e' := [(0, _), (3, _), (5, _), (6, _), (52, _), (53, _), (54, _), (4, _), (14, _)]) e9 (zB ?_))
    refine yI 10 [.var b14 32 cs_30, .var b12 32 cs_16, .gs 3 1 s6_1 SD.length cs_2, .var b3 34 cs3] [] [(0, .q), (1, .q), (4, .q), (5, .q), (2, .d 3 6), (7, .c), (8, .q), (9, .q)] xI nX (by kernel_rfl) nX (by intro r hr; simp only [List.mem_cons, List.mem_append, List.not_mem_nil, or_false] at hr ⊢ <;> grind) (w_q rfl (fun h' L' hh hR => zF rfl) rfl (yP (F := fun v_ => (rpT (rpQ (12 * k + 3 * m + 9 * n + 62))).Is h2 v_ (btw s (l.getD i (T3.mk (0 : Rat) 0 0)) (l.getD ((i + 1) % l.length) (T3.mk (0 : Rat) 0 0)))) rfl (zE yZ (Pc.here _) rfl rfl rb_31 rfl) (yF (.head _)) rfl ?_))
    intro v100 r100
    refine w_q rfl (fun h' L' hh hR => zF rfl) rfl (yP (F := fun v_ => (rpT (rpQ (12 * k + 3 * m + 9 * n + 62))).Is h2 v_ (btw s (l.getD i (T3.mk (0 : Rat) 0 0)) (l.getD ((i + 1) % l.length) (T3.mk (0 : Rat) 0 0)))) rfl (zE yZ (Pc.here _) rfl rfl rb_31 rfl) (yF (.head _)) rfl ?_)
    intro v104 r104
    refine w_d rfl rfl rfl ?_ ?_
    ·
     refine qD (fun X => xD (ρ := (rpT (rpQ (12 * k + 3 * m + 9 * n + 62)))) (m := 1) (xs := [btw s (l.getD i (T3.mk (0 : Rat) 0 0)) (l.getD ((i + 1) % l.length) (T3.mk (0 : Rat) 0 0))]) (ps' := [(0, _)]) underlying27 yD rfl rfl rfl (wH (wA (by omega))) e2z (yX rfl (Pc.arr (Pc.here _) (T3.mk (0 : Rat) 0 0) 0 (by decide)) r100 wD) (show 1 * 9 ≤ 16777216 from by decide) p9N) rfl ?_
     intro v101 q101 hq101
     obtain ⟨cs101, rfl, rl101⟩ := hq101
     refine ⟨?_, ?_⟩
     ·
      refine xR (A := []) (ρ := (rpT (rpQ (12 * k + 3 * m + 9 * n + 62)))) rl101 (xS (by first | (simp; done) | grind)) ?_
      intro h3 hh3 rs_32
      replace rl72 := rl72.mono (hh2.trans hh3)
      refine uK (A := [_, _, _]) (fun X => yN (ρ := (rpT (rpQ (12 * k + 3 * m + 9 * n + 62)))) (bytes := 168) underlying27 yD rfl rfl rfl rfl p9N rfl rfl rl72 rs_32 (by first | omega | (simp only [lAz, lC, lN, lR, lS]; omega)) (by first | omega | (simp only [lAz, lC, lN, lR, lS]; omega))) rfl (xE (by first | (simp; done) | grind)) ?_
      intro v102 q102 hq102
      obtain ⟨cs102, rfl, rl102⟩ := hq102
      replace r104 := r104.mono hh3
      refine qD (fun X => xD (ρ := (rpT (rpQ (12 * k + 3 * m + 9 * n + 62)))) (m := 1) (xs := [btw s (l.getD i (T3.mk (0 : Rat) 0 0)) (l.getD ((i + 1) % l.length) (T3.mk (0 : Rat) 0 0))]) (ps' := [(0, _)]) underlying27 yD rfl rfl rfl (wH (wA (by omega))) e2z (yX rfl (Pc.arr (Pc.here _) (T3.mk (0 : Rat) 0 0) 0 (by decide)) r104 wD) (show 1 * 9 ≤ 16777216 from by decide) p9N) rfl ?_
      intro v105 q105 hq105
      obtain ⟨cs105, rfl, rl105⟩ := hq105
      refine w_c rfl (xR (A := []) (ρ := (rpT (rpQ (12 * k + 3 * m + 9 * n + 62)))) rl105 (xS (by first | (simp; done) | grind)) ?_)
      intro h4 hh4 rs_33
      replace rl_15 := rl_15.mono (((hh1.trans hh2).trans hh3).trans hh4)
      refine uK (A := [_, _]) (fun X => yN (ρ := (rpT (rpQ (12 * k + 3 * m + 9 * n + 62)))) (bytes := 168) underlying27 yD rfl rfl rfl rfl p9N rfl rfl rl_15 rs_33 (by first | omega | (simp only [lAz, lC, lN, lR, lS]; omega)) (by first | omega | (simp only [lAz, lC, lN, lR, lS]; omega))) rfl (xE (by first | (simp; done) | grind)) ?_
      intro v106 q106 hq106
      obtain ⟨cs106, rfl, rl106⟩ := hq106
      refine w_q rfl (fun h' L' hh hR => zZ rfl) rfl (w_q rfl (fun h' L' hh hR => zZ rfl) rfl (xA (xB (zB (zA (gv (zR (q := 1) rfl rfl (by omega) (by omega)) rfl (mv rfl rfl (zD (xF (A := []) (xF (A := []) ?_))))))))))
      refine yR ((i + 1), ((B ++ [(l.getD i (T3.mk (0 : Rat) 0 0))]) ++ [btw s (l.getD i (T3.mk (0 : Rat) 0 0)) (l.getD ((i + 1) % l.length) (T3.mk (0 : Rat) 0 0))]), (F ++ [btw s (l.getD i (T3.mk (0 : Rat) 0 0)) (l.getD ((i + 1) % l.length) (T3.mk (0 : Rat) 0 0))]), v102, cs102, v106, cs106, h4) ?_ ?_ e8 rfl rfl
      ·
       refine ⟨((((hmmb.trans hh1).trans hh2).trans hh3).trans hh4), ?_⟩
       replace rl102 := rl102.mono hh4
       refine ⟨rl102, rl106, ?_⟩
       exact ⟨⟨by omega, (by first | exact jK hB hp1 hx1 | exact fF hB hp1 hx1 | exact fL hB hp1 hx1 | exact fM hB hp1 hx1)⟩, (by first | exact jJ hF hp2 hx1 | exact fE hF hp2 hx1 | exact fJ hF hp2 hx1 | exact fK hF hp2 hx1)⟩
      dsimp only
      omega
     refine qD (fun X => xD (ρ := (rpT (rpQ (12 * k + 3 * m + 9 * n + 62)))) (m := 1) (xs := [btw s (l.getD i (T3.mk (0 : Rat) 0 0)) (l.getD ((i + 1) % l.length) (T3.mk (0 : Rat) 0 0))]) (ps' := [(0, _)]) underlying27 yD rfl rfl rfl (wH (wA (by omega))) e2z (yX rfl (Pc.arr (Pc.here _) (T3.mk (0 : Rat) 0 0) 0 (by decide)) r104 wD) (show 1 * 9 ≤ 16777216 from by decide) p9N) rfl ?_
     intro v105 q105 hq105
     obtain ⟨cs105, rfl, rl105⟩ := hq105
     refine xR (A := [_]) (ρ := (rpT (rpQ (12 * k + 3 * m + 9 * n + 62)))) rl101 (xS (by first | (simp; done) | grind)) ?_
     intro h3 hh3 rs_34
     replace rl72 := rl72.mono (hh2.trans hh3)
     refine uK (A := [_, _, _, _]) (fun X => yN (ρ := (rpT (rpQ (12 * k + 3 * m + 9 * n + 62)))) (bytes := 168) underlying27 yD rfl rfl rfl rfl p9N rfl rfl rl72 rs_34 (by first | omega | (simp only [lAz, lC, lN, lR, lS]; omega)) (by first | omega | (simp only [lAz, lC, lN, lR, lS]; omega))) rfl (xE (by first | (simp; done) | grind)) ?_
     intro v102 q102 hq102
     obtain ⟨cs102, rfl, rl102⟩ := hq102
     refine w_c rfl ?_
     replace rl105 := rl105.mono hh3
     refine xR (A := []) (ρ := (rpT (rpQ (12 * k + 3 * m + 9 * n + 62)))) rl105 (xS (by first | (simp; done) | grind)) ?_
     intro h4 hh4 rs_35
     replace rl_15 := rl_15.mono (((hh1.trans hh2).trans hh3).trans hh4)
     refine uK (A := [_, _]) (fun X => yN (ρ := (rpT (rpQ (12 * k + 3 * m + 9 * n + 62)))) (bytes := 168) underlying27 yD rfl rfl rfl rfl p9N rfl rfl rl_15 rs_35 (by first | omega | (simp only [lAz, lC, lN, lR, lS]; omega)) (by first | omega | (simp only [lAz, lC, lN, lR, lS]; omega))) rfl (xE (by first | (simp; done) | grind)) ?_
     intro v106 q106 hq106
     obtain ⟨cs106, rfl, rl106⟩ := hq106
     refine w_q rfl (fun h' L' hh hR => zZ rfl) rfl (w_q rfl (fun h' L' hh hR => zZ rfl) rfl (xA (xB (zB (zA (gv (zR (q := 1) rfl rfl (by omega) (by omega)) rfl (mv rfl rfl (zD (xF (A := []) (xF (A := []) ?_))))))))))
     refine yR ((i + 1), ((B ++ [(l.getD i (T3.mk (0 : Rat) 0 0))]) ++ [btw s (l.getD i (T3.mk (0 : Rat) 0 0)) (l.getD ((i + 1) % l.length) (T3.mk (0 : Rat) 0 0))]), (F ++ [btw s (l.getD i (T3.mk (0 : Rat) 0 0)) (l.getD ((i + 1) % l.length) (T3.mk (0 : Rat) 0 0))]), v102, cs102, v106, cs106, h4) ?_ ?_ e8 rfl rfl
     ·
      refine ⟨((((hmmb.trans hh1).trans hh2).trans hh3).trans hh4), ?_⟩
      replace rl102 := rl102.mono hh4
      refine ⟨rl102, rl106, ?_⟩
      exact ⟨⟨by omega, (by first | exact jK hB hp1 hx1 | exact fF hB hp1 hx1 | exact fL hB hp1 hx1 | exact fM hB hp1 hx1)⟩, (by first | exact jJ hF hp2 hx1 | exact fE hF hp2 hx1 | exact fJ hF hp2 hx1 | exact fK hF hp2 hx1)⟩
     dsimp only
     omega
    refine qD (fun X => xD (ρ := (rpT (rpQ (12 * k + 3 * m + 9 * n + 62)))) (m := 1) (xs := [btw s (l.getD i (T3.mk (0 : Rat) 0 0)) (l.getD ((i + 1) % l.length) (T3.mk (0 : Rat) 0 0))]) (ps' := [(0, _)]) underlying27 yD rfl rfl rfl (wH (wA (by omega))) e2z (yX rfl (Pc.arr (Pc.here _) (T3.mk (0 : Rat) 0 0) 0 (by decide)) r104 wD) (show 1 * 9 ≤ 16777216 from by decide) p9N) rfl ?_
    intro v105 q105 hq105
    obtain ⟨cs105, rfl, rl105⟩ := hq105
    refine qD (fun X => xD (ρ := (rpT (rpQ (12 * k + 3 * m + 9 * n + 62)))) (m := 1) (xs := [btw s (l.getD i (T3.mk (0 : Rat) 0 0)) (l.getD ((i + 1) % l.length) (T3.mk (0 : Rat) 0 0))]) (ps' := [(0, _)]) underlying27 yD rfl rfl rfl (wH (wA (by omega))) e2z (yX rfl (Pc.arr (Pc.here _) (T3.mk (0 : Rat) 0 0) 0 (by decide)) r100 wD) (show 1 * 9 ≤ 16777216 from by decide) p9N) rfl ?_
    intro v101 q101 hq101
    obtain ⟨cs101, rfl, rl101⟩ := hq101
    refine xR (A := []) (ρ := (rpT (rpQ (12 * k + 3 * m + 9 * n + 62)))) rl101 (xS (by first | (simp; done) | grind)) ?_
    intro h3 hh3 rs_36
    replace rl72 := rl72.mono (hh2.trans hh3)
    refine uK (A := [_, _, _, _]) (fun X => yN (ρ := (rpT (rpQ (12 * k + 3 * m + 9 * n + 62)))) (bytes := 168) underlying27 yD rfl rfl rfl rfl p9N rfl rfl rl72 rs_36 (by first | omega | (simp only [lAz, lC, lN, lR, lS]; omega)) (by first | omega | (simp only [lAz, lC, lN, lR, lS]; omega))) rfl (xE (by first | (simp; done) | grind)) ?_
    intro v102 q102 hq102
    obtain ⟨cs102, rfl, rl102⟩ := hq102
    refine w_c rfl ?_
    replace rl105 := rl105.mono hh3
    refine xR (A := []) (ρ := (rpT (rpQ (12 * k + 3 * m + 9 * n + 62)))) rl105 (xS (by first | (simp; done) | grind)) ?_
    intro h4 hh4 rs_37
    replace rl_15 := rl_15.mono (((hh1.trans hh2).trans hh3).trans hh4)
    refine uK (A := [_, _]) (fun X => yN (ρ := (rpT (rpQ (12 * k + 3 * m + 9 * n + 62)))) (bytes := 168) underlying27 yD rfl rfl rfl rfl p9N rfl rfl rl_15 rs_37 (by first | omega | (simp only [lAz, lC, lN, lR, lS]; omega)) (by first | omega | (simp only [lAz, lC, lN, lR, lS]; omega))) rfl (xE (by first | (simp; done) | grind)) ?_
    intro v106 q106 hq106
    obtain ⟨cs106, rfl, rl106⟩ := hq106
    refine w_q rfl (fun h' L' hh hR => zZ rfl) rfl (w_q rfl (fun h' L' hh hR => zZ rfl) rfl (xA (xB (zB (zA (gv (zR (q := 1) rfl rfl (by omega) (by omega)) rfl (mv rfl rfl (zD (xF (A := []) (xF (A := []) ?_))))))))))
    refine yR ((i + 1), ((B ++ [(l.getD i (T3.mk (0 : Rat) 0 0))]) ++ [btw s (l.getD i (T3.mk (0 : Rat) 0 0)) (l.getD ((i + 1) % l.length) (T3.mk (0 : Rat) 0 0))]), (F ++ [btw s (l.getD i (T3.mk (0 : Rat) 0 0)) (l.getD ((i + 1) % l.length) (T3.mk (0 : Rat) 0 0))]), v102, cs102, v106, cs106, h4) ?_ ?_ e8 rfl rfl
    ·
     refine ⟨((((hmmb.trans hh1).trans hh2).trans hh3).trans hh4), ?_⟩
     replace rl102 := rl102.mono hh4
     refine ⟨rl102, rl106, ?_⟩
     exact ⟨⟨by omega, (by first | exact jK hB hp1 hx1 | exact fF hB hp1 hx1 | exact fL hB hp1 hx1 | exact fM hB hp1 hx1)⟩, (by first | exact jJ hF hp2 hx1 | exact fE hF hp2 hx1 | exact fJ hF hp2 hx1 | exact fK hF hp2 hx1)⟩
    dsimp only
    omega
   have hx1 : ¬ xP s l i := by have h := hc91; rw [hS i (by omega), hS ((i + 1) % l.length) (Nat.mod_lt _ (by omega))] at h; exact h
   refine zL (xB (zB (zA (gv (zR (q := 1) rfl rfl (by omega) (by omega)) rfl (mv rfl rfl (zD (xF (A := []) ?_)))))))
   refine yR ((i + 1), (B ++ [(l.getD i (T3.mk (0 : Rat) 0 0))]), F, v72, cs72, s5_13, cs_14, h1) ?_ ?_ e8 rfl rfl
   ·
    refine ⟨(hmmb.trans hh1), ?_⟩
    replace rl_15 := rl_15.mono hh1
    refine ⟨rl72, rl_15, ?_⟩
    exact ⟨⟨by omega, (by first | exact jK hB hp1 hx1 | exact fF hB hp1 hx1 | exact fL hB hp1 hx1 | exact fM hB hp1 hx1)⟩, (by first | exact jJ hF hp2 hx1 | exact fE hF hp2 hx1 | exact fJ hF hp2 hx1 | exact fK hF hp2 hx1)⟩
   dsimp only
   omega
  have hp1 : ¬ sdZ s (gp l i) ≤ 0 := by rw [← hS i (by omega)]; exact hc68
  refine zL (zB (zC (zC (zA (mv rfl rfl (mv rfl rfl (gv ((uQ i (.tail _ (.tail _ (.tail _ (.head _)))) underlying22 sizeOf3 rfl rfl rfl (by first | omega | (simp only [lAz, lC, lN, lR, lS]; omega)) p1N).cv (show _ = xX 1 s6_1 ((i * 1 + 0)) from congrArg (xX 1 s6_1) (by rfl))) rfl (wF (F := fun v_ => rpI.Is mb v_ (SD.getD i (0 : Int))) (qR ty3 (Pc.arr (Pc.here _) (0 : Int) i (by first | omega | (simp only [lAz, lC, lN, lR, lS]; omega))) rfl p1N rfl rl_3 rfl) (yF (.tail _ (.tail _ (.tail _ (.head _))))) rfl ?_))))))))
  intro v76 r76
  obtain ⟨rfl, hl76, hu76⟩ := aC r76
  refine gv (qJ (q := 0) rfl rfl) rfl (zD (zB ?_))
  refine zO rfl (fun hc77 => ?_) (fun hc77 => ?_)
  ·
   have hp2 : 0 ≤ sdZ s (gp l i) := by rw [← hS i (by omega)]; exact hc77
   refine zA (mv rfl rfl (wF (F := fun v_ => (rpT (rpQ (k + 1))).Is mb v_ (l.getD i (T3.mk (0 : Rat) 0 0))) (zE yZ (Pc.here _) rfl rfl rb_17 rfl) (yF (.head _)) rfl ?_))
   intro v79 r79
   refine zK (xD (ρ := (rpT (rpQ (k + 1)))) (m := 1) (xs := [(l.getD i (T3.mk (0 : Rat) 0 0))]) (ps' := [(0, _)]) underlying27 yD rfl rfl rfl (wH (wA (by omega))) e2z (yX rfl (Pc.arr (Pc.here _) (T3.mk (0 : Rat) 0 0) 0 (by decide)) r79 wD) (show 1 * 9 ≤ 16777216 from by decide) p9N) rfl rfl rfl ?_
   intro v80 q80 hq80
   obtain ⟨cs80, rfl, rl80⟩ := hq80
   refine kJ (A := []) (ρ := (rpT (rpQ (k + 1)))) rl80 ?_
   intro h1 hh1 rs_38
   replace rl_15 := rl_15.mono hh1
   refine jB (A := [_]) (yN (ρ := (rpT (rpQ (12 * k + 3 * m + 9 * n + 62)))) (bytes := 168) underlying27 yD rfl rfl rfl rfl p9N rfl rfl rl_15 (rs_38.le (Le.s (Le.t (Le.q (l := 12 * k + 3 * m + 9 * n + 62) (by omega))))) (by first | omega | (simp only [lAz, lC, lN, lR, lS]; omega)) (by first | omega | (simp only [lAz, lC, lN, lR, lS]; omega))) rfl rfl rfl ?_
   intro v81 q81 hq81
   obtain ⟨cs81, rfl, rl81⟩ := hq81
   refine asg rfl rfl (zD (zB (zC ?_)))
   refine yI 10 _ [] [(0, .q), (1, .q), (2, .q), (3, .q), (4, .q), (5, .q), (6, .q), (7, .q), (8, .q), (9, .q)] xI nX (by kernel_rfl) nX (fun r hr => hr) (w_q rfl (fun h' L' hh hR => zF rfl) rfl (w_q rfl (fun h' L' hh hR => zF rfl) rfl (w_q rfl (fun h' L' hh hR => (uQ i (hR _ (.tail _ (.tail _ (.tail _ (.head _))))) underlying22 sizeOf3 rfl rfl rfl (by first | omega | (simp only [lAz, lC, lN, lR, lS]; omega)) p1N).cv (show _ = xX 1 s6_1 ((i * 1 + 0)) from congrArg (xX 1 s6_1) (by rfl))) rfl ?_)))
   replace rl_3 := rl_3.mono hh1
   refine yP (F := fun v_ => rpI.Is h1 v_ (SD.getD i (0 : Int))) rfl (qR ty3 (Pc.arr (Pc.here _) (0 : Int) i (by first | omega | (simp only [lAz, lC, lN, lR, lS]; omega))) rfl p1N rfl rl_3 rfl) (yF (.tail _ (.tail _ (.tail _ (.head _))))) rfl ?_
   intro v85 r85
   obtain ⟨rfl, hl85, hu85⟩ := aC r85
   refine w_q rfl (fun h' L' hh hR => zF rfl) rfl (w_q rfl (fun h' L' hh hR => zF rfl) rfl (w_q rfl (fun h' L' hh hR => (uQ ((i + 1) % l.length) (hR _ (.tail _ (.tail _ (.tail _ (.head _))))) underlying22 sizeOf3 rfl rfl (by first | rfl | (push_cast; rfl)) (by rw [hi2]; exact Nat.mod_lt _ (by omega)) p1N).cv (show _ = xX 1 s6_1 ((((i + 1) % l.length) * 1 + 0)) from congrArg (xX 1 s6_1) (by rfl))) rfl (yP (F := fun v_ => rpI.Is h1 v_ (SD.getD ((i + 1) % l.length) (0 : Int))) rfl (qR ty3 (Pc.arr (Pc.here _) (0 : Int) ((i + 1) % l.length) (by rw [hi2]; exact Nat.mod_lt _ (by omega))) rfl p1N rfl rl_3 rfl) (yF (.tail _ (.tail _ (.tail _ (.head _))))) rfl ?_)))
   intro v89 r89
   obtain ⟨rfl, hl89, hu89⟩ := aC r89
   refine w_q rfl (fun h' L' hh hR => jU rfl rfl (by rw [hd1, hd2]; have := qO hr1 hr2; omega) (by rw [hd1, hd2]; have := qO hr1 hr2; omega)) rfl (w_q rfl (fun h' L' hh hR => zW (q := 0) rfl rfl) rfl (xA (zJ (e' := [(0, _), (3, _), (4, _), (6, _), (52, _), (53, _), (54, _), (12, _), (13, _), (5, _), (91, _)]) e11 (zB ?_))))
   refine zO rfl (fun hc91 => ?_) (fun hc91 => ?_)
   ·
    have hx1 : xP s l i := by have h := hc91; rw [hS i (by omega), hS ((i + 1) % l.length) (Nat.mod_lt _ (by omega))] at h; exact h
    refine zC ?_
    refine yI 8 _ [(7, (14, 32, [.bool false, .slice none 0 0, .slice none 0 0, .bool false, .slice none 0 0, .slice none 0 0, .bool false, .slice none 0 0, .slice none 0 0]))] [(0, .q), (1, .q), (2, .q), (3, .q), (4, .q), (5, .q), (6, .c), (7, .a), (8, .t)] xI (jC.cons rfl (uU yD rfl rfl) jC.nil) (by kernel_rfl) (uV rfl rfl jY) (fun r hr => hr) ?_
    replace rb3 := rb3.mono ((hmma.trans hmmb).trans hh1)
    refine yP (F := fun v_ => (rpP (rpT (rpQ n)) (rpQ m)).Is h1 v_ s) rfl (zE jM (Pc.here _) rfl rfl rb3 rfl) (yF (.tail _ (.tail _ (.tail _ (.tail _ (.head _)))))) rfl ?_
    intro v92 r92
    replace rb_17 := rb_17.mono hh1
    refine yP (F := fun v_ => (rpT (rpQ (k + 1))).Is h1 v_ (l.getD i (T3.mk (0 : Rat) 0 0))) rfl (zE yZ (Pc.here _) rfl rfl rb_17 rfl) (yF (.head _)) rfl ?_
    intro v93 r93
    refine w_q rfl (fun h' L' hh hR => zF rfl) rfl (w_q rfl (fun h' L' hh hR => zF rfl) rfl ?_)
    replace rl := rl.mono hh1
    refine yP (F := fun v_ => AtP (rpT (rpQ k)) h1 v_ (l.getD ((i + 1) % l.length) (T3.mk (0 : Rat) 0 0))) rfl (vN (T3.mk (0 : Rat) 0 0) ((i + 1) % l.length) underlying27 yZ rfl rfl rl (by first | rfl | (push_cast; rfl)) (by exact Nat.mod_lt _ (by omega)) p9N) vW rfl ?_
    intro v96 r96
    refine yP (F := fun v_ => (rpT (rpQ k)).Is h1 v_ (l.getD ((i + 1) % l.length) (T3.mk (0 : Rat) 0 0))) rfl (wP yZ rfl r96) vW rfl ?_
    intro v97 r97
    refine w_c rfl ?_
    refine zY (vs := [_, _, _]) call84 e3z (fun w hs => rB hs r92 r93 (r97.le (Le.t (Le.q (l := k + 1) (by omega)))) (by omega) (by omega) (by omega)) rfl ?_
    intro v98 h2 hh2 r98
    change (rpT (rpQ (12 * (k + 1) + 3 * m + 9 * n + 50))).Is h2 v98 (btw s (l.getD i (T3.mk (0 : Rat) 0 0)) (l.getD ((i + 1) % l.length) (T3.mk (0 : Rat) 0 0))) at r98
    replace r98 := Rp.Is.le r98 (Le.t (Le.q (l := 12 * k + 3 * m + 9 * n + 62) (by omega)))
    refine w_a rfl (fun b14 => ?_)
    have rb14 : (rpT (rpQ 1)).R h2 [.bool false, .slice none 0 0, .slice none 0 0, .bool false, .slice none 0 0, .slice none 0 0, .bool false, .slice none 0 0, .slice none 0 0] (T3.mk (0 : Rat) 0 0) := (wH (wA (by decide)))
    have rw_39 := (Le.t (Le.q (l := 12 * k + 3 * m + 9 * n + 62) (by omega))).R rb14
    refine xY (A := []) (F := fun c_ => (rpT (rpQ (12 * k + 3 * m + 9 * n + 62))).R h2 c_ (btw s (l.getD i (T3.mk (0 : Rat) 0 0)) (l.getD ((i + 1) % l.length) (T3.mk (0 : Rat) 0 0)))) rfl (yG sizeOf32 (Pc.here _) rfl rfl rfl rw_39 r98 rfl) ?_
    intro cs_40 rb_41
    refine xA (zJ (e' := [(0, _), (3, _), (4, _), (6, _), (52, _), (53, _), (54, _), (5, _), (14, _)]) e9 (zB ?_))
    refine yI 10 [.var b14 32 cs_40, .var b12 32 cs_16, .gs 3 1 s6_1 SD.length cs_2, .var b3 34 cs3] [] [(0, .q), (1, .q), (4, .q), (5, .q), (2, .d 3 6), (7, .c), (8, .q), (9, .q)] xI nX (by kernel_rfl) nX (by intro r hr; simp only [List.mem_cons, List.mem_append, List.not_mem_nil, or_false] at hr ⊢ <;> grind) (w_q rfl (fun h' L' hh hR => zF rfl) rfl (yP (F := fun v_ => (rpT (rpQ (12 * k + 3 * m + 9 * n + 62))).Is h2 v_ (btw s (l.getD i (T3.mk (0 : Rat) 0 0)) (l.getD ((i + 1) % l.length) (T3.mk (0 : Rat) 0 0)))) rfl (zE yZ (Pc.here _) rfl rfl rb_41 rfl) (yF (.head _)) rfl ?_))
    intro v100 r100
    refine w_q rfl (fun h' L' hh hR => zF rfl) rfl (yP (F := fun v_ => (rpT (rpQ (12 * k + 3 * m + 9 * n + 62))).Is h2 v_ (btw s (l.getD i (T3.mk (0 : Rat) 0 0)) (l.getD ((i + 1) % l.length) (T3.mk (0 : Rat) 0 0)))) rfl (zE yZ (Pc.here _) rfl rfl rb_41 rfl) (yF (.head _)) rfl ?_)
    intro v104 r104
    refine w_d rfl rfl rfl ?_ ?_
    ·
     refine qD (fun X => xD (ρ := (rpT (rpQ (12 * k + 3 * m + 9 * n + 62)))) (m := 1) (xs := [btw s (l.getD i (T3.mk (0 : Rat) 0 0)) (l.getD ((i + 1) % l.length) (T3.mk (0 : Rat) 0 0))]) (ps' := [(0, _)]) underlying27 yD rfl rfl rfl (wH (wA (by omega))) e2z (yX rfl (Pc.arr (Pc.here _) (T3.mk (0 : Rat) 0 0) 0 (by decide)) r100 wD) (show 1 * 9 ≤ 16777216 from by decide) p9N) rfl ?_
     intro v101 q101 hq101
     obtain ⟨cs101, rfl, rl101⟩ := hq101
     refine ⟨?_, ?_⟩
     ·
      refine xR (A := []) (ρ := (rpT (rpQ (12 * k + 3 * m + 9 * n + 62)))) rl101 (xS (by first | (simp; done) | grind)) ?_
      intro h3 hh3 rs_42
      replace rl_12 := rl_12.mono ((hh1.trans hh2).trans hh3)
      refine uK (A := [_, _, _]) (fun X => yN (ρ := (rpT (rpQ (12 * k + 3 * m + 9 * n + 62)))) (bytes := 168) underlying27 yD rfl rfl rfl rfl p9N rfl rfl rl_12 rs_42 (by first | omega | (simp only [lAz, lC, lN, lR, lS]; omega)) (by first | omega | (simp only [lAz, lC, lN, lR, lS]; omega))) rfl (xE (by first | (simp; done) | grind)) ?_
      intro v102 q102 hq102
      obtain ⟨cs102, rfl, rl102⟩ := hq102
      replace r104 := r104.mono hh3
      refine qD (fun X => xD (ρ := (rpT (rpQ (12 * k + 3 * m + 9 * n + 62)))) (m := 1) (xs := [btw s (l.getD i (T3.mk (0 : Rat) 0 0)) (l.getD ((i + 1) % l.length) (T3.mk (0 : Rat) 0 0))]) (ps' := [(0, _)]) underlying27 yD rfl rfl rfl (wH (wA (by omega))) e2z (yX rfl (Pc.arr (Pc.here _) (T3.mk (0 : Rat) 0 0) 0 (by decide)) r104 wD) (show 1 * 9 ≤ 16777216 from by decide) p9N) rfl ?_
      intro v105 q105 hq105
      obtain ⟨cs105, rfl, rl105⟩ := hq105
      refine w_c rfl (xR (A := []) (ρ := (rpT (rpQ (12 * k + 3 * m + 9 * n + 62)))) rl105 (xS (by first | (simp; done) | grind)) ?_)
      intro h4 hh4 rs_43
      replace rl81 := rl81.mono ((hh2.trans hh3).trans hh4)
      refine uK (A := [_, _]) (fun X => yN (ρ := (rpT (rpQ (12 * k + 3 * m + 9 * n + 62)))) (bytes := 168) underlying27 yD rfl rfl rfl rfl p9N rfl rfl rl81 rs_43 (by first | omega | (simp only [lAz, lC, lN, lR, lS]; omega)) (by first | omega | (simp only [lAz, lC, lN, lR, lS]; omega))) rfl (xE (by first | (simp; done) | grind)) ?_
      intro v106 q106 hq106
      obtain ⟨cs106, rfl, rl106⟩ := hq106
      refine w_q rfl (fun h' L' hh hR => zZ rfl) rfl (w_q rfl (fun h' L' hh hR => zZ rfl) rfl (xA (xB (zB (zA (gv (zR (q := 1) rfl rfl (by omega) (by omega)) rfl (mv rfl rfl (zD (xF (A := []) (xF (A := []) ?_))))))))))
      refine yR ((i + 1), (B ++ [btw s (l.getD i (T3.mk (0 : Rat) 0 0)) (l.getD ((i + 1) % l.length) (T3.mk (0 : Rat) 0 0))]), ((F ++ [(l.getD i (T3.mk (0 : Rat) 0 0))]) ++ [btw s (l.getD i (T3.mk (0 : Rat) 0 0)) (l.getD ((i + 1) % l.length) (T3.mk (0 : Rat) 0 0))]), v102, cs102, v106, cs106, h4) ?_ ?_ e8 rfl rfl
      ·
       refine ⟨((((hmmb.trans hh1).trans hh2).trans hh3).trans hh4), ?_⟩
       replace rl102 := rl102.mono hh4
       refine ⟨rl102, rl106, ?_⟩
       exact ⟨⟨by omega, (by first | exact jK hB hp1 hx1 | exact fF hB hp1 hx1 | exact fL hB hp1 hx1 | exact fM hB hp1 hx1)⟩, (by first | exact jJ hF hp2 hx1 | exact fE hF hp2 hx1 | exact fJ hF hp2 hx1 | exact fK hF hp2 hx1)⟩
      dsimp only
      omega
     refine qD (fun X => xD (ρ := (rpT (rpQ (12 * k + 3 * m + 9 * n + 62)))) (m := 1) (xs := [btw s (l.getD i (T3.mk (0 : Rat) 0 0)) (l.getD ((i + 1) % l.length) (T3.mk (0 : Rat) 0 0))]) (ps' := [(0, _)]) underlying27 yD rfl rfl rfl (wH (wA (by omega))) e2z (yX rfl (Pc.arr (Pc.here _) (T3.mk (0 : Rat) 0 0) 0 (by decide)) r104 wD) (show 1 * 9 ≤ 16777216 from by decide) p9N) rfl ?_
     intro v105 q105 hq105
     obtain ⟨cs105, rfl, rl105⟩ := hq105
     refine xR (A := [_]) (ρ := (rpT (rpQ (12 * k + 3 * m + 9 * n + 62)))) rl101 (xS (by first | (simp; done) | grind)) ?_
     intro h3 hh3 rs_44
     replace rl_12 := rl_12.mono ((hh1.trans hh2).trans hh3)
     refine uK (A := [_, _, _, _]) (fun X => yN (ρ := (rpT (rpQ (12 * k + 3 * m + 9 * n + 62)))) (bytes := 168) underlying27 yD rfl rfl rfl rfl p9N rfl rfl rl_12 rs_44 (by first | omega | (simp only [lAz, lC, lN, lR, lS]; omega)) (by first | omega | (simp only [lAz, lC, lN, lR, lS]; omega))) rfl (xE (by first | (simp; done) | grind)) ?_
     intro v102 q102 hq102
     obtain ⟨cs102, rfl, rl102⟩ := hq102
     refine w_c rfl ?_
     replace rl105 := rl105.mono hh3
     refine xR (A := []) (ρ := (rpT (rpQ (12 * k + 3 * m + 9 * n + 62)))) rl105 (xS (by first | (simp; done) | grind)) ?_
     intro h4 hh4 rs_45
     replace rl81 := rl81.mono ((hh2.trans hh3).trans hh4)
     refine uK (A := [_, _]) (fun X => yN (ρ := (rpT (rpQ (12 * k + 3 * m + 9 * n + 62)))) (bytes := 168) underlying27 yD rfl rfl rfl rfl p9N rfl rfl rl81 rs_45 (by first | omega | (simp only [lAz, lC, lN, lR, lS]; omega)) (by first | omega | (simp only [lAz, lC, lN, lR, lS]; omega))) rfl (xE (by first | (simp; done) | grind)) ?_
     intro v106 q106 hq106
     obtain ⟨cs106, rfl, rl106⟩ := hq106
     refine w_q rfl (fun h' L' hh hR => zZ rfl) rfl (w_q rfl (fun h' L' hh hR => zZ rfl) rfl (xA (xB (zB (zA (gv (zR (q := 1) rfl rfl (by omega) (by omega)) rfl (mv rfl rfl (zD (xF (A := []) (xF (A := []) ?_))))))))))
     refine yR ((i + 1), (B ++ [btw s (l.getD i (T3.mk (0 : Rat) 0 0)) (l.getD ((i + 1) % l.length) (T3.mk (0 : Rat) 0 0))]), ((F ++ [(l.getD i (T3.mk (0 : Rat) 0 0))]) ++ [btw s (l.getD i (T3.mk (0 : Rat) 0 0)) (l.getD ((i + 1) % l.length) (T3.mk (0 : Rat) 0 0))]), v102, cs102, v106, cs106, h4) ?_ ?_ e8 rfl rfl
     ·
      refine ⟨((((hmmb.trans hh1).trans hh2).trans hh3).trans hh4), ?_⟩
      replace rl102 := rl102.mono hh4
      refine ⟨rl102, rl106, ?_⟩
      exact ⟨⟨by omega, (by first | exact jK hB hp1 hx1 | exact fF hB hp1 hx1 | exact fL hB hp1 hx1 | exact fM hB hp1 hx1)⟩, (by first | exact jJ hF hp2 hx1 | exact fE hF hp2 hx1 | exact fJ hF hp2 hx1 | exact fK hF hp2 hx1)⟩
     dsimp only
     omega
    refine qD (fun X => xD (ρ := (rpT (rpQ (12 * k + 3 * m + 9 * n + 62)))) (m := 1) (xs := [btw s (l.getD i (T3.mk (0 : Rat) 0 0)) (l.getD ((i + 1) % l.length) (T3.mk (0 : Rat) 0 0))]) (ps' := [(0, _)]) underlying27 yD rfl rfl rfl (wH (wA (by omega))) e2z (yX rfl (Pc.arr (Pc.here _) (T3.mk (0 : Rat) 0 0) 0 (by decide)) r104 wD) (show 1 * 9 ≤ 16777216 from by decide) p9N) rfl ?_
    intro v105 q105 hq105
    obtain ⟨cs105, rfl, rl105⟩ := hq105
    refine qD (fun X => xD (ρ := (rpT (rpQ (12 * k + 3 * m + 9 * n + 62)))) (m := 1) (xs := [btw s (l.getD i (T3.mk (0 : Rat) 0 0)) (l.getD ((i + 1) % l.length) (T3.mk (0 : Rat) 0 0))]) (ps' := [(0, _)]) underlying27 yD rfl rfl rfl (wH (wA (by omega))) e2z (yX rfl (Pc.arr (Pc.here _) (T3.mk (0 : Rat) 0 0) 0 (by decide)) r100 wD) (show 1 * 9 ≤ 16777216 from by decide) p9N) rfl ?_
    intro v101 q101 hq101
    obtain ⟨cs101, rfl, rl101⟩ := hq101
    refine xR (A := []) (ρ := (rpT (rpQ (12 * k + 3 * m + 9 * n + 62)))) rl101 (xS (by first | (simp; done) | grind)) ?_
    intro h3 hh3 rs_46
    replace rl_12 := rl_12.mono ((hh1.trans hh2).trans hh3)
    refine uK (A := [_, _, _, _]) (fun X => yN (ρ := (rpT (rpQ (12 * k + 3 * m + 9 * n + 62)))) (bytes := 168) underlying27 yD rfl rfl rfl rfl p9N rfl rfl rl_12 rs_46 (by first | omega | (simp only [lAz, lC, lN, lR, lS]; omega)) (by first | omega | (simp only [lAz, lC, lN, lR, lS]; omega))) rfl (xE (by first | (simp; done) | grind)) ?_
    intro v102 q102 hq102
    obtain ⟨cs102, rfl, rl102⟩ := hq102
    refine w_c rfl ?_
    replace rl105 := rl105.mono hh3
    refine xR (A := []) (ρ := (rpT (rpQ (12 * k + 3 * m + 9 * n + 62)))) rl105 (xS (by first | (simp; done) | grind)) ?_
    intro h4 hh4 rs_47
    replace rl81 := rl81.mono ((hh2.trans hh3).trans hh4)
    refine uK (A := [_, _]) (fun X => yN (ρ := (rpT (rpQ (12 * k + 3 * m + 9 * n + 62)))) (bytes := 168) underlying27 yD rfl rfl rfl rfl p9N rfl rfl rl81 rs_47 (by first | omega | (simp only [lAz, lC, lN, lR, lS]; omega)) (by first | omega | (simp only [lAz, lC, lN, lR, lS]; omega))) rfl (xE (by first | (simp; done) | grind)) ?_
    intro v106 q106 hq106
    obtain ⟨cs106, rfl, rl106⟩ := hq106
    refine w_q rfl (fun h' L' hh hR => zZ rfl) rfl (w_q rfl (fun h' L' hh hR => zZ rfl) rfl (xA (xB (zB (zA (gv (zR (q := 1) rfl rfl (by omega) (by omega)) rfl (mv rfl rfl (zD (xF (A := []) (xF (A := []) ?_))))))))))
    refine yR ((i + 1), (B ++ [btw s (l.getD i (T3.mk (0 : Rat) 0 0)) (l.getD ((i + 1) % l.length) (T3.mk (0 : Rat) 0 0))]), ((F ++ [(l.getD i (T3.mk (0 : Rat) 0 0))]) ++ [btw s (l.getD i (T3.mk (0 : Rat) 0 0)) (l.getD ((i + 1) % l.length) (T3.mk (0 : Rat) 0 0))]), v102, cs102, v106, cs106, h4) ?_ ?_ e8 rfl rfl
    ·
     refine ⟨((((hmmb.trans hh1).trans hh2).trans hh3).trans hh4), ?_⟩
     replace rl102 := rl102.mono hh4
     refine ⟨rl102, rl106, ?_⟩
     exact ⟨⟨by omega, (by first | exact jK hB hp1 hx1 | exact fF hB hp1 hx1 | exact fL hB hp1 hx1 | exact fM hB hp1 hx1)⟩, (by first | exact jJ hF hp2 hx1 | exact fE hF hp2 hx1 | exact fJ hF hp2 hx1 | exact fK hF hp2 hx1)⟩
    dsimp only
    omega
   have hx1 : ¬ xP s l i := by have h := hc91; rw [hS i (by omega), hS ((i + 1) % l.length) (Nat.mod_lt _ (by omega))] at h; exact h
   refine zL (xB (zB (zA (gv (zR (q := 1) rfl rfl (by omega) (by omega)) rfl (mv rfl rfl (zD (xF (A := []) ?_)))))))
   refine yR ((i + 1), B, (F ++ [(l.getD i (T3.mk (0 : Rat) 0 0))]), s4_10, cs_11, v81, cs81, h1) ?_ ?_ e8 rfl rfl
   ·
    refine ⟨(hmmb.trans hh1), ?_⟩
    replace rl_12 := rl_12.mono hh1
    refine ⟨rl_12, rl81, ?_⟩
    exact ⟨⟨by omega, (by first | exact jK hB hp1 hx1 | exact fF hB hp1 hx1 | exact fL hB hp1 hx1 | exact fM hB hp1 hx1)⟩, (by first | exact jJ hF hp2 hx1 | exact fE hF hp2 hx1 | exact fJ hF hp2 hx1 | exact fK hF hp2 hx1)⟩
   dsimp only
   omega
  have hp2 : ¬ 0 ≤ sdZ s (gp l i) := by rw [← hS i (by omega)]; exact hc77
  refine zL (zB (zC ?_))
  refine yI 10 _ [] [(0, .q), (1, .q), (2, .q), (3, .q), (4, .q), (5, .q), (6, .q), (7, .q), (8, .q), (9, .q)] xI nX (by kernel_rfl) nX (fun r hr => hr) (w_q rfl (fun h' L' hh hR => zF rfl) rfl (w_q rfl (fun h' L' hh hR => zF rfl) rfl (w_q rfl (fun h' L' hh hR => (uQ i (hR _ (.tail _ (.tail _ (.tail _ (.head _))))) underlying22 sizeOf3 rfl rfl rfl (by first | omega | (simp only [lAz, lC, lN, lR, lS]; omega)) p1N).cv (show _ = xX 1 s6_1 ((i * 1 + 0)) from congrArg (xX 1 s6_1) (by rfl))) rfl (yP (F := fun v_ => rpI.Is mb v_ (SD.getD i (0 : Int))) rfl (qR ty3 (Pc.arr (Pc.here _) (0 : Int) i (by first | omega | (simp only [lAz, lC, lN, lR, lS]; omega))) rfl p1N rfl rl_3 rfl) (yF (.tail _ (.tail _ (.tail _ (.head _))))) rfl ?_))))
  intro v85 r85
  obtain ⟨rfl, hl85, hu85⟩ := aC r85
  refine w_q rfl (fun h' L' hh hR => zF rfl) rfl (w_q rfl (fun h' L' hh hR => zF rfl) rfl (w_q rfl (fun h' L' hh hR => (uQ ((i + 1) % l.length) (hR _ (.tail _ (.tail _ (.tail _ (.head _))))) underlying22 sizeOf3 rfl rfl (by first | rfl | (push_cast; rfl)) (by rw [hi2]; exact Nat.mod_lt _ (by omega)) p1N).cv (show _ = xX 1 s6_1 ((((i + 1) % l.length) * 1 + 0)) from congrArg (xX 1 s6_1) (by rfl))) rfl (yP (F := fun v_ => rpI.Is mb v_ (SD.getD ((i + 1) % l.length) (0 : Int))) rfl (qR ty3 (Pc.arr (Pc.here _) (0 : Int) ((i + 1) % l.length) (by rw [hi2]; exact Nat.mod_lt _ (by omega))) rfl p1N rfl rl_3 rfl) (yF (.tail _ (.tail _ (.tail _ (.head _))))) rfl ?_)))
  intro v89 r89
  obtain ⟨rfl, hl89, hu89⟩ := aC r89
  refine w_q rfl (fun h' L' hh hR => jU rfl rfl (by rw [hd1, hd2]; have := qO hr1 hr2; omega) (by rw [hd1, hd2]; have := qO hr1 hr2; omega)) rfl (w_q rfl (fun h' L' hh hR => zW (q := 0) rfl rfl) rfl (xA (zJ (e' := [(0, _), (3, _), (4, _), (5, _), (6, _), (52, _), (53, _), (54, _), (12, _), (13, _), (91, _)]) e11 (zB ?_))))
  refine zO rfl (fun hc91 => ?_) (fun hc91 => ?_)
  ·
   have hx1 : xP s l i := by have h := hc91; rw [hS i (by omega), hS ((i + 1) % l.length) (Nat.mod_lt _ (by omega))] at h; exact h
   refine zC ?_
   refine yI 8 _ [(7, (14, 32, [.bool false, .slice none 0 0, .slice none 0 0, .bool false, .slice none 0 0, .slice none 0 0, .bool false, .slice none 0 0, .slice none 0 0]))] [(0, .q), (1, .q), (2, .q), (3, .q), (4, .q), (5, .q), (6, .c), (7, .a), (8, .t)] xI (jC.cons rfl (uU yD rfl rfl) jC.nil) (by kernel_rfl) (uV rfl rfl jY) (fun r hr => hr) ?_
   replace rb3 := rb3.mono (hmma.trans hmmb)
   refine yP (F := fun v_ => (rpP (rpT (rpQ n)) (rpQ m)).Is mb v_ s) rfl (zE jM (Pc.here _) rfl rfl rb3 rfl) (yF (.tail _ (.tail _ (.tail _ (.tail _ (.head _)))))) rfl ?_
   intro v92 r92
   refine yP (F := fun v_ => (rpT (rpQ (k + 1))).Is mb v_ (l.getD i (T3.mk (0 : Rat) 0 0))) rfl (zE yZ (Pc.here _) rfl rfl rb_17 rfl) (yF (.head _)) rfl ?_
   intro v93 r93
   refine w_q rfl (fun h' L' hh hR => zF rfl) rfl (w_q rfl (fun h' L' hh hR => zF rfl) rfl (yP (F := fun v_ => AtP (rpT (rpQ k)) mb v_ (l.getD ((i + 1) % l.length) (T3.mk (0 : Rat) 0 0))) rfl (vN (T3.mk (0 : Rat) 0 0) ((i + 1) % l.length) underlying27 yZ rfl rfl rl (by first | rfl | (push_cast; rfl)) (by exact Nat.mod_lt _ (by omega)) p9N) vW rfl ?_))
   intro v96 r96
   refine yP (F := fun v_ => (rpT (rpQ k)).Is mb v_ (l.getD ((i + 1) % l.length) (T3.mk (0 : Rat) 0 0))) rfl (wP yZ rfl r96) vW rfl ?_
   intro v97 r97
   refine w_c rfl ?_
   refine zY (vs := [_, _, _]) call84 e3z (fun w hs => rB hs r92 r93 (r97.le (Le.t (Le.q (l := k + 1) (by omega)))) (by omega) (by omega) (by omega)) rfl ?_
   intro v98 h1 hh1 r98
   change (rpT (rpQ (12 * (k + 1) + 3 * m + 9 * n + 50))).Is h1 v98 (btw s (l.getD i (T3.mk (0 : Rat) 0 0)) (l.getD ((i + 1) % l.length) (T3.mk (0 : Rat) 0 0))) at r98
   replace r98 := Rp.Is.le r98 (Le.t (Le.q (l := 12 * k + 3 * m + 9 * n + 62) (by omega)))
   refine w_a rfl (fun b14 => ?_)
   have rb14 : (rpT (rpQ 1)).R h1 [.bool false, .slice none 0 0, .slice none 0 0, .bool false, .slice none 0 0, .slice none 0 0, .bool false, .slice none 0 0, .slice none 0 0] (T3.mk (0 : Rat) 0 0) := (wH (wA (by decide)))
   have rw_48 := (Le.t (Le.q (l := 12 * k + 3 * m + 9 * n + 62) (by omega))).R rb14
   refine xY (A := []) (F := fun c_ => (rpT (rpQ (12 * k + 3 * m + 9 * n + 62))).R h1 c_ (btw s (l.getD i (T3.mk (0 : Rat) 0 0)) (l.getD ((i + 1) % l.length) (T3.mk (0 : Rat) 0 0)))) rfl (yG sizeOf32 (Pc.here _) rfl rfl rfl rw_48 r98 rfl) ?_
   intro cs_49 rb_50
   refine xA (zJ (e' := [(0, _), (3, _), (4, _), (5, _), (6, _), (52, _), (53, _), (54, _), (14, _)]) e9 (zB ?_))
   refine yI 10 [.var b14 32 cs_49, .var b12 32 cs_16, .gs 3 1 s6_1 SD.length cs_2, .var b3 34 cs3] [] [(0, .q), (1, .q), (4, .q), (5, .q), (2, .d 3 6), (7, .c), (8, .q), (9, .q)] xI nX (by kernel_rfl) nX (by intro r hr; simp only [List.mem_cons, List.mem_append, List.not_mem_nil, or_false] at hr ⊢ <;> grind) (w_q rfl (fun h' L' hh hR => zF rfl) rfl (yP (F := fun v_ => (rpT (rpQ (12 * k + 3 * m + 9 * n + 62))).Is h1 v_ (btw s (l.getD i (T3.mk (0 : Rat) 0 0)) (l.getD ((i + 1) % l.length) (T3.mk (0 : Rat) 0 0)))) rfl (zE yZ (Pc.here _) rfl rfl rb_50 rfl) (yF (.head _)) rfl ?_))
   intro v100 r100
   refine w_q rfl (fun h' L' hh hR => zF rfl) rfl (yP (F := fun v_ => (rpT (rpQ (12 * k + 3 * m + 9 * n + 62))).Is h1 v_ (btw s (l.getD i (T3.mk (0 : Rat) 0 0)) (l.getD ((i + 1) % l.length) (T3.mk (0 : Rat) 0 0)))) rfl (zE yZ (Pc.here _) rfl rfl rb_50 rfl) (yF (.head _)) rfl ?_)
   intro v104 r104
   refine w_d rfl rfl rfl ?_ ?_
   ·
    refine qD (fun X => xD (ρ := (rpT (rpQ (12 * k + 3 * m + 9 * n + 62)))) (m := 1) (xs := [btw s (l.getD i (T3.mk (0 : Rat) 0 0)) (l.getD ((i + 1) % l.length) (T3.mk (0 : Rat) 0 0))]) (ps' := [(0, _)]) underlying27 yD rfl rfl rfl (wH (wA (by omega))) e2z (yX rfl (Pc.arr (Pc.here _) (T3.mk (0 : Rat) 0 0) 0 (by decide)) r100 wD) (show 1 * 9 ≤ 16777216 from by decide) p9N) rfl ?_
    intro v101 q101 hq101
    obtain ⟨cs101, rfl, rl101⟩ := hq101
    refine ⟨?_, ?_⟩
    ·
     refine xR (A := []) (ρ := (rpT (rpQ (12 * k + 3 * m + 9 * n + 62)))) rl101 (xS (by first | (simp; done) | grind)) ?_
     intro h2 hh2 rs_51
     replace rl_12 := rl_12.mono (hh1.trans hh2)
     refine uK (A := [_, _, _]) (fun X => yN (ρ := (rpT (rpQ (12 * k + 3 * m + 9 * n + 62)))) (bytes := 168) underlying27 yD rfl rfl rfl rfl p9N rfl rfl rl_12 rs_51 (by first | omega | (simp only [lAz, lC, lN, lR, lS]; omega)) (by first | omega | (simp only [lAz, lC, lN, lR, lS]; omega))) rfl (xE (by first | (simp; done) | grind)) ?_
     intro v102 q102 hq102
     obtain ⟨cs102, rfl, rl102⟩ := hq102
     replace r104 := r104.mono hh2
     refine qD (fun X => xD (ρ := (rpT (rpQ (12 * k + 3 * m + 9 * n + 62)))) (m := 1) (xs := [btw s (l.getD i (T3.mk (0 : Rat) 0 0)) (l.getD ((i + 1) % l.length) (T3.mk (0 : Rat) 0 0))]) (ps' := [(0, _)]) underlying27 yD rfl rfl rfl (wH (wA (by omega))) e2z (yX rfl (Pc.arr (Pc.here _) (T3.mk (0 : Rat) 0 0) 0 (by decide)) r104 wD) (show 1 * 9 ≤ 16777216 from by decide) p9N) rfl ?_
     intro v105 q105 hq105
     obtain ⟨cs105, rfl, rl105⟩ := hq105
     refine w_c rfl (xR (A := []) (ρ := (rpT (rpQ (12 * k + 3 * m + 9 * n + 62)))) rl105 (xS (by first | (simp; done) | grind)) ?_)
     intro h3 hh3 rs_52
     replace rl_15 := rl_15.mono ((hh1.trans hh2).trans hh3)
     refine uK (A := [_, _]) (fun X => yN (ρ := (rpT (rpQ (12 * k + 3 * m + 9 * n + 62)))) (bytes := 168) underlying27 yD rfl rfl rfl rfl p9N rfl rfl rl_15 rs_52 (by first | omega | (simp only [lAz, lC, lN, lR, lS]; omega)) (by first | omega | (simp only [lAz, lC, lN, lR, lS]; omega))) rfl (xE (by first | (simp; done) | grind)) ?_
     intro v106 q106 hq106
     obtain ⟨cs106, rfl, rl106⟩ := hq106
     refine w_q rfl (fun h' L' hh hR => zZ rfl) rfl (w_q rfl (fun h' L' hh hR => zZ rfl) rfl (xA (xB (zB (zA (gv (zR (q := 1) rfl rfl (by omega) (by omega)) rfl (mv rfl rfl (zD (xF (A := []) (xF (A := []) ?_))))))))))
     refine yR ((i + 1), (B ++ [btw s (l.getD i (T3.mk (0 : Rat) 0 0)) (l.getD ((i + 1) % l.length) (T3.mk (0 : Rat) 0 0))]), (F ++ [btw s (l.getD i (T3.mk (0 : Rat) 0 0)) (l.getD ((i + 1) % l.length) (T3.mk (0 : Rat) 0 0))]), v102, cs102, v106, cs106, h3) ?_ ?_ e8 rfl rfl
     ·
      refine ⟨(((hmmb.trans hh1).trans hh2).trans hh3), ?_⟩
      replace rl102 := rl102.mono hh3
      refine ⟨rl102, rl106, ?_⟩
      exact ⟨⟨by omega, (by first | exact jK hB hp1 hx1 | exact fF hB hp1 hx1 | exact fL hB hp1 hx1 | exact fM hB hp1 hx1)⟩, (by first | exact jJ hF hp2 hx1 | exact fE hF hp2 hx1 | exact fJ hF hp2 hx1 | exact fK hF hp2 hx1)⟩
     dsimp only
     omega
    refine qD (fun X => xD (ρ := (rpT (rpQ (12 * k + 3 * m + 9 * n + 62)))) (m := 1) (xs := [btw s (l.getD i (T3.mk (0 : Rat) 0 0)) (l.getD ((i + 1) % l.length) (T3.mk (0 : Rat) 0 0))]) (ps' := [(0, _)]) underlying27 yD rfl rfl rfl (wH (wA (by omega))) e2z (yX rfl (Pc.arr (Pc.here _) (T3.mk (0 : Rat) 0 0) 0 (by decide)) r104 wD) (show 1 * 9 ≤ 16777216 from by decide) p9N) rfl ?_
    intro v105 q105 hq105
    obtain ⟨cs105, rfl, rl105⟩ := hq105
    refine xR (A := [_]) (ρ := (rpT (rpQ (12 * k + 3 * m + 9 * n + 62)))) rl101 (xS (by first | (simp; done) | grind)) ?_
    intro h2 hh2 rs_53
    replace rl_12 := rl_12.mono (hh1.trans hh2)
    refine uK (A := [_, _, _, _]) (fun X => yN (ρ := (rpT (rpQ (12 * k + 3 * m + 9 * n + 62)))) (bytes := 168) underlying27 yD rfl rfl rfl rfl p9N rfl rfl rl_12 rs_53 (by first | omega | (simp only [lAz, lC, lN, lR, lS]; omega)) (by first | omega | (simp only [lAz, lC, lN, lR, lS]; omega))) rfl (xE (by first | (simp; done) | grind)) ?_
    intro v102 q102 hq102
    obtain ⟨cs102, rfl, rl102⟩ := hq102
    refine w_c rfl ?_
    replace rl105 := rl105.mono hh2
    refine xR (A := []) (ρ := (rpT (rpQ (12 * k + 3 * m + 9 * n + 62)))) rl105 (xS (by first | (simp; done) | grind)) ?_
    intro h3 hh3 rs_54
    replace rl_15 := rl_15.mono ((hh1.trans hh2).trans hh3)
    refine uK (A := [_, _]) (fun X => yN (ρ := (rpT (rpQ (12 * k + 3 * m + 9 * n + 62)))) (bytes := 168) underlying27 yD rfl rfl rfl rfl p9N rfl rfl rl_15 rs_54 (by first | omega | (simp only [lAz, lC, lN, lR, lS]; omega)) (by first | omega | (simp only [lAz, lC, lN, lR, lS]; omega))) rfl (xE (by first | (simp; done) | grind)) ?_
    intro v106 q106 hq106
    obtain ⟨cs106, rfl, rl106⟩ := hq106
    refine w_q rfl (fun h' L' hh hR => zZ rfl) rfl (w_q rfl (fun h' L' hh hR => zZ rfl) rfl (xA (xB (zB (zA (gv (zR (q := 1) rfl rfl (by omega) (by omega)) rfl (mv rfl rfl (zD (xF (A := []) (xF (A := []) ?_))))))))))
    refine yR ((i + 1), (B ++ [btw s (l.getD i (T3.mk (0 : Rat) 0 0)) (l.getD ((i + 1) % l.length) (T3.mk (0 : Rat) 0 0))]), (F ++ [btw s (l.getD i (T3.mk (0 : Rat) 0 0)) (l.getD ((i + 1) % l.length) (T3.mk (0 : Rat) 0 0))]), v102, cs102, v106, cs106, h3) ?_ ?_ e8 rfl rfl
    ·
     refine ⟨(((hmmb.trans hh1).trans hh2).trans hh3), ?_⟩
     replace rl102 := rl102.mono hh3
     refine ⟨rl102, rl106, ?_⟩
     exact ⟨⟨by omega, (by first | exact jK hB hp1 hx1 | exact fF hB hp1 hx1 | exact fL hB hp1 hx1 | exact fM hB hp1 hx1)⟩, (by first | exact jJ hF hp2 hx1 | exact fE hF hp2 hx1 | exact fJ hF hp2 hx1 | exact fK hF hp2 hx1)⟩
    dsimp only
    omega
   refine qD (fun X => xD (ρ := (rpT (rpQ (12 * k + 3 * m + 9 * n + 62)))) (m := 1) (xs := [btw s (l.getD i (T3.mk (0 : Rat) 0 0)) (l.getD ((i + 1) % l.length) (T3.mk (0 : Rat) 0 0))]) (ps' := [(0, _)]) underlying27 yD rfl rfl rfl (wH (wA (by omega))) e2z (yX rfl (Pc.arr (Pc.here _) (T3.mk (0 : Rat) 0 0) 0 (by decide)) r104 wD) (show 1 * 9 ≤ 16777216 from by decide) p9N) rfl ?_
   intro v105 q105 hq105
   obtain ⟨cs105, rfl, rl105⟩ := hq105
   refine qD (fun X => xD (ρ := (rpT (rpQ (12 * k + 3 * m + 9 * n + 62)))) (m := 1) (xs := [btw s (l.getD i (T3.mk (0 : Rat) 0 0)) (l.getD ((i + 1) % l.length) (T3.mk (0 : Rat) 0 0))]) (ps' := [(0, _)]) underlying27 yD rfl rfl rfl (wH (wA (by omega))) e2z (yX rfl (Pc.arr (Pc.here _) (T3.mk (0 : Rat) 0 0) 0 (by decide)) r100 wD) (show 1 * 9 ≤ 16777216 from by decide) p9N) rfl ?_
   intro v101 q101 hq101
   obtain ⟨cs101, rfl, rl101⟩ := hq101
   refine xR (A := []) (ρ := (rpT (rpQ (12 * k + 3 * m + 9 * n + 62)))) rl101 (xS (by first | (simp; done) | grind)) ?_
   intro h2 hh2 rs_55
   replace rl_12 := rl_12.mono (hh1.trans hh2)
   refine uK (A := [_, _, _, _]) (fun X => yN (ρ := (rpT (rpQ (12 * k + 3 * m + 9 * n + 62)))) (bytes := 168) underlying27 yD rfl rfl rfl rfl p9N rfl rfl rl_12 rs_55 (by first | omega | (simp only [lAz, lC, lN, lR, lS]; omega)) (by first | omega | (simp only [lAz, lC, lN, lR, lS]; omega))) rfl (xE (by first | (simp; done) | grind)) ?_
   intro v102 q102 hq102
   obtain ⟨cs102, rfl, rl102⟩ := hq102
   refine w_c rfl ?_
   replace rl105 := rl105.mono hh2
   refine xR (A := []) (ρ := (rpT (rpQ (12 * k + 3 * m + 9 * n + 62)))) rl105 (xS (by first | (simp; done) | grind)) ?_
   intro h3 hh3 rs_56
   replace rl_15 := rl_15.mono ((hh1.trans hh2).trans hh3)
   refine uK (A := [_, _]) (fun X => yN (ρ := (rpT (rpQ (12 * k + 3 * m + 9 * n + 62)))) (bytes := 168) underlying27 yD rfl rfl rfl rfl p9N rfl rfl rl_15 rs_56 (by first | omega | (simp only [lAz, lC, lN, lR, lS]; omega)) (by first | omega | (simp only [lAz, lC, lN, lR, lS]; omega))) rfl (xE (by first | (simp; done) | grind)) ?_
   intro v106 q106 hq106
   obtain ⟨cs106, rfl, rl106⟩ := hq106
   refine w_q rfl (fun h' L' hh hR => zZ rfl) rfl (w_q rfl (fun h' L' hh hR => zZ rfl) rfl (xA (xB (zB (zA (gv (zR (q := 1) rfl rfl (by omega) (by omega)) rfl (mv rfl rfl (zD (xF (A := []) (xF (A := []) ?_))))))))))
   refine yR ((i + 1), (B ++ [btw s (l.getD i (T3.mk (0 : Rat) 0 0)) (l.getD ((i + 1) % l.length) (T3.mk (0 : Rat) 0 0))]), (F ++ [btw s (l.getD i (T3.mk (0 : Rat) 0 0)) (l.getD ((i + 1) % l.length) (T3.mk (0 : Rat) 0 0))]), v102, cs102, v106, cs106, h3) ?_ ?_ e8 rfl rfl
   ·
    refine ⟨(((hmmb.trans hh1).trans hh2).trans hh3), ?_⟩
    replace rl102 := rl102.mono hh3
    refine ⟨rl102, rl106, ?_⟩
    exact ⟨⟨by omega, (by first | exact jK hB hp1 hx1 | exact fF hB hp1 hx1 | exact fL hB hp1 hx1 | exact fM hB hp1 hx1)⟩, (by first | exact jJ hF hp2 hx1 | exact fE hF hp2 hx1 | exact fJ hF hp2 hx1 | exact fK hF hp2 hx1)⟩
   dsimp only
   omega
  have hx1 : ¬ xP s l i := by have h := hc91; rw [hS i (by omega), hS ((i + 1) % l.length) (Nat.mod_lt _ (by omega))] at h; exact h
  refine zL (xB (zB (zA (gv (zR (q := 1) rfl rfl (by omega) (by omega)) rfl (mv rfl rfl (zD (xF (A := []) ?_)))))))
  refine yR ((i + 1), B, F, s4_10, cs_11, s5_13, cs_14, mb) ?_ ?_ e8 rfl rfl
  ·
   refine ⟨hmmb, ?_⟩
   refine ⟨rl_12, rl_15, ?_⟩
   exact ⟨⟨by omega, (by first | exact jK hB hp1 hx1 | exact fF hB hp1 hx1 | exact fL hB hp1 hx1 | exact fM hB hp1 hx1)⟩, (by first | exact jJ hF hp2 hx1 | exact fE hF hp2 hx1 | exact fJ hF hp2 hx1 | exact fK hF hp2 hx1)⟩
  dsimp only
  omega
 have ej : i = l.length := by omega
 rw [ej] at hB hF
 refine xM (yE (yE (xL (zB (zC (zA (mv rfl rfl (mv rfl rfl (asg rfl rfl (asg rfl rfl (zD (zB (zQ ?_)))))))))))))
 refine kI (A := [_]) (ρ := (rpT (rpQ (12 * k + 3 * m + 9 * n + 62)))) rl_12 ?_
 intro h1 hh1 rs_57
 replace rl_15 := rl_15.mono hh1
 refine kI (A := []) (ρ := (rpT (rpQ (12 * k + 3 * m + 9 * n + 62)))) rl_15 ?_
 intro h2 hh2 rs_58
 refine vJ rfl rfl rfl ?_
 replace rs_57 := rs_57.mono hh2
 refine ⟨_, _, ?_, (Rp.Is.cast rs_57 (by rw [hB]; exact (fT (by rw [← hhi.1]; omega) (by rw [← hlo.1]; omega)).1.symm)), (Rp.Is.cast rs_58 (by rw [hF]; exact (fT (by rw [← hhi.1]; omega) (by rw [← hlo.1]; omega)).2.symm))⟩
 rfl
theorem o_cx_cut {w0 : World} {h0 : Mem}  (hs : MLe h0 (mem w0)) {k n m : Nat} {vl : Value} {l : (List (T3 Rat))} (rl : (rpS (rpT (rpQ k))).Is h0 vl l) {vs : Value} {s : ((T3 Rat) × Rat)} (rs : (rpP (rpT (rpQ n)) (rpQ m)).Is h0 vs s) (hcd0 : k ≤ 50000000) (hcd1 : m ≤ 1000000) (hcd2 : n ≤ 1000000) (hcd3 : l.length ≤ 50000)  :
    Calls Tryz.prog 14 #[vl, vs] w0 (Ret w0 h0 (fun h r => ∃ u0 u1, r = .tuple #[u0, u1] ∧ (rpS (rpT (rpQ (12 * k + 3 * m + 9 * n + 62 + 2)))).Is h u0 (tB s l) ∧ (rpS (rpT (rpQ (12 * k + 3 * m + 9 * n + 62 + 2)))).Is h u1 (tA s l))) := by
 have hcb := gG s l
 have hcf := gU s l
 refine zP (n := 18) (e := [(0, vl), (1, vs)]) (vs := [vl, vs]) func14 rfl rfl (bL rfl) hs e2z (zC (zA (zK (yW (ρ := (rpP (rpT (rpQ n)) (rpQ m))) rfl rs) rfl rfl rfl ?_)))
 intro v3 q3 hq3
 obtain ⟨b3, cs3, rfl, rfl, rb3⟩ := hq3
 refine asg rfl rfl (asg rfl rfl (zD (zB (zC (zA (mv rfl rfl (wF (F := fun v_ => (rpP (rpT (rpQ n)) (rpQ m)).Is h0 v_ s) (zE jM (Pc.here _) rfl rfl rb3 rfl) (yF (.head _)) rfl ?_)))))))
 intro v10 r10
 refine zM (vs := [_, _]) rfl rfl rfl rfl call47 e2z (fun w hs => s9 hs rl r10 (by omega) (by omega) (by omega) (by omega)) ?_
 intro v11 h1 hh1 r11
 obtain ⟨v11_0, v11_1, rfl, r11_0, r11_1⟩ := r11
 change (rpS (rpT (rpQ (12 * k + 3 * m + 9 * n + 62)))).Is h1 v11_0 (tB s l) at r11_0
 change (rpS (rpT (rpQ (12 * k + 3 * m + 9 * n + 62)))).Is h1 v11_1 (tA s l) at r11_1
 refine mv rfl rfl (gv (zN (vs := [_, _]) rfl rfl) rfl (gv (zN (vs := [_, _]) rfl rfl) rfl (asg rfl rfl (asg rfl rfl (zD (zJ (e' := [(6, _), (7, _)]) e2z (zB (zC (zA (mv rfl rfl ?_))))))))))
 refine zM (vs := [_]) rfl rfl rfl rfl call48 ⟨rfl, trivial⟩ (fun w hs => lY hs r11_0 (by omega) (by omega)) ?_
 intro v15 h2 hh2 r15
 change (rpS (rpT (rpQ ((12 * k + 3 * m + 9 * n + 62) + 2)))).Is h2 v15 (tB s l) at r15
 replace r15 := Rp.Is.le r15 (Le.s (Le.t (Le.q (l := 12 * k + 3 * m + 9 * n + 64) (by omega))))
 refine mv rfl rfl ?_
 replace r11_1 := r11_1.mono hh2
 refine zM (vs := [_]) rfl rfl rfl rfl call48 ⟨rfl, trivial⟩ (fun w hs => lY hs r11_1 (by omega) (by omega)) ?_
 intro v17 h3 hh3 r17
 change (rpS (rpT (rpQ ((12 * k + 3 * m + 9 * n + 62) + 2)))).Is h3 v17 (tA s l) at r17
 replace r17 := Rp.Is.le r17 (Le.s (Le.t (Le.q (l := 12 * k + 3 * m + 9 * n + 64) (by omega))))
 refine asg rfl rfl (asg rfl rfl (zD (zB (zQ (vJ rfl rfl rfl ?_)))))
 replace r15 := r15.mono hh3
 refine ⟨_, _, ?_, (Rp.Is.le r15 (Le.s (Le.t (Le.q (l := 12 * k + 3 * m + 9 * n + 62 + 2) (by omega))))), (Rp.Is.le r17 (Le.s (Le.t (Le.q (l := 12 * k + 3 * m + 9 * n + 62 + 2) (by omega)))))⟩
 rfl
end Go.Proofs.YtghhjjmjpeehdaaGreat
