/- Texts that the proof needs, part 5. -/
import Derived.Test.YtghhjjmjpeehdaaGreatK4
namespace Bk
set_option linter.unusedVariables false
set_option linter.unusedSimpArgs false
open Classical
noncomputable def pt2 (pl : Pl) (p : Pt) : P2 := pr p (axI pl.1) (axJ pl.1)
def qJ (pl : Pl) (l : List Pt) : Prop :=
  (3 ≤ l.length ∧ ¬ pl.1 = zT) ∧ (∀ m, m < l.length → sdZ pl (gp l m) = 0) ∧ ∀ m k, m < l.length → 2 ≤ k → k < l.length → 0 < orZ (pt2 pl (gp l m)) (pt2 pl (nx l m)) (pt2 pl (gp l ((m + k) % l.length)))
theorem or_pos {a b c : P2} : 0 < orZ a b c ↔ 0 < cr a b c := sgn_pos
theorem valid_edge {pl : Pl} {l : List Pt} (h : qJ pl l) : edgeT (fun m => pt2 pl (gp l m)) l.length := fun i k h1 h2 h3 => or_pos.1 (h.2.2 i k h1 h2 h3)
theorem valid_tri {pl : Pl} {l : List Pt} (h : qJ pl l) : triT (fun m => pt2 pl (gp l m)) l.length := tri_of_edge h.1.1 (valid_edge h)
theorem valid_of {pl : Pl} {l : List Pt} (h3 : 3 ≤ l.length) (hn : ¬ pl.1 = zT) (hon : ∀ m, m < l.length → sdZ pl (gp l m) = 0) (ht : triT (fun m => pt2 pl (gp l m)) l.length) : qJ pl l :=
  ⟨⟨h3, hn⟩, hon, fun i k h1 h2 h3 => or_pos.2 (edge_of_tri ht i k h1 h2 h3)⟩
theorem at_lerp (t : Rat) (a b : Pt) (i : Nat) : (lerp t a b).at i = a.at i + t * (b.at i - a.at i) := by
  rcases i with _ | _ | i <;> rfl
theorem pt2_lerp (pl : Pl) (t : Rat) (a b : Pt) : pt2 pl (lerp t a b) = lp t (pt2 pl a) (pt2 pl b) := by
  unfold pt2 pr lp
  rw [at_lerp, at_lerp]
theorem hgt_lerp (pl : Pl) (t : Rat) (a b : Pt) : hgt pl (lerp t a b) = (1 - t) * hgt pl a + t * hgt pl b := by
  unfold hgt wR lerp
  grind
theorem gA {pl : Pl} {p : Pt} : sdZ pl p = 0 ↔ hgt pl p = 0 := uQ
theorem sd_neg {pl : Pl} {p : Pt} : sdZ pl p < 0 ↔ hgt pl p < 0 := qY
theorem sd_pos {pl : Pl} {p : Pt} : 0 < sdZ pl p ↔ 0 < hgt pl p := sgn_pos
theorem sd_le {pl : Pl} {p : Pt} : sdZ pl p ≤ 0 ↔ hgt pl p ≤ 0 := by
  have h := sd_pos (pl := pl) (p := p)
  rw [← Int.not_lt, ← Rat.not_lt, h]
theorem sd_ge {pl : Pl} {p : Pt} : 0 ≤ sdZ pl p ↔ 0 ≤ hgt pl p := by
  have h := sd_neg (pl := pl) (p := p)
  rw [← Int.not_lt, ← Rat.not_lt, h]
theorem mul_neg_cases {a b : Int} (h : a * b < 0) : (a < 0 ∧ 0 < b) ∨ (0 < a ∧ b < 0) := by
  rcases Int.lt_trichotomy a 0 with h1 | h1 | h1
  · left; refine ⟨h1, Int.not_le.1 fun e => ?_⟩
    have := Int.mul_nonneg_of_nonpos_of_nonpos (Int.le_of_lt h1) e; omega
  · rw [h1, Int.zero_mul] at h; omega
  · right; refine ⟨h1, Int.not_le.1 fun e => ?_⟩
    have := Int.mul_nonneg (Int.le_of_lt h1) e; omega
theorem quo_in {A B : Rat} (h : (A < 0 ∧ 0 < B) ∨ (0 < A ∧ B < 0)) : ¬ A - B = 0 ∧ 0 < A / (A - B) ∧ A / (A - B) < 1 := by
  have hne : ¬ A - B = 0 := by grind
  have e : (A - B) * (A / (A - B)) = A := by rw [Rat.mul_comm, Rat.div_mul_cancel hne]
  generalize A / (A - B) = t at *
  refine ⟨hne, ?_, ?_⟩
  · rcases h with h | h
    · exact pos_div (x := B - A) (by grind) (by grind)
    · exact pos_div (x := A - B) (by grind) (by grind)
  · have : 0 < 1 - t := by
      rcases h with h | h
      · exact pos_div (x := B - A) (by grind) (by grind)
      · exact pos_div (x := A - B) (by grind) (by grind)
    grind
theorem cut_t {pl : Pl} {a b : Pt} (h : sdZ pl a * sdZ pl b < 0) : (0 < cutT pl a b ∧ cutT pl a b < 1) ∧ hgt pl (btw pl a b) = 0 := by
  have h1 : (hgt pl a < 0 ∧ 0 < hgt pl b) ∨ (0 < hgt pl a ∧ hgt pl b < 0) := by
    rcases mul_neg_cases h with ⟨a1, a2⟩ | ⟨a1, a2⟩
    · exact .inl ⟨sd_neg.1 a1, sd_pos.1 a2⟩
    · exact .inr ⟨sd_pos.1 a1, sd_neg.1 a2⟩
  obtain ⟨hne, h2, h3⟩ := quo_in h1
  have e : cutT pl a b = hgt pl a / (hgt pl a - hgt pl b) := if_neg hne
  unfold btw
  rw [hgt_lerp, e]
  refine ⟨⟨h2, h3⟩, ?_⟩
  have e2 : hgt pl a / (hgt pl a - hgt pl b) * (hgt pl a - hgt pl b) = hgt pl a := Rat.div_mul_cancel hne
  generalize hgt pl a / (hgt pl a - hgt pl b) = t at *
  grind
noncomputable def mk3 (c : Pl) (l : List Pt) (M : Mk) : Pt := if M.2 then btw c (gp l M.1) (nx l M.1) else gp l M.1
noncomputable def sgB (c : Pl) (l : List Pt) (m : Nat) : Int := sdZ c (gp l m)
noncomputable def sgF (c : Pl) (l : List Pt) (m : Nat) : Int := -sdZ c (gp l m)
theorem chgB {c : Pl} {l : List Pt} {m : Nat} : chg (sgB c l) l.length m ↔ xP c l m := Iff.rfl
theorem chgF {c : Pl} {l : List Pt} {m : Nat} : chg (sgF c l) l.length m ↔ xP c l m := by
  unfold chg sgF xP
  rw [Int.neg_mul_neg]
theorem bk_mks (c : Pl) (l : List Pt) : ∀ m, bkTo c l m = (mks (sgB c l) l.length m).map (mk3 c l)
  | 0 => rfl
  | m + 1 => by
    show _ ++ _ ++ _ = (_ ++ _ ++ _ : List Mk).map _
    rw [List.map_append, List.map_append, bk_mks c l m]
    congr 1
    · congr 1
      show (if sgB c l m ≤ 0 then _ else _) = _
      split <;> rfl
    · by_cases h : xP c l m
      · rw [if_pos h, if_pos (chgB.2 h)]; rfl
      · rw [if_neg h, if_neg (fun e => h (chgB.1 e))]; rfl
theorem fr_mks (c : Pl) (l : List Pt) : ∀ m, frTo c l m = (mks (sgF c l) l.length m).map (mk3 c l)
  | 0 => rfl
  | m + 1 => by
    show _ ++ _ ++ _ = (_ ++ _ ++ _ : List Mk).map _
    rw [List.map_append, List.map_append, fr_mks c l m]
    have e : (0 ≤ sdZ c (gp l m)) ↔ sgF c l m ≤ 0 := by unfold sgF; omega
    congr 1
    · congr 1
      by_cases h : 0 ≤ sdZ c (gp l m)
      · rw [if_pos h, if_pos (e.1 h)]; rfl
      · rw [if_neg h, if_neg (fun k => h (e.2 k))]; rfl
    · by_cases h : xP c l m
      · rw [if_pos h, if_pos (chgF.2 h)]; rfl
      · rw [if_neg h, if_neg (fun e => h (chgF.1 e))]; rfl
theorem gp_map3 {c : Pl} {l : List Pt} {L : List Mk} {q : Nat} (h : q < L.length) : gp (L.map (mk3 c l)) q = mk3 c l (L.getD q (0, false)) := by
  unfold gp
  rw [List.getD_eq_getElem?_getD, List.getD_eq_getElem?_getD, List.getElem?_map, List.getElem?_eq_getElem h]
  rfl
noncomputable def tC (c : Pl) (l : List Pt) (m : Nat) : Rat := cutT c (gp l (m % l.length)) (nx l (m % l.length))
theorem tC_lt {c : Pl} {l : List Pt} {m : Nat} (h : m < l.length) : tC c l m = cutT c (gp l m) (nx l m) := by unfold tC; rw [Nat.mod_eq_of_lt h]
theorem tC_per (c : Pl) (l : List Pt) (m : Nat) : tC c l (m % l.length) = tC c l m := by unfold tC; rw [Nat.mod_mod]
theorem mk3_pt2 {pl c : Pl} {l : List Pt} {M : Mk} (h : M.1 < l.length) : pt2 pl (mk3 c l M) = mkP (fun m => pt2 pl (gp l m)) l.length (tC c l) M := by
  obtain ⟨i, b⟩ := M
  have hi : i < l.length := h
  unfold mk3 mkP
  have e1 : ex (fun m => pt2 pl (gp l m)) l.length i = pt2 pl (gp l i) := by unfold ex; rw [Nat.mod_eq_of_lt hi]
  have e2 : ex (fun m => pt2 pl (gp l m)) l.length (i + 1) = pt2 pl (nx l i) := rfl
  simp only [e1, e2, tC_lt hi]
  split
  · exact pt2_lerp _ _ _ _
  · rfl
theorem part_valid {pl c : Pl} {l : List Pt} {s : Nat → Int} (h : qJ pl l) (hs : ∀ m, chg s l.length m ↔ xP c l m) {i j : Nat} (hi : i < l.length) (hj : j < l.length) (h1 : s i < 0) (h2 : 0 < s j) : qJ pl ((mks s l.length l.length).map (mk3 c l)) := by
  have hl := mks_len hi hj h1 h2
  have hlen : ((mks s l.length l.length).map (mk3 c l)).length = (mks s l.length l.length).length := List.length_map ..
  have mem : ∀ q, q < (mks s l.length l.length).length → (mks s l.length l.length).getD q (0, false) ∈ mks s l.length l.length := fun q hq => by
    rw [List.getD_eq_getElem?_getD, List.getElem?_eq_getElem hq]; exact List.getElem_mem hq
  refine valid_of (by rw [hlen]; exact hl) h.1.2 (fun m hm => ?_) ?_
  · rw [hlen] at hm
    rw [gp_map3 hm]
    have hM := kC.1 (mem m hm)
    generalize (mks s l.length l.length).getD m (0, false) = M at *
    obtain ⟨q, b⟩ := M
    have hq : q < l.length := hM.1
    unfold mk3
    cases b with
    | false => exact h.2.1 q hq
    | true =>
      show sdZ pl (btw c (gp l q) (nx l q)) = 0
      unfold btw
      rw [gA, hgt_lerp, gA.1 (h.2.1 q hq), gA.1 (h.2.1 _ (Nat.mod_lt _ (by omega)))]
      grind
  · rw [hlen]
    have ht := mks_tri (t := tC c l) (s := s) h.1.1 (valid_tri h) (fun m hm hc => by rw [tC_lt hm]; exact (cut_t ((hs m).1 hc)).1)
    intro a b d hab hbd hd
    have := ht a b d hab hbd hd
    show 0 < cr (pt2 pl (gp _ a)) (pt2 pl (gp _ b)) (pt2 pl (gp _ d))
    rw [gp_map3 (by omega), gp_map3 (by omega), gp_map3 hd, mk3_pt2 (kC.1 (mem a (by omega))).1, mk3_pt2 (kC.1 (mem b (by omega))).1, mk3_pt2 (kC.1 (mem d hd)).1]
    exact this
theorem cutB_valid {pl : Pl} {l : List Pt} (c : Pl) (h : qJ pl l) : qJ pl (qA c l) ∨ qA c l = [] := by
  by_cases ha : qP c l l.length
  · by_cases hb : qV c l l.length
    · obtain ⟨i, hi, h1⟩ := (beh_iff _).1 hb
      obtain ⟨j, hj, h2⟩ := (ahe_iff _).1 ha
      rw [(kF ha hb).1, bk_mks]
      exact .inl (part_valid h (fun m => chgB) hi hj h1 h2)
    · exact .inr (cutF_all ha hb).1
  · rw [(kV ha).1]; exact .inl h
theorem cutF_valid {pl : Pl} {l : List Pt} (c : Pl) (h : qJ pl l) : qJ pl (uW c l) ∨ uW c l = [] := by
  by_cases ha : qP c l l.length
  · by_cases hb : qV c l l.length
    · obtain ⟨i, hi, h1⟩ := (beh_iff _).1 hb
      obtain ⟨j, hj, h2⟩ := (ahe_iff _).1 ha
      rw [(kF ha hb).2, fr_mks]
      exact .inl (part_valid h (fun m => chgF) hj hi (by unfold sgF; omega) (by unfold sgF; omega))
    · rw [(cutF_all ha hb).2]; exact .inl h
  · exact .inr (kV ha).2
def detT (a b c : Pt) : Rat := wR a (yW b c)
theorem det_or {pl : Pl} {a b c : Pt} (hn : ¬ pl.1 = zT) (ha : sdZ pl a = 0) (hb : sdZ pl b = 0) (hc : sdZ pl c = 0) : uT (wR (yW (qW b a) (qW c a)) pl.1) = orZ (pt2 pl a) (pt2 pl b) (pt2 pl c) := by
  have hk : ¬ pl.1.at (axK pl.1) = 0 := fun e => hn ((ax_zero _).1 e)
  have h1 := turns_eq pl (qX pl a) (qX pl b) (qX pl c) hk
  rw [lift_back hk ha, lift_back hk hb, lift_back hk hc, area3] at h1
  exact h1.symm
theorem det_eq (a b c n : Pt) : wR (yW (qW b a) (qW c a)) n = detT (qW b a) (qW c a) n := by
  unfold detT wR yW qW
  grind
theorem up_or {pl : Pl} {a b p : Pt} (hn : ¬ pl.1 = zT) (ha : sdZ pl a = 0) (hb : sdZ pl b = 0) (hp : sdZ pl p = 0) : uT (wR (yW (qW b a) pl.1) p - wR (yW (qW b a) pl.1) a) = -orZ (pt2 pl a) (pt2 pl b) (pt2 pl p) := by
  rw [← det_or hn ha hb hp]
  have e : wR (yW (qW b a) pl.1) p - wR (yW (qW b a) pl.1) a = -wR (yW (qW b a) (qW p a)) pl.1 := by
    unfold wR yW qW; grind
  rw [e, sgnQ_lt, sgnQ_lt]
  generalize wR (yW (qW b a) (qW p a)) pl.1 = x
  grind
end Bk
namespace Bk
set_option linter.unusedVariables false
set_option linter.unusedSimpArgs false
open Go Go.RowKit
open Classical
theorem s_one3 {α : Type} {ρ : Rp α} {h : Mem} {v : Value} {xs : List α} (s : (rpS ρ).Is h v xs) : ∃ a m cap, v = .slice a m cap := by
  obtain ⟨a, cap, e⟩ := s_one s
  exact ⟨a, _, cap, e⟩
theorem nil_of {α : Type} {ρ : Rp α} {h : Mem} {v : Value} {xs : List α} (s : (rpS ρ).Is h v xs) (hk : 0 < ρ.n) (hn : ∃ m cap, v = .slice none m cap) : xs = [] := by
  obtain ⟨ds, ⟨a, cap, e, h1, h2, h3, h4⟩, r⟩ := of_s s
  obtain ⟨m, cap', e'⟩ := hn
  rw [e] at e'
  injection e' with e1 e2 e3
  refine List.eq_nil_of_length_eq_zero ?_
  rcases Nat.eq_zero_or_pos ds.length with h0 | h0
  · rw [h0] at h3
    rcases Nat.mul_eq_zero.1 h3.symm with h5 | h5
    · exact h5
    · omega
  · obtain ⟨b, o, hb, _⟩ := h4 0 h0
    rw [e1] at hb
    exact absurd hb (by simp)
theorem t3_lq {k : Nat} {h : Mem} {v : Value} {p : T3 Rat} (s : (rpT (rpQ k)).Is h v p) : lq p.x ≤ k ∧ lq p.y ≤ k ∧ lq p.z ≤ k := by
  obtain ⟨cs, ⟨a, b, _, ra, c, d, _, rc, rd⟩, _⟩ := s
  exact ⟨ra.2, rc.2, rd.2⟩
theorem t3_tight {K k : Nat} {h : Mem} {v : Value} {p : T3 Rat} (s : (rpT (rpQ K)).Is h v p) (h1 : lq p.x ≤ k) (h2 : lq p.y ≤ k) (h3 : lq p.z ≤ k) : (rpT (rpQ k)).Is h v p := by
  obtain ⟨cs, ⟨a, b, e, ra, c, d, e', rc, rd⟩, ev⟩ := s
  exact ⟨cs, ⟨a, b, e, ⟨ra.1, h1⟩, c, d, e', ⟨rc.1, h2⟩, ⟨rd.1, h3⟩⟩, ev⟩
theorem list_same {α : Type} {d : α} {a b : List α} (hl : a.length = b.length) (h : ∀ u, u < b.length → a.getD u d = b.getD u d) : a = b := by
  refine List.ext_getElem hl fun q h1 h2 => ?_
  have := h q h2
  rw [List.getD_eq_getElem?_getD, List.getD_eq_getElem?_getD, List.getElem?_eq_getElem h1, List.getElem?_eq_getElem h2] at this
  exact this
theorem side_sm {a b : Rat} (h : ¬ (¬ smB a ∨ ¬ smB b)) : (smB a ∧ smB b) ∧ (-72057594037927936 ≤ smZ a * smZ b ∧ smZ a * smZ b ≤ 72057594037927936) := by
  have h1 : smB a ∧ smB b := by
    constructor
    · exact Classical.not_not.1 fun e => h (.inl e)
    · exact Classical.not_not.1 fun e => h (.inr e)
  have e1 := (sm_eq h1.1).2
  have e2 := (sm_eq h1.2).2
  refine ⟨h1, ?_⟩
  have key : ∀ {x y : Int}, 0 ≤ x → x < 268435456 → 0 ≤ y → y < 268435456 → 0 ≤ x * y ∧ x * y ≤ 72057594037927936 := by
    intro x y hx hx' hy hy'
    have k1 := Int.mul_nonneg hx hy
    have k2 : x * y ≤ 268435456 * 268435456 := Int.mul_le_mul (by omega) (by omega) hy (by omega)
    omega
  generalize smZ a = u at *
  generalize smZ b = v at *
  rcases Int.le_total 0 u with hu | hu <;> rcases Int.le_total 0 v with hv | hv
  · have := key hu (by omega) hv (by omega); omega
  · have := key hu (by omega) (y := -v) (by omega) (by omega)
    rw [Int.mul_neg] at this; omega
  · have := key (x := -u) (by omega) (by omega) hv (by omega)
    rw [Int.neg_mul] at this; omega
  · have := key (x := -u) (y := -v) (by omega) (by omega) (by omega) (by omega)
    rw [Int.neg_mul_neg] at this; omega
theorem side_sum {s : Pl} {p : Pt} (hx : smB s.1.x ∧ smB p.x) (hy : smB s.1.y ∧ smB p.y) (hz : smB s.1.z ∧ smB p.z) (hd : smB s.2) : sgnZ ((0 : Int) + smZ s.1.x * smZ p.x + smZ s.1.y * smZ p.y + smZ s.1.z * smZ p.z - smZ s.2) = sdZ s p := by
  rw [← sgn_cast]
  unfold sdZ hgt wR
  congr 1
  rw [Rat.intCast_sub, Rat.intCast_add, Rat.intCast_add, Rat.intCast_add, Rat.intCast_mul, Rat.intCast_mul, Rat.intCast_mul]
  rw [← (sm_eq hx.1).1, ← (sm_eq hx.2).1, ← (sm_eq hy.1).1, ← (sm_eq hy.2).1, ← (sm_eq hz.1).1, ← (sm_eq hz.2).1, ← (sm_eq hd).1]
  have e : ((0 : Int) : Rat) = 0 := rfl
  rw [e]
  grind
theorem side_cmp (s : Pl) (p : Pt) : kO (wR s.1 p) s.2 = sdZ s p := cmpQ_sub _ _
theorem mem_getD {L : List (List Pt)} {n m : Nat} (hm : m < L.length) (h : ∀ x, x ∈ L → x.length ≤ n) : (L.getD m []).length ≤ n := by
  rw [List.getD_eq_getElem?_getD, List.getElem?_eq_getElem hm]
  exact h _ (List.getElem_mem hm)
theorem mx_next {a s : Int} {p : Prop} (h : 0 < a ↔ p) (h0 : 0 ≤ a) : (0 < max a s ↔ (p ∨ 0 < s)) ∧ 0 ≤ max a s := by rw [← h]; omega
theorem mn_next {a s : Int} {p : Prop} (h : a < 0 ↔ p) (h0 : a ≤ 0) : (min a s < 0 ↔ (p ∨ s < 0)) ∧ min a s ≤ 0 := by rw [← h]; omega
theorem cut_nb {pl : Pl} {l : List Pt} (ha : qP pl l l.length) (hb : ¬ qV pl l l.length) : qA pl l = [] ∧ uW pl l = frTo pl l l.length := by
  unfold qA uW
  rw [if_neg (fun e => e.elim hb fun e => e ha), if_pos ha]
  exact ⟨rfl, rfl⟩
theorem cut_na {pl : Pl} {l : List Pt} (ha : ¬ qP pl l l.length) : qA pl l = bkTo pl l l.length ∧ uW pl l = [] := by
  unfold qA uW
  rw [if_pos (.inr ha), if_neg ha]
  exact ⟨rfl, rfl⟩
end Bk
namespace Go.Proofs.YtghhjjmjpeehdaaGreat
open Bk Go Tryz
set_option linter.unusedVariables false
set_option linter.unusedSimpArgs false
set_option maxRecDepth 10000
theorem o_s4_add {w0 : World} {h0 : Mem} (hs : MLe h0 (mem w0)) {k l : Nat} {va : Value} {a : (T3 Rat)} (ra : (rpT (rpQ k)).Is h0 va a) {vb : Value} {b : (T3 Rat)} (rb : (rpT (rpQ l)).Is h0 vb b) (hcd0 : k + l ≤ 1000000000) : Calls Tryz.prog 19 #[va, vb] w0 (Ret w0 h0 (fun h r => (rpT (rpQ (k + l + 1))).Is h r (T3.mk (a.x + b.x) (a.y + b.y) (a.z + b.z)))) := by
  obtain ⟨a1, a2, a3⟩ := t3_lq ra
  obtain ⟨b1, b2, b3⟩ := t3_lq rb
  exact (o_r4_add hs ra rb hcd0).mono (jM fun h r x => t3_tight x (by have := lq_add a.x b.x; show lq (a.x + b.x) ≤ _; omega) (by have := lq_add a.y b.y; show lq (a.y + b.y) ≤ _; omega) (by have := lq_add a.z b.z; show lq (a.z + b.z) ≤ _; omega))
theorem o_s4_sub {w0 : World} {h0 : Mem} (hs : MLe h0 (mem w0)) {k l : Nat} {va : Value} {a : (T3 Rat)} (ra : (rpT (rpQ k)).Is h0 va a) {vb : Value} {b : (T3 Rat)} (rb : (rpT (rpQ l)).Is h0 vb b) (hcd0 : k + l ≤ 1000000000) : Calls Tryz.prog 23 #[va, vb] w0 (Ret w0 h0 (fun h r => (rpT (rpQ (k + l + 1))).Is h r (T3.mk (a.x - b.x) (a.y - b.y) (a.z - b.z)))) := by
  obtain ⟨a1, a2, a3⟩ := t3_lq ra
  obtain ⟨b1, b2, b3⟩ := t3_lq rb
  exact (o_r4_sub hs ra rb hcd0).mono (jM fun h r x => t3_tight x (by have := lq_sub a.x b.x; show lq (a.x - b.x) ≤ _; omega) (by have := lq_sub a.y b.y; show lq (a.y - b.y) ≤ _; omega) (by have := lq_sub a.z b.z; show lq (a.z - b.z) ≤ _; omega))
theorem o_s4_scale {w0 : World} {h0 : Mem} (hs : MLe h0 (mem w0)) {l k : Nat} {vq : Value} {q : Rat} (rq : (rpQ l).Is h0 vq q) {va : Value} {a : (T3 Rat)} (ra : (rpT (rpQ k)).Is h0 va a) (hcd0 : k + l ≤ 1000000000) : Calls Tryz.prog 20 #[vq, va] w0 (Ret w0 h0 (fun h r => (rpT (rpQ (k + l))).Is h r (T3.mk (q * a.x) (q * a.y) (q * a.z)))) := by
  obtain ⟨a1, a2, a3⟩ := t3_lq ra
  have hq := (of_q rq).2
  exact (o_r4_scale hs rq ra hcd0).mono (jM fun h r x => t3_tight x (by have := lq_mul q a.x; show lq (q * a.x) ≤ _; omega) (by have := lq_mul q a.y; show lq (q * a.y) ≤ _; omega) (by have := lq_mul q a.z; show lq (q * a.z) ≤ _; omega))
theorem o_each_add {w0 : World} {h0 : Mem}  (hs : MLe h0 (mem w0)) {k l : Nat} {va : Value} {a : (T3 Rat)} (ra : (rpT (rpQ k)).Is h0 va a) {vb : Value} {b : (T3 Rat)} (rb : (rpT (rpQ l)).Is h0 vb b) (hcd0 : k + l ≤ 10000000000)  :
    Calls Tryz.prog 115 #[va, vb, vF 71 []] w0 (Ret w0 h0 (fun h r => (rpT (rpQ (k + l + 1 + 1))).Is h r (T3.mk (a.x + b.x) (a.y + b.y) (a.z + b.z)))) := by
 refine zM (n := 24) (e := [(0, va), (1, vb), (2, vF 71 [])]) (vs := [va, vb, vF 71 []]) func115 rfl rfl (bL rfl) hs e3z (zC (zA (zI (yU (ρ := (rpT (rpQ k))) rfl ra) rfl rfl rfl ?_)))
 intro v3 q3 hq3
 obtain ⟨b3, cs3, rfl, rfl, rb3⟩ := hq3
 refine zI (yU (ρ := (rpT (rpQ l))) rfl rb) rfl rfl rfl ?_
 intro v4 q4 hq4
 obtain ⟨b4, cs4, rfl, rfl, rb4⟩ := hq4
 refine zI (yR (ρ := (rpT (rpQ (k + l + 1 + 1)))) (X := zT) yL rfl rfl (wO (wB (by omega)))) rfl rfl rfl ?_
 intro v6 q6 hq6
 obtain ⟨b6, cs6, rfl, rfl, rb6⟩ := hq6
 refine zD (zB (zC (zA (zI (yR (ρ := (rpT (rpQ (k + l + 1 + 1)))) (X := zT) yL rfl rfl (wO (wB (by omega)))) rfl rfl rfl ?_))))
 intro v7 q7 hq7
 obtain ⟨b7, cs7, rfl, rfl, rb7⟩ := hq7
 refine zD (zB (zC (zC (zA (mv (v := vI (0)) rfl rfl (zD (zB (zP (kD (zC (zA (gv (OpV.tr (by decide) (zW (q := 3) rfl rfl)) rfl (zD ?_)))))))))))))
 refine zB (zC (xZ rfl (zK (zB (zC (zP (zC (zA (mv rfl rfl (asg rfl rfl (zD (zB ?_))))))))))))
 refine yF 10 _ [] [(0, .q), (1, .q), (2, .q), (3, .q), (4, .q), (5, .q), (6, .q), (7, .q), (8, .c), (9, .q), (10, .t)] xH nX (by kernel_rfl) nX (fun r hr => hr) (yH rfl rfl rfl (yH rfl rfl rfl (yH rfl rfl rfl (yK rfl (fun _ _ => (zH (sz := 3) 0 underlying32 sizeOf30 rfl rfl rfl (by decide)).cv (show _ = vP b3 0 from congrArg (vP b3) (by rfl))) rfl (yP (F := fun v_ => (rpQ k).Is h0 v_ a.x) rfl (zE xS (Pc.tx (Pc.here _)) rfl rfl rb3 rfl) (yD mh3) rfl ?_)))))
 intro v16u1 r16u1
 refine yH rfl rfl rfl (yK rfl (fun _ _ => (zH (sz := 3) 0 underlying32 sizeOf30 rfl rfl rfl (by decide)).cv (show _ = vP b4 0 from congrArg (vP b4) (by rfl))) rfl (yP (F := fun v_ => (rpQ l).Is h0 v_ b.x) rfl (zE xS (Pc.tx (Pc.here _)) rfl rfl rb4 rfl) (yD mh2) rfl ?_))
 intro v19u1 r19u1
 refine w_c rfl (s_enter (kE (vs := [_, _]) call71 rfl e2z) rfl (fun w hs => o_rat_add hs r16u1 r19u1 (by omega)) ?_)
 intro v20u1 h1 hh1 r20u1
 change (rpQ (k + l + 1)).Is h1 v20u1 (a.x + b.x) at r20u1
 refine yK rfl (fun _ _ => (zH (sz := 3) 0 underlying32 sizeOf30 rfl rfl rfl (by decide)).cv (show _ = vP b7 0 from congrArg (vP b7) (by rfl))) rfl ?_
 replace rb7 := rb7.mono hh1
 refine xR (A := []) (F := fun c_ => (rpT (rpQ (k + l + 1 + 1))).R h1 c_ (T3.mk (a.x + b.x) (0 : Rat) (0 : Rat))) rfl (yJ sizeOf30 (Pc.tx (Pc.here _)) rfl rfl rfl rb7 (r20u1.le (Le.q (l := k + l + 1 + 1) (by omega))) rfl) ?_
 intro cs_1 rb_2
 refine xB (xC (zJ (e' := [(2, _), (3, _), (4, _), (6, _), (7, _), (9, _)]) e6 (zB (zA (gv ((zS (q := 1) rfl rfl (by omega) (by omega)).cv (show _ = vI (1) from rfl)) rfl (mv rfl rfl (zD (wN (zC (zA (gv (OpV.tr (by decide) (zW (q := 3) rfl rfl)) rfl (zD (zB ?_)))))))))))))
 refine zC (xZ rfl (zK (zB (zC (zP (zC (zA (mv rfl rfl (asg rfl rfl (zD (zB ?_)))))))))))
 refine yF 10 _ [] [(0, .q), (1, .q), (2, .q), (3, .q), (4, .q), (5, .q), (6, .q), (7, .q), (8, .c), (9, .q), (10, .t)] xH nX (by kernel_rfl) nX (fun r hr => hr) (yH rfl rfl rfl (yH rfl rfl rfl (yH rfl rfl rfl (yK rfl (fun _ _ => (zH (sz := 3) 1 underlying32 sizeOf30 rfl rfl rfl (by decide)).cv (show _ = vP b3 3 from congrArg (vP b3) (by rfl))) rfl ?_))))
 replace rb3 := rb3.mono hh1
 refine yP (F := fun v_ => (rpQ k).Is h1 v_ a.y) rfl (zE xS (Pc.ty (Pc.here _)) rfl rfl rb3 rfl) (yD mh3) rfl ?_
 intro v16u2 r16u2
 refine yH rfl rfl rfl (yK rfl (fun _ _ => (zH (sz := 3) 1 underlying32 sizeOf30 rfl rfl rfl (by decide)).cv (show _ = vP b4 3 from congrArg (vP b4) (by rfl))) rfl ?_)
 replace rb4 := rb4.mono hh1
 refine yP (F := fun v_ => (rpQ l).Is h1 v_ b.y) rfl (zE xS (Pc.ty (Pc.here _)) rfl rfl rb4 rfl) (yD mh2) rfl ?_
 intro v19u2 r19u2
 refine w_c rfl (s_enter (kE (vs := [_, _]) call71 rfl e2z) rfl (fun w hs => o_rat_add hs r16u2 r19u2 (by omega)) ?_)
 intro v20u2 h2 hh2 r20u2
 change (rpQ (k + l + 1)).Is h2 v20u2 (a.y + b.y) at r20u2
 refine yK rfl (fun _ _ => (zH (sz := 3) 1 underlying32 sizeOf30 rfl rfl rfl (by decide)).cv (show _ = vP b7 3 from congrArg (vP b7) (by rfl))) rfl ?_
 replace rb_2 := rb_2.mono hh2
 refine xR (A := []) (F := fun c_ => (rpT (rpQ (k + l + 1 + 1))).R h2 c_ (T3.mk (a.x + b.x) (a.y + b.y) (0 : Rat))) rfl (yJ sizeOf30 (Pc.ty (Pc.here _)) rfl rfl rfl rb_2 (r20u2.le (Le.q (l := k + l + 1 + 1) (by omega))) rfl) ?_
 intro cs_3 rb_4
 refine xB (xC (zJ (e' := [(2, _), (3, _), (4, _), (6, _), (7, _), (9, _)]) e6 (zB (zA (gv ((zS (q := 1) rfl rfl (by omega) (by omega)).cv (show _ = vI (2) from rfl)) rfl (mv rfl rfl (zD (wN (zC (zA (gv (OpV.tr (by decide) (zW (q := 3) rfl rfl)) rfl (zD (zB ?_)))))))))))))
 refine zC (xZ rfl (zK (zB (zC (zP (zC (zA (mv rfl rfl (asg rfl rfl (zD (zB ?_)))))))))))
 refine yF 10 _ [] [(0, .q), (1, .q), (2, .q), (3, .q), (4, .q), (5, .q), (6, .q), (7, .q), (8, .c), (9, .q), (10, .t)] xH nX (by kernel_rfl) nX (fun r hr => hr) (yH rfl rfl rfl (yH rfl rfl rfl (yH rfl rfl rfl (yK rfl (fun _ _ => (zH (sz := 3) 2 underlying32 sizeOf30 rfl rfl rfl (by decide)).cv (show _ = vP b3 6 from congrArg (vP b3) (by rfl))) rfl ?_))))
 replace rb3 := rb3.mono hh2
 refine yP (F := fun v_ => (rpQ k).Is h2 v_ a.z) rfl (zE xS (Pc.tz (Pc.here _)) rfl rfl rb3 rfl) (yD mh3) rfl ?_
 intro v16u3 r16u3
 refine yH rfl rfl rfl (yK rfl (fun _ _ => (zH (sz := 3) 2 underlying32 sizeOf30 rfl rfl rfl (by decide)).cv (show _ = vP b4 6 from congrArg (vP b4) (by rfl))) rfl ?_)
 replace rb4 := rb4.mono hh2
 refine yP (F := fun v_ => (rpQ l).Is h2 v_ b.z) rfl (zE xS (Pc.tz (Pc.here _)) rfl rfl rb4 rfl) (yD mh2) rfl ?_
 intro v19u3 r19u3
 refine w_c rfl (s_enter (kE (vs := [_, _]) call71 rfl e2z) rfl (fun w hs => o_rat_add hs r16u3 r19u3 (by omega)) ?_)
 intro v20u3 h3 hh3 r20u3
 change (rpQ (k + l + 1)).Is h3 v20u3 (a.z + b.z) at r20u3
 refine yK rfl (fun _ _ => (zH (sz := 3) 2 underlying32 sizeOf30 rfl rfl rfl (by decide)).cv (show _ = vP b7 6 from congrArg (vP b7) (by rfl))) rfl ?_
 replace rb_4 := rb_4.mono hh3
 refine xR (A := []) (F := fun c_ => (rpT (rpQ (k + l + 1 + 1))).R h3 c_ (T3.mk (a.x + b.x) (a.y + b.y) (a.z + b.z))) rfl (yJ sizeOf30 (Pc.tz (Pc.here _)) rfl rfl rfl rb_4 (r20u3.le (Le.q (l := k + l + 1 + 1) (by omega))) rfl) ?_
 intro cs_5 rb_6
 refine xB (xC (zJ (e' := [(2, _), (3, _), (4, _), (6, _), (7, _), (9, _)]) e6 (zB (zA (gv ((zS (q := 1) rfl rfl (by omega) (by omega)).cv (show _ = vI (3) from rfl)) rfl (mv rfl rfl (zD (wN (zC (zA (gv (OpV.fa (by decide) (zW (q := 3) rfl rfl)) rfl (zD (zB ?_)))))))))))))
 refine zC (qQ rfl (xG (yB (yB (xF (zB (zC (zA (xX (F := fun v_ => (rpT (rpQ (k + l + 1 + 1))).Is h3 v_ (T3.mk (a.x + b.x) (a.y + b.y) (a.z + b.z))) (zE xJ (Pc.here _) rfl rfl rb_6 rfl) (yD mh0) rfl ?_)))))))))
 intro v23u4 r23u4
 replace rb6 := rb6.mono ((hh1.trans hh2).trans hh3)
 refine wW (A := [_]) (F := fun c_ => (rpT (rpQ (k + l + 1 + 1))).R h3 c_ (T3.mk (a.x + b.x) (a.y + b.y) (a.z + b.z))) (yJ sizeOf32 (Pc.here _) rfl rfl rfl rb6 r23u4 rfl) ?_
 intro cs_7 rb_8
 refine zD (zB (zQ (uZ (rv_o (t := 6) xJ mh1 rfl rb_8) ?_)))
 intro w_9 hvw_9 rr_10
 refine xQ (fun E S => yS rfl hvw_9 E S) ?_
 exact rr_10
theorem o_each_sub {w0 : World} {h0 : Mem}  (hs : MLe h0 (mem w0)) {k l : Nat} {va : Value} {a : (T3 Rat)} (ra : (rpT (rpQ k)).Is h0 va a) {vb : Value} {b : (T3 Rat)} (rb : (rpT (rpQ l)).Is h0 vb b) (hcd0 : k + l ≤ 10000000000)  :
    Calls Tryz.prog 115 #[va, vb, vF 70 []] w0 (Ret w0 h0 (fun h r => (rpT (rpQ (k + l + 1 + 1))).Is h r (T3.mk (a.x - b.x) (a.y - b.y) (a.z - b.z)))) := by
 refine zM (n := 24) (e := [(0, va), (1, vb), (2, vF 70 [])]) (vs := [va, vb, vF 70 []]) func115 rfl rfl (bL rfl) hs e3z (zC (zA (zI (yU (ρ := (rpT (rpQ k))) rfl ra) rfl rfl rfl ?_)))
 intro v3 q3 hq3
 obtain ⟨b3, cs3, rfl, rfl, rb3⟩ := hq3
 refine zI (yU (ρ := (rpT (rpQ l))) rfl rb) rfl rfl rfl ?_
 intro v4 q4 hq4
 obtain ⟨b4, cs4, rfl, rfl, rb4⟩ := hq4
 refine zI (yR (ρ := (rpT (rpQ (k + l + 1 + 1)))) (X := zT) yL rfl rfl (wO (wB (by omega)))) rfl rfl rfl ?_
 intro v6 q6 hq6
 obtain ⟨b6, cs6, rfl, rfl, rb6⟩ := hq6
 refine zD (zB (zC (zA (zI (yR (ρ := (rpT (rpQ (k + l + 1 + 1)))) (X := zT) yL rfl rfl (wO (wB (by omega)))) rfl rfl rfl ?_))))
 intro v7 q7 hq7
 obtain ⟨b7, cs7, rfl, rfl, rb7⟩ := hq7
 refine zD (zB (zC (zC (zA (mv (v := vI (0)) rfl rfl (zD (zB (zP (kD (zC (zA (gv (OpV.tr (by decide) (zW (q := 3) rfl rfl)) rfl (zD ?_)))))))))))))
 refine zB (zC (xZ rfl (zK (zB (zC (zP (zC (zA (mv rfl rfl (asg rfl rfl (zD (zB ?_))))))))))))
 refine yF 10 _ [] [(0, .q), (1, .q), (2, .q), (3, .q), (4, .q), (5, .q), (6, .q), (7, .q), (8, .c), (9, .q), (10, .t)] xH nX (by kernel_rfl) nX (fun r hr => hr) (yH rfl rfl rfl (yH rfl rfl rfl (yH rfl rfl rfl (yK rfl (fun _ _ => (zH (sz := 3) 0 underlying32 sizeOf30 rfl rfl rfl (by decide)).cv (show _ = vP b3 0 from congrArg (vP b3) (by rfl))) rfl (yP (F := fun v_ => (rpQ k).Is h0 v_ a.x) rfl (zE xS (Pc.tx (Pc.here _)) rfl rfl rb3 rfl) (yD mh3) rfl ?_)))))
 intro v16u5 r16u5
 refine yH rfl rfl rfl (yK rfl (fun _ _ => (zH (sz := 3) 0 underlying32 sizeOf30 rfl rfl rfl (by decide)).cv (show _ = vP b4 0 from congrArg (vP b4) (by rfl))) rfl (yP (F := fun v_ => (rpQ l).Is h0 v_ b.x) rfl (zE xS (Pc.tx (Pc.here _)) rfl rfl rb4 rfl) (yD mh2) rfl ?_))
 intro v19u5 r19u5
 refine w_c rfl (s_enter (kE (vs := [_, _]) call70 rfl e2z) rfl (fun w hs => o_rat_sub hs r16u5 r19u5 (by omega)) ?_)
 intro v20u5 h1 hh1 r20u5
 change (rpQ (k + l + 1)).Is h1 v20u5 (a.x - b.x) at r20u5
 refine yK rfl (fun _ _ => (zH (sz := 3) 0 underlying32 sizeOf30 rfl rfl rfl (by decide)).cv (show _ = vP b7 0 from congrArg (vP b7) (by rfl))) rfl ?_
 replace rb7 := rb7.mono hh1
 refine xR (A := []) (F := fun c_ => (rpT (rpQ (k + l + 1 + 1))).R h1 c_ (T3.mk (a.x - b.x) (0 : Rat) (0 : Rat))) rfl (yJ sizeOf30 (Pc.tx (Pc.here _)) rfl rfl rfl rb7 (r20u5.le (Le.q (l := k + l + 1 + 1) (by omega))) rfl) ?_
 intro cs_11 rb_12
 refine xB (xC (zJ (e' := [(2, _), (3, _), (4, _), (6, _), (7, _), (9, _)]) e6 (zB (zA (gv ((zS (q := 1) rfl rfl (by omega) (by omega)).cv (show _ = vI (1) from rfl)) rfl (mv rfl rfl (zD (wN (zC (zA (gv (OpV.tr (by decide) (zW (q := 3) rfl rfl)) rfl (zD (zB ?_)))))))))))))
 refine zC (xZ rfl (zK (zB (zC (zP (zC (zA (mv rfl rfl (asg rfl rfl (zD (zB ?_)))))))))))
 refine yF 10 _ [] [(0, .q), (1, .q), (2, .q), (3, .q), (4, .q), (5, .q), (6, .q), (7, .q), (8, .c), (9, .q), (10, .t)] xH nX (by kernel_rfl) nX (fun r hr => hr) (yH rfl rfl rfl (yH rfl rfl rfl (yH rfl rfl rfl (yK rfl (fun _ _ => (zH (sz := 3) 1 underlying32 sizeOf30 rfl rfl rfl (by decide)).cv (show _ = vP b3 3 from congrArg (vP b3) (by rfl))) rfl ?_))))
 replace rb3 := rb3.mono hh1
 refine yP (F := fun v_ => (rpQ k).Is h1 v_ a.y) rfl (zE xS (Pc.ty (Pc.here _)) rfl rfl rb3 rfl) (yD mh3) rfl ?_
 intro v16u6 r16u6
 refine yH rfl rfl rfl (yK rfl (fun _ _ => (zH (sz := 3) 1 underlying32 sizeOf30 rfl rfl rfl (by decide)).cv (show _ = vP b4 3 from congrArg (vP b4) (by rfl))) rfl ?_)
 replace rb4 := rb4.mono hh1
 refine yP (F := fun v_ => (rpQ l).Is h1 v_ b.y) rfl (zE xS (Pc.ty (Pc.here _)) rfl rfl rb4 rfl) (yD mh2) rfl ?_
 intro v19u6 r19u6
 refine w_c rfl (s_enter (kE (vs := [_, _]) call70 rfl e2z) rfl (fun w hs => o_rat_sub hs r16u6 r19u6 (by omega)) ?_)
 intro v20u6 h2 hh2 r20u6
 change (rpQ (k + l + 1)).Is h2 v20u6 (a.y - b.y) at r20u6
 refine yK rfl (fun _ _ => (zH (sz := 3) 1 underlying32 sizeOf30 rfl rfl rfl (by decide)).cv (show _ = vP b7 3 from congrArg (vP b7) (by rfl))) rfl ?_
 replace rb_12 := rb_12.mono hh2
 refine xR (A := []) (F := fun c_ => (rpT (rpQ (k + l + 1 + 1))).R h2 c_ (T3.mk (a.x - b.x) (a.y - b.y) (0 : Rat))) rfl (yJ sizeOf30 (Pc.ty (Pc.here _)) rfl rfl rfl rb_12 (r20u6.le (Le.q (l := k + l + 1 + 1) (by omega))) rfl) ?_
 intro cs_13 rb_14
 refine xB (xC (zJ (e' := [(2, _), (3, _), (4, _), (6, _), (7, _), (9, _)]) e6 (zB (zA (gv ((zS (q := 1) rfl rfl (by omega) (by omega)).cv (show _ = vI (2) from rfl)) rfl (mv rfl rfl (zD (wN (zC (zA (gv (OpV.tr (by decide) (zW (q := 3) rfl rfl)) rfl (zD (zB ?_)))))))))))))
 refine zC (xZ rfl (zK (zB (zC (zP (zC (zA (mv rfl rfl (asg rfl rfl (zD (zB ?_)))))))))))
 refine yF 10 _ [] [(0, .q), (1, .q), (2, .q), (3, .q), (4, .q), (5, .q), (6, .q), (7, .q), (8, .c), (9, .q), (10, .t)] xH nX (by kernel_rfl) nX (fun r hr => hr) (yH rfl rfl rfl (yH rfl rfl rfl (yH rfl rfl rfl (yK rfl (fun _ _ => (zH (sz := 3) 2 underlying32 sizeOf30 rfl rfl rfl (by decide)).cv (show _ = vP b3 6 from congrArg (vP b3) (by rfl))) rfl ?_))))
 replace rb3 := rb3.mono hh2
 refine yP (F := fun v_ => (rpQ k).Is h2 v_ a.z) rfl (zE xS (Pc.tz (Pc.here _)) rfl rfl rb3 rfl) (yD mh3) rfl ?_
 intro v16u7 r16u7
 refine yH rfl rfl rfl (yK rfl (fun _ _ => (zH (sz := 3) 2 underlying32 sizeOf30 rfl rfl rfl (by decide)).cv (show _ = vP b4 6 from congrArg (vP b4) (by rfl))) rfl ?_)
 replace rb4 := rb4.mono hh2
 refine yP (F := fun v_ => (rpQ l).Is h2 v_ b.z) rfl (zE xS (Pc.tz (Pc.here _)) rfl rfl rb4 rfl) (yD mh2) rfl ?_
 intro v19u7 r19u7
 refine w_c rfl (s_enter (kE (vs := [_, _]) call70 rfl e2z) rfl (fun w hs => o_rat_sub hs r16u7 r19u7 (by omega)) ?_)
 intro v20u7 h3 hh3 r20u7
 change (rpQ (k + l + 1)).Is h3 v20u7 (a.z - b.z) at r20u7
 refine yK rfl (fun _ _ => (zH (sz := 3) 2 underlying32 sizeOf30 rfl rfl rfl (by decide)).cv (show _ = vP b7 6 from congrArg (vP b7) (by rfl))) rfl ?_
 replace rb_14 := rb_14.mono hh3
 refine xR (A := []) (F := fun c_ => (rpT (rpQ (k + l + 1 + 1))).R h3 c_ (T3.mk (a.x - b.x) (a.y - b.y) (a.z - b.z))) rfl (yJ sizeOf30 (Pc.tz (Pc.here _)) rfl rfl rfl rb_14 (r20u7.le (Le.q (l := k + l + 1 + 1) (by omega))) rfl) ?_
 intro cs_15 rb_16
 refine xB (xC (zJ (e' := [(2, _), (3, _), (4, _), (6, _), (7, _), (9, _)]) e6 (zB (zA (gv ((zS (q := 1) rfl rfl (by omega) (by omega)).cv (show _ = vI (3) from rfl)) rfl (mv rfl rfl (zD (wN (zC (zA (gv (OpV.fa (by decide) (zW (q := 3) rfl rfl)) rfl (zD (zB ?_)))))))))))))
 refine zC (qQ rfl (xG (yB (yB (xF (zB (zC (zA (xX (F := fun v_ => (rpT (rpQ (k + l + 1 + 1))).Is h3 v_ (T3.mk (a.x - b.x) (a.y - b.y) (a.z - b.z))) (zE xJ (Pc.here _) rfl rfl rb_16 rfl) (yD mh0) rfl ?_)))))))))
 intro v23u8 r23u8
 replace rb6 := rb6.mono ((hh1.trans hh2).trans hh3)
 refine wW (A := [_]) (F := fun c_ => (rpT (rpQ (k + l + 1 + 1))).R h3 c_ (T3.mk (a.x - b.x) (a.y - b.y) (a.z - b.z))) (yJ sizeOf32 (Pc.here _) rfl rfl rfl rb6 r23u8 rfl) ?_
 intro cs_17 rb_18
 refine zD (zB (zQ (uZ (rv_o (t := 6) xJ mh1 rfl rb_18) ?_)))
 intro w_19 hvw_19 rr_20
 refine xQ (fun E S => yS rfl hvw_19 E S) ?_
 exact rr_20
theorem o_each_mul {w0 : World} {h0 : Mem}  (hs : MLe h0 (mem w0)) {k l : Nat} {va : Value} {a : (T3 Rat)} (ra : (rpT (rpQ k)).Is h0 va a) {vb : Value} {b : (T3 Rat)} (rb : (rpT (rpQ l)).Is h0 vb b) (hcd0 : k + l ≤ 10000000000)  :
    Calls Tryz.prog 115 #[va, vb, vF 103 []] w0 (Ret w0 h0 (fun h r => (rpT (rpQ (k + l + 1))).Is h r (T3.mk (a.x * b.x) (a.y * b.y) (a.z * b.z)))) := by
 refine zM (n := 24) (e := [(0, va), (1, vb), (2, vF 103 [])]) (vs := [va, vb, vF 103 []]) func115 rfl rfl (bL rfl) hs e3z (zC (zA (zI (yU (ρ := (rpT (rpQ k))) rfl ra) rfl rfl rfl ?_)))
 intro v3 q3 hq3
 obtain ⟨b3, cs3, rfl, rfl, rb3⟩ := hq3
 refine zI (yU (ρ := (rpT (rpQ l))) rfl rb) rfl rfl rfl ?_
 intro v4 q4 hq4
 obtain ⟨b4, cs4, rfl, rfl, rb4⟩ := hq4
 refine zI (yR (ρ := (rpT (rpQ (k + l + 1)))) (X := zT) yL rfl rfl (wO (wB (by omega)))) rfl rfl rfl ?_
 intro v6 q6 hq6
 obtain ⟨b6, cs6, rfl, rfl, rb6⟩ := hq6
 refine zD (zB (zC (zA (zI (yR (ρ := (rpT (rpQ (k + l + 1)))) (X := zT) yL rfl rfl (wO (wB (by omega)))) rfl rfl rfl ?_))))
 intro v7 q7 hq7
 obtain ⟨b7, cs7, rfl, rfl, rb7⟩ := hq7
 refine zD (zB (zC (zC (zA (mv (v := vI (0)) rfl rfl (zD (zB (zP (kD (zC (zA (gv (OpV.tr (by decide) (zW (q := 3) rfl rfl)) rfl (zD ?_)))))))))))))
 refine zB (zC (xZ rfl (zK (zB (zC (zP (zC (zA (mv rfl rfl (asg rfl rfl (zD (zB ?_))))))))))))
 refine yF 10 _ [] [(0, .q), (1, .q), (2, .q), (3, .q), (4, .q), (5, .q), (6, .q), (7, .q), (8, .c), (9, .q), (10, .t)] xH nX (by kernel_rfl) nX (fun r hr => hr) (yH rfl rfl rfl (yH rfl rfl rfl (yH rfl rfl rfl (yK rfl (fun _ _ => (zH (sz := 3) 0 underlying32 sizeOf30 rfl rfl rfl (by decide)).cv (show _ = vP b3 0 from congrArg (vP b3) (by rfl))) rfl (yP (F := fun v_ => (rpQ k).Is h0 v_ a.x) rfl (zE xS (Pc.tx (Pc.here _)) rfl rfl rb3 rfl) (yD mh3) rfl ?_)))))
 intro v16u9 r16u9
 refine yH rfl rfl rfl (yK rfl (fun _ _ => (zH (sz := 3) 0 underlying32 sizeOf30 rfl rfl rfl (by decide)).cv (show _ = vP b4 0 from congrArg (vP b4) (by rfl))) rfl (yP (F := fun v_ => (rpQ l).Is h0 v_ b.x) rfl (zE xS (Pc.tx (Pc.here _)) rfl rfl rb4 rfl) (yD mh2) rfl ?_))
 intro v19u9 r19u9
 refine w_c rfl (s_enter (kE (vs := [_, _]) call103 rfl e2z) rfl (fun w hs => o_rat_mul hs r16u9 r19u9 (by omega)) ?_)
 intro v20u9 h1 hh1 r20u9
 change (rpQ (k + l)).Is h1 v20u9 (a.x * b.x) at r20u9
 refine yK rfl (fun _ _ => (zH (sz := 3) 0 underlying32 sizeOf30 rfl rfl rfl (by decide)).cv (show _ = vP b7 0 from congrArg (vP b7) (by rfl))) rfl ?_
 replace rb7 := rb7.mono hh1
 refine xR (A := []) (F := fun c_ => (rpT (rpQ (k + l + 1))).R h1 c_ (T3.mk (a.x * b.x) (0 : Rat) (0 : Rat))) rfl (yJ sizeOf30 (Pc.tx (Pc.here _)) rfl rfl rfl rb7 (r20u9.le (Le.q (l := k + l + 1) (by omega))) rfl) ?_
 intro cs_21 rb_22
 refine xB (xC (zJ (e' := [(2, _), (3, _), (4, _), (6, _), (7, _), (9, _)]) e6 (zB (zA (gv ((zS (q := 1) rfl rfl (by omega) (by omega)).cv (show _ = vI (1) from rfl)) rfl (mv rfl rfl (zD (wN (zC (zA (gv (OpV.tr (by decide) (zW (q := 3) rfl rfl)) rfl (zD (zB ?_)))))))))))))
 refine zC (xZ rfl (zK (zB (zC (zP (zC (zA (mv rfl rfl (asg rfl rfl (zD (zB ?_)))))))))))
 refine yF 10 _ [] [(0, .q), (1, .q), (2, .q), (3, .q), (4, .q), (5, .q), (6, .q), (7, .q), (8, .c), (9, .q), (10, .t)] xH nX (by kernel_rfl) nX (fun r hr => hr) (yH rfl rfl rfl (yH rfl rfl rfl (yH rfl rfl rfl (yK rfl (fun _ _ => (zH (sz := 3) 1 underlying32 sizeOf30 rfl rfl rfl (by decide)).cv (show _ = vP b3 3 from congrArg (vP b3) (by rfl))) rfl ?_))))
 replace rb3 := rb3.mono hh1
 refine yP (F := fun v_ => (rpQ k).Is h1 v_ a.y) rfl (zE xS (Pc.ty (Pc.here _)) rfl rfl rb3 rfl) (yD mh3) rfl ?_
 intro v16u10 r16u10
 refine yH rfl rfl rfl (yK rfl (fun _ _ => (zH (sz := 3) 1 underlying32 sizeOf30 rfl rfl rfl (by decide)).cv (show _ = vP b4 3 from congrArg (vP b4) (by rfl))) rfl ?_)
 replace rb4 := rb4.mono hh1
 refine yP (F := fun v_ => (rpQ l).Is h1 v_ b.y) rfl (zE xS (Pc.ty (Pc.here _)) rfl rfl rb4 rfl) (yD mh2) rfl ?_
 intro v19u10 r19u10
 refine w_c rfl (s_enter (kE (vs := [_, _]) call103 rfl e2z) rfl (fun w hs => o_rat_mul hs r16u10 r19u10 (by omega)) ?_)
 intro v20u10 h2 hh2 r20u10
 change (rpQ (k + l)).Is h2 v20u10 (a.y * b.y) at r20u10
 refine yK rfl (fun _ _ => (zH (sz := 3) 1 underlying32 sizeOf30 rfl rfl rfl (by decide)).cv (show _ = vP b7 3 from congrArg (vP b7) (by rfl))) rfl ?_
 replace rb_22 := rb_22.mono hh2
 refine xR (A := []) (F := fun c_ => (rpT (rpQ (k + l + 1))).R h2 c_ (T3.mk (a.x * b.x) (a.y * b.y) (0 : Rat))) rfl (yJ sizeOf30 (Pc.ty (Pc.here _)) rfl rfl rfl rb_22 (r20u10.le (Le.q (l := k + l + 1) (by omega))) rfl) ?_
 intro cs_23 rb_24
 refine xB (xC (zJ (e' := [(2, _), (3, _), (4, _), (6, _), (7, _), (9, _)]) e6 (zB (zA (gv ((zS (q := 1) rfl rfl (by omega) (by omega)).cv (show _ = vI (2) from rfl)) rfl (mv rfl rfl (zD (wN (zC (zA (gv (OpV.tr (by decide) (zW (q := 3) rfl rfl)) rfl (zD (zB ?_)))))))))))))
 refine zC (xZ rfl (zK (zB (zC (zP (zC (zA (mv rfl rfl (asg rfl rfl (zD (zB ?_)))))))))))
 refine yF 10 _ [] [(0, .q), (1, .q), (2, .q), (3, .q), (4, .q), (5, .q), (6, .q), (7, .q), (8, .c), (9, .q), (10, .t)] xH nX (by kernel_rfl) nX (fun r hr => hr) (yH rfl rfl rfl (yH rfl rfl rfl (yH rfl rfl rfl (yK rfl (fun _ _ => (zH (sz := 3) 2 underlying32 sizeOf30 rfl rfl rfl (by decide)).cv (show _ = vP b3 6 from congrArg (vP b3) (by rfl))) rfl ?_))))
 replace rb3 := rb3.mono hh2
 refine yP (F := fun v_ => (rpQ k).Is h2 v_ a.z) rfl (zE xS (Pc.tz (Pc.here _)) rfl rfl rb3 rfl) (yD mh3) rfl ?_
 intro v16u11 r16u11
 refine yH rfl rfl rfl (yK rfl (fun _ _ => (zH (sz := 3) 2 underlying32 sizeOf30 rfl rfl rfl (by decide)).cv (show _ = vP b4 6 from congrArg (vP b4) (by rfl))) rfl ?_)
 replace rb4 := rb4.mono hh2
 refine yP (F := fun v_ => (rpQ l).Is h2 v_ b.z) rfl (zE xS (Pc.tz (Pc.here _)) rfl rfl rb4 rfl) (yD mh2) rfl ?_
 intro v19u11 r19u11
 refine w_c rfl (s_enter (kE (vs := [_, _]) call103 rfl e2z) rfl (fun w hs => o_rat_mul hs r16u11 r19u11 (by omega)) ?_)
 intro v20u11 h3 hh3 r20u11
 change (rpQ (k + l)).Is h3 v20u11 (a.z * b.z) at r20u11
 refine yK rfl (fun _ _ => (zH (sz := 3) 2 underlying32 sizeOf30 rfl rfl rfl (by decide)).cv (show _ = vP b7 6 from congrArg (vP b7) (by rfl))) rfl ?_
 replace rb_24 := rb_24.mono hh3
 refine xR (A := []) (F := fun c_ => (rpT (rpQ (k + l + 1))).R h3 c_ (T3.mk (a.x * b.x) (a.y * b.y) (a.z * b.z))) rfl (yJ sizeOf30 (Pc.tz (Pc.here _)) rfl rfl rfl rb_24 (r20u11.le (Le.q (l := k + l + 1) (by omega))) rfl) ?_
 intro cs_25 rb_26
 refine xB (xC (zJ (e' := [(2, _), (3, _), (4, _), (6, _), (7, _), (9, _)]) e6 (zB (zA (gv ((zS (q := 1) rfl rfl (by omega) (by omega)).cv (show _ = vI (3) from rfl)) rfl (mv rfl rfl (zD (wN (zC (zA (gv (OpV.fa (by decide) (zW (q := 3) rfl rfl)) rfl (zD (zB ?_)))))))))))))
 refine zC (qQ rfl (xG (yB (yB (xF (zB (zC (zA (xX (F := fun v_ => (rpT (rpQ (k + l + 1))).Is h3 v_ (T3.mk (a.x * b.x) (a.y * b.y) (a.z * b.z))) (zE xJ (Pc.here _) rfl rfl rb_26 rfl) (yD mh0) rfl ?_)))))))))
 intro v23u12 r23u12
 replace rb6 := rb6.mono ((hh1.trans hh2).trans hh3)
 refine wW (A := [_]) (F := fun c_ => (rpT (rpQ (k + l + 1))).R h3 c_ (T3.mk (a.x * b.x) (a.y * b.y) (a.z * b.z))) (yJ sizeOf32 (Pc.here _) rfl rfl rfl rb6 r23u12 rfl) ?_
 intro cs_27 rb_28
 refine zD (zB (zQ (uZ (rv_o (t := 6) xJ mh1 rfl rb_28) ?_)))
 intro w_29 hvw_29 rr_30
 refine xQ (fun E S => yS rfl hvw_29 E S) ?_
 exact rr_30
theorem o_v_add {w0 : World} {h0 : Mem}  (hs : MLe h0 (mem w0)) {k l : Nat} {va : Value} {a : (T3 Rat)} (ra : (rpT (rpQ k)).Is h0 va a) {vb : Value} {b : (T3 Rat)} (rb : (rpT (rpQ l)).Is h0 vb b) (hcd0 : k + l ≤ 10000000000)  :
    Calls Tryz.prog 80 #[va, vb] w0 (Ret w0 h0 (fun h r => (rpT (rpQ (k + l + 2))).Is h r (T3.mk (a.x + b.x) (a.y + b.y) (a.z + b.z)))) := by
 refine zM (n := 8) (e := [(0, va), (1, vb)]) (vs := [va, vb]) func80 rfl rfl (bL rfl) hs e2z (zC (zA (zI (yU (ρ := (rpT (rpQ k))) rfl ra) rfl rfl rfl ?_)))
 intro v2 q2 hq2
 obtain ⟨b2, cs2, rfl, rfl, rb2⟩ := hq2
 refine zI (yU (ρ := (rpT (rpQ l))) rfl rb) rfl rfl rfl ?_
 intro v3 q3 hq3
 obtain ⟨b3, cs3, rfl, rfl, rb3⟩ := hq3
 refine zI (yR (ρ := (rpT (rpQ (k + l + 2)))) (X := zT) yL rfl rfl (wO (wB (by omega)))) rfl rfl rfl ?_
 intro v4 q4 hq4
 obtain ⟨b4, cs4, rfl, rfl, rb4⟩ := hq4
 refine zD (zB (zC (zA (xX (F := fun v_ => (rpT (rpQ k)).Is h0 v_ a) (zE xJ (Pc.here _) rfl rfl rb2 rfl) (yD mh2) rfl ?_))))
 intro v5 r5
 refine xX (F := fun v_ => (rpT (rpQ l)).Is h0 v_ b) (zE xJ (Pc.here _) rfl rfl rb3 rfl) (yD mh1) rfl ?_
 intro v6 r6
 refine zO (vs := [_, _, _]) rfl rfl rfl rfl call115 e3z (fun w hs => o_each_add hs r5 r6 (by omega)) ?_
 intro v7 h1 hh1 r7
 change (rpT (rpQ (k + l + 1 + 1))).Is h1 v7 (T3.mk (a.x + b.x) (a.y + b.y) (a.z + b.z)) at r7
 replace r7 := Rp.Is.le r7 (Le.t (Le.q (l := k + l + 2) (by omega)))
 replace rb4 := rb4.mono hh1
 refine wW (A := []) (F := fun c_ => (rpT (rpQ (k + l + 2))).R h1 c_ (T3.mk (a.x + b.x) (a.y + b.y) (a.z + b.z))) (yJ sizeOf32 (Pc.here _) rfl rfl rfl rb4 r7 rfl) ?_
 intro cs_31 rb_32
 refine zD (zB (zQ (uZ (rv_o (t := 4) xJ mh0 rfl rb_32) ?_)))
 intro w_33 hvw_33 rr_34
 refine xQ (fun E S => yS rfl hvw_33 E S) ?_
 exact rr_34
theorem o_v_sub {w0 : World} {h0 : Mem}  (hs : MLe h0 (mem w0)) {k l : Nat} {va : Value} {a : (T3 Rat)} (ra : (rpT (rpQ k)).Is h0 va a) {vb : Value} {b : (T3 Rat)} (rb : (rpT (rpQ l)).Is h0 vb b) (hcd0 : k + l ≤ 10000000000)  :
    Calls Tryz.prog 78 #[va, vb] w0 (Ret w0 h0 (fun h r => (rpT (rpQ (k + l + 2))).Is h r (T3.mk (a.x - b.x) (a.y - b.y) (a.z - b.z)))) := by
 refine zM (n := 8) (e := [(0, va), (1, vb)]) (vs := [va, vb]) func78 rfl rfl (bL rfl) hs e2z (zC (zA (zI (yU (ρ := (rpT (rpQ k))) rfl ra) rfl rfl rfl ?_)))
 intro v2 q2 hq2
 obtain ⟨b2, cs2, rfl, rfl, rb2⟩ := hq2
 refine zI (yU (ρ := (rpT (rpQ l))) rfl rb) rfl rfl rfl ?_
 intro v3 q3 hq3
 obtain ⟨b3, cs3, rfl, rfl, rb3⟩ := hq3
 refine zI (yR (ρ := (rpT (rpQ (k + l + 2)))) (X := zT) yL rfl rfl (wO (wB (by omega)))) rfl rfl rfl ?_
 intro v4 q4 hq4
 obtain ⟨b4, cs4, rfl, rfl, rb4⟩ := hq4
 refine zD (zB (zC (zA (xX (F := fun v_ => (rpT (rpQ k)).Is h0 v_ a) (zE xJ (Pc.here _) rfl rfl rb2 rfl) (yD mh2) rfl ?_))))
 intro v5 r5
 refine xX (F := fun v_ => (rpT (rpQ l)).Is h0 v_ b) (zE xJ (Pc.here _) rfl rfl rb3 rfl) (yD mh1) rfl ?_
 intro v6 r6
 refine zO (vs := [_, _, _]) rfl rfl rfl rfl call115 e3z (fun w hs => o_each_sub hs r5 r6 (by omega)) ?_
 intro v7 h1 hh1 r7
 change (rpT (rpQ (k + l + 1 + 1))).Is h1 v7 (T3.mk (a.x - b.x) (a.y - b.y) (a.z - b.z)) at r7
 replace r7 := Rp.Is.le r7 (Le.t (Le.q (l := k + l + 2) (by omega)))
 replace rb4 := rb4.mono hh1
 refine wW (A := []) (F := fun c_ => (rpT (rpQ (k + l + 2))).R h1 c_ (T3.mk (a.x - b.x) (a.y - b.y) (a.z - b.z))) (yJ sizeOf32 (Pc.here _) rfl rfl rfl rb4 r7 rfl) ?_
 intro cs_35 rb_36
 refine zD (zB (zQ (uZ (rv_o (t := 4) xJ mh0 rfl rb_36) ?_)))
 intro w_37 hvw_37 rr_38
 refine xQ (fun E S => yS rfl hvw_37 E S) ?_
 exact rr_38
theorem o_v_scale {w0 : World} {h0 : Mem}  (hs : MLe h0 (mem w0)) {l k : Nat} {vq : Value} {q : Rat} (rq : (rpQ l).Is h0 vq q) {va : Value} {a : (T3 Rat)} (ra : (rpT (rpQ k)).Is h0 va a) (hcd0 : k + l ≤ 1000000000)  :
    Calls Tryz.prog 82 #[vq, va] w0 (Ret w0 h0 (fun h r => (rpT (rpQ (k + l + 2))).Is h r (T3.mk (q * a.x) (q * a.y) (q * a.z)))) := by
 refine zM (n := 11) (e := [(0, vq), (1, va)]) (vs := [vq, va]) func82 rfl rfl (bL rfl) hs e2z (zC (zA (zI (yU (ρ := (rpQ l)) rfl rq) rfl rfl rfl ?_)))
 intro v2 q2 hq2
 obtain ⟨b2, cs2, rfl, rfl, rb2⟩ := hq2
 refine zI (yU (ρ := (rpT (rpQ k))) rfl ra) rfl rfl rfl ?_
 intro v3 q3 hq3
 obtain ⟨b3, cs3, rfl, rfl, rb3⟩ := hq3
 refine zI (yR (ρ := (rpT (rpQ (k + l + 2)))) (X := zT) yL rfl rfl (wO (wB (by omega)))) rfl rfl rfl ?_
 intro v4 q4 hq4
 obtain ⟨b4, cs4, rfl, rfl, rb4⟩ := hq4
 refine zD (zB (zC (zA (xX (F := fun v_ => (rpQ l).Is h0 v_ q) (zE xS (Pc.here _) rfl rfl rb2 rfl) (yD mh2) rfl ?_))))
 intro v5 r5
 refine xX (F := fun v_ => (rpQ l).Is h0 v_ q) (zE xS (Pc.here _) rfl rfl rb2 rfl) (yD mh2) rfl ?_
 intro v6 r6
 refine xX (F := fun v_ => (rpQ l).Is h0 v_ q) (zE xS (Pc.here _) rfl rfl rb2 rfl) (yD mh2) rfl ?_
 intro v7 r7
 refine xX (F := fun v_ => (rpT (rpQ (l + 1))).Is h0 v_ (T3.mk q q q)) (wP (ps' := [(0, _), (1, _), (2, _)]) underlying32 yL rfl rfl sizeOf30 e6 rfl (wO (wB (by omega))) (yZ rfl (Pc.tx (Pc.here _)) (r5.le (Le.q (l := l + 1) (by omega))) (yZ rfl (Pc.ty (Pc.here _)) (r6.le (Le.q (l := l + 1) (by omega))) (yZ rfl (Pc.tz (Pc.here _)) (r7.le (Le.q (l := l + 1) (by omega))) wH)))) vQ rfl ?_
 intro v8 r8
 refine xX (F := fun v_ => (rpT (rpQ k)).Is h0 v_ a) (zE xJ (Pc.here _) rfl rfl rb3 rfl) (yD mh1) rfl ?_
 intro v9 r9
 refine zO (vs := [_, _, _]) rfl rfl rfl rfl call115 e3z (fun w hs => o_each_mul hs r8 r9 (by omega)) ?_
 intro v10 h1 hh1 r10
 change (rpT (rpQ ((l + 1) + k + 1))).Is h1 v10 (T3.mk (q * a.x) (q * a.y) (q * a.z)) at r10
 replace r10 := Rp.Is.le r10 (Le.t (Le.q (l := k + l + 2) (by omega)))
 replace rb4 := rb4.mono hh1
 refine wW (A := []) (F := fun c_ => (rpT (rpQ (k + l + 2))).R h1 c_ (T3.mk (q * a.x) (q * a.y) (q * a.z))) (yJ sizeOf32 (Pc.here _) rfl rfl rfl rb4 r10 rfl) ?_
 intro cs_39 rb_40
 refine zD (zJ (e' := [(4, _)]) ⟨rfl, trivial⟩ (zB (zQ (uZ (rv_o (t := 4) xJ mh0 rfl rb_40) ?_))))
 intro w_41 hvw_41 rr_42
 refine xQ (fun E S => yS rfl hvw_41 E S) ?_
 exact rr_42
theorem o_v_dot {w0 : World} {h0 : Mem}  (hs : MLe h0 (mem w0)) {k l : Nat} {va : Value} {a : (T3 Rat)} (ra : (rpT (rpQ k)).Is h0 va a) {vb : Value} {b : (T3 Rat)} (rb : (rpT (rpQ l)).Is h0 vb b) (hcd0 : k + l ≤ 1000000000)  :
    Calls Tryz.prog 79 #[va, vb] w0 (Ret w0 h0 (fun h r => (rpQ (3 * k + 3 * l + 9)).Is h r (wR a b))) := by
 refine zM (n := 21) (e := [(0, va), (1, vb)]) (vs := [va, vb]) func79 rfl rfl (bL rfl) hs e2z (zC (zA (zI (yU (ρ := (rpT (rpQ k))) rfl ra) rfl rfl rfl ?_)))
 intro v2 q2 hq2
 obtain ⟨b2, cs2, rfl, rfl, rb2⟩ := hq2
 refine zI (yU (ρ := (rpT (rpQ l))) rfl rb) rfl rfl rfl ?_
 intro v3 q3 hq3
 obtain ⟨b3, cs3, rfl, rfl, rb3⟩ := hq3
 refine zI (yR (ρ := (rpQ (3 * k + 3 * l + 9))) (X := (0 : Rat)) wT rfl rfl (wB (by omega))) rfl rfl rfl ?_
 intro v4 q4 hq4
 obtain ⟨b4, cs4, rfl, rfl, rb4⟩ := hq4
 refine zD (zB (zC (zA (zI (yR (ρ := (rpQ 1)) (X := (0 : Rat)) wT rfl rfl (wB (by decide))) rfl rfl rfl ?_))))
 intro v5 q5 hq5
 obtain ⟨b5, cs5, rfl, rfl, rb5⟩ := hq5
 refine zD (zB (zC (zC (zA (mv (v := vI (0)) rfl rfl (zD (zB (zP (kD (zC (zA (gv (OpV.tr (by decide) (zW (q := 3) rfl rfl)) rfl (zD ?_)))))))))))))
 refine zB (zC (xZ rfl (zK (zB (zC (zP (zC (zA (mv rfl rfl (asg rfl rfl (zD (zB ?_))))))))))))
 refine yF 9 _ [] [(0, .q), (1, .q), (2, .q), (3, .q), (4, .q), (5, .q), (6, .q), (7, .c), (8, .c), (9, .t)] xH nX (by kernel_rfl) nX (fun r hr => hr) (yP (F := fun v_ => (rpQ 1).Is h0 v_ (0 : Rat)) rfl (zE xS (Pc.here _) rfl rfl rb5 rfl) (yD mh0) rfl ?_)
 intro v10u13 r10u13
 refine yH rfl rfl rfl (yK rfl (fun _ _ => (zH (sz := 3) 0 underlying32 sizeOf30 rfl rfl rfl (by decide)).cv (show _ = vP b2 0 from congrArg (vP b2) (by rfl))) rfl (yP (F := fun v_ => (rpQ k).Is h0 v_ a.x) rfl (zE xS (Pc.tx (Pc.here _)) rfl rfl rb2 rfl) (yD mh3) rfl ?_))
 intro v13u13 r13u13
 refine yH rfl rfl rfl (yK rfl (fun _ _ => (zH (sz := 3) 0 underlying32 sizeOf30 rfl rfl rfl (by decide)).cv (show _ = vP b3 0 from congrArg (vP b3) (by rfl))) rfl (yP (F := fun v_ => (rpQ l).Is h0 v_ b.x) rfl (zE xS (Pc.tx (Pc.here _)) rfl rfl rb3 rfl) (yD mh2) rfl ?_))
 intro v16u13 r16u13
 refine w_c rfl ?_
 refine zY (vs := [_, _]) call103 e2z (fun w hs => o_rat_mul hs r13u13 r16u13 (by omega)) rfl ?_
 intro v17u13 h1 hh1 r17u13
 change (rpQ (k + l)).Is h1 v17u13 (a.x * b.x) at r17u13
 refine w_c rfl ?_
 replace r10u13 := r10u13.mono hh1
 refine zY (vs := [_, _]) call71 e2z (fun w hs => o_rat_add hs r10u13 r17u13 (by omega)) rfl ?_
 intro v18u13 h2 hh2 r18u13
 change (rpQ (1 + (k + l) + 1)).Is h2 v18u13 ((0 : Rat) + (a.x * b.x)) at r18u13
 replace r18u13 := Rp.Is.le r18u13 (Le.q (l := k + l + 2) (by omega))
 replace rb5 := rb5.mono (hh1.trans hh2)
 have rw_43 := (Le.q (l := k + l + 2) (by omega)).R rb5
 refine xR (A := []) (F := fun c_ => (rpQ (k + l + 2)).R h2 c_ ((0 : Rat) + (a.x * b.x))) rfl (yJ sizeOf30 (Pc.here _) rfl rfl rfl rw_43 r18u13 rfl) ?_
 intro cs_44 rb_45
 refine xB (xC (zJ (e' := [(2, _), (3, _), (4, _), (5, _), (7, _)]) e5z (zB (zA (gv ((zS (q := 1) rfl rfl (by omega) (by omega)).cv (show _ = vI (1) from rfl)) rfl (mv rfl rfl (zD (wN (zC (zA (gv (OpV.tr (by decide) (zW (q := 3) rfl rfl)) rfl (zD (zB ?_)))))))))))))
 refine zC (xZ rfl (zK (zB (zC (zP (zC (zA (mv rfl rfl (asg rfl rfl (zD (zB ?_)))))))))))
 refine yF 9 _ [] [(0, .q), (1, .q), (2, .q), (3, .q), (4, .q), (5, .q), (6, .q), (7, .c), (8, .c), (9, .t)] xH nX (by kernel_rfl) nX (fun r hr => hr) (yP (F := fun v_ => (rpQ (k + l + 2)).Is h2 v_ ((0 : Rat) + (a.x * b.x))) rfl (zE xS (Pc.here _) rfl rfl rb_45 rfl) (yD mh0) rfl ?_)
 intro v10u14 r10u14
 refine yH rfl rfl rfl (yK rfl (fun _ _ => (zH (sz := 3) 1 underlying32 sizeOf30 rfl rfl rfl (by decide)).cv (show _ = vP b2 3 from congrArg (vP b2) (by rfl))) rfl ?_)
 replace rb2 := rb2.mono (hh1.trans hh2)
 refine yP (F := fun v_ => (rpQ k).Is h2 v_ a.y) rfl (zE xS (Pc.ty (Pc.here _)) rfl rfl rb2 rfl) (yD mh3) rfl ?_
 intro v13u14 r13u14
 refine yH rfl rfl rfl (yK rfl (fun _ _ => (zH (sz := 3) 1 underlying32 sizeOf30 rfl rfl rfl (by decide)).cv (show _ = vP b3 3 from congrArg (vP b3) (by rfl))) rfl ?_)
 replace rb3 := rb3.mono (hh1.trans hh2)
 refine yP (F := fun v_ => (rpQ l).Is h2 v_ b.y) rfl (zE xS (Pc.ty (Pc.here _)) rfl rfl rb3 rfl) (yD mh2) rfl ?_
 intro v16u14 r16u14
 refine w_c rfl ?_
 refine zY (vs := [_, _]) call103 e2z (fun w hs => o_rat_mul hs r13u14 r16u14 (by omega)) rfl ?_
 intro v17u14 h3 hh3 r17u14
 change (rpQ (k + l)).Is h3 v17u14 (a.y * b.y) at r17u14
 refine w_c rfl ?_
 replace r10u14 := r10u14.mono hh3
 refine zY (vs := [_, _]) call71 e2z (fun w hs => o_rat_add hs r10u14 r17u14 (by omega)) rfl ?_
 intro v18u14 h4 hh4 r18u14
 change (rpQ ((k + l + 2) + (k + l) + 1)).Is h4 v18u14 (((0 : Rat) + (a.x * b.x)) + (a.y * b.y)) at r18u14
 replace r18u14 := Rp.Is.le r18u14 (Le.q (l := 2 * k + 2 * l + 3) (by omega))
 replace rb_45 := rb_45.mono (hh3.trans hh4)
 have rw_46 := (Le.q (l := 2 * k + 2 * l + 3) (by omega)).R rb_45
 refine xR (A := []) (F := fun c_ => (rpQ (2 * k + 2 * l + 3)).R h4 c_ (((0 : Rat) + (a.x * b.x)) + (a.y * b.y))) rfl (yJ sizeOf30 (Pc.here _) rfl rfl rfl rw_46 r18u14 rfl) ?_
 intro cs_47 rb_48
 refine xB (xC (zJ (e' := [(2, _), (3, _), (4, _), (5, _), (7, _)]) e5z (zB (zA (gv ((zS (q := 1) rfl rfl (by omega) (by omega)).cv (show _ = vI (2) from rfl)) rfl (mv rfl rfl (zD (wN (zC (zA (gv (OpV.tr (by decide) (zW (q := 3) rfl rfl)) rfl (zD (zB ?_)))))))))))))
 refine zC (xZ rfl (zK (zB (zC (zP (zC (zA (mv rfl rfl (asg rfl rfl (zD (zB ?_)))))))))))
 refine yF 9 _ [] [(0, .q), (1, .q), (2, .q), (3, .q), (4, .q), (5, .q), (6, .q), (7, .c), (8, .c), (9, .t)] xH nX (by kernel_rfl) nX (fun r hr => hr) (yP (F := fun v_ => (rpQ (2 * k + 2 * l + 3)).Is h4 v_ (((0 : Rat) + (a.x * b.x)) + (a.y * b.y))) rfl (zE xS (Pc.here _) rfl rfl rb_48 rfl) (yD mh0) rfl ?_)
 intro v10u15 r10u15
 refine yH rfl rfl rfl (yK rfl (fun _ _ => (zH (sz := 3) 2 underlying32 sizeOf30 rfl rfl rfl (by decide)).cv (show _ = vP b2 6 from congrArg (vP b2) (by rfl))) rfl ?_)
 replace rb2 := rb2.mono (hh3.trans hh4)
 refine yP (F := fun v_ => (rpQ k).Is h4 v_ a.z) rfl (zE xS (Pc.tz (Pc.here _)) rfl rfl rb2 rfl) (yD mh3) rfl ?_
 intro v13u15 r13u15
 refine yH rfl rfl rfl (yK rfl (fun _ _ => (zH (sz := 3) 2 underlying32 sizeOf30 rfl rfl rfl (by decide)).cv (show _ = vP b3 6 from congrArg (vP b3) (by rfl))) rfl ?_)
 replace rb3 := rb3.mono (hh3.trans hh4)
 refine yP (F := fun v_ => (rpQ l).Is h4 v_ b.z) rfl (zE xS (Pc.tz (Pc.here _)) rfl rfl rb3 rfl) (yD mh2) rfl ?_
 intro v16u15 r16u15
 refine w_c rfl ?_
 refine zY (vs := [_, _]) call103 e2z (fun w hs => o_rat_mul hs r13u15 r16u15 (by omega)) rfl ?_
 intro v17u15 h5 hh5 r17u15
 change (rpQ (k + l)).Is h5 v17u15 (a.z * b.z) at r17u15
 refine w_c rfl ?_
 replace r10u15 := r10u15.mono hh5
 refine zY (vs := [_, _]) call71 e2z (fun w hs => o_rat_add hs r10u15 r17u15 (by omega)) rfl ?_
 intro v18u15 h6 hh6 r18u15
 change (rpQ ((2 * k + 2 * l + 3) + (k + l) + 1)).Is h6 v18u15 ((((0 : Rat) + (a.x * b.x)) + (a.y * b.y)) + (a.z * b.z)) at r18u15
 replace r18u15 := Rp.Is.le r18u15 (Le.q (l := 3 * k + 3 * l + 4) (by omega))
 replace rb_48 := rb_48.mono (hh5.trans hh6)
 have rw_49 := (Le.q (l := 3 * k + 3 * l + 4) (by omega)).R rb_48
 refine xR (A := []) (F := fun c_ => (rpQ (3 * k + 3 * l + 4)).R h6 c_ ((((0 : Rat) + (a.x * b.x)) + (a.y * b.y)) + (a.z * b.z))) rfl (yJ sizeOf30 (Pc.here _) rfl rfl rfl rw_49 r18u15 rfl) ?_
 intro cs_50 rb_51
 refine xB (xC (zJ (e' := [(2, _), (3, _), (4, _), (5, _), (7, _)]) e5z (zB (zA (gv ((zS (q := 1) rfl rfl (by omega) (by omega)).cv (show _ = vI (3) from rfl)) rfl (mv rfl rfl (zD (wN (zC (zA (gv (OpV.fa (by decide) (zW (q := 3) rfl rfl)) rfl (zD (zB ?_)))))))))))))
 refine zC (qQ rfl (xG (yB (yB (xF (zB (zC (zA (xX (F := fun v_ => (rpQ (3 * k + 3 * l + 4)).Is h6 v_ ((((0 : Rat) + (a.x * b.x)) + (a.y * b.y)) + (a.z * b.z))) (zE xS (Pc.here _) rfl rfl rb_51 rfl) (yD mh0) rfl ?_)))))))))
 intro v20u16 r20u16
 replace rb4 := rb4.mono (((((hh1.trans hh2).trans hh3).trans hh4).trans hh5).trans hh6)
 refine wW (A := [_]) (F := fun c_ => (rpQ (3 * k + 3 * l + 9)).R h6 c_ ((((0 : Rat) + (a.x * b.x)) + (a.y * b.y)) + (a.z * b.z))) (yJ sizeOf30 (Pc.here _) rfl rfl rfl rb4 (r20u16.le (Le.q (l := 3 * k + 3 * l + 9) (by omega))) rfl) ?_
 intro cs_52 rb_53
 refine zD (zB (zQ (uZ (rv_o (t := 4) xS mh1 rfl rb_53) ?_)))
 intro w_54 hvw_54 rr_55
 refine xQ (fun E S => yS rfl hvw_54 E S) ?_
 exact (Rp.Is.cast rr_55 (by unfold wR; grind))
theorem o_v_same {w0 : World} {h0 : Mem}  (hs : MLe h0 (mem w0)) {k l : Nat} {va : Value} {a : (T3 Rat)} (ra : (rpT (rpQ k)).Is h0 va a) {vb : Value} {b : (T3 Rat)} (rb : (rpT (rpQ l)).Is h0 vb b) (hcd0 : k + l ≤ 10000000000)  :
    Calls Tryz.prog 97 #[va, vb] w0 (Ret w0 h0 (fun _ r => r = vB (a = b))) := by
 refine zM (n := 18) (e := [(0, va), (1, vb)]) (vs := [va, vb]) func97 rfl rfl (bL rfl) hs e2z (zC (zA (zI (yU (ρ := (rpT (rpQ k))) rfl ra) rfl rfl rfl ?_)))
 intro v2 q2 hq2
 obtain ⟨b2, cs2, rfl, rfl, rb2⟩ := hq2
 refine zI (yU (ρ := (rpT (rpQ l))) rfl rb) rfl rfl rfl ?_
 intro v3 q3 hq3
 obtain ⟨b3, cs3, rfl, rfl, rb3⟩ := hq3
 refine asg rfl rfl (zD (zB (zC (zC (zA (mv (v := vI (0)) rfl rfl (zD (zB (zP (kD (zC (zA (gv (OpV.tr (by decide) (zW (q := 3) rfl rfl)) rfl ?_)))))))))))))
 refine zD (zB (zC (xZ rfl (zK (zB (zC (zP (zC (zA (mv rfl rfl (asg rfl rfl (zD (zB ?_)))))))))))))
 refine zC ?_
 refine yF 8 _ [] [(0, .q), (1, .q), (2, .q), (3, .q), (4, .q), (5, .q), (6, .c), (7, .q)] xH nX (by kernel_rfl) nX (fun r hr => hr) (yH rfl rfl rfl (yK rfl (fun _ _ => (zH (sz := 3) 0 underlying32 sizeOf30 rfl rfl rfl (by decide)).cv (show _ = vP b2 0 from congrArg (vP b2) (by rfl))) rfl (yP (F := fun v_ => (rpQ k).Is h0 v_ a.x) rfl (zE xS (Pc.tx (Pc.here _)) rfl rfl rb2 rfl) (yD mh1) rfl ?_)))
 intro v11u21 r11u21
 refine yH rfl rfl rfl (yK rfl (fun _ _ => (zH (sz := 3) 0 underlying32 sizeOf30 rfl rfl rfl (by decide)).cv (show _ = vP b3 0 from congrArg (vP b3) (by rfl))) rfl (yP (F := fun v_ => (rpQ l).Is h0 v_ b.x) rfl (zE xS (Pc.tx (Pc.here _)) rfl rfl rb3 rfl) (yD mh0) rfl ?_))
 intro v14u21 r14u21
 refine w_c rfl ?_
 refine zY (vs := [_, _]) call122 e2z (fun w hs => o_rat_same hs r11u21 r14u21 (by omega)) rfl ?_
 intro v15u21 h1 hh1 r15u21
 obtain rfl : v15u21 = vB (a.x = b.x) := r15u21
 refine yK rfl (fun _ _ => gB rfl) rfl (xB (zJ (e' := [(2, _), (3, _), (6, _), (16, _)]) e4z (zB ?_)))
 refine zN rfl (fun hc16 => ?_) (fun hc16 => ?_)
 ·
  refine zC (zA (asg rfl rfl (zD (zB (zQ (vC (zV (zV (vC (zV (yC rfl rfl ?_)))))))))))
  first | exact (xL (by rw [t3_eq]; grind)).symm | exact (yX (by rw [t3_eq]; grind)).symm
 refine zK (xC (zB (zA (gv ((zS (q := 1) rfl rfl (by omega) (by omega)).cv (show _ = vI (1) from rfl)) rfl (mv rfl rfl (zD (wN (zC (zA (gv (OpV.tr (by decide) (zW (q := 3) rfl rfl)) rfl (zD (zB (zC ?_)))))))))))))
 refine xZ rfl (zK (zB (zC (zP (zC (zA (mv rfl rfl (asg rfl rfl (zD (zB (zC ?_)))))))))))
 refine yF 8 _ [] [(0, .q), (1, .q), (2, .q), (3, .q), (4, .q), (5, .q), (6, .c), (7, .q)] xH nX (by kernel_rfl) nX (fun r hr => hr) (yH rfl rfl rfl (yK rfl (fun _ _ => (zH (sz := 3) 1 underlying32 sizeOf30 rfl rfl rfl (by decide)).cv (show _ = vP b2 3 from congrArg (vP b2) (by rfl))) rfl ?_))
 replace rb2 := rb2.mono hh1
 refine yP (F := fun v_ => (rpQ k).Is h1 v_ a.y) rfl (zE xS (Pc.ty (Pc.here _)) rfl rfl rb2 rfl) (yD mh1) rfl ?_
 intro v11u22 r11u22
 refine yH rfl rfl rfl (yK rfl (fun _ _ => (zH (sz := 3) 1 underlying32 sizeOf30 rfl rfl rfl (by decide)).cv (show _ = vP b3 3 from congrArg (vP b3) (by rfl))) rfl ?_)
 replace rb3 := rb3.mono hh1
 refine yP (F := fun v_ => (rpQ l).Is h1 v_ b.y) rfl (zE xS (Pc.ty (Pc.here _)) rfl rfl rb3 rfl) (yD mh0) rfl ?_
 intro v14u22 r14u22
 refine w_c rfl ?_
 refine zY (vs := [_, _]) call122 e2z (fun w hs => o_rat_same hs r11u22 r14u22 (by omega)) rfl ?_
 intro v15u22 h2 hh2 r15u22
 obtain rfl : v15u22 = vB (a.y = b.y) := r15u22
 refine yK rfl (fun _ _ => gB rfl) rfl (xB (zJ (e' := [(2, _), (3, _), (6, _), (16, _)]) e4z (zB ?_)))
 refine zN rfl (fun hc16 => ?_) (fun hc16 => ?_)
 ·
  refine zC (zA (asg rfl rfl (zD (zB (zQ (vC (zV (zV (vC (zV (yC rfl rfl ?_)))))))))))
  first | exact (xL (by rw [t3_eq]; grind)).symm | exact (yX (by rw [t3_eq]; grind)).symm
 refine zK (xC (zB (zA (gv ((zS (q := 1) rfl rfl (by omega) (by omega)).cv (show _ = vI (2) from rfl)) rfl (mv rfl rfl (zD (wN (zC (zA (gv (OpV.tr (by decide) (zW (q := 3) rfl rfl)) rfl (zD (zB (zC ?_)))))))))))))
 refine xZ rfl (zK (zB (zC (zP (zC (zA (mv rfl rfl (asg rfl rfl (zD (zB (zC ?_)))))))))))
 refine yF 8 _ [] [(0, .q), (1, .q), (2, .q), (3, .q), (4, .q), (5, .q), (6, .c), (7, .q)] xH nX (by kernel_rfl) nX (fun r hr => hr) (yH rfl rfl rfl (yK rfl (fun _ _ => (zH (sz := 3) 2 underlying32 sizeOf30 rfl rfl rfl (by decide)).cv (show _ = vP b2 6 from congrArg (vP b2) (by rfl))) rfl ?_))
 replace rb2 := rb2.mono hh2
 refine yP (F := fun v_ => (rpQ k).Is h2 v_ a.z) rfl (zE xS (Pc.tz (Pc.here _)) rfl rfl rb2 rfl) (yD mh1) rfl ?_
 intro v11u23 r11u23
 refine yH rfl rfl rfl (yK rfl (fun _ _ => (zH (sz := 3) 2 underlying32 sizeOf30 rfl rfl rfl (by decide)).cv (show _ = vP b3 6 from congrArg (vP b3) (by rfl))) rfl ?_)
 replace rb3 := rb3.mono hh2
 refine yP (F := fun v_ => (rpQ l).Is h2 v_ b.z) rfl (zE xS (Pc.tz (Pc.here _)) rfl rfl rb3 rfl) (yD mh0) rfl ?_
 intro v14u23 r14u23
 refine w_c rfl ?_
 refine zY (vs := [_, _]) call122 e2z (fun w hs => o_rat_same hs r11u23 r14u23 (by omega)) rfl ?_
 intro v15u23 h3 hh3 r15u23
 obtain rfl : v15u23 = vB (a.z = b.z) := r15u23
 refine yK rfl (fun _ _ => gB rfl) rfl (xB (zJ (e' := [(2, _), (3, _), (6, _), (16, _)]) e4z (zB ?_)))
 refine zN rfl (fun hc16 => ?_) (fun hc16 => ?_)
 ·
  refine zC (zA (asg rfl rfl (zD (zB (zQ (vC (zV (zV (vC (zV (yC rfl rfl ?_)))))))))))
  first | exact (xL (by rw [t3_eq]; grind)).symm | exact (yX (by rw [t3_eq]; grind)).symm
 refine zK (xC (zB (zA (gv ((zS (q := 1) rfl rfl (by omega) (by omega)).cv (show _ = vI (3) from rfl)) rfl (mv rfl rfl (zD (wN (zC (zA (gv (OpV.fa (by decide) (zW (q := 3) rfl rfl)) rfl (zD (zB (zC ?_)))))))))))))
 refine qQ rfl (xG (yB (yB (xF (zB (zC (zA (asg rfl rfl (zD (zB (zQ (yC rfl rfl ?_))))))))))))
 first | exact (xL (by rw [t3_eq]; grind)).symm | exact (yX (by rw [t3_eq]; grind)).symm
theorem o_v_zero {w0 : World} {h0 : Mem}  (hs : MLe h0 (mem w0)) {k : Nat} {va : Value} {a : (T3 Rat)} (ra : (rpT (rpQ k)).Is h0 va a) (hcd0 : k ≤ 1000000000)  :
    Calls Tryz.prog 63 #[va] w0 (Ret w0 h0 (fun _ r => r = vB (a = zT))) := by
 refine zM (n := 6) (e := [(0, va)]) (vs := [va]) func63 rfl rfl (bL rfl) hs ⟨rfl, trivial⟩ (zC (zA (zI (yU (ρ := (rpT (rpQ k))) rfl ra) rfl rfl rfl ?_)))
 intro v1 q1 hq1
 obtain ⟨b1, cs1, rfl, rfl, rb1⟩ := hq1
 refine asg rfl rfl (zD (zB (zC (zA (xX (F := fun v_ => (rpT (rpQ k)).Is h0 v_ a) (zE xJ (Pc.here _) rfl rfl rb1 rfl) (yD mh0) rfl ?_)))))
 intro v3 r3
 refine xX (F := fun v_ => (rpT (rpQ 1)).Is h0 v_ zT) (wP (ps' := []) underlying32 yL rfl rfl sizeOf30 trivial rfl (wO (wB (by decide))) wH) vQ rfl ?_
 intro v4 r4
 refine zO (vs := [_, _]) rfl rfl rfl rfl call97 e2z (fun w hs => o_v_same hs r3 r4 (by omega)) ?_
 intro v5 h1 hh1 r5
 obtain rfl : v5 = vB (a = zT) := r5
 refine asg rfl rfl (zD (zB (zQ (yC rfl rfl ?_))))
 rfl
theorem o_v_side {w0 : World} {h0 : Mem}  (hs : MLe h0 (mem w0)) {m l k : Nat} {vs : Value} {s : ((T3 Rat) × Rat)} (rs : (rpP (rpT (rpQ m)) (rpQ l)).Is h0 vs s) {vp : Value} {p : (T3 Rat)} (rp : (rpT (rpQ k)).Is h0 vp p) (hcd0 : k ≤ 100000000) (hcd1 : l ≤ 100000000) (hcd2 : m ≤ 100000000)  :
    Calls Tryz.prog 99 #[vs, vp] w0 (Ret w0 h0 (fun _ r => r = vI (sdZ s p))) := by
 refine zM (n := 12) (e := [(0, vs), (1, vp)]) (vs := [vs, vp]) func99 rfl rfl (bL rfl) hs e2z (zC (zA (zI (yU (ρ := (rpP (rpT (rpQ m)) (rpQ l))) rfl rs) rfl rfl rfl ?_)))
 intro v2 q2 hq2
 obtain ⟨b2, cs2, rfl, rfl, rb2⟩ := hq2
 refine zI (yU (ρ := (rpT (rpQ k))) rfl rp) rfl rfl rfl ?_
 intro v3 q3 hq3
 obtain ⟨b3, cs3, rfl, rfl, rb3⟩ := hq3
 refine asg (v := vI (0)) rfl rfl (zD (zB (zC ?_)))
 refine yF 8 _ [] [(0, .q), (1, .q), (2, .q), (4, .q), (5, .q), (3, .c), (6, .c), (7, .q)] xH nX (by kernel_rfl) nX (fun r hr => hr) (yK rfl (fun _ _ => (zG underlying34 rfl sizeOf32 rfl).cv (show _ = vP b2 0 from congrArg (vP b2) (by rfl))) rfl (yP (F := fun v_ => (rpT (rpQ m)).Is h0 v_ s.1) rfl (zE xJ (Pc.fst (Pc.here _)) rfl rfl rb2 rfl) (yD mh1) rfl ?_))
 intro v6 r6
 refine yP (F := fun v_ => (rpT (rpQ k)).Is h0 v_ p) rfl (zE xJ (Pc.here _) rfl rfl rb3 rfl) (yD mh0) rfl ?_
 intro v7 r7
 refine yK rfl (fun _ _ => (zG underlying34 rfl sizeOf30 rfl).cv (show _ = vP b2 9 from congrArg (vP b2) (by rfl))) rfl (yP (F := fun v_ => (rpQ l).Is h0 v_ s.2) rfl (zE xS (Pc.snd (Pc.here _)) rfl rfl rb2 rfl) (yD mh1) rfl ?_)
 intro v10 r10
 refine w_c rfl ?_
 refine zY (vs := [_, _]) call79 e2z (fun w hs => o_v_dot hs r6 r7 (by omega)) rfl ?_
 intro v8 h1 hh1 r8
 change (rpQ (3 * m + 3 * k + 9)).Is h1 v8 (wR s.1 p) at r8
 replace r8 := Rp.Is.le r8 (Le.q (l := 3 * k + 3 * m + 9) (by omega))
 refine w_c rfl ?_
 replace r10 := r10.mono hh1
 refine zY (vs := [_, _]) call104 e2z (fun w hs => o_rat_cmp hs r8 r10 (by omega)) rfl ?_
 intro v11 h2 hh2 r11
 obtain rfl : v11 = vI (kO (wR s.1 p) s.2) := r11
 have hcr11 := cmpQ_range (wR s.1 p) s.2
 refine uG rfl rfl rfl (xB (zJ (e' := [(4, _)]) ⟨rfl, trivial⟩ (zB (zQ (yC rfl rfl ?_)))))
 exact congrArg vI (side_cmp s p)
theorem o_s4_side {w0 : World} {h0 : Mem}  (hs : MLe h0 (mem w0)) {m l k : Nat} {vs : Value} {s : ((T3 Rat) × Rat)} (rs : (rpP (rpT (rpQ m)) (rpQ l)).Is h0 vs s) {vp : Value} {p : (T3 Rat)} (rp : (rpT (rpQ k)).Is h0 vp p) (hcd0 : k ≤ 100000000) (hcd1 : l ≤ 100000000) (hcd2 : m ≤ 100000000)  :
    Calls Tryz.prog 25 #[vs, vp] w0 (Ret w0 h0 (fun _ r => r = vI (sdZ s p))) := by
 refine zM (n := 13) (e := [(0, vs), (1, vp)]) (vs := [vs, vp]) func25 rfl rfl (bL rfl) hs e2z (zC (zA (zI (yU (ρ := (rpP (rpT (rpQ m)) (rpQ l))) rfl rs) rfl rfl rfl ?_)))
 intro v2 q2 hq2
 obtain ⟨b2, cs2, rfl, rfl, rb2⟩ := hq2
 refine zI (yU (ρ := (rpT (rpQ k))) rfl rp) rfl rfl rfl ?_
 intro v3 q3 hq3
 obtain ⟨b3, cs3, rfl, rfl, rb3⟩ := hq3
 refine asg (v := vI (0)) rfl rfl (zD (zB (zC ?_)))
 refine yF 9 _ [] [(0, .q), (1, .q), (2, .q), (4, .q), (5, .q), (3, .c), (6, .c), (7, .c), (8, .q)] xH nX (by kernel_rfl) nX (fun r hr => hr) (yK rfl (fun _ _ => (zG underlying34 rfl sizeOf32 rfl).cv (show _ = vP b2 0 from congrArg (vP b2) (by rfl))) rfl (yP (F := fun v_ => (rpT (rpQ m)).Is h0 v_ s.1) rfl (zE xJ (Pc.fst (Pc.here _)) rfl rfl rb2 rfl) (yD mh1) rfl ?_))
 intro v6 r6
 refine yP (F := fun v_ => (rpT (rpQ k)).Is h0 v_ p) rfl (zE xJ (Pc.here _) rfl rfl rb3 rfl) (yD mh0) rfl ?_
 intro v7 r7
 refine yK rfl (fun _ _ => (zG underlying34 rfl sizeOf30 rfl).cv (show _ = vP b2 9 from congrArg (vP b2) (by rfl))) rfl (yP (F := fun v_ => (rpQ l).Is h0 v_ s.2) rfl (zE xS (Pc.snd (Pc.here _)) rfl rfl rb2 rfl) (yD mh1) rfl ?_)
 intro v10 r10
 refine w_c rfl ?_
 refine zY (vs := [_, _]) call57 e2z (fun w hs => o_r4_dot hs r6 r7 (by omega)) rfl ?_
 intro v8 h1 hh1 r8
 change (rpQ (3 * m + 3 * k + 9)).Is h1 v8 (wR s.1 p) at r8
 replace r8 := Rp.Is.le r8 (Le.q (l := 3 * k + 3 * m + 9) (by omega))
 refine w_c rfl ?_
 replace r10 := r10.mono hh1
 refine zY (vs := [_, _]) call56 e2z (fun w hs => jG hs r8 r10 (by omega)) rfl ?_
 intro v11 h2 hh2 r11
 change (rpQ ((3 * k + 3 * m + 9) + l + 1)).Is h2 v11 ((wR s.1 p) - s.2) at r11
 replace r11 := Rp.Is.le r11 (Le.q (l := 3 * k + l + 3 * m + 10) (by omega))
 refine w_c rfl ?_
 refine zY (vs := [_]) call50 ⟨rfl, trivial⟩ (fun w hs => o_rref_sign hs r11 (by omega)) rfl ?_
 intro v12 h3 hh3 r12
 obtain rfl : v12 = vI (uT ((wR s.1 p) - s.2)) := r12
 have hsr12 := uE ((wR s.1 p) - s.2)
 refine uG rfl rfl rfl (xB (zJ (e' := [(4, _)]) ⟨rfl, trivial⟩ (zB (zQ (yC rfl rfl ?_)))))
 rfl
theorem o_pl_side {w0 : World} {h0 : Mem}  (hs : MLe h0 (mem w0)) {m l k : Nat} {vs : Value} {s : ((T3 Rat) × Rat)} (rs : (rpP (rpT (rpQ m)) (rpQ l)).Is h0 vs s) {vp : Value} {p : (T3 Rat)} (rp : (rpT (rpQ k)).Is h0 vp p) (hcd0 : k ≤ 100000000) (hcd1 : l ≤ 100000000) (hcd2 : m ≤ 100000000)  :
    Calls Tryz.prog 64 #[vs, vp] w0 (Ret w0 h0 (fun _ r => r = vI (sdZ s p))) := by
 refine zM (n := 61) (e := [(0, vs), (1, vp)]) (vs := [vs, vp]) func64 rfl rfl (bL rfl) hs e2z (zC (zA (zI (yU (ρ := (rpP (rpT (rpQ m)) (rpQ l))) rfl rs) rfl rfl rfl ?_)))
 intro v2 q2 hq2
 obtain ⟨b2, cs2, rfl, rfl, rb2⟩ := hq2
 refine zI (yU (ρ := (rpT (rpQ k))) rfl rp) rfl rfl rfl ?_
 intro v3 q3 hq3
 obtain ⟨b3, cs3, rfl, rfl, rb3⟩ := hq3
 refine asg (v := vI (0)) rfl rfl (zD (zB (zC (zA (asg (v := vI (0)) rfl rfl (zD (zB (zC (zC (zA (mv (v := vI (0)) rfl rfl (zD (zB ?_)))))))))))))
 refine zP (kD (zC (zA (gv (OpV.tr (by decide) (zW (q := 3) rfl rfl)) rfl (zD (zB (zC (xZ rfl (zK (zB (zC (zP (zC ?_)))))))))))))
 refine zA (mv rfl rfl (asg rfl rfl (zD (zB (zC (zA (mv rfl rfl (gv ((zG underlying34 rfl sizeOf32 rfl).cv (show _ = vP b2 0 from congrArg (vP b2) (by rfl))) rfl (gv ((zH (sz := 3) 0 underlying32 sizeOf30 rfl rfl rfl (by decide)).cv (show _ = vP b2 0 from congrArg (vP b2) (by rfl))) rfl (xX (F := fun v_ => (rpQ m).Is h0 v_ s.1.x) (zE xS (Pc.fst (Pc.tx (Pc.here _))) rfl rfl rb2 rfl) (yD mh1) rfl ?_))))))))))
 intro v20u25 r20u25
 refine zO (vs := [_]) rfl rfl rfl rfl call98 ⟨rfl, trivial⟩ (fun w hs => o_pl_small hs r20u25) ?_
 intro v21u25 h1 hh1 r21u25
 obtain rfl := r21u25
 refine mv rfl rfl (gv (zL (vs := [_, _]) rfl rfl) rfl (gv (zL (vs := [_, _]) rfl rfl) rfl (asg rfl rfl (asg rfl rfl (zD (zJ (e' := [(2, _), (3, _), (5, _), (13, _), (6, _), (7, _), (8, _)]) e7 (zB (zC (zA (mv rfl rfl (gv ((zH (sz := 3) 0 underlying32 sizeOf30 rfl rfl rfl (by decide)).cv (show _ = vP b3 0 from congrArg (vP b3) (by rfl))) rfl ?_)))))))))))
 replace rb3 := rb3.mono hh1
 refine xX (F := fun v_ => (rpQ k).Is h1 v_ p.x) (zE xS (Pc.tx (Pc.here _)) rfl rfl rb3 rfl) (yD mh0) rfl ?_
 intro v27u25 r27u25
 refine zO (vs := [_]) rfl rfl rfl rfl call98 ⟨rfl, trivial⟩ (fun w hs => o_pl_small hs r27u25) ?_
 intro v28u25 h2 hh2 r28u25
 obtain rfl := r28u25
 refine mv rfl rfl (gv (zL (vs := [_, _]) rfl rfl) rfl (gv (zL (vs := [_, _]) rfl rfl) rfl (asg rfl rfl (asg rfl rfl (zD (zB (zC (zC (zA (mv rfl rfl (gv (gB rfl) rfl ?_)))))))))))
 refine vY (ι := Unit) 4 (fun _ => True) (fun _ => [(36, vB ((¬ (smB s.1.x)) ∨ (¬ (smB p.x)))), (2, vP b2 0), (3, vP b3 0), (5, vI (0)), (13, vI (0)), (7, vI (smZ s.1.x)), (9, vI (smZ p.x))]) (fun _ => [.var b3 32 cs3, .var b2 34 cs2]) (fun _ => h2) ?_ ?_
 ·
  refine wL (¬ (smB s.1.x)) (fun hg => ?_) (fun hg => ?_)
  ·
   refine xE (yO (v := .bool true) (congrArg some (xL hg))) rfl rfl rfl (yI rfl rfl rfl rfl rfl rfl (yI rfl rfl rfl rfl rfl rfl (gv (xM rfl rfl) rfl (zD ?_))))
   refine yM () trivial ⟨?_, rfl, rfl, rfl, rfl, rfl, rfl, trivial⟩ rfl rfl
   exact congrArg some (jZ hg)
  refine xE (yO (v := .bool false) (congrArg some (yX hg))) rfl rfl rfl (yY rfl rfl rfl (mv rfl rfl (yY rfl rfl rfl (gv (gB rfl) rfl (gv (xW rfl rfl) rfl (zD ?_))))))
  refine yM () trivial ⟨?_, rfl, rfl, rfl, rfl, rfl, rfl, trivial⟩ rfl rfl
  exact congrArg some (kA hg)
 intro _ _
 show GL _ _ _ _ _ _ _ [(36, vB ((¬ (smB s.1.x)) ∨ (¬ (smB p.x)))), (2, vP b2 0), (3, vP b3 0), (5, vI (0)), (13, vI (0)), (7, vI (smZ s.1.x)), (9, vI (smZ p.x))] [.var b3 32 cs3, .var b2 34 cs2] h2
 refine zD (zB ?_)
 refine zN rfl (fun hc36 => ?_) (fun hc36 => ?_)
 ·
  refine zC (zA ?_)
  replace rb2 := rb2.mono (hh1.trans hh2)
  refine xX (F := fun v_ => (rpP (rpT (rpQ m)) (rpQ l)).Is h2 v_ s) (zE kH (Pc.here _) rfl rfl rb2 rfl) (yD mh1) rfl ?_
  intro v37u25 r37u25
  replace rb3 := rb3.mono hh2
  refine xX (F := fun v_ => (rpT (rpQ k)).Is h2 v_ p) (zE xJ (Pc.here _) rfl rfl rb3 rfl) (yD mh0) rfl ?_
  intro v38u25 r38u25
  refine zO (vs := [_, _]) rfl rfl rfl rfl call99 e2z (fun w hs => o_v_side hs r37u25 r38u25 (by omega) (by omega) (by omega)) ?_
  intro v39u25 h3 hh3 r39u25
  obtain rfl : v39u25 = vI (sdZ s p) := r39u25
  have hsd39u25 := kS s p
  refine asg rfl rfl (zD (zJ (e' := [(4, _)]) ⟨rfl, trivial⟩ (zB (zQ (zV (vC (zV (zV (vC (zV (yC rfl rfl ?_)))))))))))
  rfl
 obtain ⟨hsm, hpr⟩ := side_sm hc36
 refine zK (zB (zA (mv rfl rfl (mv rfl rfl (mv rfl rfl (gv (ov_mul_i rfl rfl (by omega) (by omega)) rfl (gv (zS rfl rfl (by omega) (by omega)) rfl (asg rfl rfl (zD (xC (zB (zA (gv ((zS (q := 1) rfl rfl (by omega) (by omega)).cv (show _ = vI (1) from rfl)) rfl ?_)))))))))))))
 refine mv rfl rfl (zD (wN (zC (zA (gv (OpV.tr (by decide) (zW (q := 3) rfl rfl)) rfl (zD (zB (zC (xZ rfl (zK (zJ (e' := [(2, _), (3, _), (5, _), (13, _)]) e4z (zB (zC ?_)))))))))))))
 refine zP (zC (zA (mv rfl rfl (asg rfl rfl (zD (zB (zC (zA (mv rfl rfl (gv ((zG underlying34 rfl sizeOf32 rfl).cv (show _ = vP b2 0 from congrArg (vP b2) (by rfl))) rfl (gv ((zH (sz := 3) 1 underlying32 sizeOf30 rfl rfl rfl (by decide)).cv (show _ = vP b2 3 from congrArg (vP b2) (by rfl))) rfl ?_)))))))))))
 replace rb2 := rb2.mono (hh1.trans hh2)
 refine xX (F := fun v_ => (rpQ m).Is h2 v_ s.1.y) (zE xS (Pc.fst (Pc.ty (Pc.here _))) rfl rfl rb2 rfl) (yD mh1) rfl ?_
 intro v20u26 r20u26
 refine zO (vs := [_]) rfl rfl rfl rfl call98 ⟨rfl, trivial⟩ (fun w hs => o_pl_small hs r20u26) ?_
 intro v21u26 h3 hh3 r21u26
 obtain rfl := r21u26
 refine mv rfl rfl (gv (zL (vs := [_, _]) rfl rfl) rfl (gv (zL (vs := [_, _]) rfl rfl) rfl (asg rfl rfl (asg rfl rfl (zD (zB (zC (zA (mv rfl rfl (gv ((zH (sz := 3) 1 underlying32 sizeOf30 rfl rfl rfl (by decide)).cv (show _ = vP b3 3 from congrArg (vP b3) (by rfl))) rfl ?_))))))))))
 replace rb3 := rb3.mono (hh2.trans hh3)
 refine xX (F := fun v_ => (rpQ k).Is h3 v_ p.y) (zE xS (Pc.ty (Pc.here _)) rfl rfl rb3 rfl) (yD mh0) rfl ?_
 intro v27u26 r27u26
 refine zO (vs := [_]) rfl rfl rfl rfl call98 ⟨rfl, trivial⟩ (fun w hs => o_pl_small hs r27u26) ?_
 intro v28u26 h4 hh4 r28u26
 obtain rfl := r28u26
 refine mv rfl rfl (gv (zL (vs := [_, _]) rfl rfl) rfl (gv (zL (vs := [_, _]) rfl rfl) rfl (asg rfl rfl (asg rfl rfl (zD (zJ (e' := [(2, _), (3, _), (5, _), (13, _), (7, _), (8, _), (9, _), (10, _)]) e8 (zB (zC (zC (zA (mv rfl rfl (gv (gB rfl) rfl ?_))))))))))))
 refine vY (ι := Unit) 4 (fun _ => True) (fun _ => [(36, vB ((¬ (smB s.1.y)) ∨ (¬ (smB p.y)))), (2, vP b2 0), (3, vP b3 0), (5, vI ((0 : Int) + ((smZ s.1.x) * (smZ p.x)))), (13, vI (1)), (7, vI (smZ s.1.y)), (9, vI (smZ p.y))]) (fun _ => [.var b3 32 cs3, .var b2 34 cs2]) (fun _ => h4) ?_ ?_
 ·
  refine wL (¬ (smB s.1.y)) (fun hg => ?_) (fun hg => ?_)
  ·
   refine xE (yO (v := .bool true) (congrArg some (xL hg))) rfl rfl rfl (yI rfl rfl rfl rfl rfl rfl (yI rfl rfl rfl rfl rfl rfl (gv (xM rfl rfl) rfl (zD ?_))))
   refine yM () trivial ⟨?_, rfl, rfl, rfl, rfl, rfl, rfl, trivial⟩ rfl rfl
   exact congrArg some (jZ hg)
  refine xE (yO (v := .bool false) (congrArg some (yX hg))) rfl rfl rfl (yY rfl rfl rfl (mv rfl rfl (yY rfl rfl rfl (gv (gB rfl) rfl (gv (xW rfl rfl) rfl (zD ?_))))))
  refine yM () trivial ⟨?_, rfl, rfl, rfl, rfl, rfl, rfl, trivial⟩ rfl rfl
  exact congrArg some (kA hg)
 intro _ _
 show GL _ _ _ _ _ _ _ [(36, vB ((¬ (smB s.1.y)) ∨ (¬ (smB p.y)))), (2, vP b2 0), (3, vP b3 0), (5, vI ((0 : Int) + ((smZ s.1.x) * (smZ p.x)))), (13, vI (1)), (7, vI (smZ s.1.y)), (9, vI (smZ p.y))] [.var b3 32 cs3, .var b2 34 cs2] h4
 refine zD (zB ?_)
 refine zN rfl (fun hc36 => ?_) (fun hc36 => ?_)
 ·
  refine zC (zA ?_)
  replace rb2 := rb2.mono (hh3.trans hh4)
  refine xX (F := fun v_ => (rpP (rpT (rpQ m)) (rpQ l)).Is h4 v_ s) (zE kH (Pc.here _) rfl rfl rb2 rfl) (yD mh1) rfl ?_
  intro v37u26 r37u26
  replace rb3 := rb3.mono hh4
  refine xX (F := fun v_ => (rpT (rpQ k)).Is h4 v_ p) (zE xJ (Pc.here _) rfl rfl rb3 rfl) (yD mh0) rfl ?_
  intro v38u26 r38u26
  refine zO (vs := [_, _]) rfl rfl rfl rfl call99 e2z (fun w hs => o_v_side hs r37u26 r38u26 (by omega) (by omega) (by omega)) ?_
  intro v39u26 h5 hh5 r39u26
  obtain rfl : v39u26 = vI (sdZ s p) := r39u26
  have hsd39u26 := kS s p
  refine asg rfl rfl (zD (zJ (e' := [(4, _)]) ⟨rfl, trivial⟩ (zB (zQ (zV (vC (zV (zV (vC (zV (yC rfl rfl ?_)))))))))))
  rfl
 obtain ⟨hsm, hpr⟩ := side_sm hc36
 refine zK (zB (zA (mv rfl rfl (mv rfl rfl (mv rfl rfl (gv (ov_mul_i rfl rfl (by omega) (by omega)) rfl (gv (zS rfl rfl (by omega) (by omega)) rfl (asg rfl rfl (zD (xC (zB (zA (gv ((zS (q := 1) rfl rfl (by omega) (by omega)).cv (show _ = vI (2) from rfl)) rfl ?_)))))))))))))
 refine mv rfl rfl (zD (wN (zC (zA (gv (OpV.tr (by decide) (zW (q := 3) rfl rfl)) rfl (zD (zB (zC (xZ rfl (zK (zJ (e' := [(2, _), (3, _), (5, _), (13, _)]) e4z (zB (zC ?_)))))))))))))
 refine zP (zC (zA (mv rfl rfl (asg rfl rfl (zD (zB (zC (zA (mv rfl rfl (gv ((zG underlying34 rfl sizeOf32 rfl).cv (show _ = vP b2 0 from congrArg (vP b2) (by rfl))) rfl (gv ((zH (sz := 3) 2 underlying32 sizeOf30 rfl rfl rfl (by decide)).cv (show _ = vP b2 6 from congrArg (vP b2) (by rfl))) rfl ?_)))))))))))
 replace rb2 := rb2.mono (hh3.trans hh4)
 refine xX (F := fun v_ => (rpQ m).Is h4 v_ s.1.z) (zE xS (Pc.fst (Pc.tz (Pc.here _))) rfl rfl rb2 rfl) (yD mh1) rfl ?_
 intro v20u27 r20u27
 refine zO (vs := [_]) rfl rfl rfl rfl call98 ⟨rfl, trivial⟩ (fun w hs => o_pl_small hs r20u27) ?_
 intro v21u27 h5 hh5 r21u27
 obtain rfl := r21u27
 refine mv rfl rfl (gv (zL (vs := [_, _]) rfl rfl) rfl (gv (zL (vs := [_, _]) rfl rfl) rfl (asg rfl rfl (asg rfl rfl (zD (zB (zC (zA (mv rfl rfl (gv ((zH (sz := 3) 2 underlying32 sizeOf30 rfl rfl rfl (by decide)).cv (show _ = vP b3 6 from congrArg (vP b3) (by rfl))) rfl ?_))))))))))
 replace rb3 := rb3.mono (hh4.trans hh5)
 refine xX (F := fun v_ => (rpQ k).Is h5 v_ p.z) (zE xS (Pc.tz (Pc.here _)) rfl rfl rb3 rfl) (yD mh0) rfl ?_
 intro v27u27 r27u27
 refine zO (vs := [_]) rfl rfl rfl rfl call98 ⟨rfl, trivial⟩ (fun w hs => o_pl_small hs r27u27) ?_
 intro v28u27 h6 hh6 r28u27
 obtain rfl := r28u27
 refine mv rfl rfl (gv (zL (vs := [_, _]) rfl rfl) rfl (gv (zL (vs := [_, _]) rfl rfl) rfl (asg rfl rfl (asg rfl rfl (zD (zJ (e' := [(2, _), (3, _), (5, _), (13, _), (7, _), (8, _), (9, _), (10, _)]) e8 (zB (zC (zC (zA (mv rfl rfl (gv (gB rfl) rfl ?_))))))))))))
 refine vY (ι := Unit) 4 (fun _ => True) (fun _ => [(36, vB ((¬ (smB s.1.z)) ∨ (¬ (smB p.z)))), (2, vP b2 0), (3, vP b3 0), (5, vI (((0 : Int) + ((smZ s.1.x) * (smZ p.x))) + ((smZ s.1.y) * (smZ p.y)))), (13, vI (2)), (7, vI (smZ s.1.z)), (9, vI (smZ p.z))]) (fun _ => [.var b3 32 cs3, .var b2 34 cs2]) (fun _ => h6) ?_ ?_
 ·
  refine wL (¬ (smB s.1.z)) (fun hg => ?_) (fun hg => ?_)
  ·
   refine xE (yO (v := .bool true) (congrArg some (xL hg))) rfl rfl rfl (yI rfl rfl rfl rfl rfl rfl (yI rfl rfl rfl rfl rfl rfl (gv (xM rfl rfl) rfl (zD ?_))))
   refine yM () trivial ⟨?_, rfl, rfl, rfl, rfl, rfl, rfl, trivial⟩ rfl rfl
   exact congrArg some (jZ hg)
  refine xE (yO (v := .bool false) (congrArg some (yX hg))) rfl rfl rfl (yY rfl rfl rfl (mv rfl rfl (yY rfl rfl rfl (gv (gB rfl) rfl (gv (xW rfl rfl) rfl (zD ?_))))))
  refine yM () trivial ⟨?_, rfl, rfl, rfl, rfl, rfl, rfl, trivial⟩ rfl rfl
  exact congrArg some (kA hg)
 intro _ _
 show GL _ _ _ _ _ _ _ [(36, vB ((¬ (smB s.1.z)) ∨ (¬ (smB p.z)))), (2, vP b2 0), (3, vP b3 0), (5, vI (((0 : Int) + ((smZ s.1.x) * (smZ p.x))) + ((smZ s.1.y) * (smZ p.y)))), (13, vI (2)), (7, vI (smZ s.1.z)), (9, vI (smZ p.z))] [.var b3 32 cs3, .var b2 34 cs2] h6
 refine zD (zB ?_)
 refine zN rfl (fun hc36 => ?_) (fun hc36 => ?_)
 ·
  refine zC (zA ?_)
  replace rb2 := rb2.mono (hh5.trans hh6)
  refine xX (F := fun v_ => (rpP (rpT (rpQ m)) (rpQ l)).Is h6 v_ s) (zE kH (Pc.here _) rfl rfl rb2 rfl) (yD mh1) rfl ?_
  intro v37u27 r37u27
  replace rb3 := rb3.mono hh6
  refine xX (F := fun v_ => (rpT (rpQ k)).Is h6 v_ p) (zE xJ (Pc.here _) rfl rfl rb3 rfl) (yD mh0) rfl ?_
  intro v38u27 r38u27
  refine zO (vs := [_, _]) rfl rfl rfl rfl call99 e2z (fun w hs => o_v_side hs r37u27 r38u27 (by omega) (by omega) (by omega)) ?_
  intro v39u27 h7 hh7 r39u27
  obtain rfl : v39u27 = vI (sdZ s p) := r39u27
  have hsd39u27 := kS s p
  refine asg rfl rfl (zD (zJ (e' := [(4, _)]) ⟨rfl, trivial⟩ (zB (zQ (zV (vC (zV (zV (vC (zV (yC rfl rfl ?_)))))))))))
  rfl
 obtain ⟨hsm, hpr⟩ := side_sm hc36
 refine zK (zB (zA (mv rfl rfl (mv rfl rfl (mv rfl rfl (gv (ov_mul_i rfl rfl (by omega) (by omega)) rfl (gv (zS rfl rfl (by omega) (by omega)) rfl (asg rfl rfl (zD (xC (zB (zA (gv ((zS (q := 1) rfl rfl (by omega) (by omega)).cv (show _ = vI (3) from rfl)) rfl ?_)))))))))))))
 refine mv rfl rfl (zD (wN (zC (zA (gv (OpV.fa (by decide) (zW (q := 3) rfl rfl)) rfl (zD (zB (zC (qQ rfl (xG (yB (yB (xF ?_)))))))))))))
 refine zJ (e' := [(2, _), (3, _), (5, _)]) e3z (zB (zC (zA (gv ((zG underlying34 rfl sizeOf30 rfl).cv (show _ = vP b2 9 from congrArg (vP b2) (by rfl))) rfl ?_))))
 replace rb2 := rb2.mono (hh5.trans hh6)
 refine xX (F := fun v_ => (rpQ l).Is h6 v_ s.2) (zE xS (Pc.snd (Pc.here _)) rfl rfl rb2 rfl) (yD mh1) rfl ?_
 intro v48u28 r48u28
 refine zO (vs := [_]) rfl rfl rfl rfl call98 ⟨rfl, trivial⟩ (fun w hs => o_pl_small hs r48u28) ?_
 intro v49u28 h7 hh7 r49u28
 obtain rfl := r49u28
 refine mv rfl rfl (gv (zL (vs := [_, _]) rfl rfl) rfl (gv (zL (vs := [_, _]) rfl rfl) rfl (asg rfl rfl (asg rfl rfl (zD (zB (zC (zC (zA (mv rfl rfl (gv (gB rfl) rfl (zD (zB ?_)))))))))))))
 refine zN rfl (fun hc53 => ?_) (fun hc53 => ?_)
 ·
  refine wJ (e' := [(2, _), (3, _)]) e2z (zC (zA ?_))
  replace rb2 := rb2.mono hh7
  refine xX (F := fun v_ => (rpP (rpT (rpQ m)) (rpQ l)).Is h7 v_ s) (zE kH (Pc.here _) rfl rfl rb2 rfl) (yD mh1) rfl ?_
  intro v54u28 r54u28
  replace rb3 := rb3.mono (hh6.trans hh7)
  refine xX (F := fun v_ => (rpT (rpQ k)).Is h7 v_ p) (zE xJ (Pc.here _) rfl rfl rb3 rfl) (yD mh0) rfl ?_
  intro v55u28 r55u28
  refine zO (vs := [_, _]) rfl rfl rfl rfl call99 e2z (fun w hs => o_v_side hs r54u28 r55u28 (by omega) (by omega) (by omega)) ?_
  intro v56u28 h8 hh8 r56u28
  obtain rfl : v56u28 = vI (sdZ s p) := r56u28
  have hsd56u28 := kS s p
  refine asg rfl rfl (zD (zB (zQ (zV (yC rfl rfl ?_)))))
  rfl
 have hsb := Classical.not_not.1 hc53
 have hsd := sm_eq hsb
 refine wJ (e' := [(5, _), (11, _)]) e2z (zK (zB (zC (zA (mv rfl rfl (mv rfl rfl (gv (xO rfl rfl (by omega) (by omega)) rfl ?_)))))))
 refine zO (vs := [_]) rfl rfl rfl rfl call100 ⟨rfl, trivial⟩ (fun w hs => o_pl_sign hs (by omega) (by omega)) ?_
 intro v60u28 h8 hh8 r60u28
 obtain rfl : v60u28 = vI (sgnZ (((((0 : Int) + ((smZ s.1.x) * (smZ p.x))) + ((smZ s.1.y) * (smZ p.y))) + ((smZ s.1.z) * (smZ p.z))) - (smZ s.2))) := r60u28
 refine asg rfl rfl (zD (zB (zQ (yC rfl rfl ?_))))
 exact congrArg vI (side_sum (by assumption) (by assumption) (by assumption) hsb)
end Go.Proofs.YtghhjjmjpeehdaaGreat
namespace Bk
set_option linter.unusedVariables false
set_option linter.unusedSimpArgs false
open Classical
noncomputable def yLoT (a b : Pt) : Pt := if 0 < kO a.y b.y then b else a
noncomputable def yHiT (a b : Pt) : Pt := if 0 < kO a.y b.y then a else b
noncomputable def whTo (L : List (List Pt)) (p : P2) (i j : Nat) : Nat → Int
  | 0 => -1
  | m + 1 => if insZ (L.getD m []) p i j = 1 then -(whTo L p i j m) else whTo L p i j m
noncomputable def whZ (L : List (List Pt)) (p : P2) (i j : Nat) : Int := if ∃ m, m < L.length ∧ insZ (L.getD m []) p i j = 0 then 0 else whTo L p i j L.length
end Bk
namespace Bk
set_option linter.unusedVariables false
set_option linter.unusedSimpArgs false
open Classical
def cutsP (a b : List Pt) (i j p q : Nat) : Prop := 1 < touch2 (edgeA a i j p) (edgeB a i j p) (edgeA b i j q) (edgeB b i j q)
def crossesP (a b : List Pt) (i j : Nat) : Prop := ∃ p q, p < a.length ∧ q < b.length ∧ cutsP a b i j p q
theorem one_step {Q : Nat → Prop} {q : Nat} (h : ∀ v, v < q → Q v) (h1 : Q q) : ∀ v, v < q + 1 → Q v := fun v hv => by
  rcases Nat.lt_succ_iff_lt_or_eq.1 hv with h2 | h2
  · exact h v h2
  · subst h2; exact h1
noncomputable def mid2 (u v : P2) : P2 := (midQ u.1 v.1, midQ u.2 v.2)
noncomputable def withTo (c l : List Pt) (i j : Nat) : Nat → Int
  | 0 => 0
  | m + 1 => if insZ c (mid2 (edgeA l i j m) (edgeB l i j m)) i j = 1 then withTo c l i j m + 1 else withTo c l i j m
def arZ (l : List Pt) (i j : Nat) : Rat := areaTo l i j l.length
noncomputable def wiZ (c l : List Pt) (i j : Nat) : Int := withTo c l i j l.length
abbrev gl (L : List (List Pt)) (m : Nat) : List Pt := L.getD m []
def betP (L : List (List Pt)) (i j k m : Nat) (best : Int) : Prop :=
  (0 < uT (arZ (gl L m) i j) ∧ wiZ (gl L m) (gl L k) i j = ↑(gl L k).length) ∧ (best < 0 ∨ kO (arZ (gl L m) i j) (arZ (gl L best.toNat) i j) < 0)
noncomputable def parTo (L : List (List Pt)) (i j k : Nat) : Nat → Int
  | 0 => -1
  | m + 1 => if betP L i j k m (parTo L i j k m) then ↑m else parTo L i j k m
noncomputable def pZ (L : List (List Pt)) (i j k : Nat) : Int := if 0 < uT (arZ (gl L k) i j) then -1 else parTo L i j k L.length
def sibP (L : List (List Pt)) (i j a b : Nat) : Prop := ((¬ b = a ∧ 0 ≤ pZ L i j a) ∧ pZ L i j b = pZ L i j a) ∧ 0 < wiZ (gl L b) (gl L a) i j
def lostP (L : List (List Pt)) (i j k : Nat) : Prop := ¬ 0 < uT (arZ (gl L k) i j) ∧ parTo L i j k L.length < 0
noncomputable def nestE (L : List (List Pt)) (i j : Nat) : Int :=
  if 16 < L.length ∨ ∃ m, m < L.length ∧ 64 < (gl L m).length then 2
  else if ∃ m, m < L.length ∧ ¬ simP (gl L m) i j then 8
  else if ∃ a b, a < b ∧ b < L.length ∧ crossesP (gl L a) (gl L b) i j then 32
  else if (∃ k, k < L.length ∧ lostP L i j k) ∨ ∃ a b, a < L.length ∧ b < L.length ∧ sibP L i j a b then 33 else 0
noncomputable def nestL (L : List (List Pt)) (i j : Nat) : List Int := if nestE L i j = 0 then (List.range L.length).map (pZ L i j) else []
theorem getD_set {α : Type} {l : List α} {k q : Nat} {x d : α} (hk : k < l.length) : (l.set k x).getD q d = if q = k then x else l.getD q d := by
  rw [List.getD_eq_getElem?_getD, List.getD_eq_getElem?_getD, List.getElem?_set]
  by_cases h : k = q
  · rw [if_pos h, if_pos hk, if_pos h.symm]; rfl
  · rw [if_neg h, if_neg (fun e => h e.symm)]
theorem set_next {α : Type} {l : List α} {k : Nat} {x d : α} {f : Nat → α} (hk : k < l.length) (h : ∀ q, q < k → l.getD q d = f q) (hx : x = f k) : ∀ q, q < k + 1 → (l.set k x).getD q d = f q := fun q hq => by
  rw [getD_set hk]
  split
  · rename_i e; rw [e, hx]
  · exact h q (by omega)
theorem set_at {α : Type} {l : List α} {k : Nat} {x d : α} (hk : k < l.length) : (l.set k x).getD k d = x := by rw [getD_set hk, if_pos rfl]
end Bk
namespace Go.Proofs.YtghhjjmjpeehdaaGreat
open Bk Go Tryz
set_option linter.unusedVariables false
set_option linter.unusedSimpArgs false
set_option maxRecDepth 10000
theorem o_own_point {w0 : World} {h0 : Mem}  (hs : MLe h0 (mem w0)) {k : Nat} {vp : Value} {p : (T3 Rat)} (rp : (rpT (rpQ k)).Is h0 vp p) (hcd0 : k ≤ 2000000000)  :
    Calls Tryz.prog 86 #[vp] w0 (Ret w0 h0 (fun h r => (rpT (rpQ (k + 1))).Is h r p)) := by
 refine zM (n := 13) (e := [(0, vp)]) (vs := [vp]) func86 rfl rfl (bL rfl) hs ⟨rfl, trivial⟩ (zC (zA (zI (yU (ρ := (rpT (rpQ k))) rfl rp) rfl rfl rfl ?_)))
 intro v1 q1 hq1
 obtain ⟨b1, cs1, rfl, rfl, rb1⟩ := hq1
 refine zI (yR (ρ := (rpT (rpQ (k + 1)))) (X := zT) yL rfl rfl (wO (wB (by omega)))) rfl rfl rfl ?_
 intro v2 q2 hq2
 obtain ⟨b2, cs2, rfl, rfl, rb2⟩ := hq2
 refine zD (zB (zC ?_))
 refine yF 10 _ [] [(0, .q), (1, .q), (3, .q), (4, .q), (6, .q), (7, .q), (2, .c), (5, .c), (8, .c), (9, .q), (10, .t)] xH nX (by kernel_rfl) nX (fun r hr => hr) (yK rfl (fun _ _ => (zH (sz := 3) (q := 0) 0 underlying32 sizeOf30 rfl rfl rfl (by decide)).cv (show _ = vP b1 0 from congrArg (vP b1) (by rfl))) rfl (yP (F := fun v_ => (rpQ k).Is h0 v_ p.x) rfl (zE xS (Pc.tx (Pc.here _)) rfl rfl rb1 rfl) (yD mh1) rfl ?_))
 intro v4 r4
 refine yK rfl (fun _ _ => (zH (sz := 3) (q := 1) 1 underlying32 sizeOf30 rfl rfl rfl (by decide)).cv (show _ = vP b1 3 from congrArg (vP b1) (by rfl))) rfl (yP (F := fun v_ => (rpQ k).Is h0 v_ p.y) rfl (zE xS (Pc.ty (Pc.here _)) rfl rfl rb1 rfl) (yD mh1) rfl ?_)
 intro v7 r7
 refine yK rfl (fun _ _ => (zH (sz := 3) (q := 2) 2 underlying32 sizeOf30 rfl rfl rfl (by decide)).cv (show _ = vP b1 6 from congrArg (vP b1) (by rfl))) rfl (yP (F := fun v_ => (rpQ k).Is h0 v_ p.z) rfl (zE xS (Pc.tz (Pc.here _)) rfl rfl rb1 rfl) (yD mh1) rfl ?_)
 intro v10 r10
 refine w_c rfl ?_
 refine zY (vs := [_]) call111 ⟨rfl, trivial⟩ (fun w hs => o_own_rat hs r4 (by omega)) rfl ?_
 intro v5 h1 hh1 r5
 change (rpQ k).Is h1 v5 p.x at r5
 refine w_c rfl ?_
 replace r7 := r7.mono hh1
 refine zY (vs := [_]) call111 ⟨rfl, trivial⟩ (fun w hs => o_own_rat hs r7 (by omega)) rfl ?_
 intro v8 h2 hh2 r8
 change (rpQ k).Is h2 v8 p.y at r8
 refine w_c rfl ?_
 replace r10 := r10.mono (hh1.trans hh2)
 refine zY (vs := [_]) call111 ⟨rfl, trivial⟩ (fun w hs => o_own_rat hs r10 (by omega)) rfl ?_
 intro v11 h3 hh3 r11
 change (rpQ k).Is h3 v11 p.z at r11
 replace r5 := r5.mono (hh2.trans hh3)
 replace r8 := r8.mono hh3
 refine yP (F := fun v_ => (rpT (rpQ (k + 1))).Is h3 v_ (T3.mk p.x p.y p.z)) rfl (wP (ps' := [(0, _), (1, _), (2, _)]) underlying32 yL rfl rfl sizeOf30 e6 rfl (wO (wB (by omega))) (yZ rfl (Pc.tx (Pc.here _)) (r5.le (Le.q (l := k + 1) (by omega))) (yZ rfl (Pc.ty (Pc.here _)) (r8.le (Le.q (l := k + 1) (by omega))) (yZ rfl (Pc.tz (Pc.here _)) (r11.le (Le.q (l := k + 1) (by omega))) wH)))) vQ rfl ?_
 intro v12 r12
 replace rb2 := rb2.mono ((hh1.trans hh2).trans hh3)
 refine xR (A := []) (F := fun c_ => (rpT (rpQ (k + 1))).R h3 c_ (T3.mk p.x p.y p.z)) rfl (yJ sizeOf32 (Pc.here _) rfl rfl rfl rb2 r12 rfl) ?_
 intro cs_1 rb_2
 refine xB (zJ (e' := [(2, _)]) ⟨rfl, trivial⟩ (zB (zQ (uZ (rv_o (t := 2) xJ mh0 rfl rb_2) ?_))))
 intro w_3 hvw_3 rr_4
 refine xQ (fun E S => yS rfl hvw_3 E S) ?_
 exact rr_4
theorem o_own_each_p {w0 : World} {h0 : Mem}  (hs : MLe h0 (mem w0)) {k : Nat} {vl : Value} {l : (List (T3 Rat))} (rl : (rpS (rpT (rpQ k))).Is h0 vl l) (hcd0 : k ≤ 1000000000) (hcd1 : l.length ≤ 100000)  :
    Calls Tryz.prog 85 #[vl, vF 86 []] w0 (Ret w0 h0 (fun h r => (rpS (rpT (rpQ (k + 2)))).Is h r l)) := by
 have hll := s_lt rl
 refine zM (n := 28) (e := [(0, vl), (1, vF 86 [])]) (vs := [vl, vF 86 []]) func85 rfl rfl (bL rfl) hs e2z (zC (zA (asg rfl rfl (zD (zB (zC (zC (zA (mv rfl rfl (gv (ov_eql_nil underlying27 rfl (s_one3 rl)) rfl (zD (zB ?_))))))))))))
 refine zN rfl (fun hc9 => ?_) (fun hc9 => ?_)
 ·
  have hnil := nil_of rl p9N hc9
  refine zC (zA (asg rfl rfl (zD (zB (zQ (zV (yC rfl rfl ?_)))))))
  exact (Rp.Is.cast (is_nil _) (by exact hnil.symm))
 refine zK (zB (zC (zA (mv rfl rfl (gv (wI underlying27 rfl rl) rfl (zI (new_makex (ρ := (rpT (rpQ (k + 2)))) (X := zT) (by' := 168) l.length underlying27 yL rfl rfl rfl rfl (wO (wB (by omega))) rfl rfl (by rfl) (by rfl) (by omega) (by omega)) rfl rfl rfl ?_))))))
 intro v12 q12 hq12
 obtain ⟨cs12, rfl, rl12⟩ := hq12
 refine asg rfl rfl (zD (zB (zC (zC (zA (mv rfl rfl (gv (wI underlying27 rfl rl) rfl (mv (v := vI (0)) rfl rfl (zD (zB (zP ?_)))))))))))
 refine wE (ι := Nat × List (T3 Rat) × Value × List Value × Mem) (fun (i, OU, s5_5, cs_6, ma) => MLe h0 ma ∧ (RL (rpT (rpQ (k + 2))) ma cs_6 OU ∧ (i ≤ l.length ∧ OU.length = l.length) ∧ ∀ u, u < i → OU.getD u zT = l.getD u zT)) (fun (i, OU, s5_5, cs_6, ma) => [(1, vF 86 []), (5, s5_5), (13, vl), (14, vI (↑(l).length : Int)), (15, vI ↑i)]) (fun (i, OU, s5_5, cs_6, ma) => [.gs 32 9 s5_5 OU.length cs_6]) (fun (i, OU, s5_5, cs_6, ma) => ma) (fun (i, OU, s5_5, cs_6, ma) => l.length - i) (0, (List.replicate l.length zT), v12, cs12, h0) ?_ e5z rfl rfl ?_
 ·
  refine ⟨MLe.refl _, ?_⟩
  refine ⟨rl12, ?_⟩
  exact ⟨⟨by omega, List.length_replicate⟩, fun u h => by omega⟩
 intro x hx
 obtain ⟨i, OU, s5_5, cs_6, ma⟩ := x
 obtain ⟨hmma, hinv⟩ := hx
 show GC _ _ _ _ _ _ [(1, vF 86 []), (5, s5_5), (13, vl), (14, vI (↑(l).length : Int)), (15, vI ↑i)] [.gs 32 9 s5_5 OU.length cs_6] ma
 obtain ⟨rl_7, hinv⟩ := hinv
 obtain ⟨⟨hi1, hi2⟩, hi3⟩ := hinv
 refine zC (zA (gv (zW rfl rfl) rfl (zD (zB (zC ?_)))))
 refine zN rfl (fun hc16 => ?_) (fun hc16 => ?_)
 ·
  refine zK (zB (zC (zP (zC (zA (mv rfl rfl ?_))))))
  replace rl := rl.mono hmma
  refine xX (F := fun v_ => AtP (rpT (rpQ k)) ma v_ (l.getD i zT)) (vJ zT i underlying27 xJ rfl rfl rl rfl (by omega) p9N) vQ rfl ?_
  intro v18 r18
  refine xX (F := fun v_ => (rpT (rpQ k)).Is ma v_ (l.getD i zT)) (wG xJ rfl r18) vQ rfl ?_
  intro v19 r19
  refine zI (yR (ρ := (rpT (rpQ (k + 1)))) (X := zT) yL rfl rfl (wO (wB (by omega)))) rfl rfl rfl ?_
  intro v7 q7 hq7
  obtain ⟨b7, cs7, rfl, rfl, rb7⟩ := hq7
  refine asg rfl rfl (wW (A := []) (F := fun c_ => (rpT (rpQ (k + 1))).R ma c_ (l.getD i zT)) (yJ sizeOf32 (Pc.here _) rfl rfl rfl rb7 (r19.le (Le.t (Le.q (l := k + 1) (by omega)))) rfl) ?_)
  intro cs_8 rb_9
  refine zD (zB (zA (mv rfl rfl (mv rfl rfl (mv rfl rfl (xX (F := fun v_ => (rpT (rpQ (k + 1))).Is ma v_ (l.getD i zT)) (zE xJ (Pc.here _) rfl rfl rb_9 rfl) (yD mh0) rfl ?_))))))
  intro v23 r23
  refine gl_enter (kE (vs := [_]) call86 rfl ⟨rfl, trivial⟩) rfl rfl rfl (fun w hs => o_own_point hs r23 (by first | omega | exact (mem_getD (by omega) (by assumption)))) ?_
  intro v24 h1 hh1 r24
  change (rpT (rpQ ((k + 1) + 1))).Is h1 v24 (l.getD i zT) at r24
  replace r24 := Rp.Is.le r24 (Le.t (Le.q (l := k + 2) (by omega)))
  refine gv ((qE i mh1 underlying27 sizeOf32 rfl rfl rfl (by first | omega | (simp only [lAz, lC, lN, lR, lS]; omega)) p9N).cv (show _ = xY 1 s5_5 ((i * 9 + 0)) from congrArg (xY 1 s5_5) (by rfl))) rfl ?_
  replace rl_7 := rl_7.mono hh1
  refine gl_updos (A := [_]) (F := fun c_ => RL (rpT (rpQ (k + 2))) h1 c_ (OU.set i (l.getD i zT))) (upd_os sizeOf32 (Pc.arr (Pc.here _) zT i (by first | omega | (simp only [lAz, lC, lN, lR, lS]; omega))) rfl p9N rfl rfl rl_7 r24 rfl) ?_
  intro cs_10 rl_11
  refine zD (xC (zJ (e' := [(1, _), (5, _), (13, _), (14, _), (15, _)]) e5z (zB (zA (gv (zS (q := 1) rfl rfl (by omega) (by omega)) rfl (mv rfl rfl (zD (wQ (A := []) ?_))))))))
  refine yV ((i + 1), (OU.set i (l.getD i zT)), s5_5, cs_10, h1) ?_ ?_ e5z rfl rfl
  ·
   refine ⟨(hmma.trans hh1), ?_⟩
   refine ⟨rl_11, ?_⟩
   exact ⟨⟨by omega, by rw [lS]; exact hi2⟩, set_next (f := fun u => l.getD u zT) (by omega) hi3 rfl⟩
  dsimp only
  omega
 have hall := list_same hi2 (fun u hu => hi3 u (by omega))
 refine xG (yB (yB (xF (zB (zC (zA (mv rfl rfl (asg rfl rfl (zD (zB (zQ (jI (A := []) (ρ := (rpT (rpQ (k + 2)))) rl_7 ?_))))))))))))
 intro h1 hh1 rs_12
 refine yC rfl rfl ?_
 exact (Rp.Is.cast rs_12 (by exact hall))
theorem o_own_points {w0 : World} {h0 : Mem}  (hs : MLe h0 (mem w0)) {k : Nat} {vl : Value} {l : (List (T3 Rat))} (rl : (rpS (rpT (rpQ k))).Is h0 vl l) (hcd0 : k ≤ 1000000000) (hcd1 : l.length ≤ 100000)  :
    Calls Tryz.prog 48 #[vl] w0 (Ret w0 h0 (fun h r => (rpS (rpT (rpQ (k + 2)))).Is h r l)) := by
 refine zM (n := 5) (e := [(0, vl)]) (vs := [vl]) func48 rfl rfl (bL rfl) hs ⟨rfl, trivial⟩ (zC (zA (asg rfl rfl (zD (zB (zC (zA (mv rfl rfl ?_))))))))
 refine zO (vs := [_, _]) rfl rfl rfl rfl call85 e2z (fun w hs => o_own_each_p hs rl (by omega) (by omega)) ?_
 intro v4 h1 hh1 r4
 change (rpS (rpT (rpQ (k + 2)))).Is h1 v4 l at r4
 refine asg rfl rfl (zD (zB (zQ (yC rfl rfl ?_))))
 exact r4
theorem o_own_each_l {w0 : World} {h0 : Mem}  (hs : MLe h0 (mem w0)) {k : Nat} {vl : Value} {l : (List (List (T3 Rat)))} (rl : (rpS (rpS (rpT (rpQ k)))).Is h0 vl l) (hcd0 : k ≤ 1000000000) (hcd1 : l.length ≤ 100000) (hcd2 : ∀ x, x ∈ l → x.length ≤ 100000)  :
    Calls Tryz.prog 96 #[vl, vF 48 []] w0 (Ret w0 h0 (fun h r => (rpS (rpS (rpT (rpQ (k + 2))))).Is h r l)) := by
 have hll := s_lt rl
 refine zM (n := 28) (e := [(0, vl), (1, vF 48 [])]) (vs := [vl, vF 48 []]) func96 rfl rfl (bL rfl) hs e2z (zC (zA (asg rfl rfl (zD (zB (zC (zC (zA (mv rfl rfl (gv (ov_eql_nil underlying50 rfl (s_one3 rl)) rfl (zD (zB ?_))))))))))))
 refine zN rfl (fun hc9 => ?_) (fun hc9 => ?_)
 ·
  have hnil := nil_of rl p1N hc9
  refine zC (zA (asg rfl rfl (zD (zB (zQ (zV (yC rfl rfl ?_)))))))
  exact (Rp.Is.cast (is_nil _) (by exact hnil.symm))
 refine zK (zB (zC (zA (mv rfl rfl (gv (wI underlying50 rfl rl) rfl (zI (new_makex (ρ := (rpS (rpT (rpQ (k + 2))))) (X := []) (by' := 24) l.length underlying50 info27 rfl rfl rfl rfl zr_s rfl rfl (by rfl) (by rfl) (by omega) (by omega)) rfl rfl rfl ?_))))))
 intro v12 q12 hq12
 obtain ⟨cs12, rfl, rl12⟩ := hq12
 refine asg rfl rfl (zD (zB (zC (zC (zA (mv rfl rfl (gv (wI underlying50 rfl rl) rfl (mv (v := vI (0)) rfl rfl (zD (zB (zP ?_)))))))))))
 refine wE (ι := Nat × List (List (T3 Rat)) × Value × List Value × Mem) (fun (i, OU, s5_13, cs_14, ma) => MLe h0 ma ∧ (RL (rpS (rpT (rpQ (k + 2)))) ma cs_14 OU ∧ (i ≤ l.length ∧ OU.length = l.length) ∧ ∀ u, u < i → OU.getD u [] = l.getD u [])) (fun (i, OU, s5_13, cs_14, ma) => [(1, vF 48 []), (5, s5_13), (13, vl), (14, vI (↑(l).length : Int)), (15, vI ↑i)]) (fun (i, OU, s5_13, cs_14, ma) => [.gs 27 1 s5_13 OU.length cs_14]) (fun (i, OU, s5_13, cs_14, ma) => ma) (fun (i, OU, s5_13, cs_14, ma) => l.length - i) (0, (List.replicate l.length []), v12, cs12, h0) ?_ e5z rfl rfl ?_
 ·
  refine ⟨MLe.refl _, ?_⟩
  refine ⟨rl12, ?_⟩
  exact ⟨⟨by omega, List.length_replicate⟩, fun u h => by omega⟩
 intro x hx
 obtain ⟨i, OU, s5_13, cs_14, ma⟩ := x
 obtain ⟨hmma, hinv⟩ := hx
 show GC _ _ _ _ _ _ [(1, vF 48 []), (5, s5_13), (13, vl), (14, vI (↑(l).length : Int)), (15, vI ↑i)] [.gs 27 1 s5_13 OU.length cs_14] ma
 obtain ⟨rl_15, hinv⟩ := hinv
 obtain ⟨⟨hi1, hi2⟩, hi3⟩ := hinv
 refine zC (zA (gv (zW rfl rfl) rfl (zD (zB (zC ?_)))))
 refine zN rfl (fun hc16 => ?_) (fun hc16 => ?_)
 ·
  refine zK (zB (zC (zP (zC (zA (mv rfl rfl ?_))))))
  replace rl := rl.mono hmma
  refine xX (F := fun v_ => AtP (rpS (rpT (rpQ k))) ma v_ (l.getD i [])) (vJ [] i underlying50 ty27 rfl rfl rl rfl (by omega) p1N) vQ rfl ?_
  intro v18 r18
  refine xX (F := fun v_ => (rpS (rpT (rpQ k))).Is ma v_ (l.getD i [])) (wG ty27 rfl r18) vQ rfl ?_
  intro v19 r19
  refine asg rfl rfl (asg rfl rfl (zD (zB (zA (mv rfl rfl (mv rfl rfl (mv rfl rfl (mv rfl rfl (gl_enter (kE (vs := [_]) call48 rfl ⟨rfl, trivial⟩) rfl rfl rfl (fun w hs => o_own_points hs r19 (by first | omega | exact (mem_getD (by omega) (by assumption))) (by first | omega | exact (mem_getD (by omega) (by assumption)))) ?_)))))))))
  intro v24 h1 hh1 r24
  change (rpS (rpT (rpQ (k + 2)))).Is h1 v24 (l.getD i []) at r24
  refine gv ((qE i mh0 underlying50 sizeOf27 rfl rfl rfl (by first | omega | (simp only [lAz, lC, lN, lR, lS]; omega)) p1N).cv (show _ = xY 1 s5_13 ((i * 1 + 0)) from congrArg (xY 1 s5_13) (by rfl))) rfl ?_
  replace rl_15 := rl_15.mono hh1
  refine gl_updos (A := []) (F := fun c_ => RL (rpS (rpT (rpQ (k + 2)))) h1 c_ (OU.set i (l.getD i []))) (upd_os sizeOf27 (Pc.arr (Pc.here _) [] i (by first | omega | (simp only [lAz, lC, lN, lR, lS]; omega))) rfl p1N rfl rfl rl_15 r24 rfl) ?_
  intro cs_16 rl_17
  refine zD (xC (zJ (e' := [(1, _), (5, _), (13, _), (14, _), (15, _)]) e5z (zB (zA (gv (zS (q := 1) rfl rfl (by omega) (by omega)) rfl (mv rfl rfl (zD ?_)))))))
  refine yV ((i + 1), (OU.set i (l.getD i [])), s5_13, cs_16, h1) ?_ ?_ e5z rfl rfl
  ·
   refine ⟨(hmma.trans hh1), ?_⟩
   refine ⟨rl_17, ?_⟩
   exact ⟨⟨by omega, by rw [lS]; exact hi2⟩, set_next (f := fun u => l.getD u []) (by omega) hi3 rfl⟩
  dsimp only
  omega
 have hall := list_same hi2 (fun u hu => hi3 u (by omega))
 refine xG (yB (yB (xF (zB (zC (zA (mv rfl rfl (asg rfl rfl (zD (zB (zQ (jI (A := []) (ρ := (rpS (rpT (rpQ (k + 2))))) rl_15 ?_))))))))))))
 intro h1 hh1 rs_18
 refine yC rfl rfl ?_
 exact (Rp.Is.cast rs_18 (by exact hall))
theorem o_own_loops {w0 : World} {h0 : Mem}  (hs : MLe h0 (mem w0)) {k : Nat} {vL : Value} {L : (List (List (T3 Rat)))} (rL : (rpS (rpS (rpT (rpQ k)))).Is h0 vL L) (hcd0 : k ≤ 1000000000) (hcd1 : L.length ≤ 100000) (hcd2 : ∀ x, x ∈ L → x.length ≤ 100000)  :
    Calls Tryz.prog 58 #[vL] w0 (Ret w0 h0 (fun h r => (rpS (rpS (rpT (rpQ (k + 2))))).Is h r L)) := by
 refine zM (n := 5) (e := [(0, vL)]) (vs := [vL]) func58 rfl rfl (bL rfl) hs ⟨rfl, trivial⟩ (zC (zA (asg rfl rfl (zD (zB (zC (zA (mv rfl rfl ?_))))))))
 refine zO (vs := [_, _]) rfl rfl rfl rfl call96 e2z (fun w hs => o_own_each_l hs rL (by first | omega | assumption) (by first | omega | assumption) (by first | omega | assumption)) ?_
 intro v4 h1 hh1 r4
 change (rpS (rpS (rpT (rpQ (k + 2))))).Is h1 v4 L at r4
 refine asg rfl rfl (zD (zB (zQ (yC rfl rfl ?_))))
 exact r4
theorem o_cx_height {w0 : World} {h0 : Mem}  (hs : MLe h0 (mem w0)) {m l k : Nat} {vs : Value} {s : ((T3 Rat) × Rat)} (rs : (rpP (rpT (rpQ m)) (rpQ l)).Is h0 vs s) {vp : Value} {p : (T3 Rat)} (rp : (rpT (rpQ k)).Is h0 vp p) (hcd0 : k ≤ 100000000) (hcd1 : l ≤ 100000000) (hcd2 : m ≤ 100000000)  :
    Calls Tryz.prog 117 #[vs, vp] w0 (Ret w0 h0 (fun h r => (rpQ (3 * k + l + 3 * m + 12)).Is h r (hgt s p))) := by
 refine zM (n := 12) (e := [(0, vs), (1, vp)]) (vs := [vs, vp]) func117 rfl rfl (bL rfl) hs e2z (zC (zA (zI (yU (ρ := (rpP (rpT (rpQ m)) (rpQ l))) rfl rs) rfl rfl rfl ?_)))
 intro v2 q2 hq2
 obtain ⟨b2, cs2, rfl, rfl, rb2⟩ := hq2
 refine zI (yU (ρ := (rpT (rpQ k))) rfl rp) rfl rfl rfl ?_
 intro v3 q3 hq3
 obtain ⟨b3, cs3, rfl, rfl, rb3⟩ := hq3
 refine zI (yR (ρ := (rpQ (3 * k + l + 3 * m + 12))) (X := (0 : Rat)) wT rfl rfl (wB (by omega))) rfl rfl rfl ?_
 intro v4 q4 hq4
 obtain ⟨b4, cs4, rfl, rfl, rb4⟩ := hq4
 refine zD (zB (zC ?_))
 refine yF 7 _ [] [(0, .q), (1, .q), (2, .q), (4, .q), (5, .q), (3, .c), (6, .c), (7, .t)] xH nX (by kernel_rfl) nX (fun r hr => hr) (yK rfl (fun _ _ => (zG underlying34 rfl sizeOf32 rfl).cv (show _ = vP b2 0 from congrArg (vP b2) (by rfl))) rfl (yP (F := fun v_ => (rpT (rpQ m)).Is h0 v_ s.1) rfl (zE xJ (Pc.fst (Pc.here _)) rfl rfl rb2 rfl) (yD mh2) rfl ?_))
 intro v6 r6
 refine yP (F := fun v_ => (rpT (rpQ k)).Is h0 v_ p) rfl (zE xJ (Pc.here _) rfl rfl rb3 rfl) (yD mh1) rfl ?_
 intro v7 r7
 refine yK rfl (fun _ _ => (zG underlying34 rfl sizeOf30 rfl).cv (show _ = vP b2 9 from congrArg (vP b2) (by rfl))) rfl (yP (F := fun v_ => (rpQ l).Is h0 v_ s.2) rfl (zE xS (Pc.snd (Pc.here _)) rfl rfl rb2 rfl) (yD mh2) rfl ?_)
 intro v10 r10
 refine w_c rfl ?_
 refine zY (vs := [_, _]) call79 e2z (fun w hs => o_v_dot hs r6 r7 (by omega)) rfl ?_
 intro v8 h1 hh1 r8
 change (rpQ (3 * m + 3 * k + 9)).Is h1 v8 (wR s.1 p) at r8
 replace r8 := Rp.Is.le r8 (Le.q (l := 3 * k + 3 * m + 9) (by omega))
 refine w_c rfl ?_
 replace r10 := r10.mono hh1
 refine zY (vs := [_, _]) call70 e2z (fun w hs => o_rat_sub hs r8 r10 (by omega)) rfl ?_
 intro v11 h2 hh2 r11
 change (rpQ ((3 * k + 3 * m + 9) + l + 1)).Is h2 v11 ((wR s.1 p) - s.2) at r11
 replace r11 := Rp.Is.le r11 (Le.q (l := 3 * k + l + 3 * m + 10) (by omega))
 replace rb4 := rb4.mono (hh1.trans hh2)
 refine xR (A := []) (F := fun c_ => (rpQ (3 * k + l + 3 * m + 12)).R h2 c_ ((wR s.1 p) - s.2)) rfl (yJ sizeOf30 (Pc.here _) rfl rfl rfl rb4 (r11.le (Le.q (l := 3 * k + l + 3 * m + 12) (by omega))) rfl) ?_
 intro cs_19 rb_20
 refine xB (zJ (e' := [(4, _)]) ⟨rfl, trivial⟩ (zB (zQ (uZ (rv_o (t := 4) xS mh0 rfl rb_20) ?_))))
 intro w_21 hvw_21 rr_22
 refine xQ (fun E S => yS rfl hvw_21 E S) ?_
 exact rr_22
theorem o_r6_value {w0 : World} {h0 : Mem}  (hs : MLe h0 (mem w0)) {m l k : Nat} {vs : Value} {s : ((T3 Rat) × Rat)} (rs : (rpP (rpT (rpQ m)) (rpQ l)).Is h0 vs s) {vp : Value} {p : (T3 Rat)} (rp : (rpT (rpQ k)).Is h0 vp p) (hcd0 : k ≤ 100000000) (hcd1 : l ≤ 100000000) (hcd2 : m ≤ 100000000)  :
    Calls Tryz.prog 87 #[vs, vp] w0 (Ret w0 h0 (fun h r => (rpQ (3 * k + l + 3 * m + 12)).Is h r (hgt s p))) := by
 refine zM (n := 12) (e := [(0, vs), (1, vp)]) (vs := [vs, vp]) func87 rfl rfl (bL rfl) hs e2z (zC (zA (zI (yU (ρ := (rpP (rpT (rpQ m)) (rpQ l))) rfl rs) rfl rfl rfl ?_)))
 intro v2 q2 hq2
 obtain ⟨b2, cs2, rfl, rfl, rb2⟩ := hq2
 refine zI (yU (ρ := (rpT (rpQ k))) rfl rp) rfl rfl rfl ?_
 intro v3 q3 hq3
 obtain ⟨b3, cs3, rfl, rfl, rb3⟩ := hq3
 refine zI (yR (ρ := (rpQ (3 * k + l + 3 * m + 12))) (X := (0 : Rat)) wT rfl rfl (wB (by omega))) rfl rfl rfl ?_
 intro v4 q4 hq4
 obtain ⟨b4, cs4, rfl, rfl, rb4⟩ := hq4
 refine zD (zB (zC ?_))
 refine yF 7 _ [] [(0, .q), (1, .q), (2, .q), (4, .q), (5, .q), (3, .c), (6, .c), (7, .t)] xH nX (by kernel_rfl) nX (fun r hr => hr) (yK rfl (fun _ _ => (zG underlying34 rfl sizeOf32 rfl).cv (show _ = vP b2 0 from congrArg (vP b2) (by rfl))) rfl (yP (F := fun v_ => (rpT (rpQ m)).Is h0 v_ s.1) rfl (zE xJ (Pc.fst (Pc.here _)) rfl rfl rb2 rfl) (yD mh2) rfl ?_))
 intro v6 r6
 refine yP (F := fun v_ => (rpT (rpQ k)).Is h0 v_ p) rfl (zE xJ (Pc.here _) rfl rfl rb3 rfl) (yD mh1) rfl ?_
 intro v7 r7
 refine yK rfl (fun _ _ => (zG underlying34 rfl sizeOf30 rfl).cv (show _ = vP b2 9 from congrArg (vP b2) (by rfl))) rfl (yP (F := fun v_ => (rpQ l).Is h0 v_ s.2) rfl (zE xS (Pc.snd (Pc.here _)) rfl rfl rb2 rfl) (yD mh2) rfl ?_)
 intro v10 r10
 refine w_c rfl ?_
 refine zY (vs := [_, _]) call57 e2z (fun w hs => o_r4_dot hs r6 r7 (by omega)) rfl ?_
 intro v8 h1 hh1 r8
 change (rpQ (3 * m + 3 * k + 9)).Is h1 v8 (wR s.1 p) at r8
 replace r8 := Rp.Is.le r8 (Le.q (l := 3 * k + 3 * m + 9) (by omega))
 refine w_c rfl ?_
 replace r10 := r10.mono hh1
 refine zY (vs := [_, _]) call56 e2z (fun w hs => jG hs r8 r10 (by omega)) rfl ?_
 intro v11 h2 hh2 r11
 change (rpQ ((3 * k + 3 * m + 9) + l + 1)).Is h2 v11 ((wR s.1 p) - s.2) at r11
 replace r11 := Rp.Is.le r11 (Le.q (l := 3 * k + l + 3 * m + 10) (by omega))
 replace rb4 := rb4.mono (hh1.trans hh2)
 refine xR (A := []) (F := fun c_ => (rpQ (3 * k + l + 3 * m + 12)).R h2 c_ ((wR s.1 p) - s.2)) rfl (yJ sizeOf30 (Pc.here _) rfl rfl rfl rb4 (r11.le (Le.q (l := 3 * k + l + 3 * m + 12) (by omega))) rfl) ?_
 intro cs_23 rb_24
 refine xB (zJ (e' := [(4, _)]) ⟨rfl, trivial⟩ (zB (zQ (uZ (rv_o (t := 4) xS mh0 rfl rb_24) ?_))))
 intro w_25 hvw_25 rr_26
 refine xQ (fun E S => yS rfl hvw_25 E S) ?_
 exact rr_26
theorem o_cx_common {w0 : World} {h0 : Mem}  (hs : MLe h0 (mem w0)) {m l k : Nat} {vs : Value} {s : ((T3 Rat) × Rat)} (rs : (rpP (rpT (rpQ m)) (rpQ l)).Is h0 vs s) {vp : Value} {p : (T3 Rat)} (rp : (rpT (rpQ k)).Is h0 vp p) {vq : Value} {q : (T3 Rat)} (rq : (rpT (rpQ k)).Is h0 vq q) (hcd0 : k ≤ 60000000) (hcd1 : l ≤ 1000000) (hcd2 : m ≤ 1000000)  :
    Calls Tryz.prog 84 #[vs, vp, vq] w0 (Ret w0 h0 (fun h r => (rpT (rpQ (12 * k + 3 * l + 9 * m + 50))).Is h r (btw s p q))) := by
 refine zM (n := 32) (e := [(0, vs), (1, vp), (2, vq)]) (vs := [vs, vp, vq]) func84 rfl rfl (bL rfl) hs e3z (zC (zA (zI (yU (ρ := (rpP (rpT (rpQ m)) (rpQ l))) rfl rs) rfl rfl rfl ?_)))
 intro v3 q3 hq3
 obtain ⟨b3, cs3, rfl, rfl, rb3⟩ := hq3
 refine zI (yU (ρ := (rpT (rpQ k))) rfl rp) rfl rfl rfl ?_
 intro v4 q4 hq4
 obtain ⟨b4, cs4, rfl, rfl, rb4⟩ := hq4
 refine zI (yU (ρ := (rpT (rpQ k))) rfl rq) rfl rfl rfl ?_
 intro v5 q5 hq5
 obtain ⟨b5, cs5, rfl, rfl, rb5⟩ := hq5
 refine zI (yR (ρ := (rpT (rpQ (12 * k + 3 * l + 9 * m + 50)))) (X := zT) yL rfl rfl (wO (wB (by omega)))) rfl rfl rfl ?_
 intro v6 q6 hq6
 obtain ⟨b6, cs6, rfl, rfl, rb6⟩ := hq6
 refine zD (zB (zC ?_))
 refine yF 8 _ [(6, (7, 30, [.bool false, .slice none 0 0, .slice none 0 0])), (7, (8, 30, [.bool false, .slice none 0 0, .slice none 0 0]))] [(0, .q), (1, .q), (3, .q), (4, .q), (2, .c), (5, .c), (6, .a), (7, .a), (8, .t), (9, .t)] xH (jK.cons rfl rfl (qB wT rfl rfl) (jK.cons rfl rfl (qB wT rfl rfl) jK.nil)) (by kernel_rfl) (qG rfl rfl (qG rfl rfl kQ)) (fun r hr => hr) (yP (F := fun v_ => (rpP (rpT (rpQ m)) (rpQ l)).Is h0 v_ s) rfl (zE kH (Pc.here _) rfl rfl rb3 rfl) (yD mh3) rfl ?_)
 intro v11 r11
 refine yP (F := fun v_ => (rpT (rpQ k)).Is h0 v_ p) rfl (zE xJ (Pc.here _) rfl rfl rb4 rfl) (yD mh2) rfl ?_
 intro v12 r12
 refine yP (F := fun v_ => (rpP (rpT (rpQ m)) (rpQ l)).Is h0 v_ s) rfl (zE kH (Pc.here _) rfl rfl rb3 rfl) (yD mh3) rfl ?_
 intro v14 r14
 refine yP (F := fun v_ => (rpT (rpQ k)).Is h0 v_ q) rfl (zE xJ (Pc.here _) rfl rfl rb5 rfl) (yD mh1) rfl ?_
 intro v15 r15
 refine w_c rfl ?_
 refine zY (vs := [_, _]) call117 e2z (fun w hs => o_cx_height hs r11 r12 (by omega) (by omega) (by omega)) rfl ?_
 intro v13 h1 hh1 r13
 change (rpQ (3 * k + l + 3 * m + 12)).Is h1 v13 (hgt s p) at r13
 refine w_c rfl ?_
 replace r14 := r14.mono hh1
 replace r15 := r15.mono hh1
 refine zY (vs := [_, _]) call117 e2z (fun w hs => o_cx_height hs r14 r15 (by omega) (by omega) (by omega)) rfl ?_
 intro v16 h2 hh2 r16
 change (rpQ (3 * k + l + 3 * m + 12)).Is h2 v16 (hgt s q) at r16
 refine w_a rfl rfl (fun b7 => ?_)
 have rb7 : (rpQ (3 * k + l + 3 * m + 12)).R h2 [.bool false, .slice none 0 0, .slice none 0 0] (0 : Rat) := (wB (by omega))
 refine w_a rfl rfl (fun b8 => ?_)
 have rb8 : (rpQ (3 * k + l + 3 * m + 12)).R h2 [.bool false, .slice none 0 0, .slice none 0 0] (0 : Rat) := (wB (by omega))
 replace r13 := r13.mono hh2
 refine xR (A := [_]) (F := fun c_ => (rpQ (3 * k + l + 3 * m + 12)).R h2 c_ (hgt s p)) rfl (yJ sizeOf30 (Pc.here _) rfl rfl rfl rb7 r13 rfl) ?_
 intro cs_27 rb_28
 refine xR (A := []) (F := fun c_ => (rpQ (3 * k + l + 3 * m + 12)).R h2 c_ (hgt s q)) rfl (yJ sizeOf30 (Pc.here _) rfl rfl rfl rb8 r16 rfl) ?_
 intro cs_29 rb_30
 refine xB (zJ (e' := [(4, _), (5, _), (6, _), (7, _), (8, _)]) e5z (zB (zC ?_)))
 refine yF 11 _ [(8, (9, 30, [.bool false, .slice none 0 0, .slice none 0 0]))] [(0, .q), (1, .q), (2, .q), (3, .c), (4, .c), (5, .q), (6, .q), (7, .q), (8, .a), (9, .c), (10, .q)] xH (jK.cons rfl rfl (qB wT rfl rfl) jK.nil) (by kernel_rfl) (qG rfl rfl kQ) (fun r hr => hr) (yP (F := fun v_ => (rpQ (3 * k + l + 3 * m + 12)).Is h2 v_ (hgt s p)) rfl (zE xS (Pc.here _) rfl rfl rb_28 rfl) (yD mh1) rfl ?_)
 intro v18 r18
 refine yP (F := fun v_ => (rpQ (3 * k + l + 3 * m + 12)).Is h2 v_ (hgt s p)) rfl (zE xS (Pc.here _) rfl rfl rb_28 rfl) (yD mh1) rfl ?_
 intro v19 r19
 refine yP (F := fun v_ => (rpQ (3 * k + l + 3 * m + 12)).Is h2 v_ (hgt s q)) rfl (zE xS (Pc.here _) rfl rfl rb_30 rfl) (yD mh0) rfl ?_
 intro v20 r20
 refine w_c rfl ?_
 refine zY (vs := [_, _]) call70 e2z (fun w hs => o_rat_sub hs r19 r20 (by omega)) rfl ?_
 intro v21 h3 hh3 r21
 change (rpQ ((3 * k + l + 3 * m + 12) + (3 * k + l + 3 * m + 12) + 1)).Is h3 v21 ((hgt s p) - (hgt s q)) at r21
 replace r21 := Rp.Is.le r21 (Le.q (l := 6 * k + 2 * l + 6 * m + 25) (by omega))
 refine w_c rfl ?_
 replace r18 := r18.mono hh3
 refine zY (vs := [_, _]) call110 e2z (fun w hs => o_rat_quo hs r18 r21 (by omega)) rfl ?_
 intro v22 h4 hh4 r22
 obtain ⟨v22_0, rfl, r22_0⟩ := r22
 change (rpQ ((3 * k + l + 3 * m + 12) + (6 * k + 2 * l + 6 * m + 25))).Is h4 v22_0 (if ((hgt s p) - (hgt s q)) = 0 then 0 else (hgt s p) / ((hgt s p) - (hgt s q))) at r22_0
 replace r22_0 := Rp.Is.le r22_0 (Le.q (l := 9 * k + 3 * l + 9 * m + 37) (by omega))
 refine yH rfl rfl rfl (yK rfl (fun _ _ => zL (vs := [_, _]) rfl rfl) rfl (yK rfl (fun _ _ => zL (vs := [_, _]) rfl rfl) rfl ?_))
 refine w_a rfl rfl (fun b9 => ?_)
 have rb9 : (rpQ (9 * k + 3 * l + 9 * m + 40)).R h4 [.bool false, .slice none 0 0, .slice none 0 0] (0 : Rat) := (wB (by omega))
 refine w_c rfl (s_updx (A := []) (F := fun c_ => (rpQ (9 * k + 3 * l + 9 * m + 40)).R h4 c_ (if ((hgt s p) - (hgt s q)) = 0 then 0 else (hgt s p) / ((hgt s p) - (hgt s q)))) (yJ sizeOf30 (Pc.here _) rfl rfl rfl rb9 (r22_0.le (Le.q (l := 9 * k + 3 * l + 9 * m + 40) (by omega))) rfl) (wV (by first | (simp; done) | grind)) ?_)
 intro cs_31 rb_32
 refine uG rfl rfl rfl (xB (zJ (e' := [(4, _), (5, _), (6, _), (9, _)]) e4z (zB (zC ?_))))
 refine yF 7 _ [] [(0, .q), (1, .q), (2, .q), (3, .q), (4, .c), (5, .c), (6, .c), (7, .t)] xH nX (by kernel_rfl) nX (fun r hr => hr) ?_
 replace rb4 := rb4.mono (((hh1.trans hh2).trans hh3).trans hh4)
 refine yP (F := fun v_ => (rpT (rpQ k)).Is h4 v_ p) rfl (zE xJ (Pc.here _) rfl rfl rb4 rfl) (yD mh5) rfl ?_
 intro v25 r25
 refine yP (F := fun v_ => (rpQ (9 * k + 3 * l + 9 * m + 40)).Is h4 v_ (if ((hgt s p) - (hgt s q)) = 0 then 0 else (hgt s p) / ((hgt s p) - (hgt s q)))) rfl (zE xS (Pc.here _) rfl rfl rb_32 rfl) (yD mh0) rfl ?_
 intro v26 r26
 replace rb5 := rb5.mono (((hh1.trans hh2).trans hh3).trans hh4)
 refine yP (F := fun v_ => (rpT (rpQ k)).Is h4 v_ q) rfl (zE xJ (Pc.here _) rfl rfl rb5 rfl) (yD mh4) rfl ?_
 intro v27 r27
 refine yP (F := fun v_ => (rpT (rpQ k)).Is h4 v_ p) rfl (zE xJ (Pc.here _) rfl rfl rb4 rfl) (yD mh5) rfl ?_
 intro v28 r28
 refine w_c rfl ?_
 refine zY (vs := [_, _]) call78 e2z (fun w hs => o_v_sub hs r27 r28 (by omega)) rfl ?_
 intro v29 h5 hh5 r29
 change (rpT (rpQ (k + k + 2))).Is h5 v29 (T3.mk (q.x - p.x) (q.y - p.y) (q.z - p.z)) at r29
 replace r29 := Rp.Is.le r29 (Le.t (Le.q (l := 2 * k + 2) (by omega)))
 refine w_c rfl ?_
 replace r26 := r26.mono hh5
 refine zY (vs := [_, _]) call82 e2z (fun w hs => o_v_scale hs r26 r29 (by omega)) rfl ?_
 intro v30 h6 hh6 r30
 change (rpT (rpQ ((2 * k + 2) + (9 * k + 3 * l + 9 * m + 40) + 2))).Is h6 v30 (T3.mk ((if ((hgt s p) - (hgt s q)) = 0 then 0 else (hgt s p) / ((hgt s p) - (hgt s q))) * (q.x - p.x)) ((if ((hgt s p) - (hgt s q)) = 0 then 0 else (hgt s p) / ((hgt s p) - (hgt s q))) * (q.y - p.y)) ((if ((hgt s p) - (hgt s q)) = 0 then 0 else (hgt s p) / ((hgt s p) - (hgt s q))) * (q.z - p.z))) at r30
 replace r30 := Rp.Is.le r30 (Le.t (Le.q (l := 11 * k + 3 * l + 9 * m + 44) (by omega)))
 refine w_c rfl ?_
 replace r25 := r25.mono (hh5.trans hh6)
 refine zY (vs := [_, _]) call80 e2z (fun w hs => o_v_add hs r25 r30 (by omega)) rfl ?_
 intro v31 h7 hh7 r31
 change (rpT (rpQ (k + (11 * k + 3 * l + 9 * m + 44) + 2))).Is h7 v31 (T3.mk (p.x + ((if ((hgt s p) - (hgt s q)) = 0 then 0 else (hgt s p) / ((hgt s p) - (hgt s q))) * (q.x - p.x))) (p.y + ((if ((hgt s p) - (hgt s q)) = 0 then 0 else (hgt s p) / ((hgt s p) - (hgt s q))) * (q.y - p.y))) (p.z + ((if ((hgt s p) - (hgt s q)) = 0 then 0 else (hgt s p) / ((hgt s p) - (hgt s q))) * (q.z - p.z)))) at r31
 replace r31 := Rp.Is.le r31 (Le.t (Le.q (l := 12 * k + 3 * l + 9 * m + 46) (by omega)))
 replace rb6 := rb6.mono ((((((hh1.trans hh2).trans hh3).trans hh4).trans hh5).trans hh6).trans hh7)
 refine xR (A := [_, _, _]) (F := fun c_ => (rpT (rpQ (12 * k + 3 * l + 9 * m + 50))).R h7 c_ (T3.mk (p.x + ((if ((hgt s p) - (hgt s q)) = 0 then 0 else (hgt s p) / ((hgt s p) - (hgt s q))) * (q.x - p.x))) (p.y + ((if ((hgt s p) - (hgt s q)) = 0 then 0 else (hgt s p) / ((hgt s p) - (hgt s q))) * (q.y - p.y))) (p.z + ((if ((hgt s p) - (hgt s q)) = 0 then 0 else (hgt s p) / ((hgt s p) - (hgt s q))) * (q.z - p.z))))) rfl (yJ sizeOf32 (Pc.here _) rfl rfl rfl rb6 (r31.le (Le.t (Le.q (l := 12 * k + 3 * l + 9 * m + 50) (by omega)))) rfl) ?_
 intro cs_33 rb_34
 refine xB (zJ (e' := [(6, _)]) ⟨rfl, trivial⟩ (zB (zQ (uZ (rv_o (t := 6) xJ mh3 rfl rb_34) ?_))))
 intro w_35 hvw_35 rr_36
 refine xQ (fun E S => yS rfl hvw_35 E S) ?_
 exact rr_36
theorem o_r6_between {w0 : World} {h0 : Mem}  (hs : MLe h0 (mem w0)) {k m l : Nat} {vp : Value} {p : (T3 Rat)} (rp : (rpT (rpQ k)).Is h0 vp p) {vq : Value} {q : (T3 Rat)} (rq : (rpT (rpQ k)).Is h0 vq q) {vs : Value} {s : ((T3 Rat) × Rat)} (rs : (rpP (rpT (rpQ m)) (rpQ l)).Is h0 vs s) (hcd0 : k ≤ 60000000) (hcd1 : l ≤ 1000000) (hcd2 : m ≤ 1000000)  :
    Calls Tryz.prog 49 #[vp, vq, vs] w0 (Ret w0 h0 (fun h r => (rpT (rpQ (12 * k + 3 * l + 9 * m + 50))).Is h r (btw s p q))) := by
 refine zM (n := 32) (e := [(0, vp), (1, vq), (2, vs)]) (vs := [vp, vq, vs]) func49 rfl rfl (bL rfl) hs e3z (zC (zA (zI (yU (ρ := (rpT (rpQ k))) rfl rp) rfl rfl rfl ?_)))
 intro v3 q3 hq3
 obtain ⟨b3, cs3, rfl, rfl, rb3⟩ := hq3
 refine zI (yU (ρ := (rpT (rpQ k))) rfl rq) rfl rfl rfl ?_
 intro v4 q4 hq4
 obtain ⟨b4, cs4, rfl, rfl, rb4⟩ := hq4
 refine zI (yU (ρ := (rpP (rpT (rpQ m)) (rpQ l))) rfl rs) rfl rfl rfl ?_
 intro v5 q5 hq5
 obtain ⟨b5, cs5, rfl, rfl, rb5⟩ := hq5
 refine zI (yR (ρ := (rpT (rpQ (12 * k + 3 * l + 9 * m + 50)))) (X := zT) yL rfl rfl (wO (wB (by omega)))) rfl rfl rfl ?_
 intro v6 q6 hq6
 obtain ⟨b6, cs6, rfl, rfl, rb6⟩ := hq6
 refine zD (zB (zC ?_))
 refine yF 8 _ [(6, (7, 30, [.bool false, .slice none 0 0, .slice none 0 0])), (7, (8, 30, [.bool false, .slice none 0 0, .slice none 0 0]))] [(0, .q), (1, .q), (3, .q), (4, .q), (2, .c), (5, .c), (6, .a), (7, .a), (8, .t), (9, .t)] xH (jK.cons rfl rfl (qB wT rfl rfl) (jK.cons rfl rfl (qB wT rfl rfl) jK.nil)) (by kernel_rfl) (qG rfl rfl (qG rfl rfl kQ)) (fun r hr => hr) (yP (F := fun v_ => (rpP (rpT (rpQ m)) (rpQ l)).Is h0 v_ s) rfl (zE kH (Pc.here _) rfl rfl rb5 rfl) (yD mh1) rfl ?_)
 intro v11 r11
 refine yP (F := fun v_ => (rpT (rpQ k)).Is h0 v_ p) rfl (zE xJ (Pc.here _) rfl rfl rb3 rfl) (yD mh3) rfl ?_
 intro v12 r12
 refine yP (F := fun v_ => (rpP (rpT (rpQ m)) (rpQ l)).Is h0 v_ s) rfl (zE kH (Pc.here _) rfl rfl rb5 rfl) (yD mh1) rfl ?_
 intro v14 r14
 refine yP (F := fun v_ => (rpT (rpQ k)).Is h0 v_ q) rfl (zE xJ (Pc.here _) rfl rfl rb4 rfl) (yD mh2) rfl ?_
 intro v15 r15
 refine w_c rfl ?_
 refine zY (vs := [_, _]) call87 e2z (fun w hs => o_r6_value hs r11 r12 (by omega) (by omega) (by omega)) rfl ?_
 intro v13 h1 hh1 r13
 change (rpQ (3 * k + l + 3 * m + 12)).Is h1 v13 (hgt s p) at r13
 refine w_c rfl ?_
 replace r14 := r14.mono hh1
 replace r15 := r15.mono hh1
 refine zY (vs := [_, _]) call87 e2z (fun w hs => o_r6_value hs r14 r15 (by omega) (by omega) (by omega)) rfl ?_
 intro v16 h2 hh2 r16
 change (rpQ (3 * k + l + 3 * m + 12)).Is h2 v16 (hgt s q) at r16
 refine w_a rfl rfl (fun b7 => ?_)
 have rb7 : (rpQ (3 * k + l + 3 * m + 12)).R h2 [.bool false, .slice none 0 0, .slice none 0 0] (0 : Rat) := (wB (by omega))
 refine w_a rfl rfl (fun b8 => ?_)
 have rb8 : (rpQ (3 * k + l + 3 * m + 12)).R h2 [.bool false, .slice none 0 0, .slice none 0 0] (0 : Rat) := (wB (by omega))
 replace r13 := r13.mono hh2
 refine xR (A := [_]) (F := fun c_ => (rpQ (3 * k + l + 3 * m + 12)).R h2 c_ (hgt s p)) rfl (yJ sizeOf30 (Pc.here _) rfl rfl rfl rb7 r13 rfl) ?_
 intro cs_37 rb_38
 refine xR (A := []) (F := fun c_ => (rpQ (3 * k + l + 3 * m + 12)).R h2 c_ (hgt s q)) rfl (yJ sizeOf30 (Pc.here _) rfl rfl rfl rb8 r16 rfl) ?_
 intro cs_39 rb_40
 refine xB (zJ (e' := [(3, _), (4, _), (6, _), (7, _), (8, _)]) e5z (zB (zC ?_)))
 refine yF 11 _ [(8, (9, 30, [.bool false, .slice none 0 0, .slice none 0 0]))] [(0, .q), (1, .q), (2, .q), (3, .c), (4, .c), (5, .q), (6, .q), (7, .q), (8, .a), (9, .c), (10, .q)] xH (jK.cons rfl rfl (qB wT rfl rfl) jK.nil) (by kernel_rfl) (qG rfl rfl kQ) (fun r hr => hr) (yP (F := fun v_ => (rpQ (3 * k + l + 3 * m + 12)).Is h2 v_ (hgt s p)) rfl (zE xS (Pc.here _) rfl rfl rb_38 rfl) (yD mh1) rfl ?_)
 intro v18 r18
 refine yP (F := fun v_ => (rpQ (3 * k + l + 3 * m + 12)).Is h2 v_ (hgt s p)) rfl (zE xS (Pc.here _) rfl rfl rb_38 rfl) (yD mh1) rfl ?_
 intro v19 r19
 refine yP (F := fun v_ => (rpQ (3 * k + l + 3 * m + 12)).Is h2 v_ (hgt s q)) rfl (zE xS (Pc.here _) rfl rfl rb_40 rfl) (yD mh0) rfl ?_
 intro v20 r20
 refine w_c rfl ?_
 refine zY (vs := [_, _]) call56 e2z (fun w hs => jG hs r19 r20 (by omega)) rfl ?_
 intro v21 h3 hh3 r21
 change (rpQ ((3 * k + l + 3 * m + 12) + (3 * k + l + 3 * m + 12) + 1)).Is h3 v21 ((hgt s p) - (hgt s q)) at r21
 replace r21 := Rp.Is.le r21 (Le.q (l := 6 * k + 2 * l + 6 * m + 25) (by omega))
 refine w_c rfl ?_
 replace r18 := r18.mono hh3
 refine zY (vs := [_, _]) call88 e2z (fun w hs => o_rref_quo hs r18 r21 (by omega)) rfl ?_
 intro v22 h4 hh4 r22
 obtain ⟨v22_0, rfl, r22_0⟩ := r22
 change (rpQ ((3 * k + l + 3 * m + 12) + (6 * k + 2 * l + 6 * m + 25))).Is h4 v22_0 (if ((hgt s p) - (hgt s q)) = 0 then 0 else (hgt s p) / ((hgt s p) - (hgt s q))) at r22_0
 replace r22_0 := Rp.Is.le r22_0 (Le.q (l := 9 * k + 3 * l + 9 * m + 37) (by omega))
 refine yH rfl rfl rfl (yK rfl (fun _ _ => zL (vs := [_, _]) rfl rfl) rfl (yK rfl (fun _ _ => zL (vs := [_, _]) rfl rfl) rfl ?_))
 refine w_a rfl rfl (fun b9 => ?_)
 have rb9 : (rpQ (9 * k + 3 * l + 9 * m + 40)).R h4 [.bool false, .slice none 0 0, .slice none 0 0] (0 : Rat) := (wB (by omega))
 refine w_c rfl (s_updx (A := []) (F := fun c_ => (rpQ (9 * k + 3 * l + 9 * m + 40)).R h4 c_ (if ((hgt s p) - (hgt s q)) = 0 then 0 else (hgt s p) / ((hgt s p) - (hgt s q)))) (yJ sizeOf30 (Pc.here _) rfl rfl rfl rb9 (r22_0.le (Le.q (l := 9 * k + 3 * l + 9 * m + 40) (by omega))) rfl) (wV (by first | (simp; done) | grind)) ?_)
 intro cs_41 rb_42
 refine uG rfl rfl rfl (xB (zJ (e' := [(3, _), (4, _), (6, _), (9, _)]) e4z (zB (zC ?_))))
 refine yF 7 _ [] [(0, .q), (1, .q), (2, .q), (3, .q), (4, .c), (5, .c), (6, .c), (7, .t)] xH nX (by kernel_rfl) nX (fun r hr => hr) ?_
 replace rb3 := rb3.mono (((hh1.trans hh2).trans hh3).trans hh4)
 refine yP (F := fun v_ => (rpT (rpQ k)).Is h4 v_ p) rfl (zE xJ (Pc.here _) rfl rfl rb3 rfl) (yD mh6) rfl ?_
 intro v25 r25
 refine yP (F := fun v_ => (rpQ (9 * k + 3 * l + 9 * m + 40)).Is h4 v_ (if ((hgt s p) - (hgt s q)) = 0 then 0 else (hgt s p) / ((hgt s p) - (hgt s q)))) rfl (zE xS (Pc.here _) rfl rfl rb_42 rfl) (yD mh0) rfl ?_
 intro v26 r26
 replace rb4 := rb4.mono (((hh1.trans hh2).trans hh3).trans hh4)
 refine yP (F := fun v_ => (rpT (rpQ k)).Is h4 v_ q) rfl (zE xJ (Pc.here _) rfl rfl rb4 rfl) (yD mh5) rfl ?_
 intro v27 r27
 refine yP (F := fun v_ => (rpT (rpQ k)).Is h4 v_ p) rfl (zE xJ (Pc.here _) rfl rfl rb3 rfl) (yD mh6) rfl ?_
 intro v28 r28
 refine w_c rfl ?_
 refine zY (vs := [_, _]) call23 e2z (fun w hs => o_s4_sub hs r27 r28 (by omega)) rfl ?_
 intro v29 h5 hh5 r29
 change (rpT (rpQ (k + k + 1))).Is h5 v29 (T3.mk (q.x - p.x) (q.y - p.y) (q.z - p.z)) at r29
 replace r29 := Rp.Is.le r29 (Le.t (Le.q (l := 2 * k + 1) (by omega)))
 refine w_c rfl ?_
 replace r26 := r26.mono hh5
 refine zY (vs := [_, _]) call20 e2z (fun w hs => o_s4_scale hs r26 r29 (by omega)) rfl ?_
 intro v30 h6 hh6 r30
 change (rpT (rpQ ((2 * k + 1) + (9 * k + 3 * l + 9 * m + 40)))).Is h6 v30 (T3.mk ((if ((hgt s p) - (hgt s q)) = 0 then 0 else (hgt s p) / ((hgt s p) - (hgt s q))) * (q.x - p.x)) ((if ((hgt s p) - (hgt s q)) = 0 then 0 else (hgt s p) / ((hgt s p) - (hgt s q))) * (q.y - p.y)) ((if ((hgt s p) - (hgt s q)) = 0 then 0 else (hgt s p) / ((hgt s p) - (hgt s q))) * (q.z - p.z))) at r30
 replace r30 := Rp.Is.le r30 (Le.t (Le.q (l := 11 * k + 3 * l + 9 * m + 41) (by omega)))
 refine w_c rfl ?_
 replace r25 := r25.mono (hh5.trans hh6)
 refine zY (vs := [_, _]) call19 e2z (fun w hs => o_s4_add hs r25 r30 (by omega)) rfl ?_
 intro v31 h7 hh7 r31
 change (rpT (rpQ (k + (11 * k + 3 * l + 9 * m + 41) + 1))).Is h7 v31 (T3.mk (p.x + ((if ((hgt s p) - (hgt s q)) = 0 then 0 else (hgt s p) / ((hgt s p) - (hgt s q))) * (q.x - p.x))) (p.y + ((if ((hgt s p) - (hgt s q)) = 0 then 0 else (hgt s p) / ((hgt s p) - (hgt s q))) * (q.y - p.y))) (p.z + ((if ((hgt s p) - (hgt s q)) = 0 then 0 else (hgt s p) / ((hgt s p) - (hgt s q))) * (q.z - p.z)))) at r31
 replace r31 := Rp.Is.le r31 (Le.t (Le.q (l := 12 * k + 3 * l + 9 * m + 42) (by omega)))
 replace rb6 := rb6.mono ((((((hh1.trans hh2).trans hh3).trans hh4).trans hh5).trans hh6).trans hh7)
 refine xR (A := [_, _, _]) (F := fun c_ => (rpT (rpQ (12 * k + 3 * l + 9 * m + 50))).R h7 c_ (T3.mk (p.x + ((if ((hgt s p) - (hgt s q)) = 0 then 0 else (hgt s p) / ((hgt s p) - (hgt s q))) * (q.x - p.x))) (p.y + ((if ((hgt s p) - (hgt s q)) = 0 then 0 else (hgt s p) / ((hgt s p) - (hgt s q))) * (q.y - p.y))) (p.z + ((if ((hgt s p) - (hgt s q)) = 0 then 0 else (hgt s p) / ((hgt s p) - (hgt s q))) * (q.z - p.z))))) rfl (yJ sizeOf32 (Pc.here _) rfl rfl rfl rb6 (r31.le (Le.t (Le.q (l := 12 * k + 3 * l + 9 * m + 50) (by omega)))) rfl) ?_
 intro cs_43 rb_44
 refine xB (zJ (e' := [(6, _)]) ⟨rfl, trivial⟩ (zB (zQ (uZ (rv_o (t := 6) xJ mh3 rfl rb_44) ?_))))
 intro w_45 hvw_45 rr_46
 refine xQ (fun E S => yS rfl hvw_45 E S) ?_
 exact rr_46
end Go.Proofs.YtghhjjmjpeehdaaGreat
namespace Go.Proofs.YtghhjjmjpeehdaaGreat
open Bk Go Tryz
set_option linter.unusedVariables false
set_option linter.unusedSimpArgs false
set_option maxRecDepth 10000
set_option maxHeartbeats 1000000 in
theorem o_cx_halves {w0 : World} {h0 : Mem}  (hs : MLe h0 (mem w0)) {k n m : Nat} {vl : Value} {l : (List (T3 Rat))} (rl : (rpS (rpT (rpQ k))).Is h0 vl l) {vs : Value} {s : ((T3 Rat) × Rat)} (rs : (rpP (rpT (rpQ n)) (rpQ m)).Is h0 vs s) (hcd0 : k ≤ 50000000) (hcd1 : m ≤ 1000000) (hcd2 : n ≤ 1000000) (hcd3 : l.length ≤ 100000)  :
    Calls Tryz.prog 47 #[vl, vs] w0 (Ret w0 h0 (fun h r => ∃ u0 u1, r = .tuple #[u0, u1] ∧ (rpS (rpT (rpQ (12 * k + 3 * m + 9 * n + 62)))).Is h u0 (qA s l) ∧ (rpS (rpT (rpQ (12 * k + 3 * m + 9 * n + 62)))).Is h u1 (uW s l))) := by
 refine zM (n := 110) (e := [(0, vl), (1, vs)]) (vs := [vl, vs]) func47 rfl rfl (bL rfl) hs e2z (zC (zA (zI (yU (ρ := (rpP (rpT (rpQ n)) (rpQ m))) rfl rs) rfl rfl rfl ?_)))
 intro v3 q3 hq3
 obtain ⟨b3, cs3, rfl, rfl, rb3⟩ := hq3
 refine asg rfl rfl (asg rfl rfl (zD (zB (zC (zA (mv rfl rfl (gv (wI underlying27 rfl rl) rfl (zI (new_makex (ρ := rpI) (X := (0 : Int)) (by' := 8) l.length underlying22 info3 rfl rfl rfl rfl zr_i rfl rfl (by rfl) (by rfl) (by omega) (by omega)) rfl rfl rfl ?_))))))))
 intro v17 q17 hq17
 obtain ⟨cs17, rfl, rl17⟩ := hq17
 refine asg rfl rfl (zD (zB (zC (zA (asg (v := vI (0)) rfl rfl (asg (v := vI (0)) rfl rfl (zD (zB (zC (zC (zA (mv rfl rfl (gv (wI underlying27 rfl rl) rfl ?_)))))))))))))
 refine mv (v := vI (0)) rfl rfl (zD (zB (zP ?_)))
 refine wE (ι := Nat × List Int × Int × Int × Value × List Value × Mem) (fun (i, SD, lo, hi, s6_1, cs_2, ma) => MLe h0 ma ∧ (RL rpI ma cs_2 SD ∧ ((i ≤ l.length ∧ SD.length = l.length) ∧ ∀ u, u < i → SD.getD u (0 : Int) = sdZ s (gp l u)) ∧ ((lo < 0 ↔ qV s l i) ∧ lo ≤ 0) ∧ ((0 < hi ↔ qP s l i) ∧ 0 ≤ hi) ∧ -1 ≤ lo ∧ hi ≤ 1)) (fun (i, SD, lo, hi, s6_1, cs_2, ma) => [(0, vl), (3, vP b3 0), (4, .slice none 0 0), (5, .slice none 0 0), (6, s6_1), (7, vI lo), (8, vI hi), (18, vl), (19, vI (↑(l).length : Int)), (20, vI ↑i)]) (fun (i, SD, lo, hi, s6_1, cs_2, ma) => [.gs 3 1 s6_1 SD.length cs_2, .var b3 34 cs3]) (fun (i, SD, lo, hi, s6_1, cs_2, ma) => ma) (fun (i, SD, lo, hi, s6_1, cs_2, ma) => l.length - i) (0, (List.replicate l.length (0 : Int)), (0 : Int), (0 : Int), v17, cs17, h0) ?_ e10 rfl rfl ?_
 ·
  refine ⟨MLe.refl _, ?_⟩
  refine ⟨rl17, ?_⟩
  exact ⟨⟨⟨by omega, List.length_replicate⟩, fun u h => by omega⟩, ⟨⟨fun h => by omega, fun h => h.elim⟩, by omega⟩, ⟨⟨fun h => by omega, fun h => h.elim⟩, by omega⟩, by omega, by omega⟩
 intro x hx
 obtain ⟨i, SD, lo, hi, s6_1, cs_2, ma⟩ := x
 obtain ⟨hmma, hinv⟩ := hx
 show GC _ _ _ _ _ _ [(0, vl), (3, vP b3 0), (4, .slice none 0 0), (5, .slice none 0 0), (6, s6_1), (7, vI lo), (8, vI hi), (18, vl), (19, vI (↑(l).length : Int)), (20, vI ↑i)] [.gs 3 1 s6_1 SD.length cs_2, .var b3 34 cs3] ma
 obtain ⟨rl_3, hinv⟩ := hinv
 obtain ⟨⟨⟨hi1, hi2⟩, hi3⟩, hlo, hhi, hl1, hh1⟩ := hinv
 have hr0 := kS s (gp l i)
 refine zC (zA (gv (zW rfl rfl) rfl (zD (zB (zC ?_)))))
 refine zN rfl (fun hc21 => ?_) (fun hc21 => ?_)
 ·
  refine zK (zB (zC (zP (zC (zA (mv rfl rfl ?_))))))
  replace rl := rl.mono hmma
  refine xX (F := fun v_ => AtP (rpT (rpQ k)) ma v_ (l.getD i zT)) (vJ zT i underlying27 xJ rfl rfl rl rfl (by omega) p9N) vQ rfl ?_
  intro v23 r23
  refine xX (F := fun v_ => (rpT (rpQ k)).Is ma v_ (l.getD i zT)) (wG xJ rfl r23) vQ rfl ?_
  intro v24 r24
  refine zI (yR (ρ := (rpT (rpQ (k + 1)))) (X := zT) yL rfl rfl (wO (wB (by omega)))) rfl rfl rfl ?_
  intro v10 q10 hq10
  obtain ⟨b10, cs10, rfl, rfl, rb10⟩ := hq10
  refine asg rfl rfl (wW (A := []) (F := fun c_ => (rpT (rpQ (k + 1))).R ma c_ (l.getD i zT)) (yJ sizeOf32 (Pc.here _) rfl rfl rfl rb10 (r24.le (Le.t (Le.q (l := k + 1) (by omega)))) rfl) ?_)
  intro cs_4 rb_5
  refine zD (zB (zC (zA (mv rfl rfl (mv rfl rfl ?_)))))
  replace rb3 := rb3.mono hmma
  refine xX (F := fun v_ => (rpP (rpT (rpQ n)) (rpQ m)).Is ma v_ s) (zE kH (Pc.here _) rfl rfl rb3 rfl) (yD mh2) rfl ?_
  intro v27 r27
  refine xX (F := fun v_ => (rpT (rpQ (k + 1))).Is ma v_ (l.getD i zT)) (zE xJ (Pc.here _) rfl rfl rb_5 rfl) (yD mh0) rfl ?_
  intro v28 r28
  refine zO (vs := [_, _]) rfl rfl rfl rfl call64 e2z (fun w hs => o_pl_side hs r27 r28 (by omega) (by omega) (by omega)) ?_
  intro v29 h1 hh1 r29
  obtain rfl : v29 = vI (sdZ s (l.getD i zT)) := r29
  have hsd29 := kS s (l.getD i zT)
  refine gv ((qE i mh1 underlying22 sizeOf3 rfl rfl rfl (by first | omega | (simp only [lAz, lC, lN, lR, lS]; omega)) p1N).cv (show _ = xY 1 s6_1 ((i * 1 + 0)) from congrArg (xY 1 s6_1) (by rfl))) rfl ?_
  replace rl_3 := rl_3.mono hh1
  refine gl_updos (A := [_]) (F := fun c_ => RL rpI h1 c_ (SD.set i (sdZ s (l.getD i zT)))) (upd_os sizeOf3 (Pc.arr (Pc.here _) (0 : Int) i (by first | omega | (simp only [lAz, lC, lN, lR, lS]; omega))) rfl p1N rfl rfl rl_3 (is_i (by omega) (by omega)) rfl) ?_
  intro cs_6 rl_7
  refine zD (zJ (e' := [(0, _), (3, _), (4, _), (5, _), (6, _), (7, _), (8, _), (18, _), (19, _), (20, _), (9, _)]) e11 (zB ?_))
  refine yF 14 _ [] [(0, .q), (1, .q), (2, .q), (3, .q), (4, .q), (5, .q), (6, .q), (7, .q), (8, .q), (9, .q), (10, .q), (11, .q), (12, .q), (13, .q)] xH nX (chk_of [0, 0, 0, 6, 8, 17, 0, 0, 0, 384, 512, 1088, 63, 8191] [16383, 16383, 16383, 16377, 16375, 16366, 16383, 16383, 16383, 15999, 15871, 15295, 16350, 14271] (by kernel_rfl)) nX (fun r hr => hr) (yH rfl rfl rfl (yH rfl rfl rfl (yH rfl rfl rfl (w_q rfl (fun h' L' hh hR => (qE i (hR _ mh1) underlying22 sizeOf3 rfl rfl rfl (by first | omega | (simp only [lAz, lC, lN, lR, lS]; omega)) p1N).cv (show _ = xY 1 s6_1 ((i * 1 + 0)) from congrArg (xY 1 s6_1) (by rfl))) rfl (yP (F := fun v_ => rpI.Is h1 v_ ((SD.set i (sdZ s (l.getD i zT))).getD i (0 : Int))) rfl (kJ ty3 (Pc.arr (Pc.here _) (0 : Int) i (by first | omega | (simp only [lAz, lC, lN, lR, lS]; omega))) rfl p1N rfl rl_7 rfl) (yD mh1) rfl ?_)))))
  intro v35 r35
  obtain ⟨rfl, hl35, hu35⟩ := of_i r35
  refine yK rfl (fun _ _ => ov_min_i rfl rfl) rfl (yH rfl rfl rfl (yH rfl rfl rfl (yH rfl rfl rfl (w_q rfl (fun h' L' hh hR => (qE i (hR _ mh1) underlying22 sizeOf3 rfl rfl rfl (by first | omega | (simp only [lAz, lC, lN, lR, lS]; omega)) p1N).cv (show _ = xY 1 s6_1 ((i * 1 + 0)) from congrArg (xY 1 s6_1) (by rfl))) rfl (yP (F := fun v_ => rpI.Is h1 v_ ((SD.set i (sdZ s (l.getD i zT))).getD i (0 : Int))) rfl (kJ ty3 (Pc.arr (Pc.here _) (0 : Int) i (by first | omega | (simp only [lAz, lC, lN, lR, lS]; omega))) rfl p1N rfl rl_7 rfl) (yD mh1) rfl ?_)))))
  intro v41 r41
  obtain ⟨rfl, hl41, hu41⟩ := of_i r41
  refine yK rfl (fun _ _ => ov_max_i rfl rfl) rfl (uG rfl rfl rfl (uG rfl rfl rfl (xB (xC (zJ (e' := [(0, _), (3, _), (4, _), (5, _), (6, _), (18, _), (19, _), (20, _), (7, _), (8, _)]) e10 (zB (zA (gv (zS (q := 1) rfl rfl (by omega) (by omega)) rfl (mv rfl rfl (zD (wQ (A := []) ?_)))))))))))
  refine yV ((i + 1), (SD.set i (sdZ s (l.getD i zT))), (min lo (sdZ s (gp l i))), (max hi (sdZ s (gp l i))), s6_1, cs_6, h1) ?_ ?_ ⟨rfl, rfl, rfl, rfl, rfl, ?_, ?_, rfl, rfl, rfl, trivial⟩ rfl rfl
  ·
   refine ⟨(hmma.trans hh1), ?_⟩
   refine ⟨rl_7, ?_⟩
   exact ⟨⟨⟨by omega, by rw [lS]; exact hi2⟩, set_next (f := fun u => sdZ s (gp l u)) (by omega) hi3 rfl⟩, mn_next hlo.1 hlo.2, mx_next hhi.1 hhi.2, by omega, by omega⟩
  ·
   dsimp only
   omega
  · exact congrArg (fun z => some (vI z)) (by rw [set_at (by omega)]; rfl)
  · exact congrArg (fun z => some (vI z)) (by rw [set_at (by omega)]; rfl)
 have ei : i = l.length := by omega
 have hS : ∀ u, u < l.length → SD.getD u (0 : Int) = sdZ s (gp l u) := fun u hu => hi3 u (by omega)
 rw [ei] at hlo hhi
 refine xG (yB (yB (xF (zB (zC (zP (zC (zA (mv rfl rfl (gv (xU (q := 0) rfl rfl) rfl (asg rfl rfl (zD (zB ?_)))))))))))))
 refine zN rfl (fun hc44 => ?_) (fun hc44 => ?_)
 ·
  refine wJ (e' := [(0, _)]) ⟨rfl, trivial⟩ (zC (zA (mv rfl rfl (asg rfl rfl (asg rfl rfl (zD (zB (zQ (vC (zV (vK rfl rfl rfl ?_)))))))))))
  replace rl := rl.mono hmma
  refine ⟨_, _, ?_, (Rp.Is.cast (Rp.Is.le rl (Le.s (Le.t (Le.q (l := 12 * k + 3 * m + 9 * n + 62) (by omega))))) (by exact (kV (by rw [← hhi.1]; omega)).1.symm)), (Rp.Is.cast (is_nil _) (by exact (kV (by rw [← hhi.1]; omega)).2.symm))⟩
  rfl
 refine zC (zA (mv rfl rfl (gv (xU (q := 0) rfl rfl) rfl (asg rfl rfl (zD (zJ (e' := [(0, _), (3, _), (4, _), (5, _), (6, _), (48, _)]) e6 (zB ?_)))))))
 refine zN rfl (fun hc48 => ?_) (fun hc48 => ?_)
 ·
  refine zC (zA (mv rfl rfl (asg rfl rfl (asg rfl rfl (zD (zB (zQ (vC (zV (vK rfl rfl rfl ?_))))))))))
  replace rl := rl.mono hmma
  refine ⟨_, _, ?_, (Rp.Is.cast (is_nil _) (by exact (cutF_all (by rw [← hhi.1]; omega) (by rw [← hlo.1]; omega)).1.symm)), (Rp.Is.cast (Rp.Is.le rl (Le.s (Le.t (Le.q (l := 12 * k + 3 * m + 9 * n + 62) (by omega))))) (by exact (cutF_all (by rw [← hhi.1]; omega) (by rw [← hlo.1]; omega)).2.symm))⟩
  rfl
 refine zK (xC (zB (zC (zC (zA (mv rfl rfl ?_))))))
 replace rl := rl.mono hmma
 refine gv (wI underlying27 rfl rl) rfl (mv (v := vI (0)) rfl rfl (zD (zB (zP (gc_nilown 32 9 ?_)))))
 have rl_8 : RL (rpT (rpQ (12 * k + 3 * m + 9 * n + 62))) ma [] ([] : List (T3 Rat)) := RL.nil
 refine gc_nilown 32 9 ?_
 have rl_9 : RL (rpT (rpQ (12 * k + 3 * m + 9 * n + 62))) ma [] ([] : List (T3 Rat)) := RL.nil
 refine wE (ι := Nat × List (T3 Rat) × List (T3 Rat) × Value × List Value × Value × List Value × Mem) (fun (i, B, F, s4_10, cs_11, s5_13, cs_14, mb) => MLe ma mb ∧ (RL (rpT (rpQ (12 * k + 3 * m + 9 * n + 62))) mb cs_11 B ∧ RL (rpT (rpQ (12 * k + 3 * m + 9 * n + 62))) mb cs_14 F ∧ (i ≤ l.length ∧ B = bkTo s l i) ∧ F = frTo s l i)) (fun (i, B, F, s4_10, cs_11, s5_13, cs_14, mb) => [(0, vl), (3, vP b3 0), (4, s4_10), (5, s5_13), (6, s6_1), (52, vl), (53, vI (↑(l).length : Int)), (54, vI ↑i)]) (fun (i, B, F, s4_10, cs_11, s5_13, cs_14, mb) => [.gs 32 9 s5_13 F.length cs_14, .gs 32 9 s4_10 B.length cs_11, .gs 3 1 s6_1 SD.length cs_2, .var b3 34 cs3]) (fun (i, B, F, s4_10, cs_11, s5_13, cs_14, mb) => mb) (fun (i, B, F, s4_10, cs_11, s5_13, cs_14, mb) => l.length - i) (0, [], [], (.slice none 0 0), [], (.slice none 0 0), [], ma) ?_ e8 rfl rfl ?_
 ·
  refine ⟨MLe.refl _, ?_⟩
  refine ⟨rl_8, rl_9, ?_⟩
  exact ⟨⟨by omega, rfl⟩, rfl⟩
 intro x hx
 obtain ⟨i, B, F, s4_10, cs_11, s5_13, cs_14, mb⟩ := x
 obtain ⟨hmmb, hinv⟩ := hx
 show GC _ _ _ _ _ _ [(0, vl), (3, vP b3 0), (4, s4_10), (5, s5_13), (6, s6_1), (52, vl), (53, vI (↑(l).length : Int)), (54, vI ↑i)] [.gs 32 9 s5_13 F.length cs_14, .gs 32 9 s4_10 B.length cs_11, .gs 3 1 s6_1 SD.length cs_2, .var b3 34 cs3] mb
 obtain ⟨rl_12, rl_15, hinv⟩ := hinv
 obtain ⟨⟨hi1, hB⟩, hF⟩ := hinv
 have hbl := bk_len s l i
 have hfl := fr_len s l i
 have hBl : B.length ≤ 2 * i := by rw [hB]; exact hbl
 have hFl : F.length ≤ 2 * i := by rw [hF]; exact hfl
 refine zC (zA (gv (zW rfl rfl) rfl (zD (zB (zC ?_)))))
 refine zN rfl (fun hc55 => ?_) (fun hc55 => ?_)
 ·
  have hd1 := hS i (by omega)
  have hd2 := hS ((i + 1) % l.length) (Nat.mod_lt _ (by omega))
  have hr1 := kS s (gp l i)
  have hr2 := kS s (gp l ((i + 1) % l.length))
  refine zK (zB (zC (zP (zC (zA (mv rfl rfl ?_))))))
  replace rl := rl.mono hmmb
  refine xX (F := fun v_ => AtP (rpT (rpQ k)) mb v_ (l.getD i zT)) (vJ zT i underlying27 xJ rfl rfl rl rfl (by omega) p9N) vQ rfl ?_
  intro v57 r57
  refine xX (F := fun v_ => (rpT (rpQ k)).Is mb v_ (l.getD i zT)) (wG xJ rfl r57) vQ rfl ?_
  intro v58 r58
  refine zI (yR (ρ := (rpT (rpQ (k + 1)))) (X := zT) yL rfl rfl (wO (wB (by omega)))) rfl rfl rfl ?_
  intro v12 q12 hq12
  obtain ⟨b12, cs12, rfl, rfl, rb12⟩ := hq12
  refine asg rfl rfl (wW (A := []) (F := fun c_ => (rpT (rpQ (k + 1))).R mb c_ (l.getD i zT)) (yJ sizeOf32 (Pc.here _) rfl rfl rfl rb12 (r58.le (Le.t (Le.q (l := k + 1) (by omega)))) rfl) ?_)
  intro cs_16 rb_17
  refine zD (zB (zC (zA (mv rfl rfl (gv (zS (q := 1) rfl rfl (by omega) (by omega)) rfl (mv rfl rfl (gv (wI underlying27 rfl rl) rfl (gv (uU rfl rfl (by omega) (by omega)) rfl (asg rfl rfl (zD (zB (zC (zC ?_)))))))))))))
  refine zA (mv rfl rfl (mv rfl rfl (gv ((qE i mh3 underlying22 sizeOf3 rfl rfl rfl (by first | omega | (simp only [lAz, lC, lN, lR, lS]; omega)) p1N).cv (show _ = xY 1 s6_1 ((i * 1 + 0)) from congrArg (xY 1 s6_1) (by rfl))) rfl ?_)))
  replace rl_3 := rl_3.mono hmmb
  refine xX (F := fun v_ => rpI.Is mb v_ (SD.getD i (0 : Int))) (kJ ty3 (Pc.arr (Pc.here _) (0 : Int) i (by first | omega | (simp only [lAz, lC, lN, lR, lS]; omega))) rfl p1N rfl rl_3 rfl) (yD mh3) rfl ?_
  intro v67 r67
  obtain ⟨rfl, hl67, hu67⟩ := of_i r67
  refine gv (ov_leq_i (q := 0) rfl rfl) rfl (zD (zJ (e' := [(0, _), (3, _), (4, _), (5, _), (6, _), (52, _), (53, _), (54, _), (12, _), (11, _), (13, _), (68, _)]) e12 (zB ?_)))
  refine zN rfl (fun hc68 => ?_) (fun hc68 => ?_)
  ·
   have hp1 : sdZ s (gp l i) ≤ 0 := by rw [← hS i (by omega)]; exact hc68
   refine zA (mv rfl rfl (xX (F := fun v_ => (rpT (rpQ (k + 1))).Is mb v_ (l.getD i zT)) (zE xJ (Pc.here _) rfl rfl rb_17 rfl) (yD mh0) rfl ?_))
   intro v70 r70
   refine zI (wA (ρ := (rpT (rpQ (k + 1)))) (m := 1) (xs := [(l.getD i zT)]) (ps' := [(0, _)]) underlying27 yL rfl rfl rfl (wO (wB (by omega))) e2z (yZ rfl (Pc.arr (Pc.here _) zT 0 (by decide)) r70 wH) (show 1 * 9 ≤ 16777216 from by decide) p9N) rfl rfl rfl ?_
   intro v71 q71 hq71
   obtain ⟨cs71, rfl, rl71⟩ := hq71
   refine qN (A := []) (ρ := (rpT (rpQ (k + 1)))) rl71 ?_
   intro h1 hh1 rs_18
   replace rl_12 := rl_12.mono hh1
   refine qH (A := [_, _]) (xK (ρ := (rpT (rpQ (12 * k + 3 * m + 9 * n + 62)))) (bytes := 168) underlying27 yL rfl rfl rfl rfl p9N rfl rfl rl_12 (rs_18.le (Le.s (Le.t (Le.q (l := 12 * k + 3 * m + 9 * n + 62) (by omega))))) (by first | omega | (simp only [lAz, lC, lN, lR, lS]; omega)) (by first | omega | (simp only [lAz, lC, lN, lR, lS]; omega))) rfl rfl rfl ?_
   intro v72 q72 hq72
   obtain ⟨cs72, rfl, rl72⟩ := hq72
   refine asg rfl rfl (zD (zB ?_))
   refine jX (ι := List (T3 Rat) × List (T3 Rat) × Value × List Value × Value × List Value × Mem) (fun (B1, F1, s4_19, cs_20, s5_22, cs_23, mc) => MLe h1 mc ∧ (RL (rpT (rpQ (12 * k + 3 * m + 9 * n + 62))) mc cs_20 B1 ∧ RL (rpT (rpQ (12 * k + 3 * m + 9 * n + 62))) mc cs_23 F1 ∧ B1 = bkH s l i ∧ F1 = frH s l i)) (fun (B1, F1, s4_19, cs_20, s5_22, cs_23, mc) => [(0, vl), (3, vP b3 0), (4, s4_19), (5, s5_22), (6, s6_1), (11, vI ↑i), (12, vP b12 0), (13, vI (((↑i : Int) + (1 : Int)) % (↑(l).length : Int))), (52, vl), (53, vI (↑(l).length : Int)), (54, vI ↑i)]) (fun (B1, F1, s4_19, cs_20, s5_22, cs_23, mc) => [.var b12 32 cs_16, .gs 32 9 s5_22 F1.length cs_23, .gs 32 9 s4_19 B1.length cs_20, .gs 3 1 s6_1 SD.length cs_2, .var b3 34 cs3]) (fun (B1, F1, s4_19, cs_20, s5_22, cs_23, mc) => mc) ?_ ?_
   ·
    refine zC (zA (mv rfl rfl (mv rfl rfl (gv ((qE i mh3 underlying22 sizeOf3 rfl rfl rfl (by first | omega | (simp only [lAz, lC, lN, lR, lS]; omega)) p1N).cv (show _ = xY 1 s6_1 ((i * 1 + 0)) from congrArg (xY 1 s6_1) (by rfl))) rfl ?_))))
    replace rl_3 := rl_3.mono hh1
    refine xX (F := fun v_ => rpI.Is h1 v_ (SD.getD i (0 : Int))) (kJ ty3 (Pc.arr (Pc.here _) (0 : Int) i (by first | omega | (simp only [lAz, lC, lN, lR, lS]; omega))) rfl p1N rfl rl_3 rfl) (yD mh3) rfl ?_
    intro v76 r76
    obtain ⟨rfl, hl76, hu76⟩ := of_i r76
    refine gv (qT (q := 0) rfl rfl) rfl (zD (zB ?_))
    refine zN rfl (fun hc77 => ?_) (fun hc77 => ?_)
    ·
     have hp2 : 0 ≤ sdZ s (gp l i) := by rw [← hS i (by omega)]; exact hc77
     refine zA (mv rfl rfl ?_)
     replace rb_17 := rb_17.mono hh1
     refine xX (F := fun v_ => (rpT (rpQ (k + 1))).Is h1 v_ (l.getD i zT)) (zE xJ (Pc.here _) rfl rfl rb_17 rfl) (yD mh0) rfl ?_
     intro v79 r79
     refine zI (wA (ρ := (rpT (rpQ (k + 1)))) (m := 1) (xs := [(l.getD i zT)]) (ps' := [(0, _)]) underlying27 yL rfl rfl rfl (wO (wB (by omega))) e2z (yZ rfl (Pc.arr (Pc.here _) zT 0 (by decide)) r79 wH) (show 1 * 9 ≤ 16777216 from by decide) p9N) rfl rfl rfl ?_
     intro v80 q80 hq80
     obtain ⟨cs80, rfl, rl80⟩ := hq80
     refine qN (A := []) (ρ := (rpT (rpQ (k + 1)))) rl80 ?_
     intro h2 hh2 rs_25
     replace rl_15 := rl_15.mono (hh1.trans hh2)
     refine qH (A := [_]) (xK (ρ := (rpT (rpQ (12 * k + 3 * m + 9 * n + 62)))) (bytes := 168) underlying27 yL rfl rfl rfl rfl p9N rfl rfl rl_15 (rs_25.le (Le.s (Le.t (Le.q (l := 12 * k + 3 * m + 9 * n + 62) (by omega))))) (by first | omega | (simp only [lAz, lC, lN, lR, lS]; omega)) (by first | omega | (simp only [lAz, lC, lN, lR, lS]; omega))) rfl rfl rfl ?_
     intro v81 q81 hq81
     obtain ⟨cs81, rfl, rl81⟩ := hq81
     refine asg rfl rfl (zD ?_)
     refine yM ((B ++ [(l.getD i zT)]), (F ++ [(l.getD i zT)]), v72, cs72, v81, cs81, h2) ?_ e11 rfl rfl
     refine ⟨hh2, ?_⟩
     replace rl72 := rl72.mono hh2
     refine ⟨rl72, rl81, ?_⟩
     exact ⟨by first | exact bk_h1 hB hp1 | exact bk_h0 hB hp1, by first | exact fr_h1 hF hp2 | exact fr_h0 hF hp2⟩
    have hp2 : ¬ 0 ≤ sdZ s (gp l i) := by rw [← hS i (by omega)]; exact hc77
    refine zK ?_
    refine yM ((B ++ [(l.getD i zT)]), F, v72, cs72, s5_13, cs_14, h1) ?_ e11 rfl rfl
    refine ⟨MLe.refl _, ?_⟩
    replace rl_15 := rl_15.mono hh1
    refine ⟨rl72, rl_15, ?_⟩
    exact ⟨by first | exact bk_h1 hB hp1 | exact bk_h0 hB hp1, by first | exact fr_h1 hF hp2 | exact fr_h0 hF hp2⟩
   intro x hx
   obtain ⟨B1, F1, s4_19, cs_20, s5_22, cs_23, mc⟩ := x
   obtain ⟨hmmc, hcut⟩ := hx
   show GC _ _ _ _ _ _ [(0, vl), (3, vP b3 0), (4, s4_19), (5, s5_22), (6, s6_1), (11, vI ↑i), (12, vP b12 0), (13, vI (((↑i : Int) + (1 : Int)) % (↑(l).length : Int))), (52, vl), (53, vI (↑(l).length : Int)), (54, vI ↑i)] [.var b12 32 cs_16, .gs 32 9 s5_22 F1.length cs_23, .gs 32 9 s4_19 B1.length cs_20, .gs 3 1 s6_1 SD.length cs_2, .var b3 34 cs3] mc
   obtain ⟨rl_21, rl_24, hcut⟩ := hcut
   obtain ⟨hB1, hF1⟩ := hcut
   have hBl1 : B1.length ≤ 2 * i + 1 := by rw [hB1]; exact bkh_len s l i
   have hFl1 : F1.length ≤ 2 * i + 1 := by rw [hF1]; exact frh_len s l i
   refine zC ?_
   refine yF 10 _ [] [(0, .q), (1, .q), (2, .q), (3, .q), (4, .q), (5, .q), (6, .q), (7, .q), (8, .q), (9, .q)] xH nX (by kernel_rfl) nX (fun r hr => hr) (yH rfl rfl rfl (yH rfl rfl rfl (w_q rfl (fun h' L' hh hR => (qE i (hR _ mh3) underlying22 sizeOf3 rfl rfl rfl (by first | omega | (simp only [lAz, lC, lN, lR, lS]; omega)) p1N).cv (show _ = xY 1 s6_1 ((i * 1 + 0)) from congrArg (xY 1 s6_1) (by rfl))) rfl ?_)))
   replace rl_3 := rl_3.mono (hh1.trans hmmc)
   refine yP (F := fun v_ => rpI.Is mc v_ (SD.getD i (0 : Int))) rfl (kJ ty3 (Pc.arr (Pc.here _) (0 : Int) i (by first | omega | (simp only [lAz, lC, lN, lR, lS]; omega))) rfl p1N rfl rl_3 rfl) (yD mh3) rfl ?_
   intro v85 r85
   obtain ⟨rfl, hl85, hu85⟩ := of_i r85
   refine yH rfl rfl rfl (yH rfl rfl rfl (w_q rfl (fun h' L' hh hR => (qE ((i + 1) % l.length) (hR _ mh3) underlying22 sizeOf3 rfl rfl (by first | rfl | (push_cast; rfl)) (by rw [hi2]; exact Nat.mod_lt _ (by omega)) p1N).cv (show _ = xY 1 s6_1 ((((i + 1) % l.length) * 1 + 0)) from congrArg (xY 1 s6_1) (by rfl))) rfl (yP (F := fun v_ => rpI.Is mc v_ (SD.getD ((i + 1) % l.length) (0 : Int))) rfl (kJ ty3 (Pc.arr (Pc.here _) (0 : Int) ((i + 1) % l.length) (by rw [hi2]; exact Nat.mod_lt _ (by omega))) rfl p1N rfl rl_3 rfl) (yD mh3) rfl ?_)))
   intro v89 r89
   obtain ⟨rfl, hl89, hu89⟩ := of_i r89
   refine yK rfl (fun _ _ => ov_mul_i rfl rfl (by rw [hd1, hd2]; have := mul_range hr1 hr2; omega) (by rw [hd1, hd2]; have := mul_range hr1 hr2; omega)) rfl (yK rfl (fun _ _ => zW (q := 0) rfl rfl) rfl (xB (zJ (e' := [(0, _), (3, _), (4, _), (5, _), (6, _), (12, _), (13, _), (52, _), (53, _), (54, _), (91, _)]) e11 (zB ?_))))
   refine zN rfl (fun hc91 => ?_) (fun hc91 => ?_)
   ·
    have hx1 : xP s l i := by have h := hc91; rw [hS i (by omega), hS ((i + 1) % l.length) (Nat.mod_lt _ (by omega))] at h; exact h
    refine zC ?_
    refine yF 8 _ [(7, (14, 32, [.bool false, .slice none 0 0, .slice none 0 0, .bool false, .slice none 0 0, .slice none 0 0, .bool false, .slice none 0 0, .slice none 0 0]))] [(0, .q), (1, .q), (2, .q), (3, .q), (4, .q), (5, .q), (6, .c), (7, .a), (8, .t)] xH (jK.cons rfl rfl (qB yL rfl rfl) jK.nil) (by kernel_rfl) (qG rfl rfl kQ) (fun r hr => hr) ?_
    replace rb3 := rb3.mono (((hmma.trans hmmb).trans hh1).trans hmmc)
    refine yP (F := fun v_ => (rpP (rpT (rpQ n)) (rpQ m)).Is mc v_ s) rfl (zE kH (Pc.here _) rfl rfl rb3 rfl) (yD mh4) rfl ?_
    intro v92 r92
    replace rb_17 := rb_17.mono (hh1.trans hmmc)
    refine yP (F := fun v_ => (rpT (rpQ (k + 1))).Is mc v_ (l.getD i zT)) rfl (zE xJ (Pc.here _) rfl rfl rb_17 rfl) (yD mh0) rfl ?_
    intro v93 r93
    refine yH rfl rfl rfl (yH rfl rfl rfl ?_)
    replace rl := rl.mono (hh1.trans hmmc)
    refine yP (F := fun v_ => AtP (rpT (rpQ k)) mc v_ (l.getD ((i + 1) % l.length) zT)) rfl (vJ zT ((i + 1) % l.length) underlying27 xJ rfl rfl rl (by first | rfl | (push_cast; rfl)) (by exact Nat.mod_lt _ (by omega)) p9N) vQ rfl ?_
    intro v96 r96
    refine yP (F := fun v_ => (rpT (rpQ k)).Is mc v_ (l.getD ((i + 1) % l.length) zT)) rfl (wG xJ rfl r96) vQ rfl ?_
    intro v97 r97
    refine w_c rfl ?_
    refine zY (vs := [_, _, _]) call84 e3z (fun w hs => o_cx_common hs r92 r93 (r97.le (Le.t (Le.q (l := k + 1) (by omega)))) (by omega) (by omega) (by omega)) rfl ?_
    intro v98 h2 hh2 r98
    change (rpT (rpQ (12 * (k + 1) + 3 * m + 9 * n + 50))).Is h2 v98 (btw s (l.getD i zT) (l.getD ((i + 1) % l.length) zT)) at r98
    replace r98 := Rp.Is.le r98 (Le.t (Le.q (l := 12 * k + 3 * m + 9 * n + 62) (by omega)))
    refine w_a rfl rfl (fun b14 => ?_)
    have rb14 : (rpT (rpQ 1)).R h2 [.bool false, .slice none 0 0, .slice none 0 0, .bool false, .slice none 0 0, .slice none 0 0, .bool false, .slice none 0 0, .slice none 0 0] zT := (wO (wB (by decide)))
    have rw_26 := (Le.t (Le.q (l := 12 * k + 3 * m + 9 * n + 62) (by omega))).R rb14
    refine xR (A := []) (F := fun c_ => (rpT (rpQ (12 * k + 3 * m + 9 * n + 62))).R h2 c_ (btw s (l.getD i zT) (l.getD ((i + 1) % l.length) zT))) rfl (yJ sizeOf32 (Pc.here _) rfl rfl rfl rw_26 r98 rfl) ?_
    intro cs_27 rb_28
    refine xB (zJ (e' := [(0, _), (3, _), (4, _), (5, _), (6, _), (52, _), (53, _), (54, _), (14, _)]) e9 (zB ?_))
    refine yF 10 [.var b14 32 cs_27, .var b12 32 cs_16, .gs 3 1 s6_1 SD.length cs_2, .var b3 34 cs3] [] [(0, .q), (1, .q), (4, .q), (5, .q), (2, .d 3 6), (7, .c), (8, .q), (9, .q)] xH nX (by kernel_rfl) nX (by intro r hr; simp only [List.mem_cons, List.mem_append, List.not_mem_nil, or_false] at hr ⊢ <;> grind) (yH rfl rfl rfl (yP (F := fun v_ => (rpT (rpQ (12 * k + 3 * m + 9 * n + 62))).Is h2 v_ (btw s (l.getD i zT) (l.getD ((i + 1) % l.length) zT))) rfl (zE xJ (Pc.here _) rfl rfl rb_28 rfl) (yD mh0) rfl ?_))
    intro v100 r100
    refine yH rfl rfl rfl (yP (F := fun v_ => (rpT (rpQ (12 * k + 3 * m + 9 * n + 62))).Is h2 v_ (btw s (l.getD i zT) (l.getD ((i + 1) % l.length) zT))) rfl (zE xJ (Pc.here _) rfl rfl rb_28 rfl) (yD mh0) rfl ?_)
    intro v104 r104
    refine w_d rfl rfl rfl ?_ ?_
    ·
     refine s_new (fun X => wA (ρ := (rpT (rpQ (12 * k + 3 * m + 9 * n + 62)))) (m := 1) (xs := [btw s (l.getD i zT) (l.getD ((i + 1) % l.length) zT)]) (ps' := [(0, _)]) underlying27 yL rfl rfl rfl (wO (wB (by omega))) e2z (yZ rfl (Pc.arr (Pc.here _) zT 0 (by decide)) r100 wH) (show 1 * 9 ≤ 16777216 from by decide) p9N) rfl ?_
     intro v101 q101 hq101
     obtain ⟨cs101, rfl, rl101⟩ := hq101
     refine ⟨?_, ?_⟩
     ·
      refine vT (A := []) (ρ := (rpT (rpQ (12 * k + 3 * m + 9 * n + 62)))) rl101 (vW (by first | (simp; done) | grind)) ?_
      intro h3 hh3 rs_29
      replace rl_21 := rl_21.mono (hh2.trans hh3)
      refine s_rep (A := [_, _, _]) (fun X => xK (ρ := (rpT (rpQ (12 * k + 3 * m + 9 * n + 62)))) (bytes := 168) underlying27 yL rfl rfl rfl rfl p9N rfl rfl rl_21 rs_29 (by first | omega | (simp only [lAz, lC, lN, lR, lS]; omega)) (by first | omega | (simp only [lAz, lC, lN, lR, lS]; omega))) rfl (wV (by first | (simp; done) | grind)) ?_
      intro v102 q102 hq102
      obtain ⟨cs102, rfl, rl102⟩ := hq102
      replace r104 := r104.mono hh3
      refine s_new (fun X => wA (ρ := (rpT (rpQ (12 * k + 3 * m + 9 * n + 62)))) (m := 1) (xs := [btw s (l.getD i zT) (l.getD ((i + 1) % l.length) zT)]) (ps' := [(0, _)]) underlying27 yL rfl rfl rfl (wO (wB (by omega))) e2z (yZ rfl (Pc.arr (Pc.here _) zT 0 (by decide)) r104 wH) (show 1 * 9 ≤ 16777216 from by decide) p9N) rfl ?_
      intro v105 q105 hq105
      obtain ⟨cs105, rfl, rl105⟩ := hq105
      refine w_c rfl (vT (A := []) (ρ := (rpT (rpQ (12 * k + 3 * m + 9 * n + 62)))) rl105 (vW (by first | (simp; done) | grind)) ?_)
      intro h4 hh4 rs_30
      replace rl_24 := rl_24.mono ((hh2.trans hh3).trans hh4)
      refine s_rep (A := [_, _]) (fun X => xK (ρ := (rpT (rpQ (12 * k + 3 * m + 9 * n + 62)))) (bytes := 168) underlying27 yL rfl rfl rfl rfl p9N rfl rfl rl_24 rs_30 (by first | omega | (simp only [lAz, lC, lN, lR, lS]; omega)) (by first | omega | (simp only [lAz, lC, lN, lR, lS]; omega))) rfl (wV (by first | (simp; done) | grind)) ?_
      intro v106 q106 hq106
      obtain ⟨cs106, rfl, rl106⟩ := hq106
      refine uG rfl rfl rfl (uG rfl rfl rfl (xB (xC (zB (zA (gv (zS (q := 1) rfl rfl (by omega) (by omega)) rfl (mv rfl rfl (zD (wQ (A := []) (wQ (A := []) ?_))))))))))
      refine yV ((i + 1), (B1 ++ [btw s (l.getD i zT) (l.getD ((i + 1) % l.length) zT)]), (F1 ++ [btw s (l.getD i zT) (l.getD ((i + 1) % l.length) zT)]), v102, cs102, v106, cs106, h4) ?_ ?_ e8 rfl rfl
      ·
       refine ⟨(((((hmmb.trans hh1).trans hmmc).trans hh2).trans hh3).trans hh4), ?_⟩
       replace rl102 := rl102.mono hh4
       refine ⟨rl102, rl106, ?_⟩
       exact ⟨⟨by omega, (by first | exact bk_y hB1 hx1 | exact bk_z hB1 hx1)⟩, (by first | exact fr_y hF1 hx1 | exact fr_z hF1 hx1)⟩
      dsimp only
      omega
     refine s_new (fun X => wA (ρ := (rpT (rpQ (12 * k + 3 * m + 9 * n + 62)))) (m := 1) (xs := [btw s (l.getD i zT) (l.getD ((i + 1) % l.length) zT)]) (ps' := [(0, _)]) underlying27 yL rfl rfl rfl (wO (wB (by omega))) e2z (yZ rfl (Pc.arr (Pc.here _) zT 0 (by decide)) r104 wH) (show 1 * 9 ≤ 16777216 from by decide) p9N) rfl ?_
     intro v105 q105 hq105
     obtain ⟨cs105, rfl, rl105⟩ := hq105
     refine vT (A := [_]) (ρ := (rpT (rpQ (12 * k + 3 * m + 9 * n + 62)))) rl101 (vW (by first | (simp; done) | grind)) ?_
     intro h3 hh3 rs_31
     replace rl_21 := rl_21.mono (hh2.trans hh3)
     refine s_rep (A := [_, _, _, _]) (fun X => xK (ρ := (rpT (rpQ (12 * k + 3 * m + 9 * n + 62)))) (bytes := 168) underlying27 yL rfl rfl rfl rfl p9N rfl rfl rl_21 rs_31 (by first | omega | (simp only [lAz, lC, lN, lR, lS]; omega)) (by first | omega | (simp only [lAz, lC, lN, lR, lS]; omega))) rfl (wV (by first | (simp; done) | grind)) ?_
     intro v102 q102 hq102
     obtain ⟨cs102, rfl, rl102⟩ := hq102
     refine w_c rfl ?_
     replace rl105 := rl105.mono hh3
     refine vT (A := []) (ρ := (rpT (rpQ (12 * k + 3 * m + 9 * n + 62)))) rl105 (vW (by first | (simp; done) | grind)) ?_
     intro h4 hh4 rs_32
     replace rl_24 := rl_24.mono ((hh2.trans hh3).trans hh4)
     refine s_rep (A := [_, _]) (fun X => xK (ρ := (rpT (rpQ (12 * k + 3 * m + 9 * n + 62)))) (bytes := 168) underlying27 yL rfl rfl rfl rfl p9N rfl rfl rl_24 rs_32 (by first | omega | (simp only [lAz, lC, lN, lR, lS]; omega)) (by first | omega | (simp only [lAz, lC, lN, lR, lS]; omega))) rfl (wV (by first | (simp; done) | grind)) ?_
     intro v106 q106 hq106
     obtain ⟨cs106, rfl, rl106⟩ := hq106
     refine uG rfl rfl rfl (uG rfl rfl rfl (xB (xC (zB (zA (gv (zS (q := 1) rfl rfl (by omega) (by omega)) rfl (mv rfl rfl (zD (wQ (A := []) (wQ (A := []) ?_))))))))))
     refine yV ((i + 1), (B1 ++ [btw s (l.getD i zT) (l.getD ((i + 1) % l.length) zT)]), (F1 ++ [btw s (l.getD i zT) (l.getD ((i + 1) % l.length) zT)]), v102, cs102, v106, cs106, h4) ?_ ?_ e8 rfl rfl
     ·
      refine ⟨(((((hmmb.trans hh1).trans hmmc).trans hh2).trans hh3).trans hh4), ?_⟩
      replace rl102 := rl102.mono hh4
      refine ⟨rl102, rl106, ?_⟩
      exact ⟨⟨by omega, (by first | exact bk_y hB1 hx1 | exact bk_z hB1 hx1)⟩, (by first | exact fr_y hF1 hx1 | exact fr_z hF1 hx1)⟩
     dsimp only
     omega
    refine s_new (fun X => wA (ρ := (rpT (rpQ (12 * k + 3 * m + 9 * n + 62)))) (m := 1) (xs := [btw s (l.getD i zT) (l.getD ((i + 1) % l.length) zT)]) (ps' := [(0, _)]) underlying27 yL rfl rfl rfl (wO (wB (by omega))) e2z (yZ rfl (Pc.arr (Pc.here _) zT 0 (by decide)) r104 wH) (show 1 * 9 ≤ 16777216 from by decide) p9N) rfl ?_
    intro v105 q105 hq105
    obtain ⟨cs105, rfl, rl105⟩ := hq105
    refine s_new (fun X => wA (ρ := (rpT (rpQ (12 * k + 3 * m + 9 * n + 62)))) (m := 1) (xs := [btw s (l.getD i zT) (l.getD ((i + 1) % l.length) zT)]) (ps' := [(0, _)]) underlying27 yL rfl rfl rfl (wO (wB (by omega))) e2z (yZ rfl (Pc.arr (Pc.here _) zT 0 (by decide)) r100 wH) (show 1 * 9 ≤ 16777216 from by decide) p9N) rfl ?_
    intro v101 q101 hq101
    obtain ⟨cs101, rfl, rl101⟩ := hq101
    refine vT (A := []) (ρ := (rpT (rpQ (12 * k + 3 * m + 9 * n + 62)))) rl101 (vW (by first | (simp; done) | grind)) ?_
    intro h3 hh3 rs_33
    replace rl_21 := rl_21.mono (hh2.trans hh3)
    refine s_rep (A := [_, _, _, _]) (fun X => xK (ρ := (rpT (rpQ (12 * k + 3 * m + 9 * n + 62)))) (bytes := 168) underlying27 yL rfl rfl rfl rfl p9N rfl rfl rl_21 rs_33 (by first | omega | (simp only [lAz, lC, lN, lR, lS]; omega)) (by first | omega | (simp only [lAz, lC, lN, lR, lS]; omega))) rfl (wV (by first | (simp; done) | grind)) ?_
    intro v102 q102 hq102
    obtain ⟨cs102, rfl, rl102⟩ := hq102
    refine w_c rfl ?_
    replace rl105 := rl105.mono hh3
    refine vT (A := []) (ρ := (rpT (rpQ (12 * k + 3 * m + 9 * n + 62)))) rl105 (vW (by first | (simp; done) | grind)) ?_
    intro h4 hh4 rs_34
    replace rl_24 := rl_24.mono ((hh2.trans hh3).trans hh4)
    refine s_rep (A := [_, _]) (fun X => xK (ρ := (rpT (rpQ (12 * k + 3 * m + 9 * n + 62)))) (bytes := 168) underlying27 yL rfl rfl rfl rfl p9N rfl rfl rl_24 rs_34 (by first | omega | (simp only [lAz, lC, lN, lR, lS]; omega)) (by first | omega | (simp only [lAz, lC, lN, lR, lS]; omega))) rfl (wV (by first | (simp; done) | grind)) ?_
    intro v106 q106 hq106
    obtain ⟨cs106, rfl, rl106⟩ := hq106
    refine uG rfl rfl rfl (uG rfl rfl rfl (xB (xC (zB (zA (gv (zS (q := 1) rfl rfl (by omega) (by omega)) rfl (mv rfl rfl (zD (wQ (A := []) (wQ (A := []) ?_))))))))))
    refine yV ((i + 1), (B1 ++ [btw s (l.getD i zT) (l.getD ((i + 1) % l.length) zT)]), (F1 ++ [btw s (l.getD i zT) (l.getD ((i + 1) % l.length) zT)]), v102, cs102, v106, cs106, h4) ?_ ?_ e8 rfl rfl
    ·
     refine ⟨(((((hmmb.trans hh1).trans hmmc).trans hh2).trans hh3).trans hh4), ?_⟩
     replace rl102 := rl102.mono hh4
     refine ⟨rl102, rl106, ?_⟩
     exact ⟨⟨by omega, (by first | exact bk_y hB1 hx1 | exact bk_z hB1 hx1)⟩, (by first | exact fr_y hF1 hx1 | exact fr_z hF1 hx1)⟩
    dsimp only
    omega
   have hx1 : ¬ xP s l i := by have h := hc91; rw [hS i (by omega), hS ((i + 1) % l.length) (Nat.mod_lt _ (by omega))] at h; exact h
   refine zK (xC (zB (zA (gv (zS (q := 1) rfl rfl (by omega) (by omega)) rfl (mv rfl rfl (zD (wQ (A := []) ?_)))))))
   refine yV ((i + 1), B1, F1, s4_19, cs_20, s5_22, cs_23, mc) ?_ ?_ e8 rfl rfl
   ·
    refine ⟨((hmmb.trans hh1).trans hmmc), ?_⟩
    refine ⟨rl_21, rl_24, ?_⟩
    exact ⟨⟨by omega, (by first | exact bk_y hB1 hx1 | exact bk_z hB1 hx1)⟩, (by first | exact fr_y hF1 hx1 | exact fr_z hF1 hx1)⟩
   dsimp only
   omega
  have hp1 : ¬ sdZ s (gp l i) ≤ 0 := by rw [← hS i (by omega)]; exact hc68
  refine zK (zB ?_)
  refine jX (ι := List (T3 Rat) × List (T3 Rat) × Value × List Value × Value × List Value × Mem) (fun (B1, F1, s4_35, cs_36, s5_38, cs_39, mc) => MLe mb mc ∧ (RL (rpT (rpQ (12 * k + 3 * m + 9 * n + 62))) mc cs_36 B1 ∧ RL (rpT (rpQ (12 * k + 3 * m + 9 * n + 62))) mc cs_39 F1 ∧ B1 = bkH s l i ∧ F1 = frH s l i)) (fun (B1, F1, s4_35, cs_36, s5_38, cs_39, mc) => [(0, vl), (3, vP b3 0), (4, s4_35), (5, s5_38), (6, s6_1), (11, vI ↑i), (12, vP b12 0), (13, vI (((↑i : Int) + (1 : Int)) % (↑(l).length : Int))), (52, vl), (53, vI (↑(l).length : Int)), (54, vI ↑i)]) (fun (B1, F1, s4_35, cs_36, s5_38, cs_39, mc) => [.var b12 32 cs_16, .gs 32 9 s5_38 F1.length cs_39, .gs 32 9 s4_35 B1.length cs_36, .gs 3 1 s6_1 SD.length cs_2, .var b3 34 cs3]) (fun (B1, F1, s4_35, cs_36, s5_38, cs_39, mc) => mc) ?_ ?_
  ·
   refine zC (zA (mv rfl rfl (mv rfl rfl (gv ((qE i mh3 underlying22 sizeOf3 rfl rfl rfl (by first | omega | (simp only [lAz, lC, lN, lR, lS]; omega)) p1N).cv (show _ = xY 1 s6_1 ((i * 1 + 0)) from congrArg (xY 1 s6_1) (by rfl))) rfl (xX (F := fun v_ => rpI.Is mb v_ (SD.getD i (0 : Int))) (kJ ty3 (Pc.arr (Pc.here _) (0 : Int) i (by first | omega | (simp only [lAz, lC, lN, lR, lS]; omega))) rfl p1N rfl rl_3 rfl) (yD mh3) rfl ?_)))))
   intro v76 r76
   obtain ⟨rfl, hl76, hu76⟩ := of_i r76
   refine gv (qT (q := 0) rfl rfl) rfl (zD (zB ?_))
   refine zN rfl (fun hc77 => ?_) (fun hc77 => ?_)
   ·
    have hp2 : 0 ≤ sdZ s (gp l i) := by rw [← hS i (by omega)]; exact hc77
    refine zA (mv rfl rfl (xX (F := fun v_ => (rpT (rpQ (k + 1))).Is mb v_ (l.getD i zT)) (zE xJ (Pc.here _) rfl rfl rb_17 rfl) (yD mh0) rfl ?_))
    intro v79 r79
    refine zI (wA (ρ := (rpT (rpQ (k + 1)))) (m := 1) (xs := [(l.getD i zT)]) (ps' := [(0, _)]) underlying27 yL rfl rfl rfl (wO (wB (by omega))) e2z (yZ rfl (Pc.arr (Pc.here _) zT 0 (by decide)) r79 wH) (show 1 * 9 ≤ 16777216 from by decide) p9N) rfl rfl rfl ?_
    intro v80 q80 hq80
    obtain ⟨cs80, rfl, rl80⟩ := hq80
    refine qN (A := []) (ρ := (rpT (rpQ (k + 1)))) rl80 ?_
    intro h1 hh1 rs_41
    replace rl_15 := rl_15.mono hh1
    refine qH (A := [_]) (xK (ρ := (rpT (rpQ (12 * k + 3 * m + 9 * n + 62)))) (bytes := 168) underlying27 yL rfl rfl rfl rfl p9N rfl rfl rl_15 (rs_41.le (Le.s (Le.t (Le.q (l := 12 * k + 3 * m + 9 * n + 62) (by omega))))) (by first | omega | (simp only [lAz, lC, lN, lR, lS]; omega)) (by first | omega | (simp only [lAz, lC, lN, lR, lS]; omega))) rfl rfl rfl ?_
    intro v81 q81 hq81
    obtain ⟨cs81, rfl, rl81⟩ := hq81
    refine asg rfl rfl (zD ?_)
    refine yM (B, (F ++ [(l.getD i zT)]), s4_10, cs_11, v81, cs81, h1) ?_ e11 rfl rfl
    refine ⟨hh1, ?_⟩
    replace rl_12 := rl_12.mono hh1
    refine ⟨rl_12, rl81, ?_⟩
    exact ⟨by first | exact bk_h1 hB hp1 | exact bk_h0 hB hp1, by first | exact fr_h1 hF hp2 | exact fr_h0 hF hp2⟩
   have hp2 : ¬ 0 ≤ sdZ s (gp l i) := by rw [← hS i (by omega)]; exact hc77
   refine zK ?_
   refine yM (B, F, s4_10, cs_11, s5_13, cs_14, mb) ?_ e11 rfl rfl
   refine ⟨MLe.refl _, ?_⟩
   refine ⟨rl_12, rl_15, ?_⟩
   exact ⟨by first | exact bk_h1 hB hp1 | exact bk_h0 hB hp1, by first | exact fr_h1 hF hp2 | exact fr_h0 hF hp2⟩
  intro x hx
  obtain ⟨B1, F1, s4_35, cs_36, s5_38, cs_39, mc⟩ := x
  obtain ⟨hmmc, hcut⟩ := hx
  show GC _ _ _ _ _ _ [(0, vl), (3, vP b3 0), (4, s4_35), (5, s5_38), (6, s6_1), (11, vI ↑i), (12, vP b12 0), (13, vI (((↑i : Int) + (1 : Int)) % (↑(l).length : Int))), (52, vl), (53, vI (↑(l).length : Int)), (54, vI ↑i)] [.var b12 32 cs_16, .gs 32 9 s5_38 F1.length cs_39, .gs 32 9 s4_35 B1.length cs_36, .gs 3 1 s6_1 SD.length cs_2, .var b3 34 cs3] mc
  obtain ⟨rl_37, rl_40, hcut⟩ := hcut
  obtain ⟨hB1, hF1⟩ := hcut
  have hBl1 : B1.length ≤ 2 * i + 1 := by rw [hB1]; exact bkh_len s l i
  have hFl1 : F1.length ≤ 2 * i + 1 := by rw [hF1]; exact frh_len s l i
  refine zC ?_
  refine yF 10 _ [] [(0, .q), (1, .q), (2, .q), (3, .q), (4, .q), (5, .q), (6, .q), (7, .q), (8, .q), (9, .q)] xH nX (by kernel_rfl) nX (fun r hr => hr) (yH rfl rfl rfl (yH rfl rfl rfl (w_q rfl (fun h' L' hh hR => (qE i (hR _ mh3) underlying22 sizeOf3 rfl rfl rfl (by first | omega | (simp only [lAz, lC, lN, lR, lS]; omega)) p1N).cv (show _ = xY 1 s6_1 ((i * 1 + 0)) from congrArg (xY 1 s6_1) (by rfl))) rfl ?_)))
  replace rl_3 := rl_3.mono hmmc
  refine yP (F := fun v_ => rpI.Is mc v_ (SD.getD i (0 : Int))) rfl (kJ ty3 (Pc.arr (Pc.here _) (0 : Int) i (by first | omega | (simp only [lAz, lC, lN, lR, lS]; omega))) rfl p1N rfl rl_3 rfl) (yD mh3) rfl ?_
  intro v85 r85
  obtain ⟨rfl, hl85, hu85⟩ := of_i r85
  refine yH rfl rfl rfl (yH rfl rfl rfl (w_q rfl (fun h' L' hh hR => (qE ((i + 1) % l.length) (hR _ mh3) underlying22 sizeOf3 rfl rfl (by first | rfl | (push_cast; rfl)) (by rw [hi2]; exact Nat.mod_lt _ (by omega)) p1N).cv (show _ = xY 1 s6_1 ((((i + 1) % l.length) * 1 + 0)) from congrArg (xY 1 s6_1) (by rfl))) rfl (yP (F := fun v_ => rpI.Is mc v_ (SD.getD ((i + 1) % l.length) (0 : Int))) rfl (kJ ty3 (Pc.arr (Pc.here _) (0 : Int) ((i + 1) % l.length) (by rw [hi2]; exact Nat.mod_lt _ (by omega))) rfl p1N rfl rl_3 rfl) (yD mh3) rfl ?_)))
  intro v89 r89
  obtain ⟨rfl, hl89, hu89⟩ := of_i r89
  refine yK rfl (fun _ _ => ov_mul_i rfl rfl (by rw [hd1, hd2]; have := mul_range hr1 hr2; omega) (by rw [hd1, hd2]; have := mul_range hr1 hr2; omega)) rfl (yK rfl (fun _ _ => zW (q := 0) rfl rfl) rfl (xB (zJ (e' := [(0, _), (3, _), (4, _), (5, _), (6, _), (12, _), (13, _), (52, _), (53, _), (54, _), (91, _)]) e11 (zB ?_))))
  refine zN rfl (fun hc91 => ?_) (fun hc91 => ?_)
  ·
   have hx1 : xP s l i := by have h := hc91; rw [hS i (by omega), hS ((i + 1) % l.length) (Nat.mod_lt _ (by omega))] at h; exact h
   refine zC ?_
   refine yF 8 _ [(7, (14, 32, [.bool false, .slice none 0 0, .slice none 0 0, .bool false, .slice none 0 0, .slice none 0 0, .bool false, .slice none 0 0, .slice none 0 0]))] [(0, .q), (1, .q), (2, .q), (3, .q), (4, .q), (5, .q), (6, .c), (7, .a), (8, .t)] xH (jK.cons rfl rfl (qB yL rfl rfl) jK.nil) (by kernel_rfl) (qG rfl rfl kQ) (fun r hr => hr) ?_
   replace rb3 := rb3.mono ((hmma.trans hmmb).trans hmmc)
   refine yP (F := fun v_ => (rpP (rpT (rpQ n)) (rpQ m)).Is mc v_ s) rfl (zE kH (Pc.here _) rfl rfl rb3 rfl) (yD mh4) rfl ?_
   intro v92 r92
   replace rb_17 := rb_17.mono hmmc
   refine yP (F := fun v_ => (rpT (rpQ (k + 1))).Is mc v_ (l.getD i zT)) rfl (zE xJ (Pc.here _) rfl rfl rb_17 rfl) (yD mh0) rfl ?_
   intro v93 r93
   refine yH rfl rfl rfl (yH rfl rfl rfl ?_)
   replace rl := rl.mono hmmc
   refine yP (F := fun v_ => AtP (rpT (rpQ k)) mc v_ (l.getD ((i + 1) % l.length) zT)) rfl (vJ zT ((i + 1) % l.length) underlying27 xJ rfl rfl rl (by first | rfl | (push_cast; rfl)) (by exact Nat.mod_lt _ (by omega)) p9N) vQ rfl ?_
   intro v96 r96
   refine yP (F := fun v_ => (rpT (rpQ k)).Is mc v_ (l.getD ((i + 1) % l.length) zT)) rfl (wG xJ rfl r96) vQ rfl ?_
   intro v97 r97
   refine w_c rfl ?_
   refine zY (vs := [_, _, _]) call84 e3z (fun w hs => o_cx_common hs r92 r93 (r97.le (Le.t (Le.q (l := k + 1) (by omega)))) (by omega) (by omega) (by omega)) rfl ?_
   intro v98 h1 hh1 r98
   change (rpT (rpQ (12 * (k + 1) + 3 * m + 9 * n + 50))).Is h1 v98 (btw s (l.getD i zT) (l.getD ((i + 1) % l.length) zT)) at r98
   replace r98 := Rp.Is.le r98 (Le.t (Le.q (l := 12 * k + 3 * m + 9 * n + 62) (by omega)))
   refine w_a rfl rfl (fun b14 => ?_)
   have rb14 : (rpT (rpQ 1)).R h1 [.bool false, .slice none 0 0, .slice none 0 0, .bool false, .slice none 0 0, .slice none 0 0, .bool false, .slice none 0 0, .slice none 0 0] zT := (wO (wB (by decide)))
   have rw_42 := (Le.t (Le.q (l := 12 * k + 3 * m + 9 * n + 62) (by omega))).R rb14
   refine xR (A := []) (F := fun c_ => (rpT (rpQ (12 * k + 3 * m + 9 * n + 62))).R h1 c_ (btw s (l.getD i zT) (l.getD ((i + 1) % l.length) zT))) rfl (yJ sizeOf32 (Pc.here _) rfl rfl rfl rw_42 r98 rfl) ?_
   intro cs_43 rb_44
   refine xB (zJ (e' := [(0, _), (3, _), (4, _), (5, _), (6, _), (52, _), (53, _), (54, _), (14, _)]) e9 (zB ?_))
   refine yF 10 [.var b14 32 cs_43, .var b12 32 cs_16, .gs 3 1 s6_1 SD.length cs_2, .var b3 34 cs3] [] [(0, .q), (1, .q), (4, .q), (5, .q), (2, .d 3 6), (7, .c), (8, .q), (9, .q)] xH nX (by kernel_rfl) nX (by intro r hr; simp only [List.mem_cons, List.mem_append, List.not_mem_nil, or_false] at hr ⊢ <;> grind) (yH rfl rfl rfl (yP (F := fun v_ => (rpT (rpQ (12 * k + 3 * m + 9 * n + 62))).Is h1 v_ (btw s (l.getD i zT) (l.getD ((i + 1) % l.length) zT))) rfl (zE xJ (Pc.here _) rfl rfl rb_44 rfl) (yD mh0) rfl ?_))
   intro v100 r100
   refine yH rfl rfl rfl (yP (F := fun v_ => (rpT (rpQ (12 * k + 3 * m + 9 * n + 62))).Is h1 v_ (btw s (l.getD i zT) (l.getD ((i + 1) % l.length) zT))) rfl (zE xJ (Pc.here _) rfl rfl rb_44 rfl) (yD mh0) rfl ?_)
   intro v104 r104
   refine w_d rfl rfl rfl ?_ ?_
   ·
    refine s_new (fun X => wA (ρ := (rpT (rpQ (12 * k + 3 * m + 9 * n + 62)))) (m := 1) (xs := [btw s (l.getD i zT) (l.getD ((i + 1) % l.length) zT)]) (ps' := [(0, _)]) underlying27 yL rfl rfl rfl (wO (wB (by omega))) e2z (yZ rfl (Pc.arr (Pc.here _) zT 0 (by decide)) r100 wH) (show 1 * 9 ≤ 16777216 from by decide) p9N) rfl ?_
    intro v101 q101 hq101
    obtain ⟨cs101, rfl, rl101⟩ := hq101
    refine ⟨?_, ?_⟩
    ·
     refine vT (A := []) (ρ := (rpT (rpQ (12 * k + 3 * m + 9 * n + 62)))) rl101 (vW (by first | (simp; done) | grind)) ?_
     intro h2 hh2 rs_45
     replace rl_37 := rl_37.mono (hh1.trans hh2)
     refine s_rep (A := [_, _, _]) (fun X => xK (ρ := (rpT (rpQ (12 * k + 3 * m + 9 * n + 62)))) (bytes := 168) underlying27 yL rfl rfl rfl rfl p9N rfl rfl rl_37 rs_45 (by first | omega | (simp only [lAz, lC, lN, lR, lS]; omega)) (by first | omega | (simp only [lAz, lC, lN, lR, lS]; omega))) rfl (wV (by first | (simp; done) | grind)) ?_
     intro v102 q102 hq102
     obtain ⟨cs102, rfl, rl102⟩ := hq102
     replace r104 := r104.mono hh2
     refine s_new (fun X => wA (ρ := (rpT (rpQ (12 * k + 3 * m + 9 * n + 62)))) (m := 1) (xs := [btw s (l.getD i zT) (l.getD ((i + 1) % l.length) zT)]) (ps' := [(0, _)]) underlying27 yL rfl rfl rfl (wO (wB (by omega))) e2z (yZ rfl (Pc.arr (Pc.here _) zT 0 (by decide)) r104 wH) (show 1 * 9 ≤ 16777216 from by decide) p9N) rfl ?_
     intro v105 q105 hq105
     obtain ⟨cs105, rfl, rl105⟩ := hq105
     refine w_c rfl (vT (A := []) (ρ := (rpT (rpQ (12 * k + 3 * m + 9 * n + 62)))) rl105 (vW (by first | (simp; done) | grind)) ?_)
     intro h3 hh3 rs_46
     replace rl_40 := rl_40.mono ((hh1.trans hh2).trans hh3)
     refine s_rep (A := [_, _]) (fun X => xK (ρ := (rpT (rpQ (12 * k + 3 * m + 9 * n + 62)))) (bytes := 168) underlying27 yL rfl rfl rfl rfl p9N rfl rfl rl_40 rs_46 (by first | omega | (simp only [lAz, lC, lN, lR, lS]; omega)) (by first | omega | (simp only [lAz, lC, lN, lR, lS]; omega))) rfl (wV (by first | (simp; done) | grind)) ?_
     intro v106 q106 hq106
     obtain ⟨cs106, rfl, rl106⟩ := hq106
     refine uG rfl rfl rfl (uG rfl rfl rfl (xB (xC (zB (zA (gv (zS (q := 1) rfl rfl (by omega) (by omega)) rfl (mv rfl rfl (zD (wQ (A := []) (wQ (A := []) ?_))))))))))
     refine yV ((i + 1), (B1 ++ [btw s (l.getD i zT) (l.getD ((i + 1) % l.length) zT)]), (F1 ++ [btw s (l.getD i zT) (l.getD ((i + 1) % l.length) zT)]), v102, cs102, v106, cs106, h3) ?_ ?_ e8 rfl rfl
     ·
      refine ⟨((((hmmb.trans hmmc).trans hh1).trans hh2).trans hh3), ?_⟩
      replace rl102 := rl102.mono hh3
      refine ⟨rl102, rl106, ?_⟩
      exact ⟨⟨by omega, (by first | exact bk_y hB1 hx1 | exact bk_z hB1 hx1)⟩, (by first | exact fr_y hF1 hx1 | exact fr_z hF1 hx1)⟩
     dsimp only
     omega
    refine s_new (fun X => wA (ρ := (rpT (rpQ (12 * k + 3 * m + 9 * n + 62)))) (m := 1) (xs := [btw s (l.getD i zT) (l.getD ((i + 1) % l.length) zT)]) (ps' := [(0, _)]) underlying27 yL rfl rfl rfl (wO (wB (by omega))) e2z (yZ rfl (Pc.arr (Pc.here _) zT 0 (by decide)) r104 wH) (show 1 * 9 ≤ 16777216 from by decide) p9N) rfl ?_
    intro v105 q105 hq105
    obtain ⟨cs105, rfl, rl105⟩ := hq105
    refine vT (A := [_]) (ρ := (rpT (rpQ (12 * k + 3 * m + 9 * n + 62)))) rl101 (vW (by first | (simp; done) | grind)) ?_
    intro h2 hh2 rs_47
    replace rl_37 := rl_37.mono (hh1.trans hh2)
    refine s_rep (A := [_, _, _, _]) (fun X => xK (ρ := (rpT (rpQ (12 * k + 3 * m + 9 * n + 62)))) (bytes := 168) underlying27 yL rfl rfl rfl rfl p9N rfl rfl rl_37 rs_47 (by first | omega | (simp only [lAz, lC, lN, lR, lS]; omega)) (by first | omega | (simp only [lAz, lC, lN, lR, lS]; omega))) rfl (wV (by first | (simp; done) | grind)) ?_
    intro v102 q102 hq102
    obtain ⟨cs102, rfl, rl102⟩ := hq102
    refine w_c rfl ?_
    replace rl105 := rl105.mono hh2
    refine vT (A := []) (ρ := (rpT (rpQ (12 * k + 3 * m + 9 * n + 62)))) rl105 (vW (by first | (simp; done) | grind)) ?_
    intro h3 hh3 rs_48
    replace rl_40 := rl_40.mono ((hh1.trans hh2).trans hh3)
    refine s_rep (A := [_, _]) (fun X => xK (ρ := (rpT (rpQ (12 * k + 3 * m + 9 * n + 62)))) (bytes := 168) underlying27 yL rfl rfl rfl rfl p9N rfl rfl rl_40 rs_48 (by first | omega | (simp only [lAz, lC, lN, lR, lS]; omega)) (by first | omega | (simp only [lAz, lC, lN, lR, lS]; omega))) rfl (wV (by first | (simp; done) | grind)) ?_
    intro v106 q106 hq106
    obtain ⟨cs106, rfl, rl106⟩ := hq106
    refine uG rfl rfl rfl (uG rfl rfl rfl (xB (xC (zB (zA (gv (zS (q := 1) rfl rfl (by omega) (by omega)) rfl (mv rfl rfl (zD (wQ (A := []) (wQ (A := []) ?_))))))))))
    refine yV ((i + 1), (B1 ++ [btw s (l.getD i zT) (l.getD ((i + 1) % l.length) zT)]), (F1 ++ [btw s (l.getD i zT) (l.getD ((i + 1) % l.length) zT)]), v102, cs102, v106, cs106, h3) ?_ ?_ e8 rfl rfl
    ·
     refine ⟨((((hmmb.trans hmmc).trans hh1).trans hh2).trans hh3), ?_⟩
     replace rl102 := rl102.mono hh3
     refine ⟨rl102, rl106, ?_⟩
     exact ⟨⟨by omega, (by first | exact bk_y hB1 hx1 | exact bk_z hB1 hx1)⟩, (by first | exact fr_y hF1 hx1 | exact fr_z hF1 hx1)⟩
    dsimp only
    omega
   refine s_new (fun X => wA (ρ := (rpT (rpQ (12 * k + 3 * m + 9 * n + 62)))) (m := 1) (xs := [btw s (l.getD i zT) (l.getD ((i + 1) % l.length) zT)]) (ps' := [(0, _)]) underlying27 yL rfl rfl rfl (wO (wB (by omega))) e2z (yZ rfl (Pc.arr (Pc.here _) zT 0 (by decide)) r104 wH) (show 1 * 9 ≤ 16777216 from by decide) p9N) rfl ?_
   intro v105 q105 hq105
   obtain ⟨cs105, rfl, rl105⟩ := hq105
   refine s_new (fun X => wA (ρ := (rpT (rpQ (12 * k + 3 * m + 9 * n + 62)))) (m := 1) (xs := [btw s (l.getD i zT) (l.getD ((i + 1) % l.length) zT)]) (ps' := [(0, _)]) underlying27 yL rfl rfl rfl (wO (wB (by omega))) e2z (yZ rfl (Pc.arr (Pc.here _) zT 0 (by decide)) r100 wH) (show 1 * 9 ≤ 16777216 from by decide) p9N) rfl ?_
   intro v101 q101 hq101
   obtain ⟨cs101, rfl, rl101⟩ := hq101
   refine vT (A := []) (ρ := (rpT (rpQ (12 * k + 3 * m + 9 * n + 62)))) rl101 (vW (by first | (simp; done) | grind)) ?_
   intro h2 hh2 rs_49
   replace rl_37 := rl_37.mono (hh1.trans hh2)
   refine s_rep (A := [_, _, _, _]) (fun X => xK (ρ := (rpT (rpQ (12 * k + 3 * m + 9 * n + 62)))) (bytes := 168) underlying27 yL rfl rfl rfl rfl p9N rfl rfl rl_37 rs_49 (by first | omega | (simp only [lAz, lC, lN, lR, lS]; omega)) (by first | omega | (simp only [lAz, lC, lN, lR, lS]; omega))) rfl (wV (by first | (simp; done) | grind)) ?_
   intro v102 q102 hq102
   obtain ⟨cs102, rfl, rl102⟩ := hq102
   refine w_c rfl ?_
   replace rl105 := rl105.mono hh2
   refine vT (A := []) (ρ := (rpT (rpQ (12 * k + 3 * m + 9 * n + 62)))) rl105 (vW (by first | (simp; done) | grind)) ?_
   intro h3 hh3 rs_50
   replace rl_40 := rl_40.mono ((hh1.trans hh2).trans hh3)
   refine s_rep (A := [_, _]) (fun X => xK (ρ := (rpT (rpQ (12 * k + 3 * m + 9 * n + 62)))) (bytes := 168) underlying27 yL rfl rfl rfl rfl p9N rfl rfl rl_40 rs_50 (by first | omega | (simp only [lAz, lC, lN, lR, lS]; omega)) (by first | omega | (simp only [lAz, lC, lN, lR, lS]; omega))) rfl (wV (by first | (simp; done) | grind)) ?_
   intro v106 q106 hq106
   obtain ⟨cs106, rfl, rl106⟩ := hq106
   refine uG rfl rfl rfl (uG rfl rfl rfl (xB (xC (zB (zA (gv (zS (q := 1) rfl rfl (by omega) (by omega)) rfl (mv rfl rfl (zD (wQ (A := []) (wQ (A := []) ?_))))))))))
   refine yV ((i + 1), (B1 ++ [btw s (l.getD i zT) (l.getD ((i + 1) % l.length) zT)]), (F1 ++ [btw s (l.getD i zT) (l.getD ((i + 1) % l.length) zT)]), v102, cs102, v106, cs106, h3) ?_ ?_ e8 rfl rfl
   ·
    refine ⟨((((hmmb.trans hmmc).trans hh1).trans hh2).trans hh3), ?_⟩
    replace rl102 := rl102.mono hh3
    refine ⟨rl102, rl106, ?_⟩
    exact ⟨⟨by omega, (by first | exact bk_y hB1 hx1 | exact bk_z hB1 hx1)⟩, (by first | exact fr_y hF1 hx1 | exact fr_z hF1 hx1)⟩
   dsimp only
   omega
  have hx1 : ¬ xP s l i := by have h := hc91; rw [hS i (by omega), hS ((i + 1) % l.length) (Nat.mod_lt _ (by omega))] at h; exact h
  refine zK (xC (zB (zA (gv (zS (q := 1) rfl rfl (by omega) (by omega)) rfl (mv rfl rfl (zD (wQ (A := []) ?_)))))))
  refine yV ((i + 1), B1, F1, s4_35, cs_36, s5_38, cs_39, mc) ?_ ?_ e8 rfl rfl
  ·
   refine ⟨(hmmb.trans hmmc), ?_⟩
   refine ⟨rl_37, rl_40, ?_⟩
   exact ⟨⟨by omega, (by first | exact bk_y hB1 hx1 | exact bk_z hB1 hx1)⟩, (by first | exact fr_y hF1 hx1 | exact fr_z hF1 hx1)⟩
  dsimp only
  omega
 have ej : i = l.length := by omega
 rw [ej] at hB hF
 refine xG (yB (yB (xF (zB (zC (zA (mv rfl rfl (mv rfl rfl (asg rfl rfl (asg rfl rfl (zD (zB (zQ ?_)))))))))))))
 refine jI (A := [_]) (ρ := (rpT (rpQ (12 * k + 3 * m + 9 * n + 62)))) rl_12 ?_
 intro h1 hh1 rs_51
 replace rl_15 := rl_15.mono hh1
 refine jI (A := []) (ρ := (rpT (rpQ (12 * k + 3 * m + 9 * n + 62)))) rl_15 ?_
 intro h2 hh2 rs_52
 refine vK rfl rfl rfl ?_
 replace rs_51 := rs_51.mono hh2
 refine ⟨_, _, ?_, (Rp.Is.cast rs_51 (by rw [hB]; exact (kF (by rw [← hhi.1]; omega) (by rw [← hlo.1]; omega)).1.symm)), (Rp.Is.cast rs_52 (by rw [hF]; exact (kF (by rw [← hhi.1]; omega) (by rw [← hlo.1]; omega)).2.symm))⟩
 rfl
theorem o_cx_cut {w0 : World} {h0 : Mem}  (hs : MLe h0 (mem w0)) {k n m : Nat} {vl : Value} {l : (List (T3 Rat))} (rl : (rpS (rpT (rpQ k))).Is h0 vl l) {vs : Value} {s : ((T3 Rat) × Rat)} (rs : (rpP (rpT (rpQ n)) (rpQ m)).Is h0 vs s) (hcd0 : k ≤ 50000000) (hcd1 : m ≤ 1000000) (hcd2 : n ≤ 1000000) (hcd3 : l.length ≤ 50000)  :
    Calls Tryz.prog 14 #[vl, vs] w0 (Ret w0 h0 (fun h r => ∃ u0 u1, r = .tuple #[u0, u1] ∧ (rpS (rpT (rpQ (12 * k + 3 * m + 9 * n + 62 + 2)))).Is h u0 (qA s l) ∧ (rpS (rpT (rpQ (12 * k + 3 * m + 9 * n + 62 + 2)))).Is h u1 (uW s l))) := by
 have hcb := cutB_len s l
 have hcf := cutF_len s l
 refine zM (n := 18) (e := [(0, vl), (1, vs)]) (vs := [vl, vs]) func14 rfl rfl (bL rfl) hs e2z (zC (zA (zI (yU (ρ := (rpP (rpT (rpQ n)) (rpQ m))) rfl rs) rfl rfl rfl ?_)))
 intro v3 q3 hq3
 obtain ⟨b3, cs3, rfl, rfl, rb3⟩ := hq3
 refine asg rfl rfl (asg rfl rfl (zD (zB (zC (zA (mv rfl rfl (xX (F := fun v_ => (rpP (rpT (rpQ n)) (rpQ m)).Is h0 v_ s) (zE kH (Pc.here _) rfl rfl rb3 rfl) (yD mh0) rfl ?_)))))))
 intro v10 r10
 refine zO (vs := [_, _]) rfl rfl rfl rfl call47 e2z (fun w hs => o_cx_halves hs rl r10 (by omega) (by omega) (by omega) (by omega)) ?_
 intro v11 h1 hh1 r11
 obtain ⟨v11_0, v11_1, rfl, r11_0, r11_1⟩ := r11
 change (rpS (rpT (rpQ (12 * k + 3 * m + 9 * n + 62)))).Is h1 v11_0 (qA s l) at r11_0
 change (rpS (rpT (rpQ (12 * k + 3 * m + 9 * n + 62)))).Is h1 v11_1 (uW s l) at r11_1
 refine mv rfl rfl (gv (zL (vs := [_, _]) rfl rfl) rfl (gv (zL (vs := [_, _]) rfl rfl) rfl (asg rfl rfl (asg rfl rfl (zD (zJ (e' := [(6, _), (7, _)]) e2z (zB (zC (zA (mv rfl rfl ?_))))))))))
 refine zO (vs := [_]) rfl rfl rfl rfl call48 ⟨rfl, trivial⟩ (fun w hs => o_own_points hs r11_0 (by omega) (by omega)) ?_
 intro v15 h2 hh2 r15
 change (rpS (rpT (rpQ ((12 * k + 3 * m + 9 * n + 62) + 2)))).Is h2 v15 (qA s l) at r15
 replace r15 := Rp.Is.le r15 (Le.s (Le.t (Le.q (l := 12 * k + 3 * m + 9 * n + 64) (by omega))))
 refine mv rfl rfl ?_
 replace r11_1 := r11_1.mono hh2
 refine zO (vs := [_]) rfl rfl rfl rfl call48 ⟨rfl, trivial⟩ (fun w hs => o_own_points hs r11_1 (by omega) (by omega)) ?_
 intro v17 h3 hh3 r17
 change (rpS (rpT (rpQ ((12 * k + 3 * m + 9 * n + 62) + 2)))).Is h3 v17 (uW s l) at r17
 replace r17 := Rp.Is.le r17 (Le.s (Le.t (Le.q (l := 12 * k + 3 * m + 9 * n + 64) (by omega))))
 refine asg rfl rfl (asg rfl rfl (zD (zB (zQ (vK rfl rfl rfl ?_)))))
 replace r15 := r15.mono hh3
 refine ⟨_, _, ?_, (Rp.Is.le r15 (Le.s (Le.t (Le.q (l := 12 * k + 3 * m + 9 * n + 62 + 2) (by omega))))), (Rp.Is.le r17 (Le.s (Le.t (Le.q (l := 12 * k + 3 * m + 9 * n + 62 + 2) (by omega)))))⟩
 rfl
end Go.Proofs.YtghhjjmjpeehdaaGreat
namespace Go.Proofs.YtghhjjmjpeehdaaGreat
open Bk Go Tryz
set_option linter.unusedVariables false
set_option linter.unusedSimpArgs false
set_option maxRecDepth 10000
set_option maxHeartbeats 1000000 in
theorem o_r6_cut {w0 : World} {h0 : Mem}  (hs : MLe h0 (mem w0)) {k n m : Nat} {vl : Value} {l : (List (T3 Rat))} (rl : (rpS (rpT (rpQ k))).Is h0 vl l) {vs : Value} {s : ((T3 Rat) × Rat)} (rs : (rpP (rpT (rpQ n)) (rpQ m)).Is h0 vs s) (hcd0 : k ≤ 50000000) (hcd1 : m ≤ 1000000) (hcd2 : n ≤ 1000000) (hcd3 : l.length ≤ 100000)  :
    Calls Tryz.prog 15 #[vl, vs] w0 (Ret w0 h0 (fun h r => ∃ u0 u1, r = .tuple #[u0, u1] ∧ (rpS (rpT (rpQ (12 * k + 3 * m + 9 * n + 62)))).Is h u0 (qA s l) ∧ (rpS (rpT (rpQ (12 * k + 3 * m + 9 * n + 62)))).Is h u1 (uW s l))) := by
 refine zM (n := 97) (e := [(0, vl), (1, vs)]) (vs := [vl, vs]) func15 rfl rfl (bL rfl) hs e2z (zC (zA (zI (yU (ρ := (rpP (rpT (rpQ n)) (rpQ m))) rfl rs) rfl rfl rfl ?_)))
 intro v3 q3 hq3
 obtain ⟨b3, cs3, rfl, rfl, rb3⟩ := hq3
 refine asg rfl rfl (asg rfl rfl (zD (zB (zC (zA (asg rfl rfl (asg rfl rfl (zD (zB (zC (zA (asg rfl rfl (asg rfl rfl ?_)))))))))))))
 refine zD (zB (zC (zC (zA (asg (v := vI (0)) rfl rfl (zD (zB (zP (gc_nilown 32 9 ?_)))))))))
 have rl_1 : RL (rpT (rpQ (12 * k + 3 * m + 9 * n + 62))) h0 [] ([] : List (T3 Rat)) := RL.nil
 refine gc_nilown 32 9 ?_
 have rl_2 : RL (rpT (rpQ (12 * k + 3 * m + 9 * n + 62))) h0 [] ([] : List (T3 Rat)) := RL.nil
 refine wE (ι := Nat × List (T3 Rat) × List (T3 Rat) × Value × List Value × Value × List Value × Mem) (fun (i, B, F, s6_3, cs_4, s7_6, cs_7, mb) => MLe h0 mb ∧ (RL (rpT (rpQ (12 * k + 3 * m + 9 * n + 62))) mb cs_4 B ∧ RL (rpT (rpQ (12 * k + 3 * m + 9 * n + 62))) mb cs_7 F ∧ (i ≤ l.length ∧ B = bkTo s l i) ∧ F = frTo s l i)) (fun (i, B, F, s6_3, cs_4, s7_6, cs_7, mb) => [(0, vl), (3, vP b3 0), (6, s6_3), (7, s7_6), (8, vB (qV s l i)), (9, vB (qP s l i)), (10, vI ↑i)]) (fun (i, B, F, s6_3, cs_4, s7_6, cs_7, mb) => [.gs 32 9 s7_6 F.length cs_7, .gs 32 9 s6_3 B.length cs_4, .var b3 34 cs3]) (fun (i, B, F, s6_3, cs_4, s7_6, cs_7, mb) => mb) (fun (i, B, F, s6_3, cs_4, s7_6, cs_7, mb) => l.length - i) (0, [], [], (.slice none 0 0), [], (.slice none 0 0), [], h0) ?_ ⟨?_, ?_, ?_, ?_, ?_, ?_, ?_, trivial⟩ rfl rfl ?_
 ·
  refine ⟨MLe.refl _, ?_⟩
  refine ⟨rl_1, rl_2, ?_⟩
  exact ⟨⟨by omega, rfl⟩, rfl⟩
 · exact rfl
 · exact rfl
 · exact rfl
 · exact rfl
 · exact congrArg some (yX id).symm
 · exact congrArg some (yX id).symm
 · exact rfl
 intro x hx
 obtain ⟨i, B, F, s6_3, cs_4, s7_6, cs_7, mb⟩ := x
 obtain ⟨hmmb, hinv⟩ := hx
 show GC _ _ _ _ _ _ [(0, vl), (3, vP b3 0), (6, s6_3), (7, s7_6), (8, vB (qV s l i)), (9, vB (qP s l i)), (10, vI ↑i)] [.gs 32 9 s7_6 F.length cs_7, .gs 32 9 s6_3 B.length cs_4, .var b3 34 cs3] mb
 obtain ⟨rl_5, rl_8, hinv⟩ := hinv
 obtain ⟨⟨hi1, hB⟩, hF⟩ := hinv
 have hbl := bk_len s l i
 have hfl := fr_len s l i
 have hBl : B.length ≤ 2 * i := by rw [hB]; exact hbl
 have hFl : F.length ≤ 2 * i := by rw [hF]; exact hfl
 refine zC (zC (zA (mv rfl rfl (mv rfl rfl ?_))))
 replace rl := rl.mono hmmb
 refine gv (wI underlying27 rfl rl) rfl (gv (zW rfl rfl) rfl (zD (zB ?_)))
 refine zN rfl (fun hc19 => ?_) (fun hc19 => ?_)
 ·
  refine zK (zB (zC (zP (zC ?_))))
  refine yF 16 _ [(12, (11, 32, [.bool false, .slice none 0 0, .slice none 0 0, .bool false, .slice none 0 0, .slice none 0 0, .bool false, .slice none 0 0, .slice none 0 0])), (13, (12, 32, [.bool false, .slice none 0 0, .slice none 0 0, .bool false, .slice none 0 0, .slice none 0 0, .bool false, .slice none 0 0, .slice none 0 0]))] [(0, .q), (1, .q), (2, .q), (3, .q), (4, .q), (5, .q), (6, .q), (7, .q), (8, .q), (9, .q), (10, .q), (11, .q), (12, .a), (13, .a), (14, .c), (15, .c)] xH (jK.cons rfl rfl (qB yL rfl rfl) (jK.cons rfl rfl (qB yL rfl rfl) jK.nil)) (chk_of [0, 0, 3, 4, 0, 0, 32, 0, 128, 320, 528, 1024, 0, 0, 12303, 32767] [65535, 65535, 65532, 65531, 65535, 65535, 65503, 65535, 65407, 65215, 65007, 64511, 65535, 65535, 61431, 55295] (by kernel_rfl)) (qG rfl rfl (qG rfl rfl kQ)) (fun r hr => hr) (yH rfl rfl rfl (yH rfl rfl rfl (yP (F := fun v_ => AtP (rpT (rpQ k)) mb v_ (l.getD i zT)) rfl (vJ zT i underlying27 xJ rfl rfl rl rfl (by omega) p9N) vQ rfl ?_)))
  intro v24 r24
  refine yP (F := fun v_ => (rpT (rpQ k)).Is mb v_ (l.getD i zT)) rfl (wG xJ rfl r24) vQ rfl ?_
  intro v25 r25
  refine yH rfl rfl rfl (yH rfl rfl rfl (yK rfl (fun _ _ => zS (q := 1) rfl rfl (by omega) (by omega)) rfl (yH rfl rfl rfl (w_q rfl (fun h' L' hh hR => wI underlying27 rfl (rl.mono hh)) rfl (yK rfl (fun _ _ => uU rfl rfl (by omega) (by omega)) rfl (yP (F := fun v_ => AtP (rpT (rpQ k)) mb v_ (l.getD ((i + 1) % l.length) zT)) rfl (vJ zT ((i + 1) % l.length) underlying27 xJ rfl rfl rl (by first | rfl | (push_cast; rfl)) (by exact Nat.mod_lt _ (by omega)) p9N) vQ rfl ?_))))))
  intro v32 r32
  refine yP (F := fun v_ => (rpT (rpQ k)).Is mb v_ (l.getD ((i + 1) % l.length) zT)) rfl (wG xJ rfl r32) vQ rfl ?_
  intro v33 r33
  refine w_a rfl rfl (fun b11 => ?_)
  have rb11 : (rpT (rpQ (k + 1))).R mb [.bool false, .slice none 0 0, .slice none 0 0, .bool false, .slice none 0 0, .slice none 0 0, .bool false, .slice none 0 0, .slice none 0 0] zT := (wO (wB (by omega)))
  refine w_a rfl rfl (fun b12 => ?_)
  have rb12 : (rpT (rpQ (k + 1))).R mb [.bool false, .slice none 0 0, .slice none 0 0, .bool false, .slice none 0 0, .slice none 0 0, .bool false, .slice none 0 0, .slice none 0 0] zT := (wO (wB (by omega)))
  refine w_c rfl (s_updx (A := [_]) (F := fun c_ => (rpT (rpQ (k + 1))).R mb c_ (l.getD i zT)) (yJ sizeOf32 (Pc.here _) rfl rfl rfl rb11 (r25.le (Le.t (Le.q (l := k + 1) (by omega)))) rfl) (wV (by first | (simp; done) | grind)) ?_)
  intro cs_9 rb_10
  refine w_c rfl (s_updx (A := []) (F := fun c_ => (rpT (rpQ (k + 1))).R mb c_ (l.getD ((i + 1) % l.length) zT)) (yJ sizeOf32 (Pc.here _) rfl rfl rfl rb12 (r33.le (Le.t (Le.q (l := k + 1) (by omega)))) rfl) (wV (by first | (simp; done) | grind)) ?_)
  intro cs_11 rb_12
  refine xB (zJ (e' := [(0, _), (3, _), (6, _), (7, _), (8, _), (9, _), (10, _), (11, _), (12, _)]) e9 (zB (zC ?_)))
  refine yF 8 _ [] [(0, .q), (1, .q), (3, .q), (4, .q), (2, .c), (5, .c), (6, .q), (7, .q)] xH nX (by kernel_rfl) nX (fun r hr => hr) ?_
  replace rb3 := rb3.mono hmmb
  refine yP (F := fun v_ => (rpP (rpT (rpQ n)) (rpQ m)).Is mb v_ s) rfl (zE kH (Pc.here _) rfl rfl rb3 rfl) (yD mh4) rfl ?_
  intro v34 r34
  refine yP (F := fun v_ => (rpT (rpQ (k + 1))).Is mb v_ (l.getD i zT)) rfl (zE xJ (Pc.here _) rfl rfl rb_10 rfl) (yD mh1) rfl ?_
  intro v35 r35
  refine yP (F := fun v_ => (rpP (rpT (rpQ n)) (rpQ m)).Is mb v_ s) rfl (zE kH (Pc.here _) rfl rfl rb3 rfl) (yD mh4) rfl ?_
  intro v37 r37
  refine yP (F := fun v_ => (rpT (rpQ (k + 1))).Is mb v_ (l.getD ((i + 1) % l.length) zT)) rfl (zE xJ (Pc.here _) rfl rfl rb_12 rfl) (yD mh0) rfl ?_
  intro v38 r38
  refine w_c rfl ?_
  refine zY (vs := [_, _]) call25 e2z (fun w hs => o_s4_side hs r34 r35 (by omega) (by omega) (by omega)) rfl ?_
  intro v36 h1 hh1 r36
  obtain rfl : v36 = vI (sdZ s (l.getD i zT)) := r36
  have hsd36 := kS s (l.getD i zT)
  refine w_c rfl ?_
  replace r37 := r37.mono hh1
  replace r38 := r38.mono hh1
  refine zY (vs := [_, _]) call25 e2z (fun w hs => o_s4_side hs r37 r38 (by omega) (by omega) (by omega)) rfl ?_
  intro v39 h2 hh2 r39
  obtain rfl : v39 = vI (sdZ s (l.getD ((i + 1) % l.length) zT)) := r39
  have hsd39 := kS s (l.getD ((i + 1) % l.length) zT)
  refine uG rfl rfl rfl (uG rfl rfl rfl (xB (zB (zC (zC (zA (mv rfl rfl (gv (ov_leq_i (q := 0) rfl rfl) rfl (zD (zB ?_))))))))))
  refine zN rfl (fun hc41 => ?_) (fun hc41 => ?_)
  ·
   have hp1 : sdZ s (gp l i) ≤ 0 := hc41
   refine zA (mv rfl rfl ?_)
   replace rb_10 := rb_10.mono (hh1.trans hh2)
   refine xX (F := fun v_ => (rpT (rpQ (k + 1))).Is h2 v_ (l.getD i zT)) (zE xJ (Pc.here _) rfl rfl rb_10 rfl) (yD mh1) rfl ?_
   intro v43 r43
   refine zI (wA (ρ := (rpT (rpQ (k + 1)))) (m := 1) (xs := [(l.getD i zT)]) (ps' := [(0, _)]) underlying27 yL rfl rfl rfl (wO (wB (by omega))) e2z (yZ rfl (Pc.arr (Pc.here _) zT 0 (by decide)) r43 wH) (show 1 * 9 ≤ 16777216 from by decide) p9N) rfl rfl rfl ?_
   intro v44 q44 hq44
   obtain ⟨cs44, rfl, rl44⟩ := hq44
   refine qN (A := []) (ρ := (rpT (rpQ (k + 1)))) rl44 ?_
   intro h3 hh3 rs_13
   replace rl_5 := rl_5.mono ((hh1.trans hh2).trans hh3)
   refine qH (A := [_, _, _]) (xK (ρ := (rpT (rpQ (12 * k + 3 * m + 9 * n + 62)))) (bytes := 168) underlying27 yL rfl rfl rfl rfl p9N rfl rfl rl_5 (rs_13.le (Le.s (Le.t (Le.q (l := 12 * k + 3 * m + 9 * n + 62) (by omega))))) (by first | omega | (simp only [lAz, lC, lN, lR, lS]; omega)) (by first | omega | (simp only [lAz, lC, lN, lR, lS]; omega))) rfl rfl rfl ?_
   intro v45 q45 hq45
   obtain ⟨cs45, rfl, rl45⟩ := hq45
   refine asg rfl rfl (zD (zJ (e' := [(0, _), (3, _), (7, _), (8, _), (9, _), (10, _), (11, _), (12, _), (13, _), (14, _), (6, _)]) e11 (zB ?_)))
   refine jX (ι := List (T3 Rat) × List (T3 Rat) × Value × List Value × Value × List Value × Mem) (fun (B1, F1, s6_14, cs_15, s7_17, cs_18, mc) => MLe h3 mc ∧ (RL (rpT (rpQ (12 * k + 3 * m + 9 * n + 62))) mc cs_15 B1 ∧ RL (rpT (rpQ (12 * k + 3 * m + 9 * n + 62))) mc cs_18 F1 ∧ B1 = bkH s l i ∧ F1 = frH s l i)) (fun (B1, F1, s6_14, cs_15, s7_17, cs_18, mc) => [(0, vl), (3, vP b3 0), (6, s6_14), (7, s7_17), (8, vB (qV s l i)), (9, vB (qP s l i)), (10, vI ↑i), (11, vP b11 0), (12, vP b12 0), (13, vI (sdZ s (l.getD i zT))), (14, vI (sdZ s (l.getD ((i + 1) % l.length) zT)))]) (fun (B1, F1, s6_14, cs_15, s7_17, cs_18, mc) => [.var b12 32 cs_11, .var b11 32 cs_9, .gs 32 9 s7_17 F1.length cs_18, .gs 32 9 s6_14 B1.length cs_15, .var b3 34 cs3]) (fun (B1, F1, s6_14, cs_15, s7_17, cs_18, mc) => mc) ?_ ?_
   ·
    refine zC (zA (mv rfl rfl (gv (qT (q := 0) rfl rfl) rfl (zD (zB ?_)))))
    refine zN rfl (fun hc47 => ?_) (fun hc47 => ?_)
    ·
     have hp2 : 0 ≤ sdZ s (gp l i) := hc47
     refine zA (mv rfl rfl ?_)
     replace rb_10 := rb_10.mono hh3
     refine xX (F := fun v_ => (rpT (rpQ (k + 1))).Is h3 v_ (l.getD i zT)) (zE xJ (Pc.here _) rfl rfl rb_10 rfl) (yD mh1) rfl ?_
     intro v49 r49
     refine zI (wA (ρ := (rpT (rpQ (k + 1)))) (m := 1) (xs := [(l.getD i zT)]) (ps' := [(0, _)]) underlying27 yL rfl rfl rfl (wO (wB (by omega))) e2z (yZ rfl (Pc.arr (Pc.here _) zT 0 (by decide)) r49 wH) (show 1 * 9 ≤ 16777216 from by decide) p9N) rfl rfl rfl ?_
     intro v50 q50 hq50
     obtain ⟨cs50, rfl, rl50⟩ := hq50
     refine qN (A := []) (ρ := (rpT (rpQ (k + 1)))) rl50 ?_
     intro h4 hh4 rs_20
     replace rl_8 := rl_8.mono (((hh1.trans hh2).trans hh3).trans hh4)
     refine qH (A := [_, _]) (xK (ρ := (rpT (rpQ (12 * k + 3 * m + 9 * n + 62)))) (bytes := 168) underlying27 yL rfl rfl rfl rfl p9N rfl rfl rl_8 (rs_20.le (Le.s (Le.t (Le.q (l := 12 * k + 3 * m + 9 * n + 62) (by omega))))) (by first | omega | (simp only [lAz, lC, lN, lR, lS]; omega)) (by first | omega | (simp only [lAz, lC, lN, lR, lS]; omega))) rfl rfl rfl ?_
     intro v51 q51 hq51
     obtain ⟨cs51, rfl, rl51⟩ := hq51
     refine asg rfl rfl (zD ?_)
     refine yM ((B ++ [(l.getD i zT)]), (F ++ [(l.getD i zT)]), v45, cs45, v51, cs51, h4) ?_ e11 rfl rfl
     refine ⟨hh4, ?_⟩
     replace rl45 := rl45.mono hh4
     refine ⟨rl45, rl51, ?_⟩
     exact ⟨by first | exact bk_h1 hB hp1 | exact bk_h0 hB hp1, by first | exact fr_h1 hF hp2 | exact fr_h0 hF hp2⟩
    have hp2 : ¬ 0 ≤ sdZ s (gp l i) := hc47
    refine zK ?_
    refine yM ((B ++ [(l.getD i zT)]), F, v45, cs45, s7_6, cs_7, h3) ?_ e11 rfl rfl
    refine ⟨MLe.refl _, ?_⟩
    replace rl_8 := rl_8.mono ((hh1.trans hh2).trans hh3)
    refine ⟨rl45, rl_8, ?_⟩
    exact ⟨by first | exact bk_h1 hB hp1 | exact bk_h0 hB hp1, by first | exact fr_h1 hF hp2 | exact fr_h0 hF hp2⟩
   intro x hx
   obtain ⟨B1, F1, s6_14, cs_15, s7_17, cs_18, mc⟩ := x
   obtain ⟨hmmc, hcut⟩ := hx
   show GC _ _ _ _ _ _ [(0, vl), (3, vP b3 0), (6, s6_14), (7, s7_17), (8, vB (qV s l i)), (9, vB (qP s l i)), (10, vI ↑i), (11, vP b11 0), (12, vP b12 0), (13, vI (sdZ s (l.getD i zT))), (14, vI (sdZ s (l.getD ((i + 1) % l.length) zT)))] [.var b12 32 cs_11, .var b11 32 cs_9, .gs 32 9 s7_17 F1.length cs_18, .gs 32 9 s6_14 B1.length cs_15, .var b3 34 cs3] mc
   obtain ⟨rl_16, rl_19, hcut⟩ := hcut
   obtain ⟨hB1, hF1⟩ := hcut
   have hBl1 : B1.length ≤ 2 * i + 1 := by rw [hB1]; exact bkh_len s l i
   have hFl1 : F1.length ≤ 2 * i + 1 := by rw [hF1]; exact frh_len s l i
   refine zC (zA (mv rfl rfl ?_))
   refine vY (ι := Unit) 4 (fun _ => True) (fun _ => [(56, vB ((qV s l i) ∨ ((sdZ s (l.getD i zT)) < (0 : Int)))), (0, vl), (3, vP b3 0), (6, s6_14), (7, s7_17), (9, vB (qP s l i)), (10, vI ↑i), (11, vP b11 0), (12, vP b12 0), (13, vI (sdZ s (l.getD i zT))), (14, vI (sdZ s (l.getD ((i + 1) % l.length) zT)))]) (fun _ => [.var b12 32 cs_11, .var b11 32 cs_9, .gs 32 9 s7_17 F1.length cs_18, .gs 32 9 s6_14 B1.length cs_15, .var b3 34 cs3]) (fun _ => mc) ?_ ?_
   ·
    refine wL (qV s l i) (fun hg => ?_) (fun hg => ?_)
    ·
     refine xE (yO (v := .bool true) (congrArg some (xL hg))) rfl rfl rfl (yI rfl rfl rfl rfl rfl rfl (yI rfl rfl rfl rfl rfl rfl (gv (xM rfl rfl) rfl (zD ?_))))
     refine yM () trivial ⟨?_, rfl, rfl, rfl, rfl, rfl, rfl, rfl, rfl, rfl, rfl, trivial⟩ rfl rfl
     exact congrArg some (jZ hg)
    refine xE (yO (v := .bool false) (congrArg some (yX hg))) rfl rfl rfl (yY rfl rfl rfl (mv rfl rfl (yY rfl rfl rfl (gv (zW (q := 0) rfl rfl) rfl (gv (xW rfl rfl) rfl (zD ?_))))))
    refine yM () trivial ⟨?_, rfl, rfl, rfl, rfl, rfl, rfl, rfl, rfl, rfl, rfl, trivial⟩ rfl rfl
    exact congrArg some (kA hg)
   intro _ _
   show GL _ _ _ _ _ _ _ [(56, vB ((qV s l i) ∨ ((sdZ s (l.getD i zT)) < (0 : Int)))), (0, vl), (3, vP b3 0), (6, s6_14), (7, s7_17), (9, vB (qP s l i)), (10, vI ↑i), (11, vP b11 0), (12, vP b12 0), (13, vI (sdZ s (l.getD i zT))), (14, vI (sdZ s (l.getD ((i + 1) % l.length) zT)))] [.var b12 32 cs_11, .var b11 32 cs_9, .gs 32 9 s7_17 F1.length cs_18, .gs 32 9 s6_14 B1.length cs_15, .var b3 34 cs3] mc
   refine mv rfl rfl ?_
   refine vY (ι := Unit) 4 (fun _ => True) (fun _ => [(61, vB ((qP s l i) ∨ ((0 : Int) < (sdZ s (l.getD i zT))))), (0, vl), (3, vP b3 0), (6, s6_14), (7, s7_17), (10, vI ↑i), (11, vP b11 0), (12, vP b12 0), (13, vI (sdZ s (l.getD i zT))), (14, vI (sdZ s (l.getD ((i + 1) % l.length) zT))), (56, vB ((qV s l i) ∨ ((sdZ s (l.getD i zT)) < (0 : Int))))]) (fun _ => [.var b12 32 cs_11, .var b11 32 cs_9, .gs 32 9 s7_17 F1.length cs_18, .gs 32 9 s6_14 B1.length cs_15, .var b3 34 cs3]) (fun _ => mc) ?_ ?_
   ·
    refine wL (qP s l i) (fun hg => ?_) (fun hg => ?_)
    ·
     refine xE (yO (v := .bool true) (congrArg some (xL hg))) rfl rfl rfl (yI rfl rfl rfl rfl rfl rfl (yI rfl rfl rfl rfl rfl rfl (gv (xM rfl rfl) rfl (zD ?_))))
     refine yM () trivial ⟨?_, rfl, rfl, rfl, rfl, rfl, rfl, rfl, rfl, rfl, rfl, trivial⟩ rfl rfl
     exact congrArg some (jZ hg)
    refine xE (yO (v := .bool false) (congrArg some (yX hg))) rfl rfl rfl (yY rfl rfl rfl (mv rfl rfl (yY rfl rfl rfl (gv (uH (q := 0) rfl rfl) rfl (gv (xW rfl rfl) rfl (zD ?_))))))
    refine yM () trivial ⟨?_, rfl, rfl, rfl, rfl, rfl, rfl, rfl, rfl, rfl, rfl, trivial⟩ rfl rfl
    exact congrArg some (kA hg)
   intro _ _
   show GL _ _ _ _ _ _ _ [(61, vB ((qP s l i) ∨ ((0 : Int) < (sdZ s (l.getD i zT))))), (0, vl), (3, vP b3 0), (6, s6_14), (7, s7_17), (10, vI ↑i), (11, vP b11 0), (12, vP b12 0), (13, vI (sdZ s (l.getD i zT))), (14, vI (sdZ s (l.getD ((i + 1) % l.length) zT))), (56, vB ((qV s l i) ∨ ((sdZ s (l.getD i zT)) < (0 : Int))))] [.var b12 32 cs_11, .var b11 32 cs_9, .gs 32 9 s7_17 F1.length cs_18, .gs 32 9 s6_14 B1.length cs_15, .var b3 34 cs3] mc
   refine asg rfl rfl (asg rfl rfl (zD (zB (zC (zA (mv rfl rfl (mv rfl rfl (gv (ov_mul_i rfl rfl (by have := mul_range hsd36 hsd39; omega) (by have := mul_range hsd36 hsd39; omega)) rfl (gv (zW (q := 0) rfl rfl) rfl (zD (zB ?_)))))))))))
   refine zN rfl (fun hc65 => ?_) (fun hc65 => ?_)
   ·
    have hx1 : xP s l i := hc65
    refine zC (zA ?_)
    replace rb_10 := rb_10.mono (hh3.trans hmmc)
    refine xX (F := fun v_ => (rpT (rpQ (k + 1))).Is mc v_ (l.getD i zT)) (zE xJ (Pc.here _) rfl rfl rb_10 rfl) (yD mh1) rfl ?_
    intro v66 r66
    replace rb_12 := rb_12.mono (((hh1.trans hh2).trans hh3).trans hmmc)
    refine xX (F := fun v_ => (rpT (rpQ (k + 1))).Is mc v_ (l.getD ((i + 1) % l.length) zT)) (zE xJ (Pc.here _) rfl rfl rb_12 rfl) (yD mh0) rfl ?_
    intro v67 r67
    replace rb3 := rb3.mono (((hh1.trans hh2).trans hh3).trans hmmc)
    refine xX (F := fun v_ => (rpP (rpT (rpQ n)) (rpQ m)).Is mc v_ s) (zE kH (Pc.here _) rfl rfl rb3 rfl) (yD mh4) rfl ?_
    intro v68 r68
    refine zO (vs := [_, _, _]) rfl rfl rfl rfl call49 e3z (fun w hs => o_r6_between hs r66 r67 r68 (by omega) (by omega) (by omega)) ?_
    intro v69 h4 hh4 r69
    change (rpT (rpQ (12 * (k + 1) + 3 * m + 9 * n + 50))).Is h4 v69 (btw s (l.getD i zT) (l.getD ((i + 1) % l.length) zT)) at r69
    replace r69 := Rp.Is.le r69 (Le.t (Le.q (l := 12 * k + 3 * m + 9 * n + 62) (by omega)))
    refine zI (yR (ρ := (rpT (rpQ 1))) (X := zT) yL rfl rfl (wO (wB (by decide)))) rfl rfl rfl ?_
    intro v15 q15 hq15
    obtain ⟨b15, cs15, rfl, rfl, rb15⟩ := hq15
    have rw_21 := (Le.t (Le.q (l := 12 * k + 3 * m + 9 * n + 62) (by omega))).R rb15
    refine wW (A := []) (F := fun c_ => (rpT (rpQ (12 * k + 3 * m + 9 * n + 62))).R h4 c_ (btw s (l.getD i zT) (l.getD ((i + 1) % l.length) zT))) (yJ sizeOf32 (Pc.here _) rfl rfl rfl rw_21 r69 rfl) ?_
    intro cs_22 rb_23
    refine zD (zJ (e' := [(0, _), (3, _), (6, _), (7, _), (10, _), (8, _), (9, _), (15, _)]) e8 (zB ?_))
    refine yF 10 [.var b15 32 cs_22, .var b12 32 cs_11, .var b11 32 cs_9, .var b3 34 cs3] [] [(0, .q), (1, .q), (4, .q), (5, .q), (2, .d 3 6), (7, .c), (8, .q), (9, .q)] xH nX (by kernel_rfl) nX (by intro r hr; simp only [List.mem_cons, List.mem_append, List.not_mem_nil, or_false] at hr ⊢ <;> grind) (yH rfl rfl rfl (yP (F := fun v_ => (rpT (rpQ (12 * k + 3 * m + 9 * n + 62))).Is h4 v_ (btw s (l.getD i zT) (l.getD ((i + 1) % l.length) zT))) rfl (zE xJ (Pc.here _) rfl rfl rb_23 rfl) (yD mh0) rfl ?_))
    intro v71 r71
    refine yH rfl rfl rfl (yP (F := fun v_ => (rpT (rpQ (12 * k + 3 * m + 9 * n + 62))).Is h4 v_ (btw s (l.getD i zT) (l.getD ((i + 1) % l.length) zT))) rfl (zE xJ (Pc.here _) rfl rfl rb_23 rfl) (yD mh0) rfl ?_)
    intro v75 r75
    refine w_d rfl rfl rfl ?_ ?_
    ·
     refine s_new (fun X => wA (ρ := (rpT (rpQ (12 * k + 3 * m + 9 * n + 62)))) (m := 1) (xs := [btw s (l.getD i zT) (l.getD ((i + 1) % l.length) zT)]) (ps' := [(0, _)]) underlying27 yL rfl rfl rfl (wO (wB (by omega))) e2z (yZ rfl (Pc.arr (Pc.here _) zT 0 (by decide)) r71 wH) (show 1 * 9 ≤ 16777216 from by decide) p9N) rfl ?_
     intro v72 q72 hq72
     obtain ⟨cs72, rfl, rl72⟩ := hq72
     refine ⟨?_, ?_⟩
     ·
      refine vT (A := []) (ρ := (rpT (rpQ (12 * k + 3 * m + 9 * n + 62)))) rl72 (vW (by first | (simp; done) | grind)) ?_
      intro h5 hh5 rs_24
      replace rl_16 := rl_16.mono (hh4.trans hh5)
      refine s_rep (A := [_, _, _, _]) (fun X => xK (ρ := (rpT (rpQ (12 * k + 3 * m + 9 * n + 62)))) (bytes := 168) underlying27 yL rfl rfl rfl rfl p9N rfl rfl rl_16 rs_24 (by first | omega | (simp only [lAz, lC, lN, lR, lS]; omega)) (by first | omega | (simp only [lAz, lC, lN, lR, lS]; omega))) rfl (wV (by first | (simp; done) | grind)) ?_
      intro v73 q73 hq73
      obtain ⟨cs73, rfl, rl73⟩ := hq73
      replace r75 := r75.mono hh5
      refine s_new (fun X => wA (ρ := (rpT (rpQ (12 * k + 3 * m + 9 * n + 62)))) (m := 1) (xs := [btw s (l.getD i zT) (l.getD ((i + 1) % l.length) zT)]) (ps' := [(0, _)]) underlying27 yL rfl rfl rfl (wO (wB (by omega))) e2z (yZ rfl (Pc.arr (Pc.here _) zT 0 (by decide)) r75 wH) (show 1 * 9 ≤ 16777216 from by decide) p9N) rfl ?_
      intro v76 q76 hq76
      obtain ⟨cs76, rfl, rl76⟩ := hq76
      refine w_c rfl (vT (A := []) (ρ := (rpT (rpQ (12 * k + 3 * m + 9 * n + 62)))) rl76 (vW (by first | (simp; done) | grind)) ?_)
      intro h6 hh6 rs_25
      replace rl_19 := rl_19.mono ((hh4.trans hh5).trans hh6)
      refine s_rep (A := [_, _, _]) (fun X => xK (ρ := (rpT (rpQ (12 * k + 3 * m + 9 * n + 62)))) (bytes := 168) underlying27 yL rfl rfl rfl rfl p9N rfl rfl rl_19 rs_25 (by first | omega | (simp only [lAz, lC, lN, lR, lS]; omega)) (by first | omega | (simp only [lAz, lC, lN, lR, lS]; omega))) rfl (wV (by first | (simp; done) | grind)) ?_
      intro v77 q77 hq77
      obtain ⟨cs77, rfl, rl77⟩ := hq77
      refine uG rfl rfl rfl (uG rfl rfl rfl (xB (xC (zB (zA (mv rfl rfl (gv (zS (q := 1) rfl rfl (by omega) (by omega)) rfl (asg rfl rfl (zD (wQ (A := []) (wQ (A := []) (wQ (A := []) ?_))))))))))))
      refine yV ((i + 1), (B1 ++ [btw s (l.getD i zT) (l.getD ((i + 1) % l.length) zT)]), (F1 ++ [btw s (l.getD i zT) (l.getD ((i + 1) % l.length) zT)]), v73, cs73, v77, cs77, h6) ?_ ?_ e7 rfl rfl
      ·
       refine ⟨(((((((hmmb.trans hh1).trans hh2).trans hh3).trans hmmc).trans hh4).trans hh5).trans hh6), ?_⟩
       replace rl73 := rl73.mono hh6
       refine ⟨rl73, rl77, ?_⟩
       exact ⟨⟨by omega, (by first | exact bk_y hB1 hx1 | exact bk_z hB1 hx1)⟩, (by first | exact fr_y hF1 hx1 | exact fr_z hF1 hx1)⟩
      dsimp only
      omega
     refine s_new (fun X => wA (ρ := (rpT (rpQ (12 * k + 3 * m + 9 * n + 62)))) (m := 1) (xs := [btw s (l.getD i zT) (l.getD ((i + 1) % l.length) zT)]) (ps' := [(0, _)]) underlying27 yL rfl rfl rfl (wO (wB (by omega))) e2z (yZ rfl (Pc.arr (Pc.here _) zT 0 (by decide)) r75 wH) (show 1 * 9 ≤ 16777216 from by decide) p9N) rfl ?_
     intro v76 q76 hq76
     obtain ⟨cs76, rfl, rl76⟩ := hq76
     refine vT (A := [_]) (ρ := (rpT (rpQ (12 * k + 3 * m + 9 * n + 62)))) rl72 (vW (by first | (simp; done) | grind)) ?_
     intro h5 hh5 rs_26
     replace rl_16 := rl_16.mono (hh4.trans hh5)
     refine s_rep (A := [_, _, _, _, _]) (fun X => xK (ρ := (rpT (rpQ (12 * k + 3 * m + 9 * n + 62)))) (bytes := 168) underlying27 yL rfl rfl rfl rfl p9N rfl rfl rl_16 rs_26 (by first | omega | (simp only [lAz, lC, lN, lR, lS]; omega)) (by first | omega | (simp only [lAz, lC, lN, lR, lS]; omega))) rfl (wV (by first | (simp; done) | grind)) ?_
     intro v73 q73 hq73
     obtain ⟨cs73, rfl, rl73⟩ := hq73
     refine w_c rfl ?_
     replace rl76 := rl76.mono hh5
     refine vT (A := []) (ρ := (rpT (rpQ (12 * k + 3 * m + 9 * n + 62)))) rl76 (vW (by first | (simp; done) | grind)) ?_
     intro h6 hh6 rs_27
     replace rl_19 := rl_19.mono ((hh4.trans hh5).trans hh6)
     refine s_rep (A := [_, _, _]) (fun X => xK (ρ := (rpT (rpQ (12 * k + 3 * m + 9 * n + 62)))) (bytes := 168) underlying27 yL rfl rfl rfl rfl p9N rfl rfl rl_19 rs_27 (by first | omega | (simp only [lAz, lC, lN, lR, lS]; omega)) (by first | omega | (simp only [lAz, lC, lN, lR, lS]; omega))) rfl (wV (by first | (simp; done) | grind)) ?_
     intro v77 q77 hq77
     obtain ⟨cs77, rfl, rl77⟩ := hq77
     refine uG rfl rfl rfl (uG rfl rfl rfl (xB (xC (zB (zA (mv rfl rfl (gv (zS (q := 1) rfl rfl (by omega) (by omega)) rfl (asg rfl rfl (zD (wQ (A := []) (wQ (A := []) (wQ (A := []) ?_))))))))))))
     refine yV ((i + 1), (B1 ++ [btw s (l.getD i zT) (l.getD ((i + 1) % l.length) zT)]), (F1 ++ [btw s (l.getD i zT) (l.getD ((i + 1) % l.length) zT)]), v73, cs73, v77, cs77, h6) ?_ ?_ e7 rfl rfl
     ·
      refine ⟨(((((((hmmb.trans hh1).trans hh2).trans hh3).trans hmmc).trans hh4).trans hh5).trans hh6), ?_⟩
      replace rl73 := rl73.mono hh6
      refine ⟨rl73, rl77, ?_⟩
      exact ⟨⟨by omega, (by first | exact bk_y hB1 hx1 | exact bk_z hB1 hx1)⟩, (by first | exact fr_y hF1 hx1 | exact fr_z hF1 hx1)⟩
     dsimp only
     omega
    refine s_new (fun X => wA (ρ := (rpT (rpQ (12 * k + 3 * m + 9 * n + 62)))) (m := 1) (xs := [btw s (l.getD i zT) (l.getD ((i + 1) % l.length) zT)]) (ps' := [(0, _)]) underlying27 yL rfl rfl rfl (wO (wB (by omega))) e2z (yZ rfl (Pc.arr (Pc.here _) zT 0 (by decide)) r75 wH) (show 1 * 9 ≤ 16777216 from by decide) p9N) rfl ?_
    intro v76 q76 hq76
    obtain ⟨cs76, rfl, rl76⟩ := hq76
    refine s_new (fun X => wA (ρ := (rpT (rpQ (12 * k + 3 * m + 9 * n + 62)))) (m := 1) (xs := [btw s (l.getD i zT) (l.getD ((i + 1) % l.length) zT)]) (ps' := [(0, _)]) underlying27 yL rfl rfl rfl (wO (wB (by omega))) e2z (yZ rfl (Pc.arr (Pc.here _) zT 0 (by decide)) r71 wH) (show 1 * 9 ≤ 16777216 from by decide) p9N) rfl ?_
    intro v72 q72 hq72
    obtain ⟨cs72, rfl, rl72⟩ := hq72
    refine vT (A := []) (ρ := (rpT (rpQ (12 * k + 3 * m + 9 * n + 62)))) rl72 (vW (by first | (simp; done) | grind)) ?_
    intro h5 hh5 rs_28
    replace rl_16 := rl_16.mono (hh4.trans hh5)
    refine s_rep (A := [_, _, _, _, _]) (fun X => xK (ρ := (rpT (rpQ (12 * k + 3 * m + 9 * n + 62)))) (bytes := 168) underlying27 yL rfl rfl rfl rfl p9N rfl rfl rl_16 rs_28 (by first | omega | (simp only [lAz, lC, lN, lR, lS]; omega)) (by first | omega | (simp only [lAz, lC, lN, lR, lS]; omega))) rfl (wV (by first | (simp; done) | grind)) ?_
    intro v73 q73 hq73
    obtain ⟨cs73, rfl, rl73⟩ := hq73
    refine w_c rfl ?_
    replace rl76 := rl76.mono hh5
    refine vT (A := []) (ρ := (rpT (rpQ (12 * k + 3 * m + 9 * n + 62)))) rl76 (vW (by first | (simp; done) | grind)) ?_
    intro h6 hh6 rs_29
    replace rl_19 := rl_19.mono ((hh4.trans hh5).trans hh6)
    refine s_rep (A := [_, _, _]) (fun X => xK (ρ := (rpT (rpQ (12 * k + 3 * m + 9 * n + 62)))) (bytes := 168) underlying27 yL rfl rfl rfl rfl p9N rfl rfl rl_19 rs_29 (by first | omega | (simp only [lAz, lC, lN, lR, lS]; omega)) (by first | omega | (simp only [lAz, lC, lN, lR, lS]; omega))) rfl (wV (by first | (simp; done) | grind)) ?_
    intro v77 q77 hq77
    obtain ⟨cs77, rfl, rl77⟩ := hq77
    refine uG rfl rfl rfl (uG rfl rfl rfl (xB (xC (zB (zA (mv rfl rfl (gv (zS (q := 1) rfl rfl (by omega) (by omega)) rfl (asg rfl rfl (zD (wQ (A := []) (wQ (A := []) (wQ (A := []) ?_))))))))))))
    refine yV ((i + 1), (B1 ++ [btw s (l.getD i zT) (l.getD ((i + 1) % l.length) zT)]), (F1 ++ [btw s (l.getD i zT) (l.getD ((i + 1) % l.length) zT)]), v73, cs73, v77, cs77, h6) ?_ ?_ e7 rfl rfl
    ·
     refine ⟨(((((((hmmb.trans hh1).trans hh2).trans hh3).trans hmmc).trans hh4).trans hh5).trans hh6), ?_⟩
     replace rl73 := rl73.mono hh6
     refine ⟨rl73, rl77, ?_⟩
     exact ⟨⟨by omega, (by first | exact bk_y hB1 hx1 | exact bk_z hB1 hx1)⟩, (by first | exact fr_y hF1 hx1 | exact fr_z hF1 hx1)⟩
    dsimp only
    omega
   have hx1 : ¬ xP s l i := hc65
   refine wJ (e' := [(0, _), (3, _), (6, _), (7, _), (10, _), (8, _), (9, _)]) e7 (zK (xC (zB (zA (mv rfl rfl (gv (zS (q := 1) rfl rfl (by omega) (by omega)) rfl (asg rfl rfl (zD (wQ (A := []) (wQ (A := []) ?_))))))))))
   refine yV ((i + 1), B1, F1, s6_14, cs_15, s7_17, cs_18, mc) ?_ ?_ e7 rfl rfl
   ·
    refine ⟨((((hmmb.trans hh1).trans hh2).trans hh3).trans hmmc), ?_⟩
    refine ⟨rl_16, rl_19, ?_⟩
    exact ⟨⟨by omega, (by first | exact bk_y hB1 hx1 | exact bk_z hB1 hx1)⟩, (by first | exact fr_y hF1 hx1 | exact fr_z hF1 hx1)⟩
   dsimp only
   omega
  have hp1 : ¬ sdZ s (gp l i) ≤ 0 := hc41
  refine zK (zB ?_)
  refine jX (ι := List (T3 Rat) × List (T3 Rat) × Value × List Value × Value × List Value × Mem) (fun (B1, F1, s6_30, cs_31, s7_33, cs_34, mc) => MLe h2 mc ∧ (RL (rpT (rpQ (12 * k + 3 * m + 9 * n + 62))) mc cs_31 B1 ∧ RL (rpT (rpQ (12 * k + 3 * m + 9 * n + 62))) mc cs_34 F1 ∧ B1 = bkH s l i ∧ F1 = frH s l i)) (fun (B1, F1, s6_30, cs_31, s7_33, cs_34, mc) => [(0, vl), (3, vP b3 0), (6, s6_30), (7, s7_33), (8, vB (qV s l i)), (9, vB (qP s l i)), (10, vI ↑i), (11, vP b11 0), (12, vP b12 0), (13, vI (sdZ s (l.getD i zT))), (14, vI (sdZ s (l.getD ((i + 1) % l.length) zT)))]) (fun (B1, F1, s6_30, cs_31, s7_33, cs_34, mc) => [.var b12 32 cs_11, .var b11 32 cs_9, .gs 32 9 s7_33 F1.length cs_34, .gs 32 9 s6_30 B1.length cs_31, .var b3 34 cs3]) (fun (B1, F1, s6_30, cs_31, s7_33, cs_34, mc) => mc) ?_ ?_
  ·
   refine zC (zA (mv rfl rfl (gv (qT (q := 0) rfl rfl) rfl (zD (zB ?_)))))
   refine zN rfl (fun hc47 => ?_) (fun hc47 => ?_)
   ·
    have hp2 : 0 ≤ sdZ s (gp l i) := hc47
    refine wJ (e' := [(0, _), (3, _), (6, _), (7, _), (8, _), (9, _), (10, _), (11, _), (12, _), (13, _), (14, _)]) e11 (zA (mv rfl rfl ?_))
    replace rb_10 := rb_10.mono (hh1.trans hh2)
    refine xX (F := fun v_ => (rpT (rpQ (k + 1))).Is h2 v_ (l.getD i zT)) (zE xJ (Pc.here _) rfl rfl rb_10 rfl) (yD mh1) rfl ?_
    intro v49 r49
    refine zI (wA (ρ := (rpT (rpQ (k + 1)))) (m := 1) (xs := [(l.getD i zT)]) (ps' := [(0, _)]) underlying27 yL rfl rfl rfl (wO (wB (by omega))) e2z (yZ rfl (Pc.arr (Pc.here _) zT 0 (by decide)) r49 wH) (show 1 * 9 ≤ 16777216 from by decide) p9N) rfl rfl rfl ?_
    intro v50 q50 hq50
    obtain ⟨cs50, rfl, rl50⟩ := hq50
    refine qN (A := []) (ρ := (rpT (rpQ (k + 1)))) rl50 ?_
    intro h3 hh3 rs_36
    replace rl_8 := rl_8.mono ((hh1.trans hh2).trans hh3)
    refine qH (A := [_, _]) (xK (ρ := (rpT (rpQ (12 * k + 3 * m + 9 * n + 62)))) (bytes := 168) underlying27 yL rfl rfl rfl rfl p9N rfl rfl rl_8 (rs_36.le (Le.s (Le.t (Le.q (l := 12 * k + 3 * m + 9 * n + 62) (by omega))))) (by first | omega | (simp only [lAz, lC, lN, lR, lS]; omega)) (by first | omega | (simp only [lAz, lC, lN, lR, lS]; omega))) rfl rfl rfl ?_
    intro v51 q51 hq51
    obtain ⟨cs51, rfl, rl51⟩ := hq51
    refine asg rfl rfl (zD ?_)
    refine yM (B, (F ++ [(l.getD i zT)]), s6_3, cs_4, v51, cs51, h3) ?_ e11 rfl rfl
    refine ⟨hh3, ?_⟩
    replace rl_5 := rl_5.mono ((hh1.trans hh2).trans hh3)
    refine ⟨rl_5, rl51, ?_⟩
    exact ⟨by first | exact bk_h1 hB hp1 | exact bk_h0 hB hp1, by first | exact fr_h1 hF hp2 | exact fr_h0 hF hp2⟩
   have hp2 : ¬ 0 ≤ sdZ s (gp l i) := hc47
   refine wJ (e' := [(0, _), (3, _), (6, _), (7, _), (8, _), (9, _), (10, _), (11, _), (12, _), (13, _), (14, _)]) e11 (zK ?_)
   refine yM (B, F, s6_3, cs_4, s7_6, cs_7, h2) ?_ e11 rfl rfl
   refine ⟨MLe.refl _, ?_⟩
   replace rl_5 := rl_5.mono (hh1.trans hh2)
   replace rl_8 := rl_8.mono (hh1.trans hh2)
   refine ⟨rl_5, rl_8, ?_⟩
   exact ⟨by first | exact bk_h1 hB hp1 | exact bk_h0 hB hp1, by first | exact fr_h1 hF hp2 | exact fr_h0 hF hp2⟩
  intro x hx
  obtain ⟨B1, F1, s6_30, cs_31, s7_33, cs_34, mc⟩ := x
  obtain ⟨hmmc, hcut⟩ := hx
  show GC _ _ _ _ _ _ [(0, vl), (3, vP b3 0), (6, s6_30), (7, s7_33), (8, vB (qV s l i)), (9, vB (qP s l i)), (10, vI ↑i), (11, vP b11 0), (12, vP b12 0), (13, vI (sdZ s (l.getD i zT))), (14, vI (sdZ s (l.getD ((i + 1) % l.length) zT)))] [.var b12 32 cs_11, .var b11 32 cs_9, .gs 32 9 s7_33 F1.length cs_34, .gs 32 9 s6_30 B1.length cs_31, .var b3 34 cs3] mc
  obtain ⟨rl_32, rl_35, hcut⟩ := hcut
  obtain ⟨hB1, hF1⟩ := hcut
  have hBl1 : B1.length ≤ 2 * i + 1 := by rw [hB1]; exact bkh_len s l i
  have hFl1 : F1.length ≤ 2 * i + 1 := by rw [hF1]; exact frh_len s l i
  refine zC (zA (mv rfl rfl ?_))
  refine vY (ι := Unit) 4 (fun _ => True) (fun _ => [(56, vB ((qV s l i) ∨ ((sdZ s (l.getD i zT)) < (0 : Int)))), (0, vl), (3, vP b3 0), (6, s6_30), (7, s7_33), (9, vB (qP s l i)), (10, vI ↑i), (11, vP b11 0), (12, vP b12 0), (13, vI (sdZ s (l.getD i zT))), (14, vI (sdZ s (l.getD ((i + 1) % l.length) zT)))]) (fun _ => [.var b12 32 cs_11, .var b11 32 cs_9, .gs 32 9 s7_33 F1.length cs_34, .gs 32 9 s6_30 B1.length cs_31, .var b3 34 cs3]) (fun _ => mc) ?_ ?_
  ·
   refine wL (qV s l i) (fun hg => ?_) (fun hg => ?_)
   ·
    refine xE (yO (v := .bool true) (congrArg some (xL hg))) rfl rfl rfl (yI rfl rfl rfl rfl rfl rfl (yI rfl rfl rfl rfl rfl rfl (gv (xM rfl rfl) rfl (zD ?_))))
    refine yM () trivial ⟨?_, rfl, rfl, rfl, rfl, rfl, rfl, rfl, rfl, rfl, rfl, trivial⟩ rfl rfl
    exact congrArg some (jZ hg)
   refine xE (yO (v := .bool false) (congrArg some (yX hg))) rfl rfl rfl (yY rfl rfl rfl (mv rfl rfl (yY rfl rfl rfl (gv (zW (q := 0) rfl rfl) rfl (gv (xW rfl rfl) rfl (zD ?_))))))
   refine yM () trivial ⟨?_, rfl, rfl, rfl, rfl, rfl, rfl, rfl, rfl, rfl, rfl, trivial⟩ rfl rfl
   exact congrArg some (kA hg)
  intro _ _
  show GL _ _ _ _ _ _ _ [(56, vB ((qV s l i) ∨ ((sdZ s (l.getD i zT)) < (0 : Int)))), (0, vl), (3, vP b3 0), (6, s6_30), (7, s7_33), (9, vB (qP s l i)), (10, vI ↑i), (11, vP b11 0), (12, vP b12 0), (13, vI (sdZ s (l.getD i zT))), (14, vI (sdZ s (l.getD ((i + 1) % l.length) zT)))] [.var b12 32 cs_11, .var b11 32 cs_9, .gs 32 9 s7_33 F1.length cs_34, .gs 32 9 s6_30 B1.length cs_31, .var b3 34 cs3] mc
  refine mv rfl rfl ?_
  refine vY (ι := Unit) 4 (fun _ => True) (fun _ => [(61, vB ((qP s l i) ∨ ((0 : Int) < (sdZ s (l.getD i zT))))), (0, vl), (3, vP b3 0), (6, s6_30), (7, s7_33), (10, vI ↑i), (11, vP b11 0), (12, vP b12 0), (13, vI (sdZ s (l.getD i zT))), (14, vI (sdZ s (l.getD ((i + 1) % l.length) zT))), (56, vB ((qV s l i) ∨ ((sdZ s (l.getD i zT)) < (0 : Int))))]) (fun _ => [.var b12 32 cs_11, .var b11 32 cs_9, .gs 32 9 s7_33 F1.length cs_34, .gs 32 9 s6_30 B1.length cs_31, .var b3 34 cs3]) (fun _ => mc) ?_ ?_
  ·
   refine wL (qP s l i) (fun hg => ?_) (fun hg => ?_)
   ·
    refine xE (yO (v := .bool true) (congrArg some (xL hg))) rfl rfl rfl (yI rfl rfl rfl rfl rfl rfl (yI rfl rfl rfl rfl rfl rfl (gv (xM rfl rfl) rfl (zD ?_))))
    refine yM () trivial ⟨?_, rfl, rfl, rfl, rfl, rfl, rfl, rfl, rfl, rfl, rfl, trivial⟩ rfl rfl
    exact congrArg some (jZ hg)
   refine xE (yO (v := .bool false) (congrArg some (yX hg))) rfl rfl rfl (yY rfl rfl rfl (mv rfl rfl (yY rfl rfl rfl (gv (uH (q := 0) rfl rfl) rfl (gv (xW rfl rfl) rfl (zD ?_))))))
   refine yM () trivial ⟨?_, rfl, rfl, rfl, rfl, rfl, rfl, rfl, rfl, rfl, rfl, trivial⟩ rfl rfl
   exact congrArg some (kA hg)
  intro _ _
  show GL _ _ _ _ _ _ _ [(61, vB ((qP s l i) ∨ ((0 : Int) < (sdZ s (l.getD i zT))))), (0, vl), (3, vP b3 0), (6, s6_30), (7, s7_33), (10, vI ↑i), (11, vP b11 0), (12, vP b12 0), (13, vI (sdZ s (l.getD i zT))), (14, vI (sdZ s (l.getD ((i + 1) % l.length) zT))), (56, vB ((qV s l i) ∨ ((sdZ s (l.getD i zT)) < (0 : Int))))] [.var b12 32 cs_11, .var b11 32 cs_9, .gs 32 9 s7_33 F1.length cs_34, .gs 32 9 s6_30 B1.length cs_31, .var b3 34 cs3] mc
  refine asg rfl rfl (asg rfl rfl (zD (zB (zC (zA (mv rfl rfl (mv rfl rfl (gv (ov_mul_i rfl rfl (by have := mul_range hsd36 hsd39; omega) (by have := mul_range hsd36 hsd39; omega)) rfl (gv (zW (q := 0) rfl rfl) rfl (zD (zB ?_)))))))))))
  refine zN rfl (fun hc65 => ?_) (fun hc65 => ?_)
  ·
   have hx1 : xP s l i := hc65
   refine zC (zA ?_)
   replace rb_10 := rb_10.mono ((hh1.trans hh2).trans hmmc)
   refine xX (F := fun v_ => (rpT (rpQ (k + 1))).Is mc v_ (l.getD i zT)) (zE xJ (Pc.here _) rfl rfl rb_10 rfl) (yD mh1) rfl ?_
   intro v66 r66
   replace rb_12 := rb_12.mono ((hh1.trans hh2).trans hmmc)
   refine xX (F := fun v_ => (rpT (rpQ (k + 1))).Is mc v_ (l.getD ((i + 1) % l.length) zT)) (zE xJ (Pc.here _) rfl rfl rb_12 rfl) (yD mh0) rfl ?_
   intro v67 r67
   replace rb3 := rb3.mono ((hh1.trans hh2).trans hmmc)
   refine xX (F := fun v_ => (rpP (rpT (rpQ n)) (rpQ m)).Is mc v_ s) (zE kH (Pc.here _) rfl rfl rb3 rfl) (yD mh4) rfl ?_
   intro v68 r68
   refine zO (vs := [_, _, _]) rfl rfl rfl rfl call49 e3z (fun w hs => o_r6_between hs r66 r67 r68 (by omega) (by omega) (by omega)) ?_
   intro v69 h3 hh3 r69
   change (rpT (rpQ (12 * (k + 1) + 3 * m + 9 * n + 50))).Is h3 v69 (btw s (l.getD i zT) (l.getD ((i + 1) % l.length) zT)) at r69
   replace r69 := Rp.Is.le r69 (Le.t (Le.q (l := 12 * k + 3 * m + 9 * n + 62) (by omega)))
   refine zI (yR (ρ := (rpT (rpQ 1))) (X := zT) yL rfl rfl (wO (wB (by decide)))) rfl rfl rfl ?_
   intro v15 q15 hq15
   obtain ⟨b15, cs15, rfl, rfl, rb15⟩ := hq15
   have rw_37 := (Le.t (Le.q (l := 12 * k + 3 * m + 9 * n + 62) (by omega))).R rb15
   refine wW (A := []) (F := fun c_ => (rpT (rpQ (12 * k + 3 * m + 9 * n + 62))).R h3 c_ (btw s (l.getD i zT) (l.getD ((i + 1) % l.length) zT))) (yJ sizeOf32 (Pc.here _) rfl rfl rfl rw_37 r69 rfl) ?_
   intro cs_38 rb_39
   refine zD (zJ (e' := [(0, _), (3, _), (6, _), (7, _), (10, _), (8, _), (9, _), (15, _)]) e8 (zB ?_))
   refine yF 10 [.var b15 32 cs_38, .var b12 32 cs_11, .var b11 32 cs_9, .var b3 34 cs3] [] [(0, .q), (1, .q), (4, .q), (5, .q), (2, .d 3 6), (7, .c), (8, .q), (9, .q)] xH nX (by kernel_rfl) nX (by intro r hr; simp only [List.mem_cons, List.mem_append, List.not_mem_nil, or_false] at hr ⊢ <;> grind) (yH rfl rfl rfl (yP (F := fun v_ => (rpT (rpQ (12 * k + 3 * m + 9 * n + 62))).Is h3 v_ (btw s (l.getD i zT) (l.getD ((i + 1) % l.length) zT))) rfl (zE xJ (Pc.here _) rfl rfl rb_39 rfl) (yD mh0) rfl ?_))
   intro v71 r71
   refine yH rfl rfl rfl (yP (F := fun v_ => (rpT (rpQ (12 * k + 3 * m + 9 * n + 62))).Is h3 v_ (btw s (l.getD i zT) (l.getD ((i + 1) % l.length) zT))) rfl (zE xJ (Pc.here _) rfl rfl rb_39 rfl) (yD mh0) rfl ?_)
   intro v75 r75
   refine w_d rfl rfl rfl ?_ ?_
   ·
    refine s_new (fun X => wA (ρ := (rpT (rpQ (12 * k + 3 * m + 9 * n + 62)))) (m := 1) (xs := [btw s (l.getD i zT) (l.getD ((i + 1) % l.length) zT)]) (ps' := [(0, _)]) underlying27 yL rfl rfl rfl (wO (wB (by omega))) e2z (yZ rfl (Pc.arr (Pc.here _) zT 0 (by decide)) r71 wH) (show 1 * 9 ≤ 16777216 from by decide) p9N) rfl ?_
    intro v72 q72 hq72
    obtain ⟨cs72, rfl, rl72⟩ := hq72
    refine ⟨?_, ?_⟩
    ·
     refine vT (A := []) (ρ := (rpT (rpQ (12 * k + 3 * m + 9 * n + 62)))) rl72 (vW (by first | (simp; done) | grind)) ?_
     intro h4 hh4 rs_40
     replace rl_32 := rl_32.mono (hh3.trans hh4)
     refine s_rep (A := [_, _, _, _]) (fun X => xK (ρ := (rpT (rpQ (12 * k + 3 * m + 9 * n + 62)))) (bytes := 168) underlying27 yL rfl rfl rfl rfl p9N rfl rfl rl_32 rs_40 (by first | omega | (simp only [lAz, lC, lN, lR, lS]; omega)) (by first | omega | (simp only [lAz, lC, lN, lR, lS]; omega))) rfl (wV (by first | (simp; done) | grind)) ?_
     intro v73 q73 hq73
     obtain ⟨cs73, rfl, rl73⟩ := hq73
     replace r75 := r75.mono hh4
     refine s_new (fun X => wA (ρ := (rpT (rpQ (12 * k + 3 * m + 9 * n + 62)))) (m := 1) (xs := [btw s (l.getD i zT) (l.getD ((i + 1) % l.length) zT)]) (ps' := [(0, _)]) underlying27 yL rfl rfl rfl (wO (wB (by omega))) e2z (yZ rfl (Pc.arr (Pc.here _) zT 0 (by decide)) r75 wH) (show 1 * 9 ≤ 16777216 from by decide) p9N) rfl ?_
     intro v76 q76 hq76
     obtain ⟨cs76, rfl, rl76⟩ := hq76
     refine w_c rfl (vT (A := []) (ρ := (rpT (rpQ (12 * k + 3 * m + 9 * n + 62)))) rl76 (vW (by first | (simp; done) | grind)) ?_)
     intro h5 hh5 rs_41
     replace rl_35 := rl_35.mono ((hh3.trans hh4).trans hh5)
     refine s_rep (A := [_, _, _]) (fun X => xK (ρ := (rpT (rpQ (12 * k + 3 * m + 9 * n + 62)))) (bytes := 168) underlying27 yL rfl rfl rfl rfl p9N rfl rfl rl_35 rs_41 (by first | omega | (simp only [lAz, lC, lN, lR, lS]; omega)) (by first | omega | (simp only [lAz, lC, lN, lR, lS]; omega))) rfl (wV (by first | (simp; done) | grind)) ?_
     intro v77 q77 hq77
     obtain ⟨cs77, rfl, rl77⟩ := hq77
     refine uG rfl rfl rfl (uG rfl rfl rfl (xB (xC (zB (zA (mv rfl rfl (gv (zS (q := 1) rfl rfl (by omega) (by omega)) rfl (asg rfl rfl (zD (wQ (A := []) (wQ (A := []) (wQ (A := []) ?_))))))))))))
     refine yV ((i + 1), (B1 ++ [btw s (l.getD i zT) (l.getD ((i + 1) % l.length) zT)]), (F1 ++ [btw s (l.getD i zT) (l.getD ((i + 1) % l.length) zT)]), v73, cs73, v77, cs77, h5) ?_ ?_ e7 rfl rfl
     ·
      refine ⟨((((((hmmb.trans hh1).trans hh2).trans hmmc).trans hh3).trans hh4).trans hh5), ?_⟩
      replace rl73 := rl73.mono hh5
      refine ⟨rl73, rl77, ?_⟩
      exact ⟨⟨by omega, (by first | exact bk_y hB1 hx1 | exact bk_z hB1 hx1)⟩, (by first | exact fr_y hF1 hx1 | exact fr_z hF1 hx1)⟩
     dsimp only
     omega
    refine s_new (fun X => wA (ρ := (rpT (rpQ (12 * k + 3 * m + 9 * n + 62)))) (m := 1) (xs := [btw s (l.getD i zT) (l.getD ((i + 1) % l.length) zT)]) (ps' := [(0, _)]) underlying27 yL rfl rfl rfl (wO (wB (by omega))) e2z (yZ rfl (Pc.arr (Pc.here _) zT 0 (by decide)) r75 wH) (show 1 * 9 ≤ 16777216 from by decide) p9N) rfl ?_
    intro v76 q76 hq76
    obtain ⟨cs76, rfl, rl76⟩ := hq76
    refine vT (A := [_]) (ρ := (rpT (rpQ (12 * k + 3 * m + 9 * n + 62)))) rl72 (vW (by first | (simp; done) | grind)) ?_
    intro h4 hh4 rs_42
    replace rl_32 := rl_32.mono (hh3.trans hh4)
    refine s_rep (A := [_, _, _, _, _]) (fun X => xK (ρ := (rpT (rpQ (12 * k + 3 * m + 9 * n + 62)))) (bytes := 168) underlying27 yL rfl rfl rfl rfl p9N rfl rfl rl_32 rs_42 (by first | omega | (simp only [lAz, lC, lN, lR, lS]; omega)) (by first | omega | (simp only [lAz, lC, lN, lR, lS]; omega))) rfl (wV (by first | (simp; done) | grind)) ?_
    intro v73 q73 hq73
    obtain ⟨cs73, rfl, rl73⟩ := hq73
    refine w_c rfl ?_
    replace rl76 := rl76.mono hh4
    refine vT (A := []) (ρ := (rpT (rpQ (12 * k + 3 * m + 9 * n + 62)))) rl76 (vW (by first | (simp; done) | grind)) ?_
    intro h5 hh5 rs_43
    replace rl_35 := rl_35.mono ((hh3.trans hh4).trans hh5)
    refine s_rep (A := [_, _, _]) (fun X => xK (ρ := (rpT (rpQ (12 * k + 3 * m + 9 * n + 62)))) (bytes := 168) underlying27 yL rfl rfl rfl rfl p9N rfl rfl rl_35 rs_43 (by first | omega | (simp only [lAz, lC, lN, lR, lS]; omega)) (by first | omega | (simp only [lAz, lC, lN, lR, lS]; omega))) rfl (wV (by first | (simp; done) | grind)) ?_
    intro v77 q77 hq77
    obtain ⟨cs77, rfl, rl77⟩ := hq77
    refine uG rfl rfl rfl (uG rfl rfl rfl (xB (xC (zB (zA (mv rfl rfl (gv (zS (q := 1) rfl rfl (by omega) (by omega)) rfl (asg rfl rfl (zD (wQ (A := []) (wQ (A := []) (wQ (A := []) ?_))))))))))))
    refine yV ((i + 1), (B1 ++ [btw s (l.getD i zT) (l.getD ((i + 1) % l.length) zT)]), (F1 ++ [btw s (l.getD i zT) (l.getD ((i + 1) % l.length) zT)]), v73, cs73, v77, cs77, h5) ?_ ?_ e7 rfl rfl
    ·
     refine ⟨((((((hmmb.trans hh1).trans hh2).trans hmmc).trans hh3).trans hh4).trans hh5), ?_⟩
     replace rl73 := rl73.mono hh5
     refine ⟨rl73, rl77, ?_⟩
     exact ⟨⟨by omega, (by first | exact bk_y hB1 hx1 | exact bk_z hB1 hx1)⟩, (by first | exact fr_y hF1 hx1 | exact fr_z hF1 hx1)⟩
    dsimp only
    omega
   refine s_new (fun X => wA (ρ := (rpT (rpQ (12 * k + 3 * m + 9 * n + 62)))) (m := 1) (xs := [btw s (l.getD i zT) (l.getD ((i + 1) % l.length) zT)]) (ps' := [(0, _)]) underlying27 yL rfl rfl rfl (wO (wB (by omega))) e2z (yZ rfl (Pc.arr (Pc.here _) zT 0 (by decide)) r75 wH) (show 1 * 9 ≤ 16777216 from by decide) p9N) rfl ?_
   intro v76 q76 hq76
   obtain ⟨cs76, rfl, rl76⟩ := hq76
   refine s_new (fun X => wA (ρ := (rpT (rpQ (12 * k + 3 * m + 9 * n + 62)))) (m := 1) (xs := [btw s (l.getD i zT) (l.getD ((i + 1) % l.length) zT)]) (ps' := [(0, _)]) underlying27 yL rfl rfl rfl (wO (wB (by omega))) e2z (yZ rfl (Pc.arr (Pc.here _) zT 0 (by decide)) r71 wH) (show 1 * 9 ≤ 16777216 from by decide) p9N) rfl ?_
   intro v72 q72 hq72
   obtain ⟨cs72, rfl, rl72⟩ := hq72
   refine vT (A := []) (ρ := (rpT (rpQ (12 * k + 3 * m + 9 * n + 62)))) rl72 (vW (by first | (simp; done) | grind)) ?_
   intro h4 hh4 rs_44
   replace rl_32 := rl_32.mono (hh3.trans hh4)
   refine s_rep (A := [_, _, _, _, _]) (fun X => xK (ρ := (rpT (rpQ (12 * k + 3 * m + 9 * n + 62)))) (bytes := 168) underlying27 yL rfl rfl rfl rfl p9N rfl rfl rl_32 rs_44 (by first | omega | (simp only [lAz, lC, lN, lR, lS]; omega)) (by first | omega | (simp only [lAz, lC, lN, lR, lS]; omega))) rfl (wV (by first | (simp; done) | grind)) ?_
   intro v73 q73 hq73
   obtain ⟨cs73, rfl, rl73⟩ := hq73
   refine w_c rfl ?_
   replace rl76 := rl76.mono hh4
   refine vT (A := []) (ρ := (rpT (rpQ (12 * k + 3 * m + 9 * n + 62)))) rl76 (vW (by first | (simp; done) | grind)) ?_
   intro h5 hh5 rs_45
   replace rl_35 := rl_35.mono ((hh3.trans hh4).trans hh5)
   refine s_rep (A := [_, _, _]) (fun X => xK (ρ := (rpT (rpQ (12 * k + 3 * m + 9 * n + 62)))) (bytes := 168) underlying27 yL rfl rfl rfl rfl p9N rfl rfl rl_35 rs_45 (by first | omega | (simp only [lAz, lC, lN, lR, lS]; omega)) (by first | omega | (simp only [lAz, lC, lN, lR, lS]; omega))) rfl (wV (by first | (simp; done) | grind)) ?_
   intro v77 q77 hq77
   obtain ⟨cs77, rfl, rl77⟩ := hq77
   refine uG rfl rfl rfl (uG rfl rfl rfl (xB (xC (zB (zA (mv rfl rfl (gv (zS (q := 1) rfl rfl (by omega) (by omega)) rfl (asg rfl rfl (zD (wQ (A := []) (wQ (A := []) (wQ (A := []) ?_))))))))))))
   refine yV ((i + 1), (B1 ++ [btw s (l.getD i zT) (l.getD ((i + 1) % l.length) zT)]), (F1 ++ [btw s (l.getD i zT) (l.getD ((i + 1) % l.length) zT)]), v73, cs73, v77, cs77, h5) ?_ ?_ e7 rfl rfl
   ·
    refine ⟨((((((hmmb.trans hh1).trans hh2).trans hmmc).trans hh3).trans hh4).trans hh5), ?_⟩
    replace rl73 := rl73.mono hh5
    refine ⟨rl73, rl77, ?_⟩
    exact ⟨⟨by omega, (by first | exact bk_y hB1 hx1 | exact bk_z hB1 hx1)⟩, (by first | exact fr_y hF1 hx1 | exact fr_z hF1 hx1)⟩
   dsimp only
   omega
  have hx1 : ¬ xP s l i := hc65
  refine wJ (e' := [(0, _), (3, _), (6, _), (7, _), (10, _), (8, _), (9, _)]) e7 (zK (xC (zB (zA (mv rfl rfl (gv (zS (q := 1) rfl rfl (by omega) (by omega)) rfl (asg rfl rfl (zD (wQ (A := []) (wQ (A := []) ?_))))))))))
  refine yV ((i + 1), B1, F1, s6_30, cs_31, s7_33, cs_34, mc) ?_ ?_ e7 rfl rfl
  ·
   refine ⟨(((hmmb.trans hh1).trans hh2).trans hmmc), ?_⟩
   refine ⟨rl_32, rl_35, ?_⟩
   exact ⟨⟨by omega, (by first | exact bk_y hB1 hx1 | exact bk_z hB1 hx1)⟩, (by first | exact fr_y hF1 hx1 | exact fr_z hF1 hx1)⟩
  dsimp only
  omega
 have ej : i = l.length := by omega
 rw [ej] at hB hF
 refine xG (yB (yB (xF (zB (zC (zP (zC (zA (mv rfl rfl (gv (gB rfl) rfl ?_))))))))))
 refine vY (ι := Unit) 4 (fun _ => True) (fun _ => [(84, vB ((¬ (qV s l i)) ∧ (¬ (qP s l i)))), (0, vl), (6, s6_3), (7, s7_6), (8, vB (qV s l i)), (9, vB (qP s l i))]) (fun _ => [.gs 32 9 s7_6 F.length cs_7, .gs 32 9 s6_3 B.length cs_4, .var b3 34 cs3]) (fun _ => mb) ?_ ?_
 ·
  refine wL (¬ (qV s l i)) (fun hg => ?_) (fun hg => ?_)
  ·
   refine xE (yO (v := .bool true) (congrArg some (xL hg))) rfl rfl rfl (yY rfl rfl rfl (mv rfl rfl (yY rfl rfl rfl (gv (gB rfl) rfl (gv (xM rfl rfl) rfl (zD ?_))))))
   refine yM () trivial ⟨?_, rfl, rfl, rfl, rfl, rfl, trivial⟩ rfl rfl
   exact congrArg some (uC hg)
  refine xE (yO (v := .bool false) (congrArg some (yX hg))) rfl rfl rfl (yI rfl rfl rfl rfl rfl rfl (yI rfl rfl rfl rfl rfl rfl (gv (xW rfl rfl) rfl (zD ?_))))
  refine yM () trivial ⟨?_, rfl, rfl, rfl, rfl, rfl, trivial⟩ rfl rfl
  exact congrArg some (uD hg)
 intro _ _
 show GL _ _ _ _ _ _ _ [(84, vB ((¬ (qV s l i)) ∧ (¬ (qP s l i)))), (0, vl), (6, s6_3), (7, s7_6), (8, vB (qV s l i)), (9, vB (qP s l i))] [.gs 32 9 s7_6 F.length cs_7, .gs 32 9 s6_3 B.length cs_4, .var b3 34 cs3] mb
 refine asg rfl rfl (zD (zB ?_))
 refine zN rfl (fun hc78 => ?_) (fun hc78 => ?_)
 ·
  refine zC (zA (mv rfl rfl (gl_nilown 32 9 ?_)))
  have rl_46 : RL (rpT (rpQ k)) mb [] ([] : List (T3 Rat)) := RL.nil
  refine qH (A := []) (xK (ρ := (rpT (rpQ k))) (bytes := 168) underlying27 yL rfl rfl rfl rfl p9N rfl rfl rl_46 rl (by first | omega | (simp only [lAz, lC, lN, lR, lS]; omega)) (by first | omega | (simp only [lAz, lC, lN, lR, lS]; omega))) rfl rfl rfl ?_
  intro v86 q86 hq86
  obtain ⟨cs86, rfl, rl86⟩ := hq86
  refine asg rfl rfl (asg rfl rfl (zD (zB (zQ (vC (zV (jI (A := []) (ρ := (rpT (rpQ k))) rl86 ?_)))))))
  intro h1 hh1 rs_47
  refine vK rfl rfl rfl ?_
  refine ⟨_, _, ?_, (Rp.Is.cast (Rp.Is.le rs_47 (Le.s (Le.t (Le.q (l := 12 * k + 3 * m + 9 * n + 62) (by omega))))) (by rw [List.nil_append]; exact (kV (by rw [← ej]; exact hc78.2)).1.symm)), (Rp.Is.cast (is_nil _) (by exact (kV (by rw [← ej]; exact hc78.2)).2.symm))⟩
  rfl
 refine zC (zA (mv rfl rfl (gv (gB rfl) rfl (asg rfl rfl (zD (zB ?_))))))
 refine zN rfl (fun hc87 => ?_) (fun hc87 => ?_)
 ·
  refine zC (zA (mv rfl rfl (asg rfl rfl (asg rfl rfl (zD (zJ (e' := [(4, _), (5, _)]) e2z (zB (zQ (vC (zV (jI (A := []) (ρ := (rpT (rpQ (12 * k + 3 * m + 9 * n + 62)))) rl_8 ?_)))))))))))
  intro h1 hh1 rs_48
  refine vK rfl rfl rfl ?_
  refine ⟨_, _, ?_, (Rp.Is.cast (is_nil _) (by exact (cut_nb (by rw [← ej]; exact Classical.byContradiction fun e => hc78 ⟨hc87, e⟩) (by rw [← ej]; exact hc87)).1.symm)), (Rp.Is.cast rs_48 (by rw [hF]; exact (cut_nb (by rw [← ej]; exact Classical.byContradiction fun e => hc78 ⟨hc87, e⟩) (by rw [← ej]; exact hc87)).2.symm))⟩
  rfl
 refine zC (zA (mv rfl rfl (gv (gB rfl) rfl (asg rfl rfl (zD (zJ (e' := [(6, _), (7, _), (91, _)]) e3z (zB ?_)))))))
 refine zN rfl (fun hc91 => ?_) (fun hc91 => ?_)
 ·
  refine zC (zA (mv rfl rfl (asg rfl rfl (asg rfl rfl (zD (zB (zQ (vC (zV (jI (A := [_]) (ρ := (rpT (rpQ (12 * k + 3 * m + 9 * n + 62)))) rl_5 ?_))))))))))
  intro h1 hh1 rs_49
  refine vK rfl rfl rfl ?_
  refine ⟨_, _, ?_, (Rp.Is.cast rs_49 (by rw [hB]; exact (cut_na (by rw [← ej]; exact hc91)).1.symm)), (Rp.Is.cast (is_nil _) (by exact (cut_na (by rw [← ej]; exact hc91)).2.symm))⟩
  rfl
 refine zK (xC (zB (zC (zA (mv rfl rfl (mv rfl rfl (asg rfl rfl (asg rfl rfl (zD (zB (zQ (jI (A := [_]) (ρ := (rpT (rpQ (12 * k + 3 * m + 9 * n + 62)))) rl_5 ?_))))))))))))
 intro h1 hh1 rs_50
 replace rl_8 := rl_8.mono hh1
 refine jI (A := []) (ρ := (rpT (rpQ (12 * k + 3 * m + 9 * n + 62)))) rl_8 ?_
 intro h2 hh2 rs_51
 refine vK rfl rfl rfl ?_
 replace rs_50 := rs_50.mono hh2
 refine ⟨_, _, ?_, (Rp.Is.cast rs_50 (by rw [hB]; exact (kF (by rw [← ej]; exact Classical.not_not.1 hc91) (by rw [← ej]; exact Classical.not_not.1 hc87)).1.symm)), (Rp.Is.cast rs_51 (by rw [hF]; exact (kF (by rw [← ej]; exact Classical.not_not.1 hc91) (by rw [← ej]; exact Classical.not_not.1 hc87)).2.symm))⟩
 rfl
end Go.Proofs.YtghhjjmjpeehdaaGreat
namespace Bk
set_option linter.unusedVariables false
set_option linter.unusedSimpArgs false
open Classical
noncomputable def sqrL (s : Pl) (x0 y0 x1 y1 : Rat) : List Pt := [qF s (T3.mk x0 y0 (0 : Rat)), qF s (T3.mk x1 y0 (0 : Rat)), qF s (T3.mk x1 y1 (0 : Rat)), qF s (T3.mk x0 y1 (0 : Rat))]
noncomputable def loT2 (s : Pl) (ps : List Pt) : Nat → Pt
  | 0 => qX s (gp ps 0)
  | m + 1 => T3.mk (kM (loT2 s ps m).x (qX s (gp ps m)).x) (kM (loT2 s ps m).y (qX s (gp ps m)).y) (loT2 s ps m).z
noncomputable def hiT2 (s : Pl) (ps : List Pt) : Nat → Pt
  | 0 => qX s (gp ps 0)
  | m + 1 => T3.mk (kL (hiT2 s ps m).x (qX s (gp ps m)).x) (kL (hiT2 s ps m).y (qX s (gp ps m)).y) (hiT2 s ps m).z
noncomputable def aroZ (s : Pl) (ps : List Pt) : List Pt :=
  if ps.length = 0 ∨ s.1 = zT then [] else sqrL s ((loT2 s ps ps.length).x - ((1 : Int) : Rat)) ((loT2 s ps ps.length).y - ((1 : Int) : Rat)) ((hiT2 s ps ps.length).x + ((1 : Int) : Rat)) ((hiT2 s ps ps.length).y + ((1 : Int) : Rat))
noncomputable def loK (s : Pl) (ps : List Pt) (i : Nat) : Nat → List Rat
  | 0 => [(loT2 s ps (i + 1)).x, (loT2 s ps (i + 1)).y]
  | 1 => [(loT2 s ps (i + 2)).x, (loT2 s ps (i + 1)).y]
  | _ => [(loT2 s ps (i + 2)).x, (loT2 s ps (i + 2)).y]
noncomputable def hiK (s : Pl) (ps : List Pt) (i : Nat) : Nat → List Rat
  | 0 => [(hiT2 s ps (i + 1)).x, (hiT2 s ps (i + 1)).y]
  | 1 => [(hiT2 s ps (i + 2)).x, (hiT2 s ps (i + 1)).y]
  | _ => [(hiT2 s ps (i + 2)).x, (hiT2 s ps (i + 2)).y]
noncomputable def liftTo (s : Pl) (X : List Pt) : Nat → List Pt
  | 0 => []
  | j + 1 => liftTo s X j ++ [qF s (X.getD j (T3.mk (0 : Rat) 0 0))]
theorem lift_len (s : Pl) (X : List Pt) : ∀ j, (liftTo s X j).length = j
  | 0 => rfl
  | j + 1 => by rw [liftTo, lAz, lift_len s X j]; rfl
def cor4 (x y u v : Rat) : List Pt := [T3.mk x y (0 : Rat), T3.mk u y (0 : Rat), T3.mk u v (0 : Rat), T3.mk x v (0 : Rat)]
theorem lo_hi2 (s : Pl) (ps : List Pt) : ∀ m, (loT2 s ps m).x ≤ (hiT2 s ps m).x ∧ (loT2 s ps m).y ≤ (hiT2 s ps m).y
  | 0 => ⟨Rat.le_refl, Rat.le_refl⟩
  | m + 1 => by
    obtain ⟨h1, h2⟩ := lo_hi2 s ps m
    have key : ∀ {a b c : Rat}, a ≤ b → kM a c ≤ kL b c := fun {a b c} h => by
      unfold kM kL
      split <;> split <;> grind
    exact ⟨key h1, key h2⟩
theorem rect_tri {x0 y0 x1 y1 : Rat} (hx : x0 < x1) (hy : y0 < y1) : triT (fun m => (([(x0, y0), (x1, y0), (x1, y1), (x0, y1)] : List P2)).getD m (0, 0)) 4 := by
  have hp : 0 < (x1 - x0) * (y1 - y0) := Rat.mul_pos (by grind) (by grind)
  intro i j k hij hjk hk
  have h : (i = 0 ∧ j = 1 ∧ k = 2) ∨ (i = 0 ∧ j = 1 ∧ k = 3) ∨ (i = 0 ∧ j = 2 ∧ k = 3) ∨ (i = 1 ∧ j = 2 ∧ k = 3) := by omega
  rcases h with ⟨rfl, rfl, rfl⟩ | ⟨rfl, rfl, rfl⟩ | ⟨rfl, rfl, rfl⟩ | ⟨rfl, rfl, rfl⟩ <;> simp [cr] <;> grind
theorem pt2_lift {s : Pl} {q : Pt} (h : ¬ s.1.at (axK s.1) = 0) : pt2 s (qF s q) = (q.x, q.y) := by
  unfold qF
  rw [if_neg h]
  generalize liftQ s q = u
  unfold pt2 pr
  rcases ax_perm s.1 with ⟨e1, e2, e3⟩ | ⟨e1, e2, e3⟩ | ⟨e1, e2, e3⟩ | ⟨e1, e2, e3⟩ | ⟨e1, e2, e3⟩ | ⟨e1, e2, e3⟩ <;> rw [e1, e2, e3] <;> rfl
theorem sqr_conv {s : Pl} {x0 y0 x1 y1 : Rat} (hn : ¬ s.1 = zT) (hx : x0 < x1) (hy : y0 < y1) : qJ s (sqrL s x0 y0 x1 y1) := by
  have hk : ¬ s.1.at (axK s.1) = 0 := fun e => hn ((ax_zero _).1 e)
  have hc : ∀ m, m < 4 → m = 0 ∨ m = 1 ∨ m = 2 ∨ m = 3 := fun m hm => by omega
  refine valid_of (by show 3 ≤ 4; omega) hn (fun m hm => ?_) ?_
  · rcases hc m hm with rfl | rfl | rfl | rfl <;> exact side_lift hk
  · have h := rect_tri hx hy
    have e : ∀ m, m < 4 → pt2 s (gp (sqrL s x0 y0 x1 y1) m) = (([(x0, y0), (x1, y0), (x1, y1), (x0, y1)] : List P2)).getD m (0, 0) := fun m hm => by
      rcases hc m hm with rfl | rfl | rfl | rfl <;> exact pt2_lift hk
    intro i j k hij hjk hk
    have hk' : k < 4 := hk
    show 0 < cr (pt2 s (gp _ i)) (pt2 s (gp _ j)) (pt2 s (gp _ k))
    rw [e i (by omega), e j (by omega), e k hk']
    exact h i j k hij hjk hk'
theorem aro_conv {s : Pl} {ps : List Pt} (hl : ¬ ps.length = 0) (hn : ¬ s.1 = zT) : qJ s (aroZ s ps) ∧ (aroZ s ps).length = 4 := by
  unfold aroZ
  rw [if_neg (fun e => e.elim hl hn)]
  obtain ⟨h1, h2⟩ := lo_hi2 s ps ps.length
  have e : (((1 : Int) : Rat)) = 1 := rfl
  rw [e]
  exact ⟨sqr_conv hn (by grind) (by grind), rfl⟩
def sq0 : List Pt := [i3 0 0 0, i3 2 0 0, i3 2 2 0, i3 0 2 0]
theorem sq0_conv : qJ (i3 0 0 1, (0 : Rat)) sq0 := by
  have hn : ¬ (i3 0 0 1) = zT := fun e => absurd (congrArg T3.z e) (by decide +kernel)
  have e1 : axI (i3 0 0 1) = 0 := if_pos (by decide +kernel)
  have e2 : axJ (i3 0 0 1) = 1 := if_pos (by decide +kernel)
  have hc : ∀ m, m < 4 → m = 0 ∨ m = 1 ∨ m = 2 ∨ m = 3 := fun m hm => by omega
  refine valid_of (by show 3 ≤ 4; omega) hn (fun m hm => ?_) ?_
  · rw [gA]
    rcases hc m hm with rfl | rfl | rfl | rfl <;> decide +kernel
  · have h := rect_tri (x0 := 0) (y0 := 0) (x1 := 2) (y1 := 2) (by decide +kernel) (by decide +kernel)
    have e : ∀ m, m < 4 → pt2 (i3 0 0 1, (0 : Rat)) (gp sq0 m) = (([((0 : Rat), (0 : Rat)), (2, 0), (2, 2), (0, 2)] : List P2)).getD m (0, 0) := fun m hm => by
      unfold pt2
      simp only [e1, e2]
      rcases hc m hm with rfl | rfl | rfl | rfl <;> rfl
    intro i j k hij hjk hk
    have hk' : k < 4 := hk
    show 0 < cr (pt2 _ (gp _ i)) (pt2 _ (gp _ j)) (pt2 _ (gp _ k))
    rw [e i (by omega), e j (by omega), e k hk']
    exact h i j k hij hjk hk'
def pl0 : Pl := (i3 1 0 0, (1 : Rat))
theorem sane_parts : qA pl0 sq0 = [i3 0 0 0, btw pl0 (i3 0 0 0) (i3 2 0 0), btw pl0 (i3 2 2 0) (i3 0 2 0), i3 0 2 0] ∧ uW pl0 sq0 = [btw pl0 (i3 0 0 0) (i3 2 0 0), i3 2 0 0, i3 2 2 0, btw pl0 (i3 2 2 0) (i3 0 2 0)] := by
  have m1 : sdZ pl0 (gp sq0 0) = -1 := jJ.2 (by decide +kernel)
  have m2 : sdZ pl0 (gp sq0 1) = 1 := kB.2 (by decide +kernel)
  have m3 : sdZ pl0 (gp sq0 2) = 1 := kB.2 (by decide +kernel)
  have m4 : sdZ pl0 (gp sq0 3) = -1 := jJ.2 (by decide +kernel)
  have x1 : xP pl0 sq0 0 := by show sdZ pl0 (gp sq0 0) * sdZ pl0 (gp sq0 1) < 0; rw [m1, m2]; decide
  have x2 : ¬ xP pl0 sq0 1 := by show ¬ sdZ pl0 (gp sq0 1) * sdZ pl0 (gp sq0 2) < 0; rw [m2, m3]; decide
  have x3 : xP pl0 sq0 2 := by show sdZ pl0 (gp sq0 2) * sdZ pl0 (gp sq0 3) < 0; rw [m3, m4]; decide
  have x4 : ¬ xP pl0 sq0 3 := by show ¬ sdZ pl0 (gp sq0 3) * sdZ pl0 (gp sq0 0) < 0; rw [m4, m1]; decide
  have hb : qV pl0 sq0 sq0.length := (beh_iff _).2 ⟨0, by decide, by rw [m1]; decide⟩
  have ha : qP pl0 sq0 sq0.length := (ahe_iff _).2 ⟨1, by decide, by rw [m2]; decide⟩
  rw [(kF ha hb).1, (kF ha hb).2]
  have b1 := bk_ax (B := []) (pl := pl0) (l := sq0) (m := 0) rfl (by rw [m1]; decide) x1
  have b2 := bk_n b1 (by rw [m2]; decide) x2
  have b3 := bk_x b2 (by rw [m3]; decide) x3
  have b4 := bk_a b3 (by rw [m4]; decide) x4
  have f1 := fr_x (B := []) (pl := pl0) (l := sq0) (m := 0) rfl (by rw [m1]; decide) x1
  have f2 := fr_a f1 (by rw [m2]; decide) x2
  have f3 := fr_ax f2 (by rw [m3]; decide) x3
  have f4 := fr_n f3 (by rw [m4]; decide) x4
  exact ⟨b4.symm, f4.symm⟩
theorem sane_pt : btw pl0 (i3 0 0 0) (i3 2 0 0) = i3 1 0 0 := by
  unfold btw cutT lerp i3
  rw [T3.mk.injEq]
  decide +kernel
end Bk
