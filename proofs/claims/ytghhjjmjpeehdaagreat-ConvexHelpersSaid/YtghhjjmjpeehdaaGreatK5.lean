/- Texts that the proof needs, part 5. -/
import Derived.Test.YtghhjjmjpeehdaaGreatK4
namespace Bk
set_option linter.unusedVariables false
set_option linter.unusedSimpArgs false
open Classical
noncomputable def pt2 (pl : Pl) (p : Pt) : P2 := pr p (axI pl.1) (axJ pl.1)
abbrev zT : Pt := T3.mk (0 : Rat) 0 0
def convP (pl : Pl) (l : List Pt) : Prop :=
  (3 ≤ l.length ∧ ¬ pl.1 = zT) ∧ (∀ m, m < l.length → sdZ pl (gp l m) = 0) ∧ ∀ m k, m < l.length → 2 ≤ k → k < l.length → 0 < orZ (pt2 pl (gp l m)) (pt2 pl (nx l m)) (pt2 pl (gp l ((m + k) % l.length)))
theorem or_pos {a b c : P2} : 0 < orZ a b c ↔ 0 < cr a b c := sgn_pos
theorem valid_edge {pl : Pl} {l : List Pt} (h : convP pl l) : edgeT (fun m => pt2 pl (gp l m)) l.length := fun i k h1 h2 h3 => or_pos.1 (h.2.2 i k h1 h2 h3)
theorem valid_tri {pl : Pl} {l : List Pt} (h : convP pl l) : triT (fun m => pt2 pl (gp l m)) l.length := tri_of_edge h.1.1 (valid_edge h)
theorem valid_of {pl : Pl} {l : List Pt} (h3 : 3 ≤ l.length) (hn : ¬ pl.1 = zT) (hon : ∀ m, m < l.length → sdZ pl (gp l m) = 0) (ht : triT (fun m => pt2 pl (gp l m)) l.length) : convP pl l :=
  ⟨⟨h3, hn⟩, hon, fun i k h1 h2 h3 => or_pos.2 (edge_of_tri ht i k h1 h2 h3)⟩
theorem at_lerp (t : Rat) (a b : Pt) (i : Nat) : (lerp t a b).at i = a.at i + t * (b.at i - a.at i) := by
  rcases i with _ | _ | i <;> rfl
theorem pt2_lerp (pl : Pl) (t : Rat) (a b : Pt) : pt2 pl (lerp t a b) = lp t (pt2 pl a) (pt2 pl b) := by
  unfold pt2 pr lp
  rw [at_lerp, at_lerp]
theorem hgt_lerp (pl : Pl) (t : Rat) (a b : Pt) : hgt pl (lerp t a b) = (1 - t) * hgt pl a + t * hgt pl b := by
  unfold hgt dotT lerp
  grind
theorem sd_zero {pl : Pl} {p : Pt} : sdZ pl p = 0 ↔ hgt pl p = 0 := sgn_zero
theorem sd_neg {pl : Pl} {p : Pt} : sdZ pl p < 0 ↔ hgt pl p < 0 := sgn_neg
theorem sd_pos {pl : Pl} {p : Pt} : 0 < sdZ pl p ↔ 0 < hgt pl p := sgn_pos
theorem mul_neg_cases {a b : Int} (h : a * b < 0) : (a < 0 ∧ 0 < b) ∨ (0 < a ∧ b < 0) := by
  rcases Int.lt_trichotomy a 0 with h1 | h1 | h1
  · left; refine ⟨h1, Int.not_le.1 fun e => ?_⟩
    have := Int.mul_nonneg_of_nonpos_of_nonpos (Int.le_of_lt h1) e; omega
  · rw [h1, Int.zero_mul] at h; omega
  · right; refine ⟨h1, Int.not_le.1 fun e => ?_⟩
    have := Int.mul_nonneg (Int.le_of_lt h1) e; omega
theorem quo_in {A B : Rat} (h : (A < 0 ∧ 0 < B) ∨ (0 < A ∧ B < 0)) : ¬ A - B = 0 ∧ 0 < A / (A - B) ∧ A / (A - B) < 1 := by
  have hne : ¬ A - B = 0 := by grind
  have e : (A - B) * (A / (A - B)) = A := by rw [Rat.mul_comm, Rat.div_mul_cancel hne]
  generalize A / (A - B) = t at *
  refine ⟨hne, ?_, ?_⟩
  · rcases h with h | h
    · exact pos_div (x := B - A) (by grind) (by grind)
    · exact pos_div (x := A - B) (by grind) (by grind)
  · have : 0 < 1 - t := by
      rcases h with h | h
      · exact pos_div (x := B - A) (by grind) (by grind)
      · exact pos_div (x := A - B) (by grind) (by grind)
    grind
theorem cut_t {pl : Pl} {a b : Pt} (h : sdZ pl a * sdZ pl b < 0) : (0 < cutT pl a b ∧ cutT pl a b < 1) ∧ hgt pl (btw pl a b) = 0 := by
  have h1 : (hgt pl a < 0 ∧ 0 < hgt pl b) ∨ (0 < hgt pl a ∧ hgt pl b < 0) := by
    rcases mul_neg_cases h with ⟨a1, a2⟩ | ⟨a1, a2⟩
    · exact .inl ⟨sd_neg.1 a1, sd_pos.1 a2⟩
    · exact .inr ⟨sd_pos.1 a1, sd_neg.1 a2⟩
  obtain ⟨hne, h2, h3⟩ := quo_in h1
  have e : cutT pl a b = hgt pl a / (hgt pl a - hgt pl b) := if_neg hne
  unfold btw
  rw [hgt_lerp, e]
  refine ⟨⟨h2, h3⟩, ?_⟩
  have e2 : hgt pl a / (hgt pl a - hgt pl b) * (hgt pl a - hgt pl b) = hgt pl a := Rat.div_mul_cancel hne
  generalize hgt pl a / (hgt pl a - hgt pl b) = t at *
  grind
noncomputable def mk3 (c : Pl) (l : List Pt) (M : Mk) : Pt := if M.2 then btw c (gp l M.1) (nx l M.1) else gp l M.1
noncomputable def sgB (c : Pl) (l : List Pt) (m : Nat) : Int := sdZ c (gp l m)
noncomputable def sgF (c : Pl) (l : List Pt) (m : Nat) : Int := -sdZ c (gp l m)
theorem chgB {c : Pl} {l : List Pt} {m : Nat} : chg (sgB c l) l.length m ↔ xP c l m := Iff.rfl
theorem bk_mks (c : Pl) (l : List Pt) : ∀ m, bkTo c l m = (mks (sgB c l) l.length m).map (mk3 c l)
  | 0 => rfl
  | m + 1 => by
    show _ ++ _ ++ _ = (_ ++ _ ++ _ : List Mk).map _
    rw [List.map_append, List.map_append, bk_mks c l m]
    congr 1
    · congr 1
      show (if sgB c l m ≤ 0 then _ else _) = _
      split <;> rfl
    · by_cases h : xP c l m
      · rw [if_pos h, if_pos (chgB.2 h)]; rfl
      · rw [if_neg h, if_neg (fun e => h (chgB.1 e))]; rfl
theorem gp_map3 {c : Pl} {l : List Pt} {L : List Mk} {q : Nat} (h : q < L.length) : gp (L.map (mk3 c l)) q = mk3 c l (L.getD q (0, false)) := by
  unfold gp
  rw [List.getD_eq_getElem?_getD, List.getD_eq_getElem?_getD, List.getElem?_map, List.getElem?_eq_getElem h]
  rfl
noncomputable def tC (c : Pl) (l : List Pt) (m : Nat) : Rat := cutT c (gp l (m % l.length)) (nx l (m % l.length))
theorem tC_lt {c : Pl} {l : List Pt} {m : Nat} (h : m < l.length) : tC c l m = cutT c (gp l m) (nx l m) := by unfold tC; rw [Nat.mod_eq_of_lt h]
theorem mk3_pt2 {pl c : Pl} {l : List Pt} {M : Mk} (h : M.1 < l.length) : pt2 pl (mk3 c l M) = mkP (fun m => pt2 pl (gp l m)) l.length (tC c l) M := by
  obtain ⟨i, b⟩ := M
  have hi : i < l.length := h
  unfold mk3 mkP
  have e1 : ex (fun m => pt2 pl (gp l m)) l.length i = pt2 pl (gp l i) := by unfold ex; rw [Nat.mod_eq_of_lt hi]
  have e2 : ex (fun m => pt2 pl (gp l m)) l.length (i + 1) = pt2 pl (nx l i) := rfl
  simp only [e1, e2, tC_lt hi]
  split
  · exact pt2_lerp _ _ _ _
  · rfl
theorem part_valid {pl c : Pl} {l : List Pt} {s : Nat → Int} (h : convP pl l) (hs : ∀ m, chg s l.length m ↔ xP c l m) {i j : Nat} (hi : i < l.length) (hj : j < l.length) (h1 : s i < 0) (h2 : 0 < s j) : convP pl ((mks s l.length l.length).map (mk3 c l)) := by
  have hl := mks_len hi hj h1 h2
  have hlen : ((mks s l.length l.length).map (mk3 c l)).length = (mks s l.length l.length).length := List.length_map ..
  have mem : ∀ q, q < (mks s l.length l.length).length → (mks s l.length l.length).getD q (0, false) ∈ mks s l.length l.length := fun q hq => by
    rw [List.getD_eq_getElem?_getD, List.getElem?_eq_getElem hq]; exact List.getElem_mem hq
  refine valid_of (by rw [hlen]; exact hl) h.1.2 (fun m hm => ?_) ?_
  · rw [hlen] at hm
    rw [gp_map3 hm]
    have hM := mks_mem.1 (mem m hm)
    generalize (mks s l.length l.length).getD m (0, false) = M at *
    obtain ⟨q, b⟩ := M
    have hq : q < l.length := hM.1
    unfold mk3
    cases b with
    | false => exact h.2.1 q hq
    | true =>
      show sdZ pl (btw c (gp l q) (nx l q)) = 0
      unfold btw
      rw [sd_zero, hgt_lerp, sd_zero.1 (h.2.1 q hq), sd_zero.1 (h.2.1 _ (Nat.mod_lt _ (by omega)))]
      grind
  · rw [hlen]
    have ht := mks_tri (t := tC c l) (s := s) h.1.1 (valid_tri h) (fun m hm hc => by rw [tC_lt hm]; exact (cut_t ((hs m).1 hc)).1)
    intro a b d hab hbd hd
    have := ht a b d hab hbd hd
    show 0 < cr (pt2 pl (gp _ a)) (pt2 pl (gp _ b)) (pt2 pl (gp _ d))
    rw [gp_map3 (by omega), gp_map3 (by omega), gp_map3 hd, mk3_pt2 (mks_mem.1 (mem a (by omega))).1, mk3_pt2 (mks_mem.1 (mem b (by omega))).1, mk3_pt2 (mks_mem.1 (mem d hd)).1]
    exact this
theorem cutB_valid {pl : Pl} {l : List Pt} (c : Pl) (h : convP pl l) : convP pl (cutB c l) ∨ cutB c l = [] := by
  by_cases ha : aheTo c l l.length
  · by_cases hb : behTo c l l.length
    · obtain ⟨i, hi, h1⟩ := (beh_iff _).1 hb
      obtain ⟨j, hj, h2⟩ := (ahe_iff _).1 ha
      rw [(cut_both ha hb).1, bk_mks]
      exact .inl (part_valid h (fun m => chgB) hi hj h1 h2)
    · exact .inr (cutF_all ha hb).1
  · rw [(cutB_all ha).1]; exact .inl h
def detT (a b c : Pt) : Rat := dotT a (crossT b c)
end Bk
namespace Bk
set_option linter.unusedVariables false
set_option linter.unusedSimpArgs false
open Go Go.RowKit
open Classical
theorem s_one3 {α : Type} {ρ : Rp α} {h : Mem} {v : Value} {xs : List α} (s : (rpS ρ).Is h v xs) : ∃ a m cap, v = .slice a m cap := by
  obtain ⟨a, cap, e⟩ := s_one s
  exact ⟨a, _, cap, e⟩
theorem nil_of {α : Type} {ρ : Rp α} {h : Mem} {v : Value} {xs : List α} (s : (rpS ρ).Is h v xs) (hk : 0 < ρ.n) (hn : ∃ m cap, v = .slice none m cap) : xs = [] := by
  obtain ⟨ds, ⟨a, cap, e, h1, h2, h3, h4⟩, r⟩ := of_s s
  obtain ⟨m, cap', e'⟩ := hn
  rw [e] at e'
  injection e' with e1 e2 e3
  refine List.eq_nil_of_length_eq_zero ?_
  rcases Nat.eq_zero_or_pos ds.length with h0 | h0
  · rw [h0] at h3
    rcases Nat.mul_eq_zero.1 h3.symm with h5 | h5
    · exact h5
    · omega
  · obtain ⟨b, o, hb, _⟩ := h4 0 h0
    rw [e1] at hb
    exact absurd hb (by simp)
theorem t3_lq {k : Nat} {h : Mem} {v : Value} {p : T3 Rat} (s : (rpT (rpQ k)).Is h v p) : lq p.x ≤ k ∧ lq p.y ≤ k ∧ lq p.z ≤ k := by
  obtain ⟨cs, ⟨a, b, _, ra, c, d, _, rc, rd⟩, _⟩ := s
  exact ⟨ra.2, rc.2, rd.2⟩
theorem t3_tight {K k : Nat} {h : Mem} {v : Value} {p : T3 Rat} (s : (rpT (rpQ K)).Is h v p) (h1 : lq p.x ≤ k) (h2 : lq p.y ≤ k) (h3 : lq p.z ≤ k) : (rpT (rpQ k)).Is h v p := by
  obtain ⟨cs, ⟨a, b, e, ra, c, d, e', rc, rd⟩, ev⟩ := s
  exact ⟨cs, ⟨a, b, e, ⟨ra.1, h1⟩, c, d, e', ⟨rc.1, h2⟩, ⟨rd.1, h3⟩⟩, ev⟩
theorem list_same {α : Type} {d : α} {a b : List α} (hl : a.length = b.length) (h : ∀ u, u < b.length → a.getD u d = b.getD u d) : a = b := by
  refine List.ext_getElem hl fun q h1 h2 => ?_
  have := h q h2
  rw [List.getD_eq_getElem?_getD, List.getD_eq_getElem?_getD, List.getElem?_eq_getElem h1, List.getElem?_eq_getElem h2] at this
  exact this
theorem side_sm {a b : Rat} (h : ¬ (¬ smB a ∨ ¬ smB b)) : (smB a ∧ smB b) ∧ (-72057594037927936 ≤ smZ a * smZ b ∧ smZ a * smZ b ≤ 72057594037927936) := by
  have h1 : smB a ∧ smB b := by
    constructor
    · exact Classical.not_not.1 fun e => h (.inl e)
    · exact Classical.not_not.1 fun e => h (.inr e)
  have e1 := (sm_eq h1.1).2
  have e2 := (sm_eq h1.2).2
  refine ⟨h1, ?_⟩
  have key : ∀ {x y : Int}, 0 ≤ x → x < 268435456 → 0 ≤ y → y < 268435456 → 0 ≤ x * y ∧ x * y ≤ 72057594037927936 := by
    intro x y hx hx' hy hy'
    have k1 := Int.mul_nonneg hx hy
    have k2 : x * y ≤ 268435456 * 268435456 := Int.mul_le_mul (by omega) (by omega) hy (by omega)
    omega
  generalize smZ a = u at *
  generalize smZ b = v at *
  rcases Int.le_total 0 u with hu | hu <;> rcases Int.le_total 0 v with hv | hv
  · have := key hu (by omega) hv (by omega); omega
  · have := key hu (by omega) (y := -v) (by omega) (by omega)
    rw [Int.mul_neg] at this; omega
  · have := key (x := -u) (by omega) (by omega) hv (by omega)
    rw [Int.neg_mul] at this; omega
  · have := key (x := -u) (y := -v) (by omega) (by omega) (by omega) (by omega)
    rw [Int.neg_mul_neg] at this; omega
theorem side_sum {s : Pl} {p : Pt} (hx : smB s.1.x ∧ smB p.x) (hy : smB s.1.y ∧ smB p.y) (hz : smB s.1.z ∧ smB p.z) (hd : smB s.2) : sgnZ ((0 : Int) + smZ s.1.x * smZ p.x + smZ s.1.y * smZ p.y + smZ s.1.z * smZ p.z - smZ s.2) = sdZ s p := by
  rw [← sgn_cast]
  unfold sdZ hgt dotT
  congr 1
  rw [Rat.intCast_sub, Rat.intCast_add, Rat.intCast_add, Rat.intCast_add, Rat.intCast_mul, Rat.intCast_mul, Rat.intCast_mul]
  rw [← (sm_eq hx.1).1, ← (sm_eq hx.2).1, ← (sm_eq hy.1).1, ← (sm_eq hy.2).1, ← (sm_eq hz.1).1, ← (sm_eq hz.2).1, ← (sm_eq hd).1]
  have e : ((0 : Int) : Rat) = 0 := rfl
  rw [e]
  grind
theorem side_cmp (s : Pl) (p : Pt) : cmpQ (dotT s.1 p) s.2 = sdZ s p := cmpQ_sub _ _
theorem mem_getD {L : List (List Pt)} {n m : Nat} (hm : m < L.length) (h : ∀ x, x ∈ L → x.length ≤ n) : (L.getD m []).length ≤ n := by
  rw [List.getD_eq_getElem?_getD, List.getElem?_eq_getElem hm]
  exact h _ (List.getElem_mem hm)
theorem mx_next {a s : Int} {p : Prop} (h : 0 < a ↔ p) (h0 : 0 ≤ a) : (0 < max a s ↔ (p ∨ 0 < s)) ∧ 0 ≤ max a s := by rw [← h]; omega
theorem mn_next {a s : Int} {p : Prop} (h : a < 0 ↔ p) (h0 : a ≤ 0) : (min a s < 0 ↔ (p ∨ s < 0)) ∧ min a s ≤ 0 := by rw [← h]; omega
theorem cut_nb {pl : Pl} {l : List Pt} (ha : aheTo pl l l.length) (hb : ¬ behTo pl l l.length) : cutB pl l = [] ∧ cutF pl l = frTo pl l l.length := by
  unfold cutB cutF
  rw [if_neg (fun e => e.elim hb fun e => e ha), if_pos ha]
  exact ⟨rfl, rfl⟩
theorem cut_na {pl : Pl} {l : List Pt} (ha : ¬ aheTo pl l l.length) : cutB pl l = bkTo pl l l.length ∧ cutF pl l = [] := by
  unfold cutB cutF
  rw [if_pos (.inr ha), if_neg ha]
  exact ⟨rfl, rfl⟩
end Bk
namespace Go.Proofs.YtghhjjmjpeehdaaGreat
open Bk Go Tryz
set_option linter.unusedVariables false
set_option linter.unusedSimpArgs false
set_option maxRecDepth 10000
theorem o_s4_add {w0 : World} {h0 : Mem} (hs : MLe h0 (mem w0)) {k l : Nat} {va : Value} {a : (T3 Rat)} (ra : (rpT (rpQ k)).Is h0 va a) {vb : Value} {b : (T3 Rat)} (rb : (rpT (rpQ l)).Is h0 vb b) (hcd0 : k + l ≤ 1000000000) : Calls Tryz.prog 19 #[va, vb] w0 (Ret w0 h0 (fun h r => (rpT (rpQ (k + l + 1))).Is h r (T3.mk (a.x + b.x) (a.y + b.y) (a.z + b.z)))) := by
  obtain ⟨a1, a2, a3⟩ := t3_lq ra
  obtain ⟨b1, b2, b3⟩ := t3_lq rb
  exact (o_r4_add hs ra rb hcd0).mono (ret_imp fun h r x => t3_tight x (by have := lq_add a.x b.x; show lq (a.x + b.x) ≤ _; omega) (by have := lq_add a.y b.y; show lq (a.y + b.y) ≤ _; omega) (by have := lq_add a.z b.z; show lq (a.z + b.z) ≤ _; omega))
theorem o_s4_sub {w0 : World} {h0 : Mem} (hs : MLe h0 (mem w0)) {k l : Nat} {va : Value} {a : (T3 Rat)} (ra : (rpT (rpQ k)).Is h0 va a) {vb : Value} {b : (T3 Rat)} (rb : (rpT (rpQ l)).Is h0 vb b) (hcd0 : k + l ≤ 1000000000) : Calls Tryz.prog 23 #[va, vb] w0 (Ret w0 h0 (fun h r => (rpT (rpQ (k + l + 1))).Is h r (T3.mk (a.x - b.x) (a.y - b.y) (a.z - b.z)))) := by
  obtain ⟨a1, a2, a3⟩ := t3_lq ra
  obtain ⟨b1, b2, b3⟩ := t3_lq rb
  exact (o_r4_sub hs ra rb hcd0).mono (ret_imp fun h r x => t3_tight x (by have := lq_sub a.x b.x; show lq (a.x - b.x) ≤ _; omega) (by have := lq_sub a.y b.y; show lq (a.y - b.y) ≤ _; omega) (by have := lq_sub a.z b.z; show lq (a.z - b.z) ≤ _; omega))
theorem o_s4_scale {w0 : World} {h0 : Mem} (hs : MLe h0 (mem w0)) {l k : Nat} {vq : Value} {q : Rat} (rq : (rpQ l).Is h0 vq q) {va : Value} {a : (T3 Rat)} (ra : (rpT (rpQ k)).Is h0 va a) (hcd0 : k + l ≤ 1000000000) : Calls Tryz.prog 20 #[vq, va] w0 (Ret w0 h0 (fun h r => (rpT (rpQ (k + l))).Is h r (T3.mk (q * a.x) (q * a.y) (q * a.z)))) := by
  obtain ⟨a1, a2, a3⟩ := t3_lq ra
  have hq := (of_q rq).2
  exact (o_r4_scale hs rq ra hcd0).mono (ret_imp fun h r x => t3_tight x (by have := lq_mul q a.x; show lq (q * a.x) ≤ _; omega) (by have := lq_mul q a.y; show lq (q * a.y) ≤ _; omega) (by have := lq_mul q a.z; show lq (q * a.z) ≤ _; omega))
theorem o_each_add {w0 : World} {h0 : Mem}  (hs : MLe h0 (mem w0)) {k l : Nat} {va : Value} {a : (T3 Rat)} (ra : (rpT (rpQ k)).Is h0 va a) {vb : Value} {b : (T3 Rat)} (rb : (rpT (rpQ l)).Is h0 vb b) (hcd0 : k + l ≤ 10000000000)  :
    Calls Tryz.prog 115 #[va, vb, vF 71 []] w0 (Ret w0 h0 (fun h r => (rpT (rpQ (k + l + 1 + 1))).Is h r (T3.mk (a.x + b.x) (a.y + b.y) (a.z + b.z)))) := by
 refine zO (n := 24) (e := [(0, va), (1, vb), (2, vF 71 [])]) (vs := [va, vb, vF 71 []]) func115 rfl rfl (bL rfl) hs e3z (zC (zA (zJ (yU (ρ := (rpT (rpQ k))) rfl ra) rfl rfl rfl ?_)))
 intro v3 q3 hq3
 obtain ⟨b3, cs3, rfl, rfl, rb3⟩ := hq3
 refine zJ (yU (ρ := (rpT (rpQ l))) rfl rb) rfl rfl rfl ?_
 intro v4 q4 hq4
 obtain ⟨b4, cs4, rfl, rfl, rb4⟩ := hq4
 refine zJ (yQ (ρ := (rpT (rpQ (k + l + 1 + 1)))) (X := (T3.mk (0 : Rat) 0 0)) yI rfl rfl (zr_t (xS (by omega)))) rfl rfl rfl ?_
 intro v6 q6 hq6
 obtain ⟨b6, cs6, rfl, rfl, rb6⟩ := hq6
 refine zD (zB (zC (zA (zJ (yQ (ρ := (rpT (rpQ (k + l + 1 + 1)))) (X := (T3.mk (0 : Rat) 0 0)) yI rfl rfl (zr_t (xS (by omega)))) rfl rfl rfl ?_))))
 intro v7 q7 hq7
 obtain ⟨b7, cs7, rfl, rfl, rb7⟩ := hq7
 refine zD (zB (zC (zC (zA (mv (v := vI (0)) rfl rfl (zD (zB (zQ (gc_loop1 (zC (zA (gv (OpV.tr (by decide) (zW (q := 3) rfl rfl)) rfl (zD ?_)))))))))))))
 refine zB (zC (xC rfl (zL (zB (zC (zQ (zC (zA (mv rfl rfl (asg rfl rfl (zD (zB ?_))))))))))))
 refine yG 10 _ [] [(0, .q), (1, .q), (2, .q), (3, .q), (4, .q), (5, .q), (6, .q), (7, .q), (8, .c), (9, .q), (10, .t)] xG nX (by kernel_rfl) nX (fun r hr => hr) (w_q rfl (fun h' L' hh hR => zH rfl) rfl (w_q rfl (fun h' L' hh hR => zH rfl) rfl (w_q rfl (fun h' L' hh hR => zH rfl) rfl (w_q rfl (fun h' L' hh hR => (zF (sz := 3) 0 underlying32 sizeOf30 rfl rfl rfl (by decide)).cv (show _ = vP b3 0 from congrArg (vP b3) (by rfl))) rfl (yO (F := fun v_ => (rpQ k).Is h0 v_ a.x) rfl (zE xA (Pc.tx (Pc.here _)) rfl rfl rb3 rfl) (yD (.tail _ (.tail _ (.tail _ (.head _))))) rfl ?_)))))
 intro v16u1 r16u1
 refine w_q rfl (fun h' L' hh hR => zH rfl) rfl (w_q rfl (fun h' L' hh hR => (zF (sz := 3) 0 underlying32 sizeOf30 rfl rfl rfl (by decide)).cv (show _ = vP b4 0 from congrArg (vP b4) (by rfl))) rfl (yO (F := fun v_ => (rpQ l).Is h0 v_ b.x) rfl (zE xA (Pc.tx (Pc.here _)) rfl rfl rb4 rfl) (yD (.tail _ (.tail _ (.head _)))) rfl ?_))
 intro v19u1 r19u1
 refine w_c rfl (s_enter (enters_v (vs := [_, _]) call71 rfl e2z) rfl (fun w hs => o_rat_add hs r16u1 r19u1 (by omega)) ?_)
 intro v20u1 h1 hh1 r20u1
 change (rpQ (k + l + 1)).Is h1 v20u1 (a.x + b.x) at r20u1
 refine w_q rfl (fun h' L' hh hR => (zF (sz := 3) 0 underlying32 sizeOf30 rfl rfl rfl (by decide)).cv (show _ = vP b7 0 from congrArg (vP b7) (by rfl))) rfl ?_
 replace rb7 := rb7.mono hh1
 refine yV (A := []) (F := fun c_ => (rpT (rpQ (k + l + 1 + 1))).R h1 c_ (T3.mk (a.x + b.x) (0 : Rat) (0 : Rat))) rfl (zX sizeOf30 (Pc.tx (Pc.here _)) rfl rfl rfl rb7 (r20u1.le (Le.q (l := k + l + 1 + 1) (by omega))) rfl) ?_
 intro cs_1 rb_2
 refine yZ (yY (zK (e' := [(2, _), (3, _), (4, _), (6, _), (7, _), (9, _)]) e6 (zB (zA (gv ((zS (q := 1) rfl rfl (by omega) (by omega)).cv (show _ = vI (1) from rfl)) rfl (mv rfl rfl (zD (xI (zC (zA (gv (OpV.tr (by decide) (zW (q := 3) rfl rfl)) rfl (zD (zB ?_)))))))))))))
 refine zC (xC rfl (zL (zB (zC (zQ (zC (zA (mv rfl rfl (asg rfl rfl (zD (zB ?_)))))))))))
 refine yG 10 _ [] [(0, .q), (1, .q), (2, .q), (3, .q), (4, .q), (5, .q), (6, .q), (7, .q), (8, .c), (9, .q), (10, .t)] xG nX (by kernel_rfl) nX (fun r hr => hr) (w_q rfl (fun h' L' hh hR => zH rfl) rfl (w_q rfl (fun h' L' hh hR => zH rfl) rfl (w_q rfl (fun h' L' hh hR => zH rfl) rfl (w_q rfl (fun h' L' hh hR => (zF (sz := 3) 1 underlying32 sizeOf30 rfl rfl rfl (by decide)).cv (show _ = vP b3 3 from congrArg (vP b3) (by rfl))) rfl ?_))))
 replace rb3 := rb3.mono hh1
 refine yO (F := fun v_ => (rpQ k).Is h1 v_ a.y) rfl (zE xA (Pc.ty (Pc.here _)) rfl rfl rb3 rfl) (yD (.tail _ (.tail _ (.tail _ (.head _))))) rfl ?_
 intro v16u2 r16u2
 refine w_q rfl (fun h' L' hh hR => zH rfl) rfl (w_q rfl (fun h' L' hh hR => (zF (sz := 3) 1 underlying32 sizeOf30 rfl rfl rfl (by decide)).cv (show _ = vP b4 3 from congrArg (vP b4) (by rfl))) rfl ?_)
 replace rb4 := rb4.mono hh1
 refine yO (F := fun v_ => (rpQ l).Is h1 v_ b.y) rfl (zE xA (Pc.ty (Pc.here _)) rfl rfl rb4 rfl) (yD (.tail _ (.tail _ (.head _)))) rfl ?_
 intro v19u2 r19u2
 refine w_c rfl (s_enter (enters_v (vs := [_, _]) call71 rfl e2z) rfl (fun w hs => o_rat_add hs r16u2 r19u2 (by omega)) ?_)
 intro v20u2 h2 hh2 r20u2
 change (rpQ (k + l + 1)).Is h2 v20u2 (a.y + b.y) at r20u2
 refine w_q rfl (fun h' L' hh hR => (zF (sz := 3) 1 underlying32 sizeOf30 rfl rfl rfl (by decide)).cv (show _ = vP b7 3 from congrArg (vP b7) (by rfl))) rfl ?_
 replace rb_2 := rb_2.mono hh2
 refine yV (A := []) (F := fun c_ => (rpT (rpQ (k + l + 1 + 1))).R h2 c_ (T3.mk (a.x + b.x) (a.y + b.y) (0 : Rat))) rfl (zX sizeOf30 (Pc.ty (Pc.here _)) rfl rfl rfl rb_2 (r20u2.le (Le.q (l := k + l + 1 + 1) (by omega))) rfl) ?_
 intro cs_3 rb_4
 refine yZ (yY (zK (e' := [(2, _), (3, _), (4, _), (6, _), (7, _), (9, _)]) e6 (zB (zA (gv ((zS (q := 1) rfl rfl (by omega) (by omega)).cv (show _ = vI (2) from rfl)) rfl (mv rfl rfl (zD (xI (zC (zA (gv (OpV.tr (by decide) (zW (q := 3) rfl rfl)) rfl (zD (zB ?_)))))))))))))
 refine zC (xC rfl (zL (zB (zC (zQ (zC (zA (mv rfl rfl (asg rfl rfl (zD (zB ?_)))))))))))
 refine yG 10 _ [] [(0, .q), (1, .q), (2, .q), (3, .q), (4, .q), (5, .q), (6, .q), (7, .q), (8, .c), (9, .q), (10, .t)] xG nX (by kernel_rfl) nX (fun r hr => hr) (w_q rfl (fun h' L' hh hR => zH rfl) rfl (w_q rfl (fun h' L' hh hR => zH rfl) rfl (w_q rfl (fun h' L' hh hR => zH rfl) rfl (w_q rfl (fun h' L' hh hR => (zF (sz := 3) 2 underlying32 sizeOf30 rfl rfl rfl (by decide)).cv (show _ = vP b3 6 from congrArg (vP b3) (by rfl))) rfl ?_))))
 replace rb3 := rb3.mono hh2
 refine yO (F := fun v_ => (rpQ k).Is h2 v_ a.z) rfl (zE xA (Pc.tz (Pc.here _)) rfl rfl rb3 rfl) (yD (.tail _ (.tail _ (.tail _ (.head _))))) rfl ?_
 intro v16u3 r16u3
 refine w_q rfl (fun h' L' hh hR => zH rfl) rfl (w_q rfl (fun h' L' hh hR => (zF (sz := 3) 2 underlying32 sizeOf30 rfl rfl rfl (by decide)).cv (show _ = vP b4 6 from congrArg (vP b4) (by rfl))) rfl ?_)
 replace rb4 := rb4.mono hh2
 refine yO (F := fun v_ => (rpQ l).Is h2 v_ b.z) rfl (zE xA (Pc.tz (Pc.here _)) rfl rfl rb4 rfl) (yD (.tail _ (.tail _ (.head _)))) rfl ?_
 intro v19u3 r19u3
 refine w_c rfl (s_enter (enters_v (vs := [_, _]) call71 rfl e2z) rfl (fun w hs => o_rat_add hs r16u3 r19u3 (by omega)) ?_)
 intro v20u3 h3 hh3 r20u3
 change (rpQ (k + l + 1)).Is h3 v20u3 (a.z + b.z) at r20u3
 refine w_q rfl (fun h' L' hh hR => (zF (sz := 3) 2 underlying32 sizeOf30 rfl rfl rfl (by decide)).cv (show _ = vP b7 6 from congrArg (vP b7) (by rfl))) rfl ?_
 replace rb_4 := rb_4.mono hh3
 refine yV (A := []) (F := fun c_ => (rpT (rpQ (k + l + 1 + 1))).R h3 c_ (T3.mk (a.x + b.x) (a.y + b.y) (a.z + b.z))) rfl (zX sizeOf30 (Pc.tz (Pc.here _)) rfl rfl rfl rb_4 (r20u3.le (Le.q (l := k + l + 1 + 1) (by omega))) rfl) ?_
 intro cs_5 rb_6
 refine yZ (yY (zK (e' := [(2, _), (3, _), (4, _), (6, _), (7, _), (9, _)]) e6 (zB (zA (gv ((zS (q := 1) rfl rfl (by omega) (by omega)).cv (show _ = vI (3) from rfl)) rfl (mv rfl rfl (zD (xI (zC (zA (gv (OpV.fa (by decide) (zW (q := 3) rfl rfl)) rfl (zD (zB ?_)))))))))))))
 refine zC (gc_cond_f rfl (xK (yE (yE (xJ (zB (zC (zA (xQ (F := fun v_ => (rpT (rpQ (k + l + 1 + 1))).Is h3 v_ (T3.mk (a.x + b.x) (a.y + b.y) (a.z + b.z))) (zE xF (Pc.here _) rfl rfl rb_6 rfl) (yD (.head _)) rfl ?_)))))))))
 intro v23u4 r23u4
 replace rb6 := rb6.mono ((hh1.trans hh2).trans hh3)
 refine xO (A := [_]) (F := fun c_ => (rpT (rpQ (k + l + 1 + 1))).R h3 c_ (T3.mk (a.x + b.x) (a.y + b.y) (a.z + b.z))) (zX sizeOf32 (Pc.here _) rfl rfl rfl rb6 r23u4 rfl) ?_
 intro cs_7 rb_8
 refine zD (zB (zR (gq_exv (rv_o (t := 6) xF (.tail _ (.head _)) rfl rb_8) ?_)))
 intro w_9 hvw_9 rr_10
 refine xM (fun E S => yL rfl hvw_9 E S) ?_
 exact rr_10
theorem o_each_sub {w0 : World} {h0 : Mem}  (hs : MLe h0 (mem w0)) {k l : Nat} {va : Value} {a : (T3 Rat)} (ra : (rpT (rpQ k)).Is h0 va a) {vb : Value} {b : (T3 Rat)} (rb : (rpT (rpQ l)).Is h0 vb b) (hcd0 : k + l ≤ 10000000000)  :
    Calls Tryz.prog 115 #[va, vb, vF 70 []] w0 (Ret w0 h0 (fun h r => (rpT (rpQ (k + l + 1 + 1))).Is h r (T3.mk (a.x - b.x) (a.y - b.y) (a.z - b.z)))) := by
 refine zO (n := 24) (e := [(0, va), (1, vb), (2, vF 70 [])]) (vs := [va, vb, vF 70 []]) func115 rfl rfl (bL rfl) hs e3z (zC (zA (zJ (yU (ρ := (rpT (rpQ k))) rfl ra) rfl rfl rfl ?_)))
 intro v3 q3 hq3
 obtain ⟨b3, cs3, rfl, rfl, rb3⟩ := hq3
 refine zJ (yU (ρ := (rpT (rpQ l))) rfl rb) rfl rfl rfl ?_
 intro v4 q4 hq4
 obtain ⟨b4, cs4, rfl, rfl, rb4⟩ := hq4
 refine zJ (yQ (ρ := (rpT (rpQ (k + l + 1 + 1)))) (X := (T3.mk (0 : Rat) 0 0)) yI rfl rfl (zr_t (xS (by omega)))) rfl rfl rfl ?_
 intro v6 q6 hq6
 obtain ⟨b6, cs6, rfl, rfl, rb6⟩ := hq6
 refine zD (zB (zC (zA (zJ (yQ (ρ := (rpT (rpQ (k + l + 1 + 1)))) (X := (T3.mk (0 : Rat) 0 0)) yI rfl rfl (zr_t (xS (by omega)))) rfl rfl rfl ?_))))
 intro v7 q7 hq7
 obtain ⟨b7, cs7, rfl, rfl, rb7⟩ := hq7
 refine zD (zB (zC (zC (zA (mv (v := vI (0)) rfl rfl (zD (zB (zQ (gc_loop1 (zC (zA (gv (OpV.tr (by decide) (zW (q := 3) rfl rfl)) rfl (zD ?_)))))))))))))
 refine zB (zC (xC rfl (zL (zB (zC (zQ (zC (zA (mv rfl rfl (asg rfl rfl (zD (zB ?_))))))))))))
 refine yG 10 _ [] [(0, .q), (1, .q), (2, .q), (3, .q), (4, .q), (5, .q), (6, .q), (7, .q), (8, .c), (9, .q), (10, .t)] xG nX (by kernel_rfl) nX (fun r hr => hr) (w_q rfl (fun h' L' hh hR => zH rfl) rfl (w_q rfl (fun h' L' hh hR => zH rfl) rfl (w_q rfl (fun h' L' hh hR => zH rfl) rfl (w_q rfl (fun h' L' hh hR => (zF (sz := 3) 0 underlying32 sizeOf30 rfl rfl rfl (by decide)).cv (show _ = vP b3 0 from congrArg (vP b3) (by rfl))) rfl (yO (F := fun v_ => (rpQ k).Is h0 v_ a.x) rfl (zE xA (Pc.tx (Pc.here _)) rfl rfl rb3 rfl) (yD (.tail _ (.tail _ (.tail _ (.head _))))) rfl ?_)))))
 intro v16u5 r16u5
 refine w_q rfl (fun h' L' hh hR => zH rfl) rfl (w_q rfl (fun h' L' hh hR => (zF (sz := 3) 0 underlying32 sizeOf30 rfl rfl rfl (by decide)).cv (show _ = vP b4 0 from congrArg (vP b4) (by rfl))) rfl (yO (F := fun v_ => (rpQ l).Is h0 v_ b.x) rfl (zE xA (Pc.tx (Pc.here _)) rfl rfl rb4 rfl) (yD (.tail _ (.tail _ (.head _)))) rfl ?_))
 intro v19u5 r19u5
 refine w_c rfl (s_enter (enters_v (vs := [_, _]) call70 rfl e2z) rfl (fun w hs => o_rat_sub hs r16u5 r19u5 (by omega)) ?_)
 intro v20u5 h1 hh1 r20u5
 change (rpQ (k + l + 1)).Is h1 v20u5 (a.x - b.x) at r20u5
 refine w_q rfl (fun h' L' hh hR => (zF (sz := 3) 0 underlying32 sizeOf30 rfl rfl rfl (by decide)).cv (show _ = vP b7 0 from congrArg (vP b7) (by rfl))) rfl ?_
 replace rb7 := rb7.mono hh1
 refine yV (A := []) (F := fun c_ => (rpT (rpQ (k + l + 1 + 1))).R h1 c_ (T3.mk (a.x - b.x) (0 : Rat) (0 : Rat))) rfl (zX sizeOf30 (Pc.tx (Pc.here _)) rfl rfl rfl rb7 (r20u5.le (Le.q (l := k + l + 1 + 1) (by omega))) rfl) ?_
 intro cs_11 rb_12
 refine yZ (yY (zK (e' := [(2, _), (3, _), (4, _), (6, _), (7, _), (9, _)]) e6 (zB (zA (gv ((zS (q := 1) rfl rfl (by omega) (by omega)).cv (show _ = vI (1) from rfl)) rfl (mv rfl rfl (zD (xI (zC (zA (gv (OpV.tr (by decide) (zW (q := 3) rfl rfl)) rfl (zD (zB ?_)))))))))))))
 refine zC (xC rfl (zL (zB (zC (zQ (zC (zA (mv rfl rfl (asg rfl rfl (zD (zB ?_)))))))))))
 refine yG 10 _ [] [(0, .q), (1, .q), (2, .q), (3, .q), (4, .q), (5, .q), (6, .q), (7, .q), (8, .c), (9, .q), (10, .t)] xG nX (by kernel_rfl) nX (fun r hr => hr) (w_q rfl (fun h' L' hh hR => zH rfl) rfl (w_q rfl (fun h' L' hh hR => zH rfl) rfl (w_q rfl (fun h' L' hh hR => zH rfl) rfl (w_q rfl (fun h' L' hh hR => (zF (sz := 3) 1 underlying32 sizeOf30 rfl rfl rfl (by decide)).cv (show _ = vP b3 3 from congrArg (vP b3) (by rfl))) rfl ?_))))
 replace rb3 := rb3.mono hh1
 refine yO (F := fun v_ => (rpQ k).Is h1 v_ a.y) rfl (zE xA (Pc.ty (Pc.here _)) rfl rfl rb3 rfl) (yD (.tail _ (.tail _ (.tail _ (.head _))))) rfl ?_
 intro v16u6 r16u6
 refine w_q rfl (fun h' L' hh hR => zH rfl) rfl (w_q rfl (fun h' L' hh hR => (zF (sz := 3) 1 underlying32 sizeOf30 rfl rfl rfl (by decide)).cv (show _ = vP b4 3 from congrArg (vP b4) (by rfl))) rfl ?_)
 replace rb4 := rb4.mono hh1
 refine yO (F := fun v_ => (rpQ l).Is h1 v_ b.y) rfl (zE xA (Pc.ty (Pc.here _)) rfl rfl rb4 rfl) (yD (.tail _ (.tail _ (.head _)))) rfl ?_
 intro v19u6 r19u6
 refine w_c rfl (s_enter (enters_v (vs := [_, _]) call70 rfl e2z) rfl (fun w hs => o_rat_sub hs r16u6 r19u6 (by omega)) ?_)
 intro v20u6 h2 hh2 r20u6
 change (rpQ (k + l + 1)).Is h2 v20u6 (a.y - b.y) at r20u6
 refine w_q rfl (fun h' L' hh hR => (zF (sz := 3) 1 underlying32 sizeOf30 rfl rfl rfl (by decide)).cv (show _ = vP b7 3 from congrArg (vP b7) (by rfl))) rfl ?_
 replace rb_12 := rb_12.mono hh2
 refine yV (A := []) (F := fun c_ => (rpT (rpQ (k + l + 1 + 1))).R h2 c_ (T3.mk (a.x - b.x) (a.y - b.y) (0 : Rat))) rfl (zX sizeOf30 (Pc.ty (Pc.here _)) rfl rfl rfl rb_12 (r20u6.le (Le.q (l := k + l + 1 + 1) (by omega))) rfl) ?_
 intro cs_13 rb_14
 refine yZ (yY (zK (e' := [(2, _), (3, _), (4, _), (6, _), (7, _), (9, _)]) e6 (zB (zA (gv ((zS (q := 1) rfl rfl (by omega) (by omega)).cv (show _ = vI (2) from rfl)) rfl (mv rfl rfl (zD (xI (zC (zA (gv (OpV.tr (by decide) (zW (q := 3) rfl rfl)) rfl (zD (zB ?_)))))))))))))
 refine zC (xC rfl (zL (zB (zC (zQ (zC (zA (mv rfl rfl (asg rfl rfl (zD (zB ?_)))))))))))
 refine yG 10 _ [] [(0, .q), (1, .q), (2, .q), (3, .q), (4, .q), (5, .q), (6, .q), (7, .q), (8, .c), (9, .q), (10, .t)] xG nX (by kernel_rfl) nX (fun r hr => hr) (w_q rfl (fun h' L' hh hR => zH rfl) rfl (w_q rfl (fun h' L' hh hR => zH rfl) rfl (w_q rfl (fun h' L' hh hR => zH rfl) rfl (w_q rfl (fun h' L' hh hR => (zF (sz := 3) 2 underlying32 sizeOf30 rfl rfl rfl (by decide)).cv (show _ = vP b3 6 from congrArg (vP b3) (by rfl))) rfl ?_))))
 replace rb3 := rb3.mono hh2
 refine yO (F := fun v_ => (rpQ k).Is h2 v_ a.z) rfl (zE xA (Pc.tz (Pc.here _)) rfl rfl rb3 rfl) (yD (.tail _ (.tail _ (.tail _ (.head _))))) rfl ?_
 intro v16u7 r16u7
 refine w_q rfl (fun h' L' hh hR => zH rfl) rfl (w_q rfl (fun h' L' hh hR => (zF (sz := 3) 2 underlying32 sizeOf30 rfl rfl rfl (by decide)).cv (show _ = vP b4 6 from congrArg (vP b4) (by rfl))) rfl ?_)
 replace rb4 := rb4.mono hh2
 refine yO (F := fun v_ => (rpQ l).Is h2 v_ b.z) rfl (zE xA (Pc.tz (Pc.here _)) rfl rfl rb4 rfl) (yD (.tail _ (.tail _ (.head _)))) rfl ?_
 intro v19u7 r19u7
 refine w_c rfl (s_enter (enters_v (vs := [_, _]) call70 rfl e2z) rfl (fun w hs => o_rat_sub hs r16u7 r19u7 (by omega)) ?_)
 intro v20u7 h3 hh3 r20u7
 change (rpQ (k + l + 1)).Is h3 v20u7 (a.z - b.z) at r20u7
 refine w_q rfl (fun h' L' hh hR => (zF (sz := 3) 2 underlying32 sizeOf30 rfl rfl rfl (by decide)).cv (show _ = vP b7 6 from congrArg (vP b7) (by rfl))) rfl ?_
 replace rb_14 := rb_14.mono hh3
 refine yV (A := []) (F := fun c_ => (rpT (rpQ (k + l + 1 + 1))).R h3 c_ (T3.mk (a.x - b.x) (a.y - b.y) (a.z - b.z))) rfl (zX sizeOf30 (Pc.tz (Pc.here _)) rfl rfl rfl rb_14 (r20u7.le (Le.q (l := k + l + 1 + 1) (by omega))) rfl) ?_
 intro cs_15 rb_16
 refine yZ (yY (zK (e' := [(2, _), (3, _), (4, _), (6, _), (7, _), (9, _)]) e6 (zB (zA (gv ((zS (q := 1) rfl rfl (by omega) (by omega)).cv (show _ = vI (3) from rfl)) rfl (mv rfl rfl (zD (xI (zC (zA (gv (OpV.fa (by decide) (zW (q := 3) rfl rfl)) rfl (zD (zB ?_)))))))))))))
 refine zC (gc_cond_f rfl (xK (yE (yE (xJ (zB (zC (zA (xQ (F := fun v_ => (rpT (rpQ (k + l + 1 + 1))).Is h3 v_ (T3.mk (a.x - b.x) (a.y - b.y) (a.z - b.z))) (zE xF (Pc.here _) rfl rfl rb_16 rfl) (yD (.head _)) rfl ?_)))))))))
 intro v23u8 r23u8
 replace rb6 := rb6.mono ((hh1.trans hh2).trans hh3)
 refine xO (A := [_]) (F := fun c_ => (rpT (rpQ (k + l + 1 + 1))).R h3 c_ (T3.mk (a.x - b.x) (a.y - b.y) (a.z - b.z))) (zX sizeOf32 (Pc.here _) rfl rfl rfl rb6 r23u8 rfl) ?_
 intro cs_17 rb_18
 refine zD (zB (zR (gq_exv (rv_o (t := 6) xF (.tail _ (.head _)) rfl rb_18) ?_)))
 intro w_19 hvw_19 rr_20
 refine xM (fun E S => yL rfl hvw_19 E S) ?_
 exact rr_20
theorem o_each_mul {w0 : World} {h0 : Mem}  (hs : MLe h0 (mem w0)) {k l : Nat} {va : Value} {a : (T3 Rat)} (ra : (rpT (rpQ k)).Is h0 va a) {vb : Value} {b : (T3 Rat)} (rb : (rpT (rpQ l)).Is h0 vb b) (hcd0 : k + l ≤ 10000000000)  :
    Calls Tryz.prog 115 #[va, vb, vF 103 []] w0 (Ret w0 h0 (fun h r => (rpT (rpQ (k + l + 1))).Is h r (T3.mk (a.x * b.x) (a.y * b.y) (a.z * b.z)))) := by
 refine zO (n := 24) (e := [(0, va), (1, vb), (2, vF 103 [])]) (vs := [va, vb, vF 103 []]) func115 rfl rfl (bL rfl) hs e3z (zC (zA (zJ (yU (ρ := (rpT (rpQ k))) rfl ra) rfl rfl rfl ?_)))
 intro v3 q3 hq3
 obtain ⟨b3, cs3, rfl, rfl, rb3⟩ := hq3
 refine zJ (yU (ρ := (rpT (rpQ l))) rfl rb) rfl rfl rfl ?_
 intro v4 q4 hq4
 obtain ⟨b4, cs4, rfl, rfl, rb4⟩ := hq4
 refine zJ (yQ (ρ := (rpT (rpQ (k + l + 1)))) (X := (T3.mk (0 : Rat) 0 0)) yI rfl rfl (zr_t (xS (by omega)))) rfl rfl rfl ?_
 intro v6 q6 hq6
 obtain ⟨b6, cs6, rfl, rfl, rb6⟩ := hq6
 refine zD (zB (zC (zA (zJ (yQ (ρ := (rpT (rpQ (k + l + 1)))) (X := (T3.mk (0 : Rat) 0 0)) yI rfl rfl (zr_t (xS (by omega)))) rfl rfl rfl ?_))))
 intro v7 q7 hq7
 obtain ⟨b7, cs7, rfl, rfl, rb7⟩ := hq7
 refine zD (zB (zC (zC (zA (mv (v := vI (0)) rfl rfl (zD (zB (zQ (gc_loop1 (zC (zA (gv (OpV.tr (by decide) (zW (q := 3) rfl rfl)) rfl (zD ?_)))))))))))))
 refine zB (zC (xC rfl (zL (zB (zC (zQ (zC (zA (mv rfl rfl (asg rfl rfl (zD (zB ?_))))))))))))
 refine yG 10 _ [] [(0, .q), (1, .q), (2, .q), (3, .q), (4, .q), (5, .q), (6, .q), (7, .q), (8, .c), (9, .q), (10, .t)] xG nX (by kernel_rfl) nX (fun r hr => hr) (w_q rfl (fun h' L' hh hR => zH rfl) rfl (w_q rfl (fun h' L' hh hR => zH rfl) rfl (w_q rfl (fun h' L' hh hR => zH rfl) rfl (w_q rfl (fun h' L' hh hR => (zF (sz := 3) 0 underlying32 sizeOf30 rfl rfl rfl (by decide)).cv (show _ = vP b3 0 from congrArg (vP b3) (by rfl))) rfl (yO (F := fun v_ => (rpQ k).Is h0 v_ a.x) rfl (zE xA (Pc.tx (Pc.here _)) rfl rfl rb3 rfl) (yD (.tail _ (.tail _ (.tail _ (.head _))))) rfl ?_)))))
 intro v16u9 r16u9
 refine w_q rfl (fun h' L' hh hR => zH rfl) rfl (w_q rfl (fun h' L' hh hR => (zF (sz := 3) 0 underlying32 sizeOf30 rfl rfl rfl (by decide)).cv (show _ = vP b4 0 from congrArg (vP b4) (by rfl))) rfl (yO (F := fun v_ => (rpQ l).Is h0 v_ b.x) rfl (zE xA (Pc.tx (Pc.here _)) rfl rfl rb4 rfl) (yD (.tail _ (.tail _ (.head _)))) rfl ?_))
 intro v19u9 r19u9
 refine w_c rfl (s_enter (enters_v (vs := [_, _]) call103 rfl e2z) rfl (fun w hs => o_rat_mul hs r16u9 r19u9 (by omega)) ?_)
 intro v20u9 h1 hh1 r20u9
 change (rpQ (k + l)).Is h1 v20u9 (a.x * b.x) at r20u9
 refine w_q rfl (fun h' L' hh hR => (zF (sz := 3) 0 underlying32 sizeOf30 rfl rfl rfl (by decide)).cv (show _ = vP b7 0 from congrArg (vP b7) (by rfl))) rfl ?_
 replace rb7 := rb7.mono hh1
 refine yV (A := []) (F := fun c_ => (rpT (rpQ (k + l + 1))).R h1 c_ (T3.mk (a.x * b.x) (0 : Rat) (0 : Rat))) rfl (zX sizeOf30 (Pc.tx (Pc.here _)) rfl rfl rfl rb7 (r20u9.le (Le.q (l := k + l + 1) (by omega))) rfl) ?_
 intro cs_21 rb_22
 refine yZ (yY (zK (e' := [(2, _), (3, _), (4, _), (6, _), (7, _), (9, _)]) e6 (zB (zA (gv ((zS (q := 1) rfl rfl (by omega) (by omega)).cv (show _ = vI (1) from rfl)) rfl (mv rfl rfl (zD (xI (zC (zA (gv (OpV.tr (by decide) (zW (q := 3) rfl rfl)) rfl (zD (zB ?_)))))))))))))
 refine zC (xC rfl (zL (zB (zC (zQ (zC (zA (mv rfl rfl (asg rfl rfl (zD (zB ?_)))))))))))
 refine yG 10 _ [] [(0, .q), (1, .q), (2, .q), (3, .q), (4, .q), (5, .q), (6, .q), (7, .q), (8, .c), (9, .q), (10, .t)] xG nX (by kernel_rfl) nX (fun r hr => hr) (w_q rfl (fun h' L' hh hR => zH rfl) rfl (w_q rfl (fun h' L' hh hR => zH rfl) rfl (w_q rfl (fun h' L' hh hR => zH rfl) rfl (w_q rfl (fun h' L' hh hR => (zF (sz := 3) 1 underlying32 sizeOf30 rfl rfl rfl (by decide)).cv (show _ = vP b3 3 from congrArg (vP b3) (by rfl))) rfl ?_))))
 replace rb3 := rb3.mono hh1
 refine yO (F := fun v_ => (rpQ k).Is h1 v_ a.y) rfl (zE xA (Pc.ty (Pc.here _)) rfl rfl rb3 rfl) (yD (.tail _ (.tail _ (.tail _ (.head _))))) rfl ?_
 intro v16u10 r16u10
 refine w_q rfl (fun h' L' hh hR => zH rfl) rfl (w_q rfl (fun h' L' hh hR => (zF (sz := 3) 1 underlying32 sizeOf30 rfl rfl rfl (by decide)).cv (show _ = vP b4 3 from congrArg (vP b4) (by rfl))) rfl ?_)
 replace rb4 := rb4.mono hh1
 refine yO (F := fun v_ => (rpQ l).Is h1 v_ b.y) rfl (zE xA (Pc.ty (Pc.here _)) rfl rfl rb4 rfl) (yD (.tail _ (.tail _ (.head _)))) rfl ?_
 intro v19u10 r19u10
 refine w_c rfl (s_enter (enters_v (vs := [_, _]) call103 rfl e2z) rfl (fun w hs => o_rat_mul hs r16u10 r19u10 (by omega)) ?_)
 intro v20u10 h2 hh2 r20u10
 change (rpQ (k + l)).Is h2 v20u10 (a.y * b.y) at r20u10
 refine w_q rfl (fun h' L' hh hR => (zF (sz := 3) 1 underlying32 sizeOf30 rfl rfl rfl (by decide)).cv (show _ = vP b7 3 from congrArg (vP b7) (by rfl))) rfl ?_
 replace rb_22 := rb_22.mono hh2
 refine yV (A := []) (F := fun c_ => (rpT (rpQ (k + l + 1))).R h2 c_ (T3.mk (a.x * b.x) (a.y * b.y) (0 : Rat))) rfl (zX sizeOf30 (Pc.ty (Pc.here _)) rfl rfl rfl rb_22 (r20u10.le (Le.q (l := k + l + 1) (by omega))) rfl) ?_
 intro cs_23 rb_24
 refine yZ (yY (zK (e' := [(2, _), (3, _), (4, _), (6, _), (7, _), (9, _)]) e6 (zB (zA (gv ((zS (q := 1) rfl rfl (by omega) (by omega)).cv (show _ = vI (2) from rfl)) rfl (mv rfl rfl (zD (xI (zC (zA (gv (OpV.tr (by decide) (zW (q := 3) rfl rfl)) rfl (zD (zB ?_)))))))))))))
 refine zC (xC rfl (zL (zB (zC (zQ (zC (zA (mv rfl rfl (asg rfl rfl (zD (zB ?_)))))))))))
 refine yG 10 _ [] [(0, .q), (1, .q), (2, .q), (3, .q), (4, .q), (5, .q), (6, .q), (7, .q), (8, .c), (9, .q), (10, .t)] xG nX (by kernel_rfl) nX (fun r hr => hr) (w_q rfl (fun h' L' hh hR => zH rfl) rfl (w_q rfl (fun h' L' hh hR => zH rfl) rfl (w_q rfl (fun h' L' hh hR => zH rfl) rfl (w_q rfl (fun h' L' hh hR => (zF (sz := 3) 2 underlying32 sizeOf30 rfl rfl rfl (by decide)).cv (show _ = vP b3 6 from congrArg (vP b3) (by rfl))) rfl ?_))))
 replace rb3 := rb3.mono hh2
 refine yO (F := fun v_ => (rpQ k).Is h2 v_ a.z) rfl (zE xA (Pc.tz (Pc.here _)) rfl rfl rb3 rfl) (yD (.tail _ (.tail _ (.tail _ (.head _))))) rfl ?_
 intro v16u11 r16u11
 refine w_q rfl (fun h' L' hh hR => zH rfl) rfl (w_q rfl (fun h' L' hh hR => (zF (sz := 3) 2 underlying32 sizeOf30 rfl rfl rfl (by decide)).cv (show _ = vP b4 6 from congrArg (vP b4) (by rfl))) rfl ?_)
 replace rb4 := rb4.mono hh2
 refine yO (F := fun v_ => (rpQ l).Is h2 v_ b.z) rfl (zE xA (Pc.tz (Pc.here _)) rfl rfl rb4 rfl) (yD (.tail _ (.tail _ (.head _)))) rfl ?_
 intro v19u11 r19u11
 refine w_c rfl (s_enter (enters_v (vs := [_, _]) call103 rfl e2z) rfl (fun w hs => o_rat_mul hs r16u11 r19u11 (by omega)) ?_)
 intro v20u11 h3 hh3 r20u11
 change (rpQ (k + l)).Is h3 v20u11 (a.z * b.z) at r20u11
 refine w_q rfl (fun h' L' hh hR => (zF (sz := 3) 2 underlying32 sizeOf30 rfl rfl rfl (by decide)).cv (show _ = vP b7 6 from congrArg (vP b7) (by rfl))) rfl ?_
 replace rb_24 := rb_24.mono hh3
 refine yV (A := []) (F := fun c_ => (rpT (rpQ (k + l + 1))).R h3 c_ (T3.mk (a.x * b.x) (a.y * b.y) (a.z * b.z))) rfl (zX sizeOf30 (Pc.tz (Pc.here _)) rfl rfl rfl rb_24 (r20u11.le (Le.q (l := k + l + 1) (by omega))) rfl) ?_
 intro cs_25 rb_26
 refine yZ (yY (zK (e' := [(2, _), (3, _), (4, _), (6, _), (7, _), (9, _)]) e6 (zB (zA (gv ((zS (q := 1) rfl rfl (by omega) (by omega)).cv (show _ = vI (3) from rfl)) rfl (mv rfl rfl (zD (xI (zC (zA (gv (OpV.fa (by decide) (zW (q := 3) rfl rfl)) rfl (zD (zB ?_)))))))))))))
 refine zC (gc_cond_f rfl (xK (yE (yE (xJ (zB (zC (zA (xQ (F := fun v_ => (rpT (rpQ (k + l + 1))).Is h3 v_ (T3.mk (a.x * b.x) (a.y * b.y) (a.z * b.z))) (zE xF (Pc.here _) rfl rfl rb_26 rfl) (yD (.head _)) rfl ?_)))))))))
 intro v23u12 r23u12
 replace rb6 := rb6.mono ((hh1.trans hh2).trans hh3)
 refine xO (A := [_]) (F := fun c_ => (rpT (rpQ (k + l + 1))).R h3 c_ (T3.mk (a.x * b.x) (a.y * b.y) (a.z * b.z))) (zX sizeOf32 (Pc.here _) rfl rfl rfl rb6 r23u12 rfl) ?_
 intro cs_27 rb_28
 refine zD (zB (zR (gq_exv (rv_o (t := 6) xF (.tail _ (.head _)) rfl rb_28) ?_)))
 intro w_29 hvw_29 rr_30
 refine xM (fun E S => yL rfl hvw_29 E S) ?_
 exact rr_30
theorem o_v_add {w0 : World} {h0 : Mem}  (hs : MLe h0 (mem w0)) {k l : Nat} {va : Value} {a : (T3 Rat)} (ra : (rpT (rpQ k)).Is h0 va a) {vb : Value} {b : (T3 Rat)} (rb : (rpT (rpQ l)).Is h0 vb b) (hcd0 : k + l ≤ 10000000000)  :
    Calls Tryz.prog 80 #[va, vb] w0 (Ret w0 h0 (fun h r => (rpT (rpQ (k + l + 2))).Is h r (T3.mk (a.x + b.x) (a.y + b.y) (a.z + b.z)))) := by
 refine zO (n := 8) (e := [(0, va), (1, vb)]) (vs := [va, vb]) func80 rfl rfl (bL rfl) hs e2z (zC (zA (zJ (yU (ρ := (rpT (rpQ k))) rfl ra) rfl rfl rfl ?_)))
 intro v2 q2 hq2
 obtain ⟨b2, cs2, rfl, rfl, rb2⟩ := hq2
 refine zJ (yU (ρ := (rpT (rpQ l))) rfl rb) rfl rfl rfl ?_
 intro v3 q3 hq3
 obtain ⟨b3, cs3, rfl, rfl, rb3⟩ := hq3
 refine zJ (yQ (ρ := (rpT (rpQ (k + l + 2)))) (X := (T3.mk (0 : Rat) 0 0)) yI rfl rfl (zr_t (xS (by omega)))) rfl rfl rfl ?_
 intro v4 q4 hq4
 obtain ⟨b4, cs4, rfl, rfl, rb4⟩ := hq4
 refine zD (zB (zC (zA (xQ (F := fun v_ => (rpT (rpQ k)).Is h0 v_ a) (zE xF (Pc.here _) rfl rfl rb2 rfl) (yD (.tail _ (.tail _ (.head _)))) rfl ?_))))
 intro v5 r5
 refine xQ (F := fun v_ => (rpT (rpQ l)).Is h0 v_ b) (zE xF (Pc.here _) rfl rfl rb3 rfl) (yD (.tail _ (.head _))) rfl ?_
 intro v6 r6
 refine zM (vs := [_, _, _]) rfl rfl rfl rfl call115 e3z (fun w hs => o_each_add hs r5 r6 (by omega)) ?_
 intro v7 h1 hh1 r7
 change (rpT (rpQ (k + l + 1 + 1))).Is h1 v7 (T3.mk (a.x + b.x) (a.y + b.y) (a.z + b.z)) at r7
 replace r7 := Rp.Is.le r7 (Le.t (Le.q (l := k + l + 2) (by omega)))
 replace rb4 := rb4.mono hh1
 refine xO (A := []) (F := fun c_ => (rpT (rpQ (k + l + 2))).R h1 c_ (T3.mk (a.x + b.x) (a.y + b.y) (a.z + b.z))) (zX sizeOf32 (Pc.here _) rfl rfl rfl rb4 r7 rfl) ?_
 intro cs_31 rb_32
 refine zD (zB (zR (gq_exv (rv_o (t := 4) xF (.head _) rfl rb_32) ?_)))
 intro w_33 hvw_33 rr_34
 refine xM (fun E S => yL rfl hvw_33 E S) ?_
 exact rr_34
theorem o_v_sub {w0 : World} {h0 : Mem}  (hs : MLe h0 (mem w0)) {k l : Nat} {va : Value} {a : (T3 Rat)} (ra : (rpT (rpQ k)).Is h0 va a) {vb : Value} {b : (T3 Rat)} (rb : (rpT (rpQ l)).Is h0 vb b) (hcd0 : k + l ≤ 10000000000)  :
    Calls Tryz.prog 78 #[va, vb] w0 (Ret w0 h0 (fun h r => (rpT (rpQ (k + l + 2))).Is h r (T3.mk (a.x - b.x) (a.y - b.y) (a.z - b.z)))) := by
 refine zO (n := 8) (e := [(0, va), (1, vb)]) (vs := [va, vb]) func78 rfl rfl (bL rfl) hs e2z (zC (zA (zJ (yU (ρ := (rpT (rpQ k))) rfl ra) rfl rfl rfl ?_)))
 intro v2 q2 hq2
 obtain ⟨b2, cs2, rfl, rfl, rb2⟩ := hq2
 refine zJ (yU (ρ := (rpT (rpQ l))) rfl rb) rfl rfl rfl ?_
 intro v3 q3 hq3
 obtain ⟨b3, cs3, rfl, rfl, rb3⟩ := hq3
 refine zJ (yQ (ρ := (rpT (rpQ (k + l + 2)))) (X := (T3.mk (0 : Rat) 0 0)) yI rfl rfl (zr_t (xS (by omega)))) rfl rfl rfl ?_
 intro v4 q4 hq4
 obtain ⟨b4, cs4, rfl, rfl, rb4⟩ := hq4
 refine zD (zB (zC (zA (xQ (F := fun v_ => (rpT (rpQ k)).Is h0 v_ a) (zE xF (Pc.here _) rfl rfl rb2 rfl) (yD (.tail _ (.tail _ (.head _)))) rfl ?_))))
 intro v5 r5
 refine xQ (F := fun v_ => (rpT (rpQ l)).Is h0 v_ b) (zE xF (Pc.here _) rfl rfl rb3 rfl) (yD (.tail _ (.head _))) rfl ?_
 intro v6 r6
 refine zM (vs := [_, _, _]) rfl rfl rfl rfl call115 e3z (fun w hs => o_each_sub hs r5 r6 (by omega)) ?_
 intro v7 h1 hh1 r7
 change (rpT (rpQ (k + l + 1 + 1))).Is h1 v7 (T3.mk (a.x - b.x) (a.y - b.y) (a.z - b.z)) at r7
 replace r7 := Rp.Is.le r7 (Le.t (Le.q (l := k + l + 2) (by omega)))
 replace rb4 := rb4.mono hh1
 refine xO (A := []) (F := fun c_ => (rpT (rpQ (k + l + 2))).R h1 c_ (T3.mk (a.x - b.x) (a.y - b.y) (a.z - b.z))) (zX sizeOf32 (Pc.here _) rfl rfl rfl rb4 r7 rfl) ?_
 intro cs_35 rb_36
 refine zD (zB (zR (gq_exv (rv_o (t := 4) xF (.head _) rfl rb_36) ?_)))
 intro w_37 hvw_37 rr_38
 refine xM (fun E S => yL rfl hvw_37 E S) ?_
 exact rr_38
theorem o_v_scale {w0 : World} {h0 : Mem}  (hs : MLe h0 (mem w0)) {l k : Nat} {vq : Value} {q : Rat} (rq : (rpQ l).Is h0 vq q) {va : Value} {a : (T3 Rat)} (ra : (rpT (rpQ k)).Is h0 va a) (hcd0 : k + l ≤ 1000000000)  :
    Calls Tryz.prog 82 #[vq, va] w0 (Ret w0 h0 (fun h r => (rpT (rpQ (k + l + 2))).Is h r (T3.mk (q * a.x) (q * a.y) (q * a.z)))) := by
 refine zO (n := 11) (e := [(0, vq), (1, va)]) (vs := [vq, va]) func82 rfl rfl (bL rfl) hs e2z (zC (zA (zJ (yU (ρ := (rpQ l)) rfl rq) rfl rfl rfl ?_)))
 intro v2 q2 hq2
 obtain ⟨b2, cs2, rfl, rfl, rb2⟩ := hq2
 refine zJ (yU (ρ := (rpT (rpQ k))) rfl ra) rfl rfl rfl ?_
 intro v3 q3 hq3
 obtain ⟨b3, cs3, rfl, rfl, rb3⟩ := hq3
 refine zJ (yQ (ρ := (rpT (rpQ (k + l + 2)))) (X := (T3.mk (0 : Rat) 0 0)) yI rfl rfl (zr_t (xS (by omega)))) rfl rfl rfl ?_
 intro v4 q4 hq4
 obtain ⟨b4, cs4, rfl, rfl, rb4⟩ := hq4
 refine zD (zB (zC (zA (xQ (F := fun v_ => (rpQ l).Is h0 v_ q) (zE xA (Pc.here _) rfl rfl rb2 rfl) (yD (.tail _ (.tail _ (.head _)))) rfl ?_))))
 intro v5 r5
 refine xQ (F := fun v_ => (rpQ l).Is h0 v_ q) (zE xA (Pc.here _) rfl rfl rb2 rfl) (yD (.tail _ (.tail _ (.head _)))) rfl ?_
 intro v6 r6
 refine xQ (F := fun v_ => (rpQ l).Is h0 v_ q) (zE xA (Pc.here _) rfl rfl rb2 rfl) (yD (.tail _ (.tail _ (.head _)))) rfl ?_
 intro v7 r7
 refine xQ (F := fun v_ => (rpT (rpQ (l + 1))).Is h0 v_ (T3.mk q q q)) (ox_build_arr (ps' := [(0, _), (1, _), (2, _)]) underlying32 yI rfl rfl sizeOf30 e6 rfl (zr_t (xS (by omega))) (yN rfl (Pc.tx (Pc.here _)) (r5.le (Le.q (l := l + 1) (by omega))) (yN rfl (Pc.ty (Pc.here _)) (r6.le (Le.q (l := l + 1) (by omega))) (yN rfl (Pc.tz (Pc.here _)) (r7.le (Le.q (l := l + 1) (by omega))) fx_nil)))) mem0 rfl ?_
 intro v8 r8
 refine xQ (F := fun v_ => (rpT (rpQ k)).Is h0 v_ a) (zE xF (Pc.here _) rfl rfl rb3 rfl) (yD (.tail _ (.head _))) rfl ?_
 intro v9 r9
 refine zM (vs := [_, _, _]) rfl rfl rfl rfl call115 e3z (fun w hs => o_each_mul hs r8 r9 (by omega)) ?_
 intro v10 h1 hh1 r10
 change (rpT (rpQ ((l + 1) + k + 1))).Is h1 v10 (T3.mk (q * a.x) (q * a.y) (q * a.z)) at r10
 replace r10 := Rp.Is.le r10 (Le.t (Le.q (l := k + l + 2) (by omega)))
 replace rb4 := rb4.mono hh1
 refine xO (A := []) (F := fun c_ => (rpT (rpQ (k + l + 2))).R h1 c_ (T3.mk (q * a.x) (q * a.y) (q * a.z))) (zX sizeOf32 (Pc.here _) rfl rfl rfl rb4 r10 rfl) ?_
 intro cs_39 rb_40
 refine zD (zK (e' := [(4, _)]) ⟨rfl, trivial⟩ (zB (zR (gq_exv (rv_o (t := 4) xF (.head _) rfl rb_40) ?_))))
 intro w_41 hvw_41 rr_42
 refine xM (fun E S => yL rfl hvw_41 E S) ?_
 exact rr_42
theorem o_v_dot {w0 : World} {h0 : Mem}  (hs : MLe h0 (mem w0)) {k l : Nat} {va : Value} {a : (T3 Rat)} (ra : (rpT (rpQ k)).Is h0 va a) {vb : Value} {b : (T3 Rat)} (rb : (rpT (rpQ l)).Is h0 vb b) (hcd0 : k + l ≤ 1000000000)  :
    Calls Tryz.prog 79 #[va, vb] w0 (Ret w0 h0 (fun h r => (rpQ (3 * k + 3 * l + 9)).Is h r (dotT a b))) := by
 refine zO (n := 21) (e := [(0, va), (1, vb)]) (vs := [va, vb]) func79 rfl rfl (bL rfl) hs e2z (zC (zA (zJ (yU (ρ := (rpT (rpQ k))) rfl ra) rfl rfl rfl ?_)))
 intro v2 q2 hq2
 obtain ⟨b2, cs2, rfl, rfl, rb2⟩ := hq2
 refine zJ (yU (ρ := (rpT (rpQ l))) rfl rb) rfl rfl rfl ?_
 intro v3 q3 hq3
 obtain ⟨b3, cs3, rfl, rfl, rb3⟩ := hq3
 refine zJ (yQ (ρ := (rpQ (3 * k + 3 * l + 9))) (X := (0 : Rat)) info30 rfl rfl (xS (by omega))) rfl rfl rfl ?_
 intro v4 q4 hq4
 obtain ⟨b4, cs4, rfl, rfl, rb4⟩ := hq4
 refine zD (zB (zC (zA (zJ (yQ (ρ := (rpQ 1)) (X := (0 : Rat)) info30 rfl rfl (xS (by decide))) rfl rfl rfl ?_))))
 intro v5 q5 hq5
 obtain ⟨b5, cs5, rfl, rfl, rb5⟩ := hq5
 refine zD (zB (zC (zC (zA (mv (v := vI (0)) rfl rfl (zD (zB (zQ (gc_loop1 (zC (zA (gv (OpV.tr (by decide) (zW (q := 3) rfl rfl)) rfl (zD ?_)))))))))))))
 refine zB (zC (xC rfl (zL (zB (zC (zQ (zC (zA (mv rfl rfl (asg rfl rfl (zD (zB ?_))))))))))))
 refine yG 9 _ [] [(0, .q), (1, .q), (2, .q), (3, .q), (4, .q), (5, .q), (6, .q), (7, .c), (8, .c), (9, .t)] xG nX (by kernel_rfl) nX (fun r hr => hr) (yO (F := fun v_ => (rpQ 1).Is h0 v_ (0 : Rat)) rfl (zE xA (Pc.here _) rfl rfl rb5 rfl) (yD (.head _)) rfl ?_)
 intro v10u13 r10u13
 refine w_q rfl (fun h' L' hh hR => zH rfl) rfl (w_q rfl (fun h' L' hh hR => (zF (sz := 3) 0 underlying32 sizeOf30 rfl rfl rfl (by decide)).cv (show _ = vP b2 0 from congrArg (vP b2) (by rfl))) rfl (yO (F := fun v_ => (rpQ k).Is h0 v_ a.x) rfl (zE xA (Pc.tx (Pc.here _)) rfl rfl rb2 rfl) (yD (.tail _ (.tail _ (.tail _ (.head _))))) rfl ?_))
 intro v13u13 r13u13
 refine w_q rfl (fun h' L' hh hR => zH rfl) rfl (w_q rfl (fun h' L' hh hR => (zF (sz := 3) 0 underlying32 sizeOf30 rfl rfl rfl (by decide)).cv (show _ = vP b3 0 from congrArg (vP b3) (by rfl))) rfl (yO (F := fun v_ => (rpQ l).Is h0 v_ b.x) rfl (zE xA (Pc.tx (Pc.here _)) rfl rfl rb3 rfl) (yD (.tail _ (.tail _ (.head _)))) rfl ?_))
 intro v16u13 r16u13
 refine w_c rfl ?_
 refine zY (vs := [_, _]) call103 e2z (fun w hs => o_rat_mul hs r13u13 r16u13 (by omega)) rfl ?_
 intro v17u13 h1 hh1 r17u13
 change (rpQ (k + l)).Is h1 v17u13 (a.x * b.x) at r17u13
 refine w_c rfl ?_
 replace r10u13 := r10u13.mono hh1
 refine zY (vs := [_, _]) call71 e2z (fun w hs => o_rat_add hs r10u13 r17u13 (by omega)) rfl ?_
 intro v18u13 h2 hh2 r18u13
 change (rpQ (1 + (k + l) + 1)).Is h2 v18u13 ((0 : Rat) + (a.x * b.x)) at r18u13
 replace r18u13 := Rp.Is.le r18u13 (Le.q (l := k + l + 2) (by omega))
 replace rb5 := rb5.mono (hh1.trans hh2)
 have rw_43 := (Le.q (l := k + l + 2) (by omega)).R rb5
 refine yV (A := []) (F := fun c_ => (rpQ (k + l + 2)).R h2 c_ ((0 : Rat) + (a.x * b.x))) rfl (zX sizeOf30 (Pc.here _) rfl rfl rfl rw_43 r18u13 rfl) ?_
 intro cs_44 rb_45
 refine yZ (yY (zK (e' := [(2, _), (3, _), (4, _), (5, _), (7, _)]) e5 (zB (zA (gv ((zS (q := 1) rfl rfl (by omega) (by omega)).cv (show _ = vI (1) from rfl)) rfl (mv rfl rfl (zD (xI (zC (zA (gv (OpV.tr (by decide) (zW (q := 3) rfl rfl)) rfl (zD (zB ?_)))))))))))))
 refine zC (xC rfl (zL (zB (zC (zQ (zC (zA (mv rfl rfl (asg rfl rfl (zD (zB ?_)))))))))))
 refine yG 9 _ [] [(0, .q), (1, .q), (2, .q), (3, .q), (4, .q), (5, .q), (6, .q), (7, .c), (8, .c), (9, .t)] xG nX (by kernel_rfl) nX (fun r hr => hr) (yO (F := fun v_ => (rpQ (k + l + 2)).Is h2 v_ ((0 : Rat) + (a.x * b.x))) rfl (zE xA (Pc.here _) rfl rfl rb_45 rfl) (yD (.head _)) rfl ?_)
 intro v10u14 r10u14
 refine w_q rfl (fun h' L' hh hR => zH rfl) rfl (w_q rfl (fun h' L' hh hR => (zF (sz := 3) 1 underlying32 sizeOf30 rfl rfl rfl (by decide)).cv (show _ = vP b2 3 from congrArg (vP b2) (by rfl))) rfl ?_)
 replace rb2 := rb2.mono (hh1.trans hh2)
 refine yO (F := fun v_ => (rpQ k).Is h2 v_ a.y) rfl (zE xA (Pc.ty (Pc.here _)) rfl rfl rb2 rfl) (yD (.tail _ (.tail _ (.tail _ (.head _))))) rfl ?_
 intro v13u14 r13u14
 refine w_q rfl (fun h' L' hh hR => zH rfl) rfl (w_q rfl (fun h' L' hh hR => (zF (sz := 3) 1 underlying32 sizeOf30 rfl rfl rfl (by decide)).cv (show _ = vP b3 3 from congrArg (vP b3) (by rfl))) rfl ?_)
 replace rb3 := rb3.mono (hh1.trans hh2)
 refine yO (F := fun v_ => (rpQ l).Is h2 v_ b.y) rfl (zE xA (Pc.ty (Pc.here _)) rfl rfl rb3 rfl) (yD (.tail _ (.tail _ (.head _)))) rfl ?_
 intro v16u14 r16u14
 refine w_c rfl ?_
 refine zY (vs := [_, _]) call103 e2z (fun w hs => o_rat_mul hs r13u14 r16u14 (by omega)) rfl ?_
 intro v17u14 h3 hh3 r17u14
 change (rpQ (k + l)).Is h3 v17u14 (a.y * b.y) at r17u14
 refine w_c rfl ?_
 replace r10u14 := r10u14.mono hh3
 refine zY (vs := [_, _]) call71 e2z (fun w hs => o_rat_add hs r10u14 r17u14 (by omega)) rfl ?_
 intro v18u14 h4 hh4 r18u14
 change (rpQ ((k + l + 2) + (k + l) + 1)).Is h4 v18u14 (((0 : Rat) + (a.x * b.x)) + (a.y * b.y)) at r18u14
 replace r18u14 := Rp.Is.le r18u14 (Le.q (l := 2 * k + 2 * l + 3) (by omega))
 replace rb_45 := rb_45.mono (hh3.trans hh4)
 have rw_46 := (Le.q (l := 2 * k + 2 * l + 3) (by omega)).R rb_45
 refine yV (A := []) (F := fun c_ => (rpQ (2 * k + 2 * l + 3)).R h4 c_ (((0 : Rat) + (a.x * b.x)) + (a.y * b.y))) rfl (zX sizeOf30 (Pc.here _) rfl rfl rfl rw_46 r18u14 rfl) ?_
 intro cs_47 rb_48
 refine yZ (yY (zK (e' := [(2, _), (3, _), (4, _), (5, _), (7, _)]) e5 (zB (zA (gv ((zS (q := 1) rfl rfl (by omega) (by omega)).cv (show _ = vI (2) from rfl)) rfl (mv rfl rfl (zD (xI (zC (zA (gv (OpV.tr (by decide) (zW (q := 3) rfl rfl)) rfl (zD (zB ?_)))))))))))))
 refine zC (xC rfl (zL (zB (zC (zQ (zC (zA (mv rfl rfl (asg rfl rfl (zD (zB ?_)))))))))))
 refine yG 9 _ [] [(0, .q), (1, .q), (2, .q), (3, .q), (4, .q), (5, .q), (6, .q), (7, .c), (8, .c), (9, .t)] xG nX (by kernel_rfl) nX (fun r hr => hr) (yO (F := fun v_ => (rpQ (2 * k + 2 * l + 3)).Is h4 v_ (((0 : Rat) + (a.x * b.x)) + (a.y * b.y))) rfl (zE xA (Pc.here _) rfl rfl rb_48 rfl) (yD (.head _)) rfl ?_)
 intro v10u15 r10u15
 refine w_q rfl (fun h' L' hh hR => zH rfl) rfl (w_q rfl (fun h' L' hh hR => (zF (sz := 3) 2 underlying32 sizeOf30 rfl rfl rfl (by decide)).cv (show _ = vP b2 6 from congrArg (vP b2) (by rfl))) rfl ?_)
 replace rb2 := rb2.mono (hh3.trans hh4)
 refine yO (F := fun v_ => (rpQ k).Is h4 v_ a.z) rfl (zE xA (Pc.tz (Pc.here _)) rfl rfl rb2 rfl) (yD (.tail _ (.tail _ (.tail _ (.head _))))) rfl ?_
 intro v13u15 r13u15
 refine w_q rfl (fun h' L' hh hR => zH rfl) rfl (w_q rfl (fun h' L' hh hR => (zF (sz := 3) 2 underlying32 sizeOf30 rfl rfl rfl (by decide)).cv (show _ = vP b3 6 from congrArg (vP b3) (by rfl))) rfl ?_)
 replace rb3 := rb3.mono (hh3.trans hh4)
 refine yO (F := fun v_ => (rpQ l).Is h4 v_ b.z) rfl (zE xA (Pc.tz (Pc.here _)) rfl rfl rb3 rfl) (yD (.tail _ (.tail _ (.head _)))) rfl ?_
 intro v16u15 r16u15
 refine w_c rfl ?_
 refine zY (vs := [_, _]) call103 e2z (fun w hs => o_rat_mul hs r13u15 r16u15 (by omega)) rfl ?_
 intro v17u15 h5 hh5 r17u15
 change (rpQ (k + l)).Is h5 v17u15 (a.z * b.z) at r17u15
 refine w_c rfl ?_
 replace r10u15 := r10u15.mono hh5
 refine zY (vs := [_, _]) call71 e2z (fun w hs => o_rat_add hs r10u15 r17u15 (by omega)) rfl ?_
 intro v18u15 h6 hh6 r18u15
 change (rpQ ((2 * k + 2 * l + 3) + (k + l) + 1)).Is h6 v18u15 ((((0 : Rat) + (a.x * b.x)) + (a.y * b.y)) + (a.z * b.z)) at r18u15
 replace r18u15 := Rp.Is.le r18u15 (Le.q (l := 3 * k + 3 * l + 4) (by omega))
 replace rb_48 := rb_48.mono (hh5.trans hh6)
 have rw_49 := (Le.q (l := 3 * k + 3 * l + 4) (by omega)).R rb_48
 refine yV (A := []) (F := fun c_ => (rpQ (3 * k + 3 * l + 4)).R h6 c_ ((((0 : Rat) + (a.x * b.x)) + (a.y * b.y)) + (a.z * b.z))) rfl (zX sizeOf30 (Pc.here _) rfl rfl rfl rw_49 r18u15 rfl) ?_
 intro cs_50 rb_51
 refine yZ (yY (zK (e' := [(2, _), (3, _), (4, _), (5, _), (7, _)]) e5 (zB (zA (gv ((zS (q := 1) rfl rfl (by omega) (by omega)).cv (show _ = vI (3) from rfl)) rfl (mv rfl rfl (zD (xI (zC (zA (gv (OpV.fa (by decide) (zW (q := 3) rfl rfl)) rfl (zD (zB ?_)))))))))))))
 refine zC (gc_cond_f rfl (xK (yE (yE (xJ (zB (zC (zA (xQ (F := fun v_ => (rpQ (3 * k + 3 * l + 4)).Is h6 v_ ((((0 : Rat) + (a.x * b.x)) + (a.y * b.y)) + (a.z * b.z))) (zE xA (Pc.here _) rfl rfl rb_51 rfl) (yD (.head _)) rfl ?_)))))))))
 intro v20u16 r20u16
 replace rb4 := rb4.mono (((((hh1.trans hh2).trans hh3).trans hh4).trans hh5).trans hh6)
 refine xO (A := [_]) (F := fun c_ => (rpQ (3 * k + 3 * l + 9)).R h6 c_ ((((0 : Rat) + (a.x * b.x)) + (a.y * b.y)) + (a.z * b.z))) (zX sizeOf30 (Pc.here _) rfl rfl rfl rb4 (r20u16.le (Le.q (l := 3 * k + 3 * l + 9) (by omega))) rfl) ?_
 intro cs_52 rb_53
 refine zD (zB (zR (gq_exv (rv_o (t := 4) xA (.tail _ (.head _)) rfl rb_53) ?_)))
 intro w_54 hvw_54 rr_55
 refine xM (fun E S => yL rfl hvw_54 E S) ?_
 exact (Rp.Is.cast rr_55 (by unfold dotT; grind))
theorem o_v_cross {w0 : World} {h0 : Mem}  (hs : MLe h0 (mem w0)) {k l : Nat} {va : Value} {a : (T3 Rat)} (ra : (rpT (rpQ k)).Is h0 va a) {vb : Value} {b : (T3 Rat)} (rb : (rpT (rpQ l)).Is h0 vb b) (hcd0 : k + l ≤ 1000000000)  :
    Calls Tryz.prog 77 #[va, vb] w0 (Ret w0 h0 (fun h r => (rpT (rpQ (2 * k + 2 * l + 3))).Is h r (crossT a b))) := by
 refine zO (n := 37) (e := [(0, va), (1, vb)]) (vs := [va, vb]) func77 rfl rfl (bL rfl) hs e2z (zC (zA (zJ (yU (ρ := (rpT (rpQ k))) rfl ra) rfl rfl rfl ?_)))
 intro v2 q2 hq2
 obtain ⟨b2, cs2, rfl, rfl, rb2⟩ := hq2
 refine zJ (yU (ρ := (rpT (rpQ l))) rfl rb) rfl rfl rfl ?_
 intro v3 q3 hq3
 obtain ⟨b3, cs3, rfl, rfl, rb3⟩ := hq3
 refine zJ (yQ (ρ := (rpT (rpQ (2 * k + 2 * l + 3)))) (X := (T3.mk (0 : Rat) 0 0)) yI rfl rfl (zr_t (xS (by omega)))) rfl rfl rfl ?_
 intro v4 q4 hq4
 obtain ⟨b4, cs4, rfl, rfl, rb4⟩ := hq4
 refine zD (zB (zC (zA (zJ (yQ (ρ := (rpT (rpQ (2 * k + 2 * l + 3)))) (X := (T3.mk (0 : Rat) 0 0)) yI rfl rfl (zr_t (xS (by omega)))) rfl rfl rfl ?_))))
 intro v5 q5 hq5
 obtain ⟨b5, cs5, rfl, rfl, rb5⟩ := hq5
 refine zD (zB (zC (zC (zA (mv (v := vI (0)) rfl rfl (zD (zB (zQ (gc_loop1 (zC (zA (gv (OpV.tr (by decide) (zW (q := 3) rfl rfl)) rfl (zD ?_)))))))))))))
 refine zB (zC (xC rfl (zL (zB (zC (zQ (zC (zA (mv rfl rfl (asg rfl rfl (zD (zB (zC ?_)))))))))))))
 refine zA (mv rfl rfl (gv ((zS (q := 1) rfl rfl (by omega) (by omega)).cv (show _ = vI (1) from rfl)) rfl (gv ((ov_rem_i (q := 3) rfl rfl (by omega) (by omega)).cv (show _ = vI (1) from rfl)) rfl (mv rfl rfl (gv ((zS (q := 2) rfl rfl (by omega) (by omega)).cv (show _ = vI (2) from rfl)) rfl (gv ((ov_rem_i (q := 3) rfl rfl (by omega) (by omega)).cv (show _ = vI (2) from rfl)) rfl (asg rfl rfl (asg rfl rfl (zD (zK (e' := [(2, _), (3, _), (4, _), (5, _), (9, _), (6, _), (7, _), (8, _)]) e8 (zB ?_)))))))))))
 refine yG 17 _ [] [(0, .q), (1, .q), (2, .q), (3, .q), (4, .q), (5, .q), (6, .q), (8, .q), (9, .q), (10, .q), (11, .q), (12, .q), (13, .q), (7, .c), (14, .c), (15, .c), (16, .q), (17, .t)] xG nX (chk_of [0, 0, 2, 4, 0, 16, 32, 72, 0, 256, 512, 0, 2048, 4096, 9344, 16512, 65535, 131071] [262143, 262143, 262141, 262139, 262143, 262127, 262111, 262071, 262143, 261887, 261631, 262143, 260095, 258047, 252927, 245631, 262142, 163839] (by kernel_rfl)) nX (fun r hr => hr) (w_q rfl (fun h' L' hh hR => zH rfl) rfl (w_q rfl (fun h' L' hh hR => zH rfl) rfl (w_q rfl (fun h' L' hh hR => (zF (sz := 3) 1 underlying32 sizeOf30 rfl rfl rfl (by decide)).cv (show _ = vP b2 3 from congrArg (vP b2) (by rfl))) rfl (yO (F := fun v_ => (rpQ k).Is h0 v_ a.y) rfl (zE xA (Pc.ty (Pc.here _)) rfl rfl rb2 rfl) (yD (.tail _ (.tail _ (.tail _ (.head _))))) rfl ?_))))
 intro v21u17 r21u17
 refine w_q rfl (fun h' L' hh hR => zH rfl) rfl (w_q rfl (fun h' L' hh hR => (zF (sz := 3) 2 underlying32 sizeOf30 rfl rfl rfl (by decide)).cv (show _ = vP b3 6 from congrArg (vP b3) (by rfl))) rfl (yO (F := fun v_ => (rpQ l).Is h0 v_ b.z) rfl (zE xA (Pc.tz (Pc.here _)) rfl rfl rb3 rfl) (yD (.tail _ (.tail _ (.head _)))) rfl ?_))
 intro v24u17 r24u17
 refine w_q rfl (fun h' L' hh hR => zH rfl) rfl (w_q rfl (fun h' L' hh hR => (zF (sz := 3) 2 underlying32 sizeOf30 rfl rfl rfl (by decide)).cv (show _ = vP b2 6 from congrArg (vP b2) (by rfl))) rfl (yO (F := fun v_ => (rpQ k).Is h0 v_ a.z) rfl (zE xA (Pc.tz (Pc.here _)) rfl rfl rb2 rfl) (yD (.tail _ (.tail _ (.tail _ (.head _))))) rfl ?_))
 intro v28u17 r28u17
 refine w_q rfl (fun h' L' hh hR => zH rfl) rfl (w_q rfl (fun h' L' hh hR => (zF (sz := 3) 1 underlying32 sizeOf30 rfl rfl rfl (by decide)).cv (show _ = vP b3 3 from congrArg (vP b3) (by rfl))) rfl (yO (F := fun v_ => (rpQ l).Is h0 v_ b.y) rfl (zE xA (Pc.ty (Pc.here _)) rfl rfl rb3 rfl) (yD (.tail _ (.tail _ (.head _)))) rfl ?_))
 intro v31u17 r31u17
 refine w_c rfl ?_
 refine zY (vs := [_, _]) call103 e2z (fun w hs => o_rat_mul hs r21u17 r24u17 (by omega)) rfl ?_
 intro v25u17 h1 hh1 r25u17
 change (rpQ (k + l)).Is h1 v25u17 (a.y * b.z) at r25u17
 refine w_c rfl ?_
 replace r28u17 := r28u17.mono hh1
 replace r31u17 := r31u17.mono hh1
 refine zY (vs := [_, _]) call103 e2z (fun w hs => o_rat_mul hs r28u17 r31u17 (by omega)) rfl ?_
 intro v32u17 h2 hh2 r32u17
 change (rpQ (k + l)).Is h2 v32u17 (a.z * b.y) at r32u17
 refine w_c rfl ?_
 replace r25u17 := r25u17.mono hh2
 refine zY (vs := [_, _]) call70 e2z (fun w hs => o_rat_sub hs r25u17 r32u17 (by omega)) rfl ?_
 intro v33u17 h3 hh3 r33u17
 change (rpQ ((k + l) + (k + l) + 1)).Is h3 v33u17 ((a.y * b.z) - (a.z * b.y)) at r33u17
 replace r33u17 := Rp.Is.le r33u17 (Le.q (l := 2 * k + 2 * l + 1) (by omega))
 refine w_q rfl (fun h' L' hh hR => (zF (sz := 3) 0 underlying32 sizeOf30 rfl rfl rfl (by decide)).cv (show _ = vP b5 0 from congrArg (vP b5) (by rfl))) rfl ?_
 replace rb5 := rb5.mono ((hh1.trans hh2).trans hh3)
 refine yV (A := []) (F := fun c_ => (rpT (rpQ (2 * k + 2 * l + 3))).R h3 c_ (T3.mk ((a.y * b.z) - (a.z * b.y)) (0 : Rat) (0 : Rat))) rfl (zX sizeOf30 (Pc.tx (Pc.here _)) rfl rfl rfl rb5 (r33u17.le (Le.q (l := 2 * k + 2 * l + 3) (by omega))) rfl) ?_
 intro cs_56 rb_57
 refine yZ (yY (zK (e' := [(2, _), (3, _), (4, _), (5, _), (9, _)]) e5 (zB (zA (gv ((zS (q := 1) rfl rfl (by omega) (by omega)).cv (show _ = vI (1) from rfl)) rfl (mv rfl rfl (zD (xI (zC (zA (gv (OpV.tr (by decide) (zW (q := 3) rfl rfl)) rfl (zD (zB ?_)))))))))))))
 refine zC (xC rfl (zL (zB (zC (zQ (zC (zA (mv rfl rfl (asg rfl rfl (zD (zB (zC (zA ?_)))))))))))))
 refine mv rfl rfl (gv ((zS (q := 1) rfl rfl (by omega) (by omega)).cv (show _ = vI (2) from rfl)) rfl (gv ((ov_rem_i (q := 3) rfl rfl (by omega) (by omega)).cv (show _ = vI (2) from rfl)) rfl (mv rfl rfl (gv ((zS (q := 2) rfl rfl (by omega) (by omega)).cv (show _ = vI (3) from rfl)) rfl (gv ((ov_rem_i (q := 3) rfl rfl (by omega) (by omega)).cv (show _ = vI (0) from rfl)) rfl (asg rfl rfl (asg rfl rfl (zD (zB ?_)))))))))
 refine yG 17 _ [] [(0, .q), (1, .q), (2, .q), (3, .q), (4, .q), (5, .q), (6, .q), (8, .q), (9, .q), (10, .q), (11, .q), (12, .q), (13, .q), (7, .c), (14, .c), (15, .c), (16, .q), (17, .t)] xG nX (chk_of [0, 0, 2, 4, 0, 16, 32, 72, 0, 256, 512, 0, 2048, 4096, 9344, 16512, 65535, 131071] [262143, 262143, 262141, 262139, 262143, 262127, 262111, 262071, 262143, 261887, 261631, 262143, 260095, 258047, 252927, 245631, 262142, 163839] (by kernel_rfl)) nX (fun r hr => hr) (w_q rfl (fun h' L' hh hR => zH rfl) rfl (w_q rfl (fun h' L' hh hR => zH rfl) rfl (w_q rfl (fun h' L' hh hR => (zF (sz := 3) 2 underlying32 sizeOf30 rfl rfl rfl (by decide)).cv (show _ = vP b2 6 from congrArg (vP b2) (by rfl))) rfl ?_)))
 replace rb2 := rb2.mono ((hh1.trans hh2).trans hh3)
 refine yO (F := fun v_ => (rpQ k).Is h3 v_ a.z) rfl (zE xA (Pc.tz (Pc.here _)) rfl rfl rb2 rfl) (yD (.tail _ (.tail _ (.tail _ (.head _))))) rfl ?_
 intro v21u18 r21u18
 refine w_q rfl (fun h' L' hh hR => zH rfl) rfl (w_q rfl (fun h' L' hh hR => (zF (sz := 3) 0 underlying32 sizeOf30 rfl rfl rfl (by decide)).cv (show _ = vP b3 0 from congrArg (vP b3) (by rfl))) rfl ?_)
 replace rb3 := rb3.mono ((hh1.trans hh2).trans hh3)
 refine yO (F := fun v_ => (rpQ l).Is h3 v_ b.x) rfl (zE xA (Pc.tx (Pc.here _)) rfl rfl rb3 rfl) (yD (.tail _ (.tail _ (.head _)))) rfl ?_
 intro v24u18 r24u18
 refine w_q rfl (fun h' L' hh hR => zH rfl) rfl (w_q rfl (fun h' L' hh hR => (zF (sz := 3) 0 underlying32 sizeOf30 rfl rfl rfl (by decide)).cv (show _ = vP b2 0 from congrArg (vP b2) (by rfl))) rfl (yO (F := fun v_ => (rpQ k).Is h3 v_ a.x) rfl (zE xA (Pc.tx (Pc.here _)) rfl rfl rb2 rfl) (yD (.tail _ (.tail _ (.tail _ (.head _))))) rfl ?_))
 intro v28u18 r28u18
 refine w_q rfl (fun h' L' hh hR => zH rfl) rfl (w_q rfl (fun h' L' hh hR => (zF (sz := 3) 2 underlying32 sizeOf30 rfl rfl rfl (by decide)).cv (show _ = vP b3 6 from congrArg (vP b3) (by rfl))) rfl (yO (F := fun v_ => (rpQ l).Is h3 v_ b.z) rfl (zE xA (Pc.tz (Pc.here _)) rfl rfl rb3 rfl) (yD (.tail _ (.tail _ (.head _)))) rfl ?_))
 intro v31u18 r31u18
 refine w_c rfl ?_
 refine zY (vs := [_, _]) call103 e2z (fun w hs => o_rat_mul hs r21u18 r24u18 (by omega)) rfl ?_
 intro v25u18 h4 hh4 r25u18
 change (rpQ (k + l)).Is h4 v25u18 (a.z * b.x) at r25u18
 refine w_c rfl ?_
 replace r28u18 := r28u18.mono hh4
 replace r31u18 := r31u18.mono hh4
 refine zY (vs := [_, _]) call103 e2z (fun w hs => o_rat_mul hs r28u18 r31u18 (by omega)) rfl ?_
 intro v32u18 h5 hh5 r32u18
 change (rpQ (k + l)).Is h5 v32u18 (a.x * b.z) at r32u18
 refine w_c rfl ?_
 replace r25u18 := r25u18.mono hh5
 refine zY (vs := [_, _]) call70 e2z (fun w hs => o_rat_sub hs r25u18 r32u18 (by omega)) rfl ?_
 intro v33u18 h6 hh6 r33u18
 change (rpQ ((k + l) + (k + l) + 1)).Is h6 v33u18 ((a.z * b.x) - (a.x * b.z)) at r33u18
 replace r33u18 := Rp.Is.le r33u18 (Le.q (l := 2 * k + 2 * l + 1) (by omega))
 refine w_q rfl (fun h' L' hh hR => (zF (sz := 3) 1 underlying32 sizeOf30 rfl rfl rfl (by decide)).cv (show _ = vP b5 3 from congrArg (vP b5) (by rfl))) rfl ?_
 replace rb_57 := rb_57.mono ((hh4.trans hh5).trans hh6)
 refine yV (A := []) (F := fun c_ => (rpT (rpQ (2 * k + 2 * l + 3))).R h6 c_ (T3.mk ((a.y * b.z) - (a.z * b.y)) ((a.z * b.x) - (a.x * b.z)) (0 : Rat))) rfl (zX sizeOf30 (Pc.ty (Pc.here _)) rfl rfl rfl rb_57 (r33u18.le (Le.q (l := 2 * k + 2 * l + 3) (by omega))) rfl) ?_
 intro cs_58 rb_59
 refine yZ (yY (zK (e' := [(2, _), (3, _), (4, _), (5, _), (9, _)]) e5 (zB (zA (gv ((zS (q := 1) rfl rfl (by omega) (by omega)).cv (show _ = vI (2) from rfl)) rfl (mv rfl rfl (zD (xI (zC (zA (gv (OpV.tr (by decide) (zW (q := 3) rfl rfl)) rfl (zD (zB ?_)))))))))))))
 refine zC (xC rfl (zL (zB (zC (zQ (zC (zA (mv rfl rfl (asg rfl rfl (zD (zB (zC (zA ?_)))))))))))))
 refine mv rfl rfl (gv ((zS (q := 1) rfl rfl (by omega) (by omega)).cv (show _ = vI (3) from rfl)) rfl (gv ((ov_rem_i (q := 3) rfl rfl (by omega) (by omega)).cv (show _ = vI (0) from rfl)) rfl (mv rfl rfl (gv ((zS (q := 2) rfl rfl (by omega) (by omega)).cv (show _ = vI (4) from rfl)) rfl (gv ((ov_rem_i (q := 3) rfl rfl (by omega) (by omega)).cv (show _ = vI (1) from rfl)) rfl (asg rfl rfl (asg rfl rfl (zD (zB ?_)))))))))
 refine yG 17 _ [] [(0, .q), (1, .q), (2, .q), (3, .q), (4, .q), (5, .q), (6, .q), (8, .q), (9, .q), (10, .q), (11, .q), (12, .q), (13, .q), (7, .c), (14, .c), (15, .c), (16, .q), (17, .t)] xG nX (chk_of [0, 0, 2, 4, 0, 16, 32, 72, 0, 256, 512, 0, 2048, 4096, 9344, 16512, 65535, 131071] [262143, 262143, 262141, 262139, 262143, 262127, 262111, 262071, 262143, 261887, 261631, 262143, 260095, 258047, 252927, 245631, 262142, 163839] (by kernel_rfl)) nX (fun r hr => hr) (w_q rfl (fun h' L' hh hR => zH rfl) rfl (w_q rfl (fun h' L' hh hR => zH rfl) rfl (w_q rfl (fun h' L' hh hR => (zF (sz := 3) 0 underlying32 sizeOf30 rfl rfl rfl (by decide)).cv (show _ = vP b2 0 from congrArg (vP b2) (by rfl))) rfl ?_)))
 replace rb2 := rb2.mono ((hh4.trans hh5).trans hh6)
 refine yO (F := fun v_ => (rpQ k).Is h6 v_ a.x) rfl (zE xA (Pc.tx (Pc.here _)) rfl rfl rb2 rfl) (yD (.tail _ (.tail _ (.tail _ (.head _))))) rfl ?_
 intro v21u19 r21u19
 refine w_q rfl (fun h' L' hh hR => zH rfl) rfl (w_q rfl (fun h' L' hh hR => (zF (sz := 3) 1 underlying32 sizeOf30 rfl rfl rfl (by decide)).cv (show _ = vP b3 3 from congrArg (vP b3) (by rfl))) rfl ?_)
 replace rb3 := rb3.mono ((hh4.trans hh5).trans hh6)
 refine yO (F := fun v_ => (rpQ l).Is h6 v_ b.y) rfl (zE xA (Pc.ty (Pc.here _)) rfl rfl rb3 rfl) (yD (.tail _ (.tail _ (.head _)))) rfl ?_
 intro v24u19 r24u19
 refine w_q rfl (fun h' L' hh hR => zH rfl) rfl (w_q rfl (fun h' L' hh hR => (zF (sz := 3) 1 underlying32 sizeOf30 rfl rfl rfl (by decide)).cv (show _ = vP b2 3 from congrArg (vP b2) (by rfl))) rfl (yO (F := fun v_ => (rpQ k).Is h6 v_ a.y) rfl (zE xA (Pc.ty (Pc.here _)) rfl rfl rb2 rfl) (yD (.tail _ (.tail _ (.tail _ (.head _))))) rfl ?_))
 intro v28u19 r28u19
 refine w_q rfl (fun h' L' hh hR => zH rfl) rfl (w_q rfl (fun h' L' hh hR => (zF (sz := 3) 0 underlying32 sizeOf30 rfl rfl rfl (by decide)).cv (show _ = vP b3 0 from congrArg (vP b3) (by rfl))) rfl (yO (F := fun v_ => (rpQ l).Is h6 v_ b.x) rfl (zE xA (Pc.tx (Pc.here _)) rfl rfl rb3 rfl) (yD (.tail _ (.tail _ (.head _)))) rfl ?_))
 intro v31u19 r31u19
 refine w_c rfl ?_
 refine zY (vs := [_, _]) call103 e2z (fun w hs => o_rat_mul hs r21u19 r24u19 (by omega)) rfl ?_
 intro v25u19 h7 hh7 r25u19
 change (rpQ (k + l)).Is h7 v25u19 (a.x * b.y) at r25u19
 refine w_c rfl ?_
 replace r28u19 := r28u19.mono hh7
 replace r31u19 := r31u19.mono hh7
 refine zY (vs := [_, _]) call103 e2z (fun w hs => o_rat_mul hs r28u19 r31u19 (by omega)) rfl ?_
 intro v32u19 h8 hh8 r32u19
 change (rpQ (k + l)).Is h8 v32u19 (a.y * b.x) at r32u19
 refine w_c rfl ?_
 replace r25u19 := r25u19.mono hh8
 refine zY (vs := [_, _]) call70 e2z (fun w hs => o_rat_sub hs r25u19 r32u19 (by omega)) rfl ?_
 intro v33u19 h9 hh9 r33u19
 change (rpQ ((k + l) + (k + l) + 1)).Is h9 v33u19 ((a.x * b.y) - (a.y * b.x)) at r33u19
 replace r33u19 := Rp.Is.le r33u19 (Le.q (l := 2 * k + 2 * l + 1) (by omega))
 refine w_q rfl (fun h' L' hh hR => (zF (sz := 3) 2 underlying32 sizeOf30 rfl rfl rfl (by decide)).cv (show _ = vP b5 6 from congrArg (vP b5) (by rfl))) rfl ?_
 replace rb_59 := rb_59.mono ((hh7.trans hh8).trans hh9)
 refine yV (A := []) (F := fun c_ => (rpT (rpQ (2 * k + 2 * l + 3))).R h9 c_ (T3.mk ((a.y * b.z) - (a.z * b.y)) ((a.z * b.x) - (a.x * b.z)) ((a.x * b.y) - (a.y * b.x)))) rfl (zX sizeOf30 (Pc.tz (Pc.here _)) rfl rfl rfl rb_59 (r33u19.le (Le.q (l := 2 * k + 2 * l + 3) (by omega))) rfl) ?_
 intro cs_60 rb_61
 refine yZ (yY (zK (e' := [(2, _), (3, _), (4, _), (5, _), (9, _)]) e5 (zB (zA (gv ((zS (q := 1) rfl rfl (by omega) (by omega)).cv (show _ = vI (3) from rfl)) rfl (mv rfl rfl (zD (xI (zC (zA (gv (OpV.fa (by decide) (zW (q := 3) rfl rfl)) rfl (zD (zB ?_)))))))))))))
 refine zC (gc_cond_f rfl (xK (yE (yE (xJ (zB (zC (zA (xQ (F := fun v_ => (rpT (rpQ (2 * k + 2 * l + 3))).Is h9 v_ (T3.mk ((a.y * b.z) - (a.z * b.y)) ((a.z * b.x) - (a.x * b.z)) ((a.x * b.y) - (a.y * b.x)))) (zE xF (Pc.here _) rfl rfl rb_61 rfl) (yD (.head _)) rfl ?_)))))))))
 intro v36u20 r36u20
 replace rb4 := rb4.mono ((((((((hh1.trans hh2).trans hh3).trans hh4).trans hh5).trans hh6).trans hh7).trans hh8).trans hh9)
 refine xO (A := [_]) (F := fun c_ => (rpT (rpQ (2 * k + 2 * l + 3))).R h9 c_ (T3.mk ((a.y * b.z) - (a.z * b.y)) ((a.z * b.x) - (a.x * b.z)) ((a.x * b.y) - (a.y * b.x)))) (zX sizeOf32 (Pc.here _) rfl rfl rfl rb4 r36u20 rfl) ?_
 intro cs_62 rb_63
 refine zD (zB (zR (gq_exv (rv_o (t := 4) xF (.tail _ (.head _)) rfl rb_63) ?_)))
 intro w_64 hvw_64 rr_65
 refine xM (fun E S => yL rfl hvw_64 E S) ?_
 exact rr_65
theorem o_v_same {w0 : World} {h0 : Mem}  (hs : MLe h0 (mem w0)) {k l : Nat} {va : Value} {a : (T3 Rat)} (ra : (rpT (rpQ k)).Is h0 va a) {vb : Value} {b : (T3 Rat)} (rb : (rpT (rpQ l)).Is h0 vb b) (hcd0 : k + l ≤ 10000000000)  :
    Calls Tryz.prog 97 #[va, vb] w0 (Ret w0 h0 (fun _ r => r = vB (a = b))) := by
 refine zO (n := 18) (e := [(0, va), (1, vb)]) (vs := [va, vb]) func97 rfl rfl (bL rfl) hs e2z (zC (zA (zJ (yU (ρ := (rpT (rpQ k))) rfl ra) rfl rfl rfl ?_)))
 intro v2 q2 hq2
 obtain ⟨b2, cs2, rfl, rfl, rb2⟩ := hq2
 refine zJ (yU (ρ := (rpT (rpQ l))) rfl rb) rfl rfl rfl ?_
 intro v3 q3 hq3
 obtain ⟨b3, cs3, rfl, rfl, rb3⟩ := hq3
 refine asg rfl rfl (zD (zB (zC (zC (zA (mv (v := vI (0)) rfl rfl (zD (zB (zQ (gc_loop1 (zC (zA (gv (OpV.tr (by decide) (zW (q := 3) rfl rfl)) rfl ?_)))))))))))))
 refine zD (zB (zC (xC rfl (zL (zB (zC (zQ (zC (zA (mv rfl rfl (asg rfl rfl (zD (zB ?_)))))))))))))
 refine zC ?_
 refine yG 8 _ [] [(0, .q), (1, .q), (2, .q), (3, .q), (4, .q), (5, .q), (6, .c), (7, .q)] xG nX (by kernel_rfl) nX (fun r hr => hr) (w_q rfl (fun h' L' hh hR => zH rfl) rfl (w_q rfl (fun h' L' hh hR => (zF (sz := 3) 0 underlying32 sizeOf30 rfl rfl rfl (by decide)).cv (show _ = vP b2 0 from congrArg (vP b2) (by rfl))) rfl (yO (F := fun v_ => (rpQ k).Is h0 v_ a.x) rfl (zE xA (Pc.tx (Pc.here _)) rfl rfl rb2 rfl) (yD (.tail _ (.head _))) rfl ?_)))
 intro v11u21 r11u21
 refine w_q rfl (fun h' L' hh hR => zH rfl) rfl (w_q rfl (fun h' L' hh hR => (zF (sz := 3) 0 underlying32 sizeOf30 rfl rfl rfl (by decide)).cv (show _ = vP b3 0 from congrArg (vP b3) (by rfl))) rfl (yO (F := fun v_ => (rpQ l).Is h0 v_ b.x) rfl (zE xA (Pc.tx (Pc.here _)) rfl rfl rb3 rfl) (yD (.head _)) rfl ?_))
 intro v14u21 r14u21
 refine w_c rfl ?_
 refine zY (vs := [_, _]) call122 e2z (fun w hs => o_rat_same hs r11u21 r14u21 (by omega)) rfl ?_
 intro v15u21 h1 hh1 r15u21
 obtain rfl : v15u21 = vB (a.x = b.x) := r15u21
 refine w_q rfl (fun h' L' hh hR => ov_not rfl) rfl (yZ (zK (e' := [(2, _), (3, _), (6, _), (16, _)]) e4z (zB ?_)))
 refine zP rfl (fun hc16 => ?_) (fun hc16 => ?_)
 ·
  refine zC (zA (asg rfl rfl (zD (zB (zR (gr_in (yA (yA (gr_in (yA (yJ rfl rfl ?_)))))))))))
  first | exact (vB_true (by rw [t3_eq]; grind)).symm | exact (xD (by rw [t3_eq]; grind)).symm
 refine zL (yY (zB (zA (gv ((zS (q := 1) rfl rfl (by omega) (by omega)).cv (show _ = vI (1) from rfl)) rfl (mv rfl rfl (zD (xI (zC (zA (gv (OpV.tr (by decide) (zW (q := 3) rfl rfl)) rfl (zD (zB (zC ?_)))))))))))))
 refine xC rfl (zL (zB (zC (zQ (zC (zA (mv rfl rfl (asg rfl rfl (zD (zB (zC ?_)))))))))))
 refine yG 8 _ [] [(0, .q), (1, .q), (2, .q), (3, .q), (4, .q), (5, .q), (6, .c), (7, .q)] xG nX (by kernel_rfl) nX (fun r hr => hr) (w_q rfl (fun h' L' hh hR => zH rfl) rfl (w_q rfl (fun h' L' hh hR => (zF (sz := 3) 1 underlying32 sizeOf30 rfl rfl rfl (by decide)).cv (show _ = vP b2 3 from congrArg (vP b2) (by rfl))) rfl ?_))
 replace rb2 := rb2.mono hh1
 refine yO (F := fun v_ => (rpQ k).Is h1 v_ a.y) rfl (zE xA (Pc.ty (Pc.here _)) rfl rfl rb2 rfl) (yD (.tail _ (.head _))) rfl ?_
 intro v11u22 r11u22
 refine w_q rfl (fun h' L' hh hR => zH rfl) rfl (w_q rfl (fun h' L' hh hR => (zF (sz := 3) 1 underlying32 sizeOf30 rfl rfl rfl (by decide)).cv (show _ = vP b3 3 from congrArg (vP b3) (by rfl))) rfl ?_)
 replace rb3 := rb3.mono hh1
 refine yO (F := fun v_ => (rpQ l).Is h1 v_ b.y) rfl (zE xA (Pc.ty (Pc.here _)) rfl rfl rb3 rfl) (yD (.head _)) rfl ?_
 intro v14u22 r14u22
 refine w_c rfl ?_
 refine zY (vs := [_, _]) call122 e2z (fun w hs => o_rat_same hs r11u22 r14u22 (by omega)) rfl ?_
 intro v15u22 h2 hh2 r15u22
 obtain rfl : v15u22 = vB (a.y = b.y) := r15u22
 refine w_q rfl (fun h' L' hh hR => ov_not rfl) rfl (yZ (zK (e' := [(2, _), (3, _), (6, _), (16, _)]) e4z (zB ?_)))
 refine zP rfl (fun hc16 => ?_) (fun hc16 => ?_)
 ·
  refine zC (zA (asg rfl rfl (zD (zB (zR (gr_in (yA (yA (gr_in (yA (yJ rfl rfl ?_)))))))))))
  first | exact (vB_true (by rw [t3_eq]; grind)).symm | exact (xD (by rw [t3_eq]; grind)).symm
 refine zL (yY (zB (zA (gv ((zS (q := 1) rfl rfl (by omega) (by omega)).cv (show _ = vI (2) from rfl)) rfl (mv rfl rfl (zD (xI (zC (zA (gv (OpV.tr (by decide) (zW (q := 3) rfl rfl)) rfl (zD (zB (zC ?_)))))))))))))
 refine xC rfl (zL (zB (zC (zQ (zC (zA (mv rfl rfl (asg rfl rfl (zD (zB (zC ?_)))))))))))
 refine yG 8 _ [] [(0, .q), (1, .q), (2, .q), (3, .q), (4, .q), (5, .q), (6, .c), (7, .q)] xG nX (by kernel_rfl) nX (fun r hr => hr) (w_q rfl (fun h' L' hh hR => zH rfl) rfl (w_q rfl (fun h' L' hh hR => (zF (sz := 3) 2 underlying32 sizeOf30 rfl rfl rfl (by decide)).cv (show _ = vP b2 6 from congrArg (vP b2) (by rfl))) rfl ?_))
 replace rb2 := rb2.mono hh2
 refine yO (F := fun v_ => (rpQ k).Is h2 v_ a.z) rfl (zE xA (Pc.tz (Pc.here _)) rfl rfl rb2 rfl) (yD (.tail _ (.head _))) rfl ?_
 intro v11u23 r11u23
 refine w_q rfl (fun h' L' hh hR => zH rfl) rfl (w_q rfl (fun h' L' hh hR => (zF (sz := 3) 2 underlying32 sizeOf30 rfl rfl rfl (by decide)).cv (show _ = vP b3 6 from congrArg (vP b3) (by rfl))) rfl ?_)
 replace rb3 := rb3.mono hh2
 refine yO (F := fun v_ => (rpQ l).Is h2 v_ b.z) rfl (zE xA (Pc.tz (Pc.here _)) rfl rfl rb3 rfl) (yD (.head _)) rfl ?_
 intro v14u23 r14u23
 refine w_c rfl ?_
 refine zY (vs := [_, _]) call122 e2z (fun w hs => o_rat_same hs r11u23 r14u23 (by omega)) rfl ?_
 intro v15u23 h3 hh3 r15u23
 obtain rfl : v15u23 = vB (a.z = b.z) := r15u23
 refine w_q rfl (fun h' L' hh hR => ov_not rfl) rfl (yZ (zK (e' := [(2, _), (3, _), (6, _), (16, _)]) e4z (zB ?_)))
 refine zP rfl (fun hc16 => ?_) (fun hc16 => ?_)
 ·
  refine zC (zA (asg rfl rfl (zD (zB (zR (gr_in (yA (yA (gr_in (yA (yJ rfl rfl ?_)))))))))))
  first | exact (vB_true (by rw [t3_eq]; grind)).symm | exact (xD (by rw [t3_eq]; grind)).symm
 refine zL (yY (zB (zA (gv ((zS (q := 1) rfl rfl (by omega) (by omega)).cv (show _ = vI (3) from rfl)) rfl (mv rfl rfl (zD (xI (zC (zA (gv (OpV.fa (by decide) (zW (q := 3) rfl rfl)) rfl (zD (zB (zC ?_)))))))))))))
 refine gc_cond_f rfl (xK (yE (yE (xJ (zB (zC (zA (asg rfl rfl (zD (zB (zR (yJ rfl rfl ?_))))))))))))
 first | exact (vB_true (by rw [t3_eq]; grind)).symm | exact (xD (by rw [t3_eq]; grind)).symm
theorem o_v_zero {w0 : World} {h0 : Mem}  (hs : MLe h0 (mem w0)) {k : Nat} {va : Value} {a : (T3 Rat)} (ra : (rpT (rpQ k)).Is h0 va a) (hcd0 : k ≤ 1000000000)  :
    Calls Tryz.prog 63 #[va] w0 (Ret w0 h0 (fun _ r => r = vB (a = (T3.mk (0 : Rat) 0 0)))) := by
 refine zO (n := 6) (e := [(0, va)]) (vs := [va]) func63 rfl rfl (bL rfl) hs ⟨rfl, trivial⟩ (zC (zA (zJ (yU (ρ := (rpT (rpQ k))) rfl ra) rfl rfl rfl ?_)))
 intro v1 q1 hq1
 obtain ⟨b1, cs1, rfl, rfl, rb1⟩ := hq1
 refine asg rfl rfl (zD (zB (zC (zA (xQ (F := fun v_ => (rpT (rpQ k)).Is h0 v_ a) (zE xF (Pc.here _) rfl rfl rb1 rfl) (yD (.head _)) rfl ?_)))))
 intro v3 r3
 refine xQ (F := fun v_ => (rpT (rpQ 1)).Is h0 v_ (T3.mk (0 : Rat) 0 0)) (ox_build_arr (ps' := []) underlying32 yI rfl rfl sizeOf30 trivial rfl (zr_t (xS (by decide))) fx_nil) mem0 rfl ?_
 intro v4 r4
 refine zM (vs := [_, _]) rfl rfl rfl rfl call97 e2z (fun w hs => o_v_same hs r3 r4 (by omega)) ?_
 intro v5 h1 hh1 r5
 obtain rfl : v5 = vB (a = (T3.mk (0 : Rat) 0 0)) := r5
 refine asg rfl rfl (zD (zB (zR (yJ rfl rfl ?_))))
 rfl
theorem o_v_side {w0 : World} {h0 : Mem}  (hs : MLe h0 (mem w0)) {m l k : Nat} {vs : Value} {s : ((T3 Rat) × Rat)} (rs : (rpP (rpT (rpQ m)) (rpQ l)).Is h0 vs s) {vp : Value} {p : (T3 Rat)} (rp : (rpT (rpQ k)).Is h0 vp p) (hcd0 : k ≤ 100000000) (hcd1 : l ≤ 100000000) (hcd2 : m ≤ 100000000)  :
    Calls Tryz.prog 99 #[vs, vp] w0 (Ret w0 h0 (fun _ r => r = vI (sdZ s p))) := by
 refine zO (n := 12) (e := [(0, vs), (1, vp)]) (vs := [vs, vp]) func99 rfl rfl (bL rfl) hs e2z (zC (zA (zJ (yU (ρ := (rpP (rpT (rpQ m)) (rpQ l))) rfl rs) rfl rfl rfl ?_)))
 intro v2 q2 hq2
 obtain ⟨b2, cs2, rfl, rfl, rb2⟩ := hq2
 refine zJ (yU (ρ := (rpT (rpQ k))) rfl rp) rfl rfl rfl ?_
 intro v3 q3 hq3
 obtain ⟨b3, cs3, rfl, rfl, rb3⟩ := hq3
 refine asg (v := vI (0)) rfl rfl (zD (zB (zC ?_)))
 refine yG 8 _ [] [(0, .q), (1, .q), (2, .q), (4, .q), (5, .q), (3, .c), (6, .c), (7, .q)] xG nX (by kernel_rfl) nX (fun r hr => hr) (w_q rfl (fun h' L' hh hR => (zI underlying34 rfl sizeOf32 rfl).cv (show _ = vP b2 0 from congrArg (vP b2) (by rfl))) rfl (yO (F := fun v_ => (rpT (rpQ m)).Is h0 v_ s.1) rfl (zE xF (Pc.fst (Pc.here _)) rfl rfl rb2 rfl) (yD (.tail _ (.head _))) rfl ?_))
 intro v6 r6
 refine yO (F := fun v_ => (rpT (rpQ k)).Is h0 v_ p) rfl (zE xF (Pc.here _) rfl rfl rb3 rfl) (yD (.head _)) rfl ?_
 intro v7 r7
 refine w_q rfl (fun h' L' hh hR => (zI underlying34 rfl sizeOf30 rfl).cv (show _ = vP b2 9 from congrArg (vP b2) (by rfl))) rfl (yO (F := fun v_ => (rpQ l).Is h0 v_ s.2) rfl (zE xA (Pc.snd (Pc.here _)) rfl rfl rb2 rfl) (yD (.tail _ (.head _))) rfl ?_)
 intro v10 r10
 refine w_c rfl ?_
 refine zY (vs := [_, _]) call79 e2z (fun w hs => o_v_dot hs r6 r7 (by omega)) rfl ?_
 intro v8 h1 hh1 r8
 change (rpQ (3 * m + 3 * k + 9)).Is h1 v8 (dotT s.1 p) at r8
 replace r8 := Rp.Is.le r8 (Le.q (l := 3 * k + 3 * m + 9) (by omega))
 refine w_c rfl ?_
 replace r10 := r10.mono hh1
 refine zY (vs := [_, _]) call104 e2z (fun w hs => o_rat_cmp hs r8 r10 (by omega)) rfl ?_
 intro v11 h2 hh2 r11
 obtain rfl : v11 = vI (cmpQ (dotT s.1 p) s.2) := r11
 have hcr11 := cmpQ_range (dotT s.1 p) s.2
 refine w_q rfl (fun h' L' hh hR => yK rfl) rfl (yZ (zK (e' := [(4, _)]) ⟨rfl, trivial⟩ (zB (zR (yJ rfl rfl ?_)))))
 exact congrArg vI (side_cmp s p)
theorem o_s4_side {w0 : World} {h0 : Mem}  (hs : MLe h0 (mem w0)) {m l k : Nat} {vs : Value} {s : ((T3 Rat) × Rat)} (rs : (rpP (rpT (rpQ m)) (rpQ l)).Is h0 vs s) {vp : Value} {p : (T3 Rat)} (rp : (rpT (rpQ k)).Is h0 vp p) (hcd0 : k ≤ 100000000) (hcd1 : l ≤ 100000000) (hcd2 : m ≤ 100000000)  :
    Calls Tryz.prog 25 #[vs, vp] w0 (Ret w0 h0 (fun _ r => r = vI (sdZ s p))) := by
 refine zO (n := 13) (e := [(0, vs), (1, vp)]) (vs := [vs, vp]) func25 rfl rfl (bL rfl) hs e2z (zC (zA (zJ (yU (ρ := (rpP (rpT (rpQ m)) (rpQ l))) rfl rs) rfl rfl rfl ?_)))
 intro v2 q2 hq2
 obtain ⟨b2, cs2, rfl, rfl, rb2⟩ := hq2
 refine zJ (yU (ρ := (rpT (rpQ k))) rfl rp) rfl rfl rfl ?_
 intro v3 q3 hq3
 obtain ⟨b3, cs3, rfl, rfl, rb3⟩ := hq3
 refine asg (v := vI (0)) rfl rfl (zD (zB (zC ?_)))
 refine yG 9 _ [] [(0, .q), (1, .q), (2, .q), (4, .q), (5, .q), (3, .c), (6, .c), (7, .c), (8, .q)] xG nX (by kernel_rfl) nX (fun r hr => hr) (w_q rfl (fun h' L' hh hR => (zI underlying34 rfl sizeOf32 rfl).cv (show _ = vP b2 0 from congrArg (vP b2) (by rfl))) rfl (yO (F := fun v_ => (rpT (rpQ m)).Is h0 v_ s.1) rfl (zE xF (Pc.fst (Pc.here _)) rfl rfl rb2 rfl) (yD (.tail _ (.head _))) rfl ?_))
 intro v6 r6
 refine yO (F := fun v_ => (rpT (rpQ k)).Is h0 v_ p) rfl (zE xF (Pc.here _) rfl rfl rb3 rfl) (yD (.head _)) rfl ?_
 intro v7 r7
 refine w_q rfl (fun h' L' hh hR => (zI underlying34 rfl sizeOf30 rfl).cv (show _ = vP b2 9 from congrArg (vP b2) (by rfl))) rfl (yO (F := fun v_ => (rpQ l).Is h0 v_ s.2) rfl (zE xA (Pc.snd (Pc.here _)) rfl rfl rb2 rfl) (yD (.tail _ (.head _))) rfl ?_)
 intro v10 r10
 refine w_c rfl ?_
 refine zY (vs := [_, _]) call57 e2z (fun w hs => o_r4_dot hs r6 r7 (by omega)) rfl ?_
 intro v8 h1 hh1 r8
 change (rpQ (3 * m + 3 * k + 9)).Is h1 v8 (dotT s.1 p) at r8
 replace r8 := Rp.Is.le r8 (Le.q (l := 3 * k + 3 * m + 9) (by omega))
 refine w_c rfl ?_
 replace r10 := r10.mono hh1
 refine zY (vs := [_, _]) call56 e2z (fun w hs => o_rref_sub hs r8 r10 (by omega)) rfl ?_
 intro v11 h2 hh2 r11
 change (rpQ ((3 * k + 3 * m + 9) + l + 1)).Is h2 v11 ((dotT s.1 p) - s.2) at r11
 replace r11 := Rp.Is.le r11 (Le.q (l := 3 * k + l + 3 * m + 10) (by omega))
 refine w_c rfl ?_
 refine zY (vs := [_]) call50 ⟨rfl, trivial⟩ (fun w hs => o_rref_sign hs r11 (by omega)) rfl ?_
 intro v12 h3 hh3 r12
 obtain rfl : v12 = vI (sgnQ ((dotT s.1 p) - s.2)) := r12
 have hsr12 := sgnQ_range ((dotT s.1 p) - s.2)
 refine w_q rfl (fun h' L' hh hR => yK rfl) rfl (yZ (zK (e' := [(4, _)]) ⟨rfl, trivial⟩ (zB (zR (yJ rfl rfl ?_)))))
 rfl
theorem o_pl_side {w0 : World} {h0 : Mem}  (hs : MLe h0 (mem w0)) {m l k : Nat} {vs : Value} {s : ((T3 Rat) × Rat)} (rs : (rpP (rpT (rpQ m)) (rpQ l)).Is h0 vs s) {vp : Value} {p : (T3 Rat)} (rp : (rpT (rpQ k)).Is h0 vp p) (hcd0 : k ≤ 100000000) (hcd1 : l ≤ 100000000) (hcd2 : m ≤ 100000000)  :
    Calls Tryz.prog 64 #[vs, vp] w0 (Ret w0 h0 (fun _ r => r = vI (sdZ s p))) := by
 refine zO (n := 61) (e := [(0, vs), (1, vp)]) (vs := [vs, vp]) func64 rfl rfl (bL rfl) hs e2z (zC (zA (zJ (yU (ρ := (rpP (rpT (rpQ m)) (rpQ l))) rfl rs) rfl rfl rfl ?_)))
 intro v2 q2 hq2
 obtain ⟨b2, cs2, rfl, rfl, rb2⟩ := hq2
 refine zJ (yU (ρ := (rpT (rpQ k))) rfl rp) rfl rfl rfl ?_
 intro v3 q3 hq3
 obtain ⟨b3, cs3, rfl, rfl, rb3⟩ := hq3
 refine asg (v := vI (0)) rfl rfl (zD (zB (zC (zA (asg (v := vI (0)) rfl rfl (zD (zB (zC (zC (zA (mv (v := vI (0)) rfl rfl (zD (zB ?_)))))))))))))
 refine zQ (gc_loop1 (zC (zA (gv (OpV.tr (by decide) (zW (q := 3) rfl rfl)) rfl (zD (zB (zC (xC rfl (zL (zB (zC (zQ (zC ?_)))))))))))))
 refine zA (mv rfl rfl (asg rfl rfl (zD (zB (zC (zA (mv rfl rfl (gv ((zI underlying34 rfl sizeOf32 rfl).cv (show _ = vP b2 0 from congrArg (vP b2) (by rfl))) rfl (gv ((zF (sz := 3) 0 underlying32 sizeOf30 rfl rfl rfl (by decide)).cv (show _ = vP b2 0 from congrArg (vP b2) (by rfl))) rfl (xQ (F := fun v_ => (rpQ m).Is h0 v_ s.1.x) (zE xA (Pc.fst (Pc.tx (Pc.here _))) rfl rfl rb2 rfl) (yD (.tail _ (.head _))) rfl ?_))))))))))
 intro v20u25 r20u25
 refine zM (vs := [_]) rfl rfl rfl rfl call98 ⟨rfl, trivial⟩ (fun w hs => o_pl_small hs r20u25) ?_
 intro v21u25 h1 hh1 r21u25
 obtain rfl := r21u25
 refine mv rfl rfl (gv (zN (vs := [_, _]) rfl rfl) rfl (gv (zN (vs := [_, _]) rfl rfl) rfl (asg rfl rfl (asg rfl rfl (zD (zK (e' := [(2, _), (3, _), (5, _), (13, _), (6, _), (7, _), (8, _)]) e7 (zB (zC (zA (mv rfl rfl (gv ((zF (sz := 3) 0 underlying32 sizeOf30 rfl rfl rfl (by decide)).cv (show _ = vP b3 0 from congrArg (vP b3) (by rfl))) rfl ?_)))))))))))
 replace rb3 := rb3.mono hh1
 refine xQ (F := fun v_ => (rpQ k).Is h1 v_ p.x) (zE xA (Pc.tx (Pc.here _)) rfl rfl rb3 rfl) (yD (.head _)) rfl ?_
 intro v27u25 r27u25
 refine zM (vs := [_]) rfl rfl rfl rfl call98 ⟨rfl, trivial⟩ (fun w hs => o_pl_small hs r27u25) ?_
 intro v28u25 h2 hh2 r28u25
 obtain rfl := r28u25
 refine mv rfl rfl (gv (zN (vs := [_, _]) rfl rfl) rfl (gv (zN (vs := [_, _]) rfl rfl) rfl (asg rfl rfl (asg rfl rfl (zD (zB (zC (zC (zA (mv rfl rfl (gv (ov_not rfl) rfl ?_)))))))))))
 refine gl_cut (ι := Unit) 4 (fun _ => True) (fun _ => [(36, vB ((¬ (smB s.1.x)) ∨ (¬ (smB p.x)))), (2, vP b2 0), (3, vP b3 0), (5, vI (0)), (13, vI (0)), (7, vI (smZ s.1.x)), (9, vI (smZ p.x))]) (fun _ => [.var b3 32 cs3, .var b2 34 cs2]) (fun _ => h2) ?_ ?_
 ·
  refine gl_cases (¬ (smB s.1.x)) (fun hg => ?_) (fun hg => ?_)
  ·
   refine gl_val (zH (v := .bool true) (congrArg some (vB_true hg))) rfl rfl rfl (yM rfl rfl rfl rfl rfl rfl (yM rfl rfl rfl rfl rfl rfl (gv (xU rfl rfl) rfl (zD ?_))))
   refine yR () trivial ⟨?_, rfl, rfl, rfl, rfl, rfl, rfl, trivial⟩ rfl rfl
   exact congrArg some (vB_or_t hg)
  refine gl_val (zH (v := .bool false) (congrArg some (xD hg))) rfl rfl rfl (yX rfl rfl rfl (mv rfl rfl (yX rfl rfl rfl (gv (ov_not rfl) rfl (gv (ov_pick_f rfl rfl) rfl (zD ?_))))))
  refine yR () trivial ⟨?_, rfl, rfl, rfl, rfl, rfl, rfl, trivial⟩ rfl rfl
  exact congrArg some (vB_or_f hg)
 intro _ _
 show GL _ _ _ _ _ _ _ [(36, vB ((¬ (smB s.1.x)) ∨ (¬ (smB p.x)))), (2, vP b2 0), (3, vP b3 0), (5, vI (0)), (13, vI (0)), (7, vI (smZ s.1.x)), (9, vI (smZ p.x))] [.var b3 32 cs3, .var b2 34 cs2] h2
 refine zD (zB ?_)
 refine zP rfl (fun hc36 => ?_) (fun hc36 => ?_)
 ·
  refine zC (zA ?_)
  replace rb2 := rb2.mono (hh1.trans hh2)
  refine xQ (F := fun v_ => (rpP (rpT (rpQ m)) (rpQ l)).Is h2 v_ s) (zE ty34 (Pc.here _) rfl rfl rb2 rfl) (yD (.tail _ (.head _))) rfl ?_
  intro v37u25 r37u25
  replace rb3 := rb3.mono hh2
  refine xQ (F := fun v_ => (rpT (rpQ k)).Is h2 v_ p) (zE xF (Pc.here _) rfl rfl rb3 rfl) (yD (.head _)) rfl ?_
  intro v38u25 r38u25
  refine zM (vs := [_, _]) rfl rfl rfl rfl call99 e2z (fun w hs => o_v_side hs r37u25 r38u25 (by omega) (by omega) (by omega)) ?_
  intro v39u25 h3 hh3 r39u25
  obtain rfl : v39u25 = vI (sdZ s p) := r39u25
  have hsd39u25 := sd_range s p
  refine asg rfl rfl (zD (zK (e' := [(4, _)]) ⟨rfl, trivial⟩ (zB (zR (yA (gr_in (yA (yA (gr_in (yA (yJ rfl rfl ?_)))))))))))
  rfl
 obtain ⟨hsm, hpr⟩ := side_sm hc36
 refine zL (zB (zA (mv rfl rfl (mv rfl rfl (mv rfl rfl (gv (ov_mul_i rfl rfl (by omega) (by omega)) rfl (gv (zS rfl rfl (by omega) (by omega)) rfl (asg rfl rfl (zD (yY (zB (zA (gv ((zS (q := 1) rfl rfl (by omega) (by omega)).cv (show _ = vI (1) from rfl)) rfl ?_)))))))))))))
 refine mv rfl rfl (zD (xI (zC (zA (gv (OpV.tr (by decide) (zW (q := 3) rfl rfl)) rfl (zD (zB (zC (xC rfl (zL (zK (e' := [(2, _), (3, _), (5, _), (13, _)]) e4z (zB (zC ?_)))))))))))))
 refine zQ (zC (zA (mv rfl rfl (asg rfl rfl (zD (zB (zC (zA (mv rfl rfl (gv ((zI underlying34 rfl sizeOf32 rfl).cv (show _ = vP b2 0 from congrArg (vP b2) (by rfl))) rfl (gv ((zF (sz := 3) 1 underlying32 sizeOf30 rfl rfl rfl (by decide)).cv (show _ = vP b2 3 from congrArg (vP b2) (by rfl))) rfl ?_)))))))))))
 replace rb2 := rb2.mono (hh1.trans hh2)
 refine xQ (F := fun v_ => (rpQ m).Is h2 v_ s.1.y) (zE xA (Pc.fst (Pc.ty (Pc.here _))) rfl rfl rb2 rfl) (yD (.tail _ (.head _))) rfl ?_
 intro v20u26 r20u26
 refine zM (vs := [_]) rfl rfl rfl rfl call98 ⟨rfl, trivial⟩ (fun w hs => o_pl_small hs r20u26) ?_
 intro v21u26 h3 hh3 r21u26
 obtain rfl := r21u26
 refine mv rfl rfl (gv (zN (vs := [_, _]) rfl rfl) rfl (gv (zN (vs := [_, _]) rfl rfl) rfl (asg rfl rfl (asg rfl rfl (zD (zB (zC (zA (mv rfl rfl (gv ((zF (sz := 3) 1 underlying32 sizeOf30 rfl rfl rfl (by decide)).cv (show _ = vP b3 3 from congrArg (vP b3) (by rfl))) rfl ?_))))))))))
 replace rb3 := rb3.mono (hh2.trans hh3)
 refine xQ (F := fun v_ => (rpQ k).Is h3 v_ p.y) (zE xA (Pc.ty (Pc.here _)) rfl rfl rb3 rfl) (yD (.head _)) rfl ?_
 intro v27u26 r27u26
 refine zM (vs := [_]) rfl rfl rfl rfl call98 ⟨rfl, trivial⟩ (fun w hs => o_pl_small hs r27u26) ?_
 intro v28u26 h4 hh4 r28u26
 obtain rfl := r28u26
 refine mv rfl rfl (gv (zN (vs := [_, _]) rfl rfl) rfl (gv (zN (vs := [_, _]) rfl rfl) rfl (asg rfl rfl (asg rfl rfl (zD (zK (e' := [(2, _), (3, _), (5, _), (13, _), (7, _), (8, _), (9, _), (10, _)]) e8 (zB (zC (zC (zA (mv rfl rfl (gv (ov_not rfl) rfl ?_))))))))))))
 refine gl_cut (ι := Unit) 4 (fun _ => True) (fun _ => [(36, vB ((¬ (smB s.1.y)) ∨ (¬ (smB p.y)))), (2, vP b2 0), (3, vP b3 0), (5, vI ((0 : Int) + ((smZ s.1.x) * (smZ p.x)))), (13, vI (1)), (7, vI (smZ s.1.y)), (9, vI (smZ p.y))]) (fun _ => [.var b3 32 cs3, .var b2 34 cs2]) (fun _ => h4) ?_ ?_
 ·
  refine gl_cases (¬ (smB s.1.y)) (fun hg => ?_) (fun hg => ?_)
  ·
   refine gl_val (zH (v := .bool true) (congrArg some (vB_true hg))) rfl rfl rfl (yM rfl rfl rfl rfl rfl rfl (yM rfl rfl rfl rfl rfl rfl (gv (xU rfl rfl) rfl (zD ?_))))
   refine yR () trivial ⟨?_, rfl, rfl, rfl, rfl, rfl, rfl, trivial⟩ rfl rfl
   exact congrArg some (vB_or_t hg)
  refine gl_val (zH (v := .bool false) (congrArg some (xD hg))) rfl rfl rfl (yX rfl rfl rfl (mv rfl rfl (yX rfl rfl rfl (gv (ov_not rfl) rfl (gv (ov_pick_f rfl rfl) rfl (zD ?_))))))
  refine yR () trivial ⟨?_, rfl, rfl, rfl, rfl, rfl, rfl, trivial⟩ rfl rfl
  exact congrArg some (vB_or_f hg)
 intro _ _
 show GL _ _ _ _ _ _ _ [(36, vB ((¬ (smB s.1.y)) ∨ (¬ (smB p.y)))), (2, vP b2 0), (3, vP b3 0), (5, vI ((0 : Int) + ((smZ s.1.x) * (smZ p.x)))), (13, vI (1)), (7, vI (smZ s.1.y)), (9, vI (smZ p.y))] [.var b3 32 cs3, .var b2 34 cs2] h4
 refine zD (zB ?_)
 refine zP rfl (fun hc36 => ?_) (fun hc36 => ?_)
 ·
  refine zC (zA ?_)
  replace rb2 := rb2.mono (hh3.trans hh4)
  refine xQ (F := fun v_ => (rpP (rpT (rpQ m)) (rpQ l)).Is h4 v_ s) (zE ty34 (Pc.here _) rfl rfl rb2 rfl) (yD (.tail _ (.head _))) rfl ?_
  intro v37u26 r37u26
  replace rb3 := rb3.mono hh4
  refine xQ (F := fun v_ => (rpT (rpQ k)).Is h4 v_ p) (zE xF (Pc.here _) rfl rfl rb3 rfl) (yD (.head _)) rfl ?_
  intro v38u26 r38u26
  refine zM (vs := [_, _]) rfl rfl rfl rfl call99 e2z (fun w hs => o_v_side hs r37u26 r38u26 (by omega) (by omega) (by omega)) ?_
  intro v39u26 h5 hh5 r39u26
  obtain rfl : v39u26 = vI (sdZ s p) := r39u26
  have hsd39u26 := sd_range s p
  refine asg rfl rfl (zD (zK (e' := [(4, _)]) ⟨rfl, trivial⟩ (zB (zR (yA (gr_in (yA (yA (gr_in (yA (yJ rfl rfl ?_)))))))))))
  rfl
 obtain ⟨hsm, hpr⟩ := side_sm hc36
 refine zL (zB (zA (mv rfl rfl (mv rfl rfl (mv rfl rfl (gv (ov_mul_i rfl rfl (by omega) (by omega)) rfl (gv (zS rfl rfl (by omega) (by omega)) rfl (asg rfl rfl (zD (yY (zB (zA (gv ((zS (q := 1) rfl rfl (by omega) (by omega)).cv (show _ = vI (2) from rfl)) rfl ?_)))))))))))))
 refine mv rfl rfl (zD (xI (zC (zA (gv (OpV.tr (by decide) (zW (q := 3) rfl rfl)) rfl (zD (zB (zC (xC rfl (zL (zK (e' := [(2, _), (3, _), (5, _), (13, _)]) e4z (zB (zC ?_)))))))))))))
 refine zQ (zC (zA (mv rfl rfl (asg rfl rfl (zD (zB (zC (zA (mv rfl rfl (gv ((zI underlying34 rfl sizeOf32 rfl).cv (show _ = vP b2 0 from congrArg (vP b2) (by rfl))) rfl (gv ((zF (sz := 3) 2 underlying32 sizeOf30 rfl rfl rfl (by decide)).cv (show _ = vP b2 6 from congrArg (vP b2) (by rfl))) rfl ?_)))))))))))
 replace rb2 := rb2.mono (hh3.trans hh4)
 refine xQ (F := fun v_ => (rpQ m).Is h4 v_ s.1.z) (zE xA (Pc.fst (Pc.tz (Pc.here _))) rfl rfl rb2 rfl) (yD (.tail _ (.head _))) rfl ?_
 intro v20u27 r20u27
 refine zM (vs := [_]) rfl rfl rfl rfl call98 ⟨rfl, trivial⟩ (fun w hs => o_pl_small hs r20u27) ?_
 intro v21u27 h5 hh5 r21u27
 obtain rfl := r21u27
 refine mv rfl rfl (gv (zN (vs := [_, _]) rfl rfl) rfl (gv (zN (vs := [_, _]) rfl rfl) rfl (asg rfl rfl (asg rfl rfl (zD (zB (zC (zA (mv rfl rfl (gv ((zF (sz := 3) 2 underlying32 sizeOf30 rfl rfl rfl (by decide)).cv (show _ = vP b3 6 from congrArg (vP b3) (by rfl))) rfl ?_))))))))))
 replace rb3 := rb3.mono (hh4.trans hh5)
 refine xQ (F := fun v_ => (rpQ k).Is h5 v_ p.z) (zE xA (Pc.tz (Pc.here _)) rfl rfl rb3 rfl) (yD (.head _)) rfl ?_
 intro v27u27 r27u27
 refine zM (vs := [_]) rfl rfl rfl rfl call98 ⟨rfl, trivial⟩ (fun w hs => o_pl_small hs r27u27) ?_
 intro v28u27 h6 hh6 r28u27
 obtain rfl := r28u27
 refine mv rfl rfl (gv (zN (vs := [_, _]) rfl rfl) rfl (gv (zN (vs := [_, _]) rfl rfl) rfl (asg rfl rfl (asg rfl rfl (zD (zK (e' := [(2, _), (3, _), (5, _), (13, _), (7, _), (8, _), (9, _), (10, _)]) e8 (zB (zC (zC (zA (mv rfl rfl (gv (ov_not rfl) rfl ?_))))))))))))
 refine gl_cut (ι := Unit) 4 (fun _ => True) (fun _ => [(36, vB ((¬ (smB s.1.z)) ∨ (¬ (smB p.z)))), (2, vP b2 0), (3, vP b3 0), (5, vI (((0 : Int) + ((smZ s.1.x) * (smZ p.x))) + ((smZ s.1.y) * (smZ p.y)))), (13, vI (2)), (7, vI (smZ s.1.z)), (9, vI (smZ p.z))]) (fun _ => [.var b3 32 cs3, .var b2 34 cs2]) (fun _ => h6) ?_ ?_
 ·
  refine gl_cases (¬ (smB s.1.z)) (fun hg => ?_) (fun hg => ?_)
  ·
   refine gl_val (zH (v := .bool true) (congrArg some (vB_true hg))) rfl rfl rfl (yM rfl rfl rfl rfl rfl rfl (yM rfl rfl rfl rfl rfl rfl (gv (xU rfl rfl) rfl (zD ?_))))
   refine yR () trivial ⟨?_, rfl, rfl, rfl, rfl, rfl, rfl, trivial⟩ rfl rfl
   exact congrArg some (vB_or_t hg)
  refine gl_val (zH (v := .bool false) (congrArg some (xD hg))) rfl rfl rfl (yX rfl rfl rfl (mv rfl rfl (yX rfl rfl rfl (gv (ov_not rfl) rfl (gv (ov_pick_f rfl rfl) rfl (zD ?_))))))
  refine yR () trivial ⟨?_, rfl, rfl, rfl, rfl, rfl, rfl, trivial⟩ rfl rfl
  exact congrArg some (vB_or_f hg)
 intro _ _
 show GL _ _ _ _ _ _ _ [(36, vB ((¬ (smB s.1.z)) ∨ (¬ (smB p.z)))), (2, vP b2 0), (3, vP b3 0), (5, vI (((0 : Int) + ((smZ s.1.x) * (smZ p.x))) + ((smZ s.1.y) * (smZ p.y)))), (13, vI (2)), (7, vI (smZ s.1.z)), (9, vI (smZ p.z))] [.var b3 32 cs3, .var b2 34 cs2] h6
 refine zD (zB ?_)
 refine zP rfl (fun hc36 => ?_) (fun hc36 => ?_)
 ·
  refine zC (zA ?_)
  replace rb2 := rb2.mono (hh5.trans hh6)
  refine xQ (F := fun v_ => (rpP (rpT (rpQ m)) (rpQ l)).Is h6 v_ s) (zE ty34 (Pc.here _) rfl rfl rb2 rfl) (yD (.tail _ (.head _))) rfl ?_
  intro v37u27 r37u27
  replace rb3 := rb3.mono hh6
  refine xQ (F := fun v_ => (rpT (rpQ k)).Is h6 v_ p) (zE xF (Pc.here _) rfl rfl rb3 rfl) (yD (.head _)) rfl ?_
  intro v38u27 r38u27
  refine zM (vs := [_, _]) rfl rfl rfl rfl call99 e2z (fun w hs => o_v_side hs r37u27 r38u27 (by omega) (by omega) (by omega)) ?_
  intro v39u27 h7 hh7 r39u27
  obtain rfl : v39u27 = vI (sdZ s p) := r39u27
  have hsd39u27 := sd_range s p
  refine asg rfl rfl (zD (zK (e' := [(4, _)]) ⟨rfl, trivial⟩ (zB (zR (yA (gr_in (yA (yA (gr_in (yA (yJ rfl rfl ?_)))))))))))
  rfl
 obtain ⟨hsm, hpr⟩ := side_sm hc36
 refine zL (zB (zA (mv rfl rfl (mv rfl rfl (mv rfl rfl (gv (ov_mul_i rfl rfl (by omega) (by omega)) rfl (gv (zS rfl rfl (by omega) (by omega)) rfl (asg rfl rfl (zD (yY (zB (zA (gv ((zS (q := 1) rfl rfl (by omega) (by omega)).cv (show _ = vI (3) from rfl)) rfl ?_)))))))))))))
 refine mv rfl rfl (zD (xI (zC (zA (gv (OpV.fa (by decide) (zW (q := 3) rfl rfl)) rfl (zD (zB (zC (gc_cond_f rfl (xK (yE (yE (xJ ?_)))))))))))))
 refine zK (e' := [(2, _), (3, _), (5, _)]) e3z (zB (zC (zA (gv ((zI underlying34 rfl sizeOf30 rfl).cv (show _ = vP b2 9 from congrArg (vP b2) (by rfl))) rfl ?_))))
 replace rb2 := rb2.mono (hh5.trans hh6)
 refine xQ (F := fun v_ => (rpQ l).Is h6 v_ s.2) (zE xA (Pc.snd (Pc.here _)) rfl rfl rb2 rfl) (yD (.tail _ (.head _))) rfl ?_
 intro v48u28 r48u28
 refine zM (vs := [_]) rfl rfl rfl rfl call98 ⟨rfl, trivial⟩ (fun w hs => o_pl_small hs r48u28) ?_
 intro v49u28 h7 hh7 r49u28
 obtain rfl := r49u28
 refine mv rfl rfl (gv (zN (vs := [_, _]) rfl rfl) rfl (gv (zN (vs := [_, _]) rfl rfl) rfl (asg rfl rfl (asg rfl rfl (zD (zB (zC (zC (zA (mv rfl rfl (gv (ov_not rfl) rfl (zD (zB ?_)))))))))))))
 refine zP rfl (fun hc53 => ?_) (fun hc53 => ?_)
 ·
  refine gc_keep (e' := [(2, _), (3, _)]) e2z (zC (zA ?_))
  replace rb2 := rb2.mono hh7
  refine xQ (F := fun v_ => (rpP (rpT (rpQ m)) (rpQ l)).Is h7 v_ s) (zE ty34 (Pc.here _) rfl rfl rb2 rfl) (yD (.tail _ (.head _))) rfl ?_
  intro v54u28 r54u28
  replace rb3 := rb3.mono (hh6.trans hh7)
  refine xQ (F := fun v_ => (rpT (rpQ k)).Is h7 v_ p) (zE xF (Pc.here _) rfl rfl rb3 rfl) (yD (.head _)) rfl ?_
  intro v55u28 r55u28
  refine zM (vs := [_, _]) rfl rfl rfl rfl call99 e2z (fun w hs => o_v_side hs r54u28 r55u28 (by omega) (by omega) (by omega)) ?_
  intro v56u28 h8 hh8 r56u28
  obtain rfl : v56u28 = vI (sdZ s p) := r56u28
  have hsd56u28 := sd_range s p
  refine asg rfl rfl (zD (zB (zR (yA (yJ rfl rfl ?_)))))
  rfl
 have hsb := Classical.not_not.1 hc53
 have hsd := sm_eq hsb
 refine gc_keep (e' := [(5, _), (11, _)]) e2z (zL (zB (zC (zA (mv rfl rfl (mv rfl rfl (gv (xE rfl rfl (by omega) (by omega)) rfl ?_)))))))
 refine zM (vs := [_]) rfl rfl rfl rfl call100 ⟨rfl, trivial⟩ (fun w hs => o_pl_sign hs (by omega) (by omega)) ?_
 intro v60u28 h8 hh8 r60u28
 obtain rfl : v60u28 = vI (sgnZ (((((0 : Int) + ((smZ s.1.x) * (smZ p.x))) + ((smZ s.1.y) * (smZ p.y))) + ((smZ s.1.z) * (smZ p.z))) - (smZ s.2))) := r60u28
 refine asg rfl rfl (zD (zB (zR (yJ rfl rfl ?_))))
 exact congrArg vI (side_sum (by assumption) (by assumption) (by assumption) hsb)
end Go.Proofs.YtghhjjmjpeehdaaGreat
namespace Bk
set_option linter.unusedVariables false
set_option linter.unusedSimpArgs false
open Classical
noncomputable def yLoT (a b : Pt) : Pt := if 0 < cmpQ a.y b.y then b else a
noncomputable def yHiT (a b : Pt) : Pt := if 0 < cmpQ a.y b.y then a else b
noncomputable def whTo (L : List (List Pt)) (p : P2) (i j : Nat) : Nat → Int
  | 0 => -1
  | m + 1 => if insZ (L.getD m []) p i j = 1 then -(whTo L p i j m) else whTo L p i j m
noncomputable def whZ (L : List (List Pt)) (p : P2) (i j : Nat) : Int := if ∃ m, m < L.length ∧ insZ (L.getD m []) p i j = 0 then 0 else whTo L p i j L.length
end Bk
namespace Bk
set_option linter.unusedVariables false
set_option linter.unusedSimpArgs false
open Classical
def cutsP (a b : List Pt) (i j p q : Nat) : Prop := 1 < touch2 (edgeA a i j p) (edgeB a i j p) (edgeA b i j q) (edgeB b i j q)
def crossesP (a b : List Pt) (i j : Nat) : Prop := ∃ p q, p < a.length ∧ q < b.length ∧ cutsP a b i j p q
theorem one_step {Q : Nat → Prop} {q : Nat} (h : ∀ v, v < q → Q v) (h1 : Q q) : ∀ v, v < q + 1 → Q v := fun v hv => by
  rcases Nat.lt_succ_iff_lt_or_eq.1 hv with h2 | h2
  · exact h v h2
  · subst h2; exact h1
noncomputable def mid2 (u v : P2) : P2 := (midQ u.1 v.1, midQ u.2 v.2)
noncomputable def withTo (c l : List Pt) (i j : Nat) : Nat → Int
  | 0 => 0
  | m + 1 => if insZ c (mid2 (edgeA l i j m) (edgeB l i j m)) i j = 1 then withTo c l i j m + 1 else withTo c l i j m
def arZ (l : List Pt) (i j : Nat) : Rat := areaTo l i j l.length
noncomputable def wiZ (c l : List Pt) (i j : Nat) : Int := withTo c l i j l.length
abbrev gl (L : List (List Pt)) (m : Nat) : List Pt := L.getD m []
def betP (L : List (List Pt)) (i j k m : Nat) (best : Int) : Prop :=
  (0 < sgnQ (arZ (gl L m) i j) ∧ wiZ (gl L m) (gl L k) i j = ↑(gl L k).length) ∧ (best < 0 ∨ cmpQ (arZ (gl L m) i j) (arZ (gl L best.toNat) i j) < 0)
noncomputable def parTo (L : List (List Pt)) (i j k : Nat) : Nat → Int
  | 0 => -1
  | m + 1 => if betP L i j k m (parTo L i j k m) then ↑m else parTo L i j k m
noncomputable def pZ (L : List (List Pt)) (i j k : Nat) : Int := if 0 < sgnQ (arZ (gl L k) i j) then -1 else parTo L i j k L.length
def sibP (L : List (List Pt)) (i j a b : Nat) : Prop := ((¬ b = a ∧ 0 ≤ pZ L i j a) ∧ pZ L i j b = pZ L i j a) ∧ 0 < wiZ (gl L b) (gl L a) i j
def lostP (L : List (List Pt)) (i j k : Nat) : Prop := ¬ 0 < sgnQ (arZ (gl L k) i j) ∧ parTo L i j k L.length < 0
noncomputable def nestE (L : List (List Pt)) (i j : Nat) : Int :=
  if 16 < L.length ∨ ∃ m, m < L.length ∧ 64 < (gl L m).length then 2
  else if ∃ m, m < L.length ∧ ¬ simP (gl L m) i j then 8
  else if ∃ a b, a < b ∧ b < L.length ∧ crossesP (gl L a) (gl L b) i j then 32
  else if (∃ k, k < L.length ∧ lostP L i j k) ∨ ∃ a b, a < L.length ∧ b < L.length ∧ sibP L i j a b then 33 else 0
noncomputable def nestL (L : List (List Pt)) (i j : Nat) : List Int := if nestE L i j = 0 then (List.range L.length).map (pZ L i j) else []
theorem getD_set {α : Type} {l : List α} {k q : Nat} {x d : α} (hk : k < l.length) : (l.set k x).getD q d = if q = k then x else l.getD q d := by
  rw [List.getD_eq_getElem?_getD, List.getD_eq_getElem?_getD, List.getElem?_set]
  by_cases h : k = q
  · rw [if_pos h, if_pos hk, if_pos h.symm]; rfl
  · rw [if_neg h, if_neg (fun e => h e.symm)]
theorem set_next {α : Type} {l : List α} {k : Nat} {x d : α} {f : Nat → α} (hk : k < l.length) (h : ∀ q, q < k → l.getD q d = f q) (hx : x = f k) : ∀ q, q < k + 1 → (l.set k x).getD q d = f q := fun q hq => by
  rw [getD_set hk]
  split
  · rename_i e; rw [e, hx]
  · exact h q (by omega)
theorem set_at {α : Type} {l : List α} {k : Nat} {x d : α} (hk : k < l.length) : (l.set k x).getD k d = x := by rw [getD_set hk, if_pos rfl]
end Bk
namespace Go.Proofs.YtghhjjmjpeehdaaGreat
open Bk Go Tryz
set_option linter.unusedVariables false
set_option linter.unusedSimpArgs false
set_option maxRecDepth 10000
theorem o_own_point {w0 : World} {h0 : Mem}  (hs : MLe h0 (mem w0)) {k : Nat} {vp : Value} {p : (T3 Rat)} (rp : (rpT (rpQ k)).Is h0 vp p) (hcd0 : k ≤ 2000000000)  :
    Calls Tryz.prog 86 #[vp] w0 (Ret w0 h0 (fun h r => (rpT (rpQ (k + 1))).Is h r p)) := by
 refine zO (n := 13) (e := [(0, vp)]) (vs := [vp]) func86 rfl rfl (bL rfl) hs ⟨rfl, trivial⟩ (zC (zA (zJ (yU (ρ := (rpT (rpQ k))) rfl rp) rfl rfl rfl ?_)))
 intro v1 q1 hq1
 obtain ⟨b1, cs1, rfl, rfl, rb1⟩ := hq1
 refine zJ (yQ (ρ := (rpT (rpQ (k + 1)))) (X := (T3.mk (0 : Rat) 0 0)) yI rfl rfl (zr_t (xS (by omega)))) rfl rfl rfl ?_
 intro v2 q2 hq2
 obtain ⟨b2, cs2, rfl, rfl, rb2⟩ := hq2
 refine zD (zB (zC ?_))
 refine yG 10 _ [] [(0, .q), (1, .q), (3, .q), (4, .q), (6, .q), (7, .q), (2, .c), (5, .c), (8, .c), (9, .q), (10, .t)] xG nX (by kernel_rfl) nX (fun r hr => hr) (w_q rfl (fun h' L' hh hR => (zF (sz := 3) (q := 0) 0 underlying32 sizeOf30 rfl rfl rfl (by decide)).cv (show _ = vP b1 0 from congrArg (vP b1) (by rfl))) rfl (yO (F := fun v_ => (rpQ k).Is h0 v_ p.x) rfl (zE xA (Pc.tx (Pc.here _)) rfl rfl rb1 rfl) (yD (.tail _ (.head _))) rfl ?_))
 intro v4 r4
 refine w_q rfl (fun h' L' hh hR => (zF (sz := 3) (q := 1) 1 underlying32 sizeOf30 rfl rfl rfl (by decide)).cv (show _ = vP b1 3 from congrArg (vP b1) (by rfl))) rfl (yO (F := fun v_ => (rpQ k).Is h0 v_ p.y) rfl (zE xA (Pc.ty (Pc.here _)) rfl rfl rb1 rfl) (yD (.tail _ (.head _))) rfl ?_)
 intro v7 r7
 refine w_q rfl (fun h' L' hh hR => (zF (sz := 3) (q := 2) 2 underlying32 sizeOf30 rfl rfl rfl (by decide)).cv (show _ = vP b1 6 from congrArg (vP b1) (by rfl))) rfl (yO (F := fun v_ => (rpQ k).Is h0 v_ p.z) rfl (zE xA (Pc.tz (Pc.here _)) rfl rfl rb1 rfl) (yD (.tail _ (.head _))) rfl ?_)
 intro v10 r10
 refine w_c rfl ?_
 refine zY (vs := [_]) call111 ⟨rfl, trivial⟩ (fun w hs => o_own_rat hs r4 (by omega)) rfl ?_
 intro v5 h1 hh1 r5
 change (rpQ k).Is h1 v5 p.x at r5
 refine w_c rfl ?_
 replace r7 := r7.mono hh1
 refine zY (vs := [_]) call111 ⟨rfl, trivial⟩ (fun w hs => o_own_rat hs r7 (by omega)) rfl ?_
 intro v8 h2 hh2 r8
 change (rpQ k).Is h2 v8 p.y at r8
 refine w_c rfl ?_
 replace r10 := r10.mono (hh1.trans hh2)
 refine zY (vs := [_]) call111 ⟨rfl, trivial⟩ (fun w hs => o_own_rat hs r10 (by omega)) rfl ?_
 intro v11 h3 hh3 r11
 change (rpQ k).Is h3 v11 p.z at r11
 replace r5 := r5.mono (hh2.trans hh3)
 replace r8 := r8.mono hh3
 refine yO (F := fun v_ => (rpT (rpQ (k + 1))).Is h3 v_ (T3.mk p.x p.y p.z)) rfl (ox_build_arr (ps' := [(0, _), (1, _), (2, _)]) underlying32 yI rfl rfl sizeOf30 e6 rfl (zr_t (xS (by omega))) (yN rfl (Pc.tx (Pc.here _)) (r5.le (Le.q (l := k + 1) (by omega))) (yN rfl (Pc.ty (Pc.here _)) (r8.le (Le.q (l := k + 1) (by omega))) (yN rfl (Pc.tz (Pc.here _)) (r11.le (Le.q (l := k + 1) (by omega))) fx_nil)))) mem0 rfl ?_
 intro v12 r12
 replace rb2 := rb2.mono ((hh1.trans hh2).trans hh3)
 refine yV (A := []) (F := fun c_ => (rpT (rpQ (k + 1))).R h3 c_ (T3.mk p.x p.y p.z)) rfl (zX sizeOf32 (Pc.here _) rfl rfl rfl rb2 r12 rfl) ?_
 intro cs_1 rb_2
 refine yZ (zK (e' := [(2, _)]) ⟨rfl, trivial⟩ (zB (zR (gq_exv (rv_o (t := 2) xF (.head _) rfl rb_2) ?_))))
 intro w_3 hvw_3 rr_4
 refine xM (fun E S => yL rfl hvw_3 E S) ?_
 exact rr_4
theorem o_own_each_p {w0 : World} {h0 : Mem}  (hs : MLe h0 (mem w0)) {k : Nat} {vl : Value} {l : (List (T3 Rat))} (rl : (rpS (rpT (rpQ k))).Is h0 vl l) (hcd0 : k ≤ 1000000000) (hcd1 : l.length ≤ 100000)  :
    Calls Tryz.prog 85 #[vl, vF 86 []] w0 (Ret w0 h0 (fun h r => (rpS (rpT (rpQ (k + 2)))).Is h r l)) := by
 have hll := s_lt rl
 refine zO (n := 28) (e := [(0, vl), (1, vF 86 [])]) (vs := [vl, vF 86 []]) func85 rfl rfl (bL rfl) hs e2z (zC (zA (asg rfl rfl (zD (zB (zC (zC (zA (mv rfl rfl (gv (ov_eql_nil underlying27 rfl (s_one3 rl)) rfl (zD (zB ?_))))))))))))
 refine zP rfl (fun hc9 => ?_) (fun hc9 => ?_)
 ·
  have hnil := nil_of rl p9N hc9
  refine zC (zA (asg rfl rfl (zD (zB (zR (yA (yJ rfl rfl ?_)))))))
  exact (Rp.Is.cast (is_nil _) (by exact hnil.symm))
 refine zL (zB (zC (zA (mv rfl rfl (gv (ov_len_sr underlying27 rfl rl) rfl (zJ (new_makex (ρ := (rpT (rpQ (k + 2)))) (X := (T3.mk (0 : Rat) 0 0)) (by' := 168) l.length underlying27 yI rfl rfl rfl rfl (zr_t (xS (by omega))) rfl rfl (by rfl) (by rfl) (by omega) (by omega)) rfl rfl rfl ?_))))))
 intro v12 q12 hq12
 obtain ⟨cs12, rfl, rl12⟩ := hq12
 refine asg rfl rfl (zD (zB (zC (zC (zA (mv rfl rfl (gv (ov_len_sr underlying27 rfl rl) rfl (mv (v := vI (0)) rfl rfl (zD (zB (zQ ?_)))))))))))
 refine gc_loop (ι := Nat × List (T3 Rat) × Value × List Value × Mem) (fun (i, OU, s5_5, cs_6, ma) => MLe h0 ma ∧ (RL (rpT (rpQ (k + 2))) ma cs_6 OU ∧ (i ≤ l.length ∧ OU.length = l.length) ∧ ∀ u, u < i → OU.getD u (T3.mk (0 : Rat) 0 0) = l.getD u (T3.mk (0 : Rat) 0 0))) (fun (i, OU, s5_5, cs_6, ma) => [(1, vF 86 []), (5, s5_5), (13, vl), (14, vI (↑(l).length : Int)), (15, vI ↑i)]) (fun (i, OU, s5_5, cs_6, ma) => [.gs 32 9 s5_5 OU.length cs_6]) (fun (i, OU, s5_5, cs_6, ma) => ma) (fun (i, OU, s5_5, cs_6, ma) => l.length - i) (0, (List.replicate l.length (T3.mk (0 : Rat) 0 0)), v12, cs12, h0) ?_ e5 rfl rfl ?_
 ·
  refine ⟨MLe.refl _, ?_⟩
  refine ⟨rl12, ?_⟩
  exact ⟨⟨by omega, List.length_replicate⟩, fun u h => by omega⟩
 intro x hx
 obtain ⟨i, OU, s5_5, cs_6, ma⟩ := x
 obtain ⟨hmma, hinv⟩ := hx
 show GC _ _ _ _ _ _ [(1, vF 86 []), (5, s5_5), (13, vl), (14, vI (↑(l).length : Int)), (15, vI ↑i)] [.gs 32 9 s5_5 OU.length cs_6] ma
 obtain ⟨rl_7, hinv⟩ := hinv
 obtain ⟨⟨hi1, hi2⟩, hi3⟩ := hinv
 refine zC (zA (gv (zW rfl rfl) rfl (zD (zB (zC ?_)))))
 refine zP rfl (fun hc16 => ?_) (fun hc16 => ?_)
 ·
  refine zL (zB (zC (zQ (zC (zA (mv rfl rfl ?_))))))
  replace rl := rl.mono hmma
  refine xQ (F := fun v_ => AtP (rpT (rpQ k)) ma v_ (l.getD i (T3.mk (0 : Rat) 0 0))) (ox_idx_s (T3.mk (0 : Rat) 0 0) i underlying27 xF rfl rfl rl rfl (by omega) p9N) mem0 rfl ?_
  intro v18 r18
  refine xQ (F := fun v_ => (rpT (rpQ k)).Is ma v_ (l.getD i (T3.mk (0 : Rat) 0 0))) (ox_load_at xF rfl r18) mem0 rfl ?_
  intro v19 r19
  refine zJ (yQ (ρ := (rpT (rpQ (k + 1)))) (X := (T3.mk (0 : Rat) 0 0)) yI rfl rfl (zr_t (xS (by omega)))) rfl rfl rfl ?_
  intro v7 q7 hq7
  obtain ⟨b7, cs7, rfl, rfl, rb7⟩ := hq7
  refine asg rfl rfl (xO (A := []) (F := fun c_ => (rpT (rpQ (k + 1))).R ma c_ (l.getD i (T3.mk (0 : Rat) 0 0))) (zX sizeOf32 (Pc.here _) rfl rfl rfl rb7 (r19.le (Le.t (Le.q (l := k + 1) (by omega)))) rfl) ?_)
  intro cs_8 rb_9
  refine zD (zB (zA (mv rfl rfl (mv rfl rfl (mv rfl rfl (xQ (F := fun v_ => (rpT (rpQ (k + 1))).Is ma v_ (l.getD i (T3.mk (0 : Rat) 0 0))) (zE xF (Pc.here _) rfl rfl rb_9 rfl) (yD (.head _)) rfl ?_))))))
  intro v23 r23
  refine gl_enter (enters_v (vs := [_]) call86 rfl ⟨rfl, trivial⟩) rfl rfl rfl (fun w hs => o_own_point hs r23 (by first | omega | exact (mem_getD (by omega) (by assumption)))) ?_
  intro v24 h1 hh1 r24
  change (rpT (rpQ ((k + 1) + 1))).Is h1 v24 (l.getD i (T3.mk (0 : Rat) 0 0)) at r24
  replace r24 := Rp.Is.le r24 (Le.t (Le.q (l := k + 2) (by omega)))
  refine gv ((ov_index_os i (.tail _ (.head _)) underlying27 sizeOf32 rfl rfl rfl (by first | omega | (simp only [lAz, lC, lN, lR, lS]; omega)) p9N).cv (show _ = xL 1 s5_5 ((i * 9 + 0)) from congrArg (xL 1 s5_5) (by rfl))) rfl ?_
  replace rl_7 := rl_7.mono hh1
  refine gl_updos (A := [_]) (F := fun c_ => RL (rpT (rpQ (k + 2))) h1 c_ (OU.set i (l.getD i (T3.mk (0 : Rat) 0 0)))) (upd_os sizeOf32 (Pc.arr (Pc.here _) (T3.mk (0 : Rat) 0 0) i (by first | omega | (simp only [lAz, lC, lN, lR, lS]; omega))) rfl p9N rfl rfl rl_7 r24 rfl) ?_
  intro cs_10 rl_11
  refine zD (yY (zK (e' := [(1, _), (5, _), (13, _), (14, _), (15, _)]) e5 (zB (zA (gv (zS (q := 1) rfl rfl (by omega) (by omega)) rfl (mv rfl rfl (zD (gq_drop (A := []) ?_))))))))
  refine yW ((i + 1), (OU.set i (l.getD i (T3.mk (0 : Rat) 0 0))), s5_5, cs_10, h1) ?_ ?_ e5 rfl rfl
  ·
   refine ⟨(hmma.trans hh1), ?_⟩
   refine ⟨rl_11, ?_⟩
   exact ⟨⟨by omega, by rw [lS]; exact hi2⟩, set_next (f := fun u => l.getD u (T3.mk (0 : Rat) 0 0)) (by omega) hi3 rfl⟩
  dsimp only
  omega
 have hall := list_same hi2 (fun u hu => hi3 u (by omega))
 refine xK (yE (yE (xJ (zB (zC (zA (mv rfl rfl (asg rfl rfl (zD (zB (zR (gq_freezex (A := []) (ρ := (rpT (rpQ (k + 2)))) rl_7 ?_))))))))))))
 intro h1 hh1 rs_12
 refine yJ rfl rfl ?_
 exact (Rp.Is.cast rs_12 (by exact hall))
theorem o_own_points {w0 : World} {h0 : Mem}  (hs : MLe h0 (mem w0)) {k : Nat} {vl : Value} {l : (List (T3 Rat))} (rl : (rpS (rpT (rpQ k))).Is h0 vl l) (hcd0 : k ≤ 1000000000) (hcd1 : l.length ≤ 100000)  :
    Calls Tryz.prog 48 #[vl] w0 (Ret w0 h0 (fun h r => (rpS (rpT (rpQ (k + 2)))).Is h r l)) := by
 refine zO (n := 5) (e := [(0, vl)]) (vs := [vl]) func48 rfl rfl (bL rfl) hs ⟨rfl, trivial⟩ (zC (zA (asg rfl rfl (zD (zB (zC (zA (mv rfl rfl ?_))))))))
 refine zM (vs := [_, _]) rfl rfl rfl rfl call85 e2z (fun w hs => o_own_each_p hs rl (by omega) (by omega)) ?_
 intro v4 h1 hh1 r4
 change (rpS (rpT (rpQ (k + 2)))).Is h1 v4 l at r4
 refine asg rfl rfl (zD (zB (zR (yJ rfl rfl ?_))))
 exact r4
theorem o_cx_height {w0 : World} {h0 : Mem}  (hs : MLe h0 (mem w0)) {m l k : Nat} {vs : Value} {s : ((T3 Rat) × Rat)} (rs : (rpP (rpT (rpQ m)) (rpQ l)).Is h0 vs s) {vp : Value} {p : (T3 Rat)} (rp : (rpT (rpQ k)).Is h0 vp p) (hcd0 : k ≤ 100000000) (hcd1 : l ≤ 100000000) (hcd2 : m ≤ 100000000)  :
    Calls Tryz.prog 117 #[vs, vp] w0 (Ret w0 h0 (fun h r => (rpQ (3 * k + l + 3 * m + 12)).Is h r (hgt s p))) := by
 refine zO (n := 12) (e := [(0, vs), (1, vp)]) (vs := [vs, vp]) func117 rfl rfl (bL rfl) hs e2z (zC (zA (zJ (yU (ρ := (rpP (rpT (rpQ m)) (rpQ l))) rfl rs) rfl rfl rfl ?_)))
 intro v2 q2 hq2
 obtain ⟨b2, cs2, rfl, rfl, rb2⟩ := hq2
 refine zJ (yU (ρ := (rpT (rpQ k))) rfl rp) rfl rfl rfl ?_
 intro v3 q3 hq3
 obtain ⟨b3, cs3, rfl, rfl, rb3⟩ := hq3
 refine zJ (yQ (ρ := (rpQ (3 * k + l + 3 * m + 12))) (X := (0 : Rat)) info30 rfl rfl (xS (by omega))) rfl rfl rfl ?_
 intro v4 q4 hq4
 obtain ⟨b4, cs4, rfl, rfl, rb4⟩ := hq4
 refine zD (zB (zC ?_))
 refine yG 7 _ [] [(0, .q), (1, .q), (2, .q), (4, .q), (5, .q), (3, .c), (6, .c), (7, .t)] xG nX (by kernel_rfl) nX (fun r hr => hr) (w_q rfl (fun h' L' hh hR => (zI underlying34 rfl sizeOf32 rfl).cv (show _ = vP b2 0 from congrArg (vP b2) (by rfl))) rfl (yO (F := fun v_ => (rpT (rpQ m)).Is h0 v_ s.1) rfl (zE xF (Pc.fst (Pc.here _)) rfl rfl rb2 rfl) (yD (.tail _ (.tail _ (.head _)))) rfl ?_))
 intro v6 r6
 refine yO (F := fun v_ => (rpT (rpQ k)).Is h0 v_ p) rfl (zE xF (Pc.here _) rfl rfl rb3 rfl) (yD (.tail _ (.head _))) rfl ?_
 intro v7 r7
 refine w_q rfl (fun h' L' hh hR => (zI underlying34 rfl sizeOf30 rfl).cv (show _ = vP b2 9 from congrArg (vP b2) (by rfl))) rfl (yO (F := fun v_ => (rpQ l).Is h0 v_ s.2) rfl (zE xA (Pc.snd (Pc.here _)) rfl rfl rb2 rfl) (yD (.tail _ (.tail _ (.head _)))) rfl ?_)
 intro v10 r10
 refine w_c rfl ?_
 refine zY (vs := [_, _]) call79 e2z (fun w hs => o_v_dot hs r6 r7 (by omega)) rfl ?_
 intro v8 h1 hh1 r8
 change (rpQ (3 * m + 3 * k + 9)).Is h1 v8 (dotT s.1 p) at r8
 replace r8 := Rp.Is.le r8 (Le.q (l := 3 * k + 3 * m + 9) (by omega))
 refine w_c rfl ?_
 replace r10 := r10.mono hh1
 refine zY (vs := [_, _]) call70 e2z (fun w hs => o_rat_sub hs r8 r10 (by omega)) rfl ?_
 intro v11 h2 hh2 r11
 change (rpQ ((3 * k + 3 * m + 9) + l + 1)).Is h2 v11 ((dotT s.1 p) - s.2) at r11
 replace r11 := Rp.Is.le r11 (Le.q (l := 3 * k + l + 3 * m + 10) (by omega))
 replace rb4 := rb4.mono (hh1.trans hh2)
 refine yV (A := []) (F := fun c_ => (rpQ (3 * k + l + 3 * m + 12)).R h2 c_ ((dotT s.1 p) - s.2)) rfl (zX sizeOf30 (Pc.here _) rfl rfl rfl rb4 (r11.le (Le.q (l := 3 * k + l + 3 * m + 12) (by omega))) rfl) ?_
 intro cs_19 rb_20
 refine yZ (zK (e' := [(4, _)]) ⟨rfl, trivial⟩ (zB (zR (gq_exv (rv_o (t := 4) xA (.head _) rfl rb_20) ?_))))
 intro w_21 hvw_21 rr_22
 refine xM (fun E S => yL rfl hvw_21 E S) ?_
 exact rr_22
theorem o_r6_value {w0 : World} {h0 : Mem}  (hs : MLe h0 (mem w0)) {m l k : Nat} {vs : Value} {s : ((T3 Rat) × Rat)} (rs : (rpP (rpT (rpQ m)) (rpQ l)).Is h0 vs s) {vp : Value} {p : (T3 Rat)} (rp : (rpT (rpQ k)).Is h0 vp p) (hcd0 : k ≤ 100000000) (hcd1 : l ≤ 100000000) (hcd2 : m ≤ 100000000)  :
    Calls Tryz.prog 87 #[vs, vp] w0 (Ret w0 h0 (fun h r => (rpQ (3 * k + l + 3 * m + 12)).Is h r (hgt s p))) := by
 refine zO (n := 12) (e := [(0, vs), (1, vp)]) (vs := [vs, vp]) func87 rfl rfl (bL rfl) hs e2z (zC (zA (zJ (yU (ρ := (rpP (rpT (rpQ m)) (rpQ l))) rfl rs) rfl rfl rfl ?_)))
 intro v2 q2 hq2
 obtain ⟨b2, cs2, rfl, rfl, rb2⟩ := hq2
 refine zJ (yU (ρ := (rpT (rpQ k))) rfl rp) rfl rfl rfl ?_
 intro v3 q3 hq3
 obtain ⟨b3, cs3, rfl, rfl, rb3⟩ := hq3
 refine zJ (yQ (ρ := (rpQ (3 * k + l + 3 * m + 12))) (X := (0 : Rat)) info30 rfl rfl (xS (by omega))) rfl rfl rfl ?_
 intro v4 q4 hq4
 obtain ⟨b4, cs4, rfl, rfl, rb4⟩ := hq4
 refine zD (zB (zC ?_))
 refine yG 7 _ [] [(0, .q), (1, .q), (2, .q), (4, .q), (5, .q), (3, .c), (6, .c), (7, .t)] xG nX (by kernel_rfl) nX (fun r hr => hr) (w_q rfl (fun h' L' hh hR => (zI underlying34 rfl sizeOf32 rfl).cv (show _ = vP b2 0 from congrArg (vP b2) (by rfl))) rfl (yO (F := fun v_ => (rpT (rpQ m)).Is h0 v_ s.1) rfl (zE xF (Pc.fst (Pc.here _)) rfl rfl rb2 rfl) (yD (.tail _ (.tail _ (.head _)))) rfl ?_))
 intro v6 r6
 refine yO (F := fun v_ => (rpT (rpQ k)).Is h0 v_ p) rfl (zE xF (Pc.here _) rfl rfl rb3 rfl) (yD (.tail _ (.head _))) rfl ?_
 intro v7 r7
 refine w_q rfl (fun h' L' hh hR => (zI underlying34 rfl sizeOf30 rfl).cv (show _ = vP b2 9 from congrArg (vP b2) (by rfl))) rfl (yO (F := fun v_ => (rpQ l).Is h0 v_ s.2) rfl (zE xA (Pc.snd (Pc.here _)) rfl rfl rb2 rfl) (yD (.tail _ (.tail _ (.head _)))) rfl ?_)
 intro v10 r10
 refine w_c rfl ?_
 refine zY (vs := [_, _]) call57 e2z (fun w hs => o_r4_dot hs r6 r7 (by omega)) rfl ?_
 intro v8 h1 hh1 r8
 change (rpQ (3 * m + 3 * k + 9)).Is h1 v8 (dotT s.1 p) at r8
 replace r8 := Rp.Is.le r8 (Le.q (l := 3 * k + 3 * m + 9) (by omega))
 refine w_c rfl ?_
 replace r10 := r10.mono hh1
 refine zY (vs := [_, _]) call56 e2z (fun w hs => o_rref_sub hs r8 r10 (by omega)) rfl ?_
 intro v11 h2 hh2 r11
 change (rpQ ((3 * k + 3 * m + 9) + l + 1)).Is h2 v11 ((dotT s.1 p) - s.2) at r11
 replace r11 := Rp.Is.le r11 (Le.q (l := 3 * k + l + 3 * m + 10) (by omega))
 replace rb4 := rb4.mono (hh1.trans hh2)
 refine yV (A := []) (F := fun c_ => (rpQ (3 * k + l + 3 * m + 12)).R h2 c_ ((dotT s.1 p) - s.2)) rfl (zX sizeOf30 (Pc.here _) rfl rfl rfl rb4 (r11.le (Le.q (l := 3 * k + l + 3 * m + 12) (by omega))) rfl) ?_
 intro cs_23 rb_24
 refine yZ (zK (e' := [(4, _)]) ⟨rfl, trivial⟩ (zB (zR (gq_exv (rv_o (t := 4) xA (.head _) rfl rb_24) ?_))))
 intro w_25 hvw_25 rr_26
 refine xM (fun E S => yL rfl hvw_25 E S) ?_
 exact rr_26
theorem o_cx_common {w0 : World} {h0 : Mem}  (hs : MLe h0 (mem w0)) {m l k : Nat} {vs : Value} {s : ((T3 Rat) × Rat)} (rs : (rpP (rpT (rpQ m)) (rpQ l)).Is h0 vs s) {vp : Value} {p : (T3 Rat)} (rp : (rpT (rpQ k)).Is h0 vp p) {vq : Value} {q : (T3 Rat)} (rq : (rpT (rpQ k)).Is h0 vq q) (hcd0 : k ≤ 60000000) (hcd1 : l ≤ 1000000) (hcd2 : m ≤ 1000000)  :
    Calls Tryz.prog 84 #[vs, vp, vq] w0 (Ret w0 h0 (fun h r => (rpT (rpQ (12 * k + 3 * l + 9 * m + 50))).Is h r (btw s p q))) := by
 refine zO (n := 32) (e := [(0, vs), (1, vp), (2, vq)]) (vs := [vs, vp, vq]) func84 rfl rfl (bL rfl) hs e3z (zC (zA (zJ (yU (ρ := (rpP (rpT (rpQ m)) (rpQ l))) rfl rs) rfl rfl rfl ?_)))
 intro v3 q3 hq3
 obtain ⟨b3, cs3, rfl, rfl, rb3⟩ := hq3
 refine zJ (yU (ρ := (rpT (rpQ k))) rfl rp) rfl rfl rfl ?_
 intro v4 q4 hq4
 obtain ⟨b4, cs4, rfl, rfl, rb4⟩ := hq4
 refine zJ (yU (ρ := (rpT (rpQ k))) rfl rq) rfl rfl rfl ?_
 intro v5 q5 hq5
 obtain ⟨b5, cs5, rfl, rfl, rb5⟩ := hq5
 refine zJ (yQ (ρ := (rpT (rpQ (12 * k + 3 * l + 9 * m + 50)))) (X := (T3.mk (0 : Rat) 0 0)) yI rfl rfl (zr_t (xS (by omega)))) rfl rfl rfl ?_
 intro v6 q6 hq6
 obtain ⟨b6, cs6, rfl, rfl, rb6⟩ := hq6
 refine zD (zB (zC ?_))
 refine yG 8 _ [(6, (7, 30, [.bool false, .slice none 0 0, .slice none 0 0])), (7, (8, 30, [.bool false, .slice none 0 0, .slice none 0 0]))] [(0, .q), (1, .q), (3, .q), (4, .q), (2, .c), (5, .c), (6, .a), (7, .a), (8, .t), (9, .t)] xG (AlOk.cons rfl rfl (zero_run info30 rfl rfl) (AlOk.cons rfl rfl (zero_run info30 rfl rfl) AlOk.nil)) (by kernel_rfl) (hae_cons rfl rfl (hae_cons rfl rfl hae_nil)) (fun r hr => hr) (yO (F := fun v_ => (rpP (rpT (rpQ m)) (rpQ l)).Is h0 v_ s) rfl (zE ty34 (Pc.here _) rfl rfl rb3 rfl) (yD (.tail _ (.tail _ (.tail _ (.head _))))) rfl ?_)
 intro v11 r11
 refine yO (F := fun v_ => (rpT (rpQ k)).Is h0 v_ p) rfl (zE xF (Pc.here _) rfl rfl rb4 rfl) (yD (.tail _ (.tail _ (.head _)))) rfl ?_
 intro v12 r12
 refine yO (F := fun v_ => (rpP (rpT (rpQ m)) (rpQ l)).Is h0 v_ s) rfl (zE ty34 (Pc.here _) rfl rfl rb3 rfl) (yD (.tail _ (.tail _ (.tail _ (.head _))))) rfl ?_
 intro v14 r14
 refine yO (F := fun v_ => (rpT (rpQ k)).Is h0 v_ q) rfl (zE xF (Pc.here _) rfl rfl rb5 rfl) (yD (.tail _ (.head _))) rfl ?_
 intro v15 r15
 refine w_c rfl ?_
 refine zY (vs := [_, _]) call117 e2z (fun w hs => o_cx_height hs r11 r12 (by omega) (by omega) (by omega)) rfl ?_
 intro v13 h1 hh1 r13
 change (rpQ (3 * k + l + 3 * m + 12)).Is h1 v13 (hgt s p) at r13
 refine w_c rfl ?_
 replace r14 := r14.mono hh1
 replace r15 := r15.mono hh1
 refine zY (vs := [_, _]) call117 e2z (fun w hs => o_cx_height hs r14 r15 (by omega) (by omega) (by omega)) rfl ?_
 intro v16 h2 hh2 r16
 change (rpQ (3 * k + l + 3 * m + 12)).Is h2 v16 (hgt s q) at r16
 refine w_a rfl rfl (fun b7 => ?_)
 have rb7 : (rpQ (3 * k + l + 3 * m + 12)).R h2 [.bool false, .slice none 0 0, .slice none 0 0] (0 : Rat) := (xS (by omega))
 refine w_a rfl rfl (fun b8 => ?_)
 have rb8 : (rpQ (3 * k + l + 3 * m + 12)).R h2 [.bool false, .slice none 0 0, .slice none 0 0] (0 : Rat) := (xS (by omega))
 replace r13 := r13.mono hh2
 refine yV (A := [_]) (F := fun c_ => (rpQ (3 * k + l + 3 * m + 12)).R h2 c_ (hgt s p)) rfl (zX sizeOf30 (Pc.here _) rfl rfl rfl rb7 r13 rfl) ?_
 intro cs_27 rb_28
 refine yV (A := []) (F := fun c_ => (rpQ (3 * k + l + 3 * m + 12)).R h2 c_ (hgt s q)) rfl (zX sizeOf30 (Pc.here _) rfl rfl rfl rb8 r16 rfl) ?_
 intro cs_29 rb_30
 refine yZ (zK (e' := [(4, _), (5, _), (6, _), (7, _), (8, _)]) e5 (zB (zC ?_)))
 refine yG 11 _ [(8, (9, 30, [.bool false, .slice none 0 0, .slice none 0 0]))] [(0, .q), (1, .q), (2, .q), (3, .c), (4, .c), (5, .q), (6, .q), (7, .q), (8, .a), (9, .c), (10, .q)] xG (AlOk.cons rfl rfl (zero_run info30 rfl rfl) AlOk.nil) (by kernel_rfl) (hae_cons rfl rfl hae_nil) (fun r hr => hr) (yO (F := fun v_ => (rpQ (3 * k + l + 3 * m + 12)).Is h2 v_ (hgt s p)) rfl (zE xA (Pc.here _) rfl rfl rb_28 rfl) (yD (.tail _ (.head _))) rfl ?_)
 intro v18 r18
 refine yO (F := fun v_ => (rpQ (3 * k + l + 3 * m + 12)).Is h2 v_ (hgt s p)) rfl (zE xA (Pc.here _) rfl rfl rb_28 rfl) (yD (.tail _ (.head _))) rfl ?_
 intro v19 r19
 refine yO (F := fun v_ => (rpQ (3 * k + l + 3 * m + 12)).Is h2 v_ (hgt s q)) rfl (zE xA (Pc.here _) rfl rfl rb_30 rfl) (yD (.head _)) rfl ?_
 intro v20 r20
 refine w_c rfl ?_
 refine zY (vs := [_, _]) call70 e2z (fun w hs => o_rat_sub hs r19 r20 (by omega)) rfl ?_
 intro v21 h3 hh3 r21
 change (rpQ ((3 * k + l + 3 * m + 12) + (3 * k + l + 3 * m + 12) + 1)).Is h3 v21 ((hgt s p) - (hgt s q)) at r21
 replace r21 := Rp.Is.le r21 (Le.q (l := 6 * k + 2 * l + 6 * m + 25) (by omega))
 refine w_c rfl ?_
 replace r18 := r18.mono hh3
 refine zY (vs := [_, _]) call110 e2z (fun w hs => o_rat_quo hs r18 r21 (by omega)) rfl ?_
 intro v22 h4 hh4 r22
 obtain ⟨v22_0, rfl, r22_0⟩ := r22
 change (rpQ ((3 * k + l + 3 * m + 12) + (6 * k + 2 * l + 6 * m + 25))).Is h4 v22_0 (if ((hgt s p) - (hgt s q)) = 0 then 0 else (hgt s p) / ((hgt s p) - (hgt s q))) at r22_0
 replace r22_0 := Rp.Is.le r22_0 (Le.q (l := 9 * k + 3 * l + 9 * m + 37) (by omega))
 refine w_q rfl (fun h' L' hh hR => zH rfl) rfl (w_q rfl (fun h' L' hh hR => zN (vs := [_, _]) rfl rfl) rfl (w_q rfl (fun h' L' hh hR => zN (vs := [_, _]) rfl rfl) rfl ?_))
 refine w_a rfl rfl (fun b9 => ?_)
 have rb9 : (rpQ (9 * k + 3 * l + 9 * m + 40)).R h4 [.bool false, .slice none 0 0, .slice none 0 0] (0 : Rat) := (xS (by omega))
 refine w_c rfl (s_updx (A := []) (F := fun c_ => (rpQ (9 * k + 3 * l + 9 * m + 40)).R h4 c_ (if ((hgt s p) - (hgt s q)) = 0 then 0 else (hgt s p) / ((hgt s p) - (hgt s q)))) (zX sizeOf30 (Pc.here _) rfl rfl rfl rb9 (r22_0.le (Le.q (l := 9 * k + 3 * l + 9 * m + 40) (by omega))) rfl) (mem_kept (by first | (simp; done) | grind)) ?_)
 intro cs_31 rb_32
 refine w_q rfl (fun h' L' hh hR => yK rfl) rfl (yZ (zK (e' := [(4, _), (5, _), (6, _), (9, _)]) e4z (zB (zC ?_))))
 refine yG 7 _ [] [(0, .q), (1, .q), (2, .q), (3, .q), (4, .c), (5, .c), (6, .c), (7, .t)] xG nX (by kernel_rfl) nX (fun r hr => hr) ?_
 replace rb4 := rb4.mono (((hh1.trans hh2).trans hh3).trans hh4)
 refine yO (F := fun v_ => (rpT (rpQ k)).Is h4 v_ p) rfl (zE xF (Pc.here _) rfl rfl rb4 rfl) (yD (.tail _ (.tail _ (.tail _ (.tail _ (.tail _ (.head _))))))) rfl ?_
 intro v25 r25
 refine yO (F := fun v_ => (rpQ (9 * k + 3 * l + 9 * m + 40)).Is h4 v_ (if ((hgt s p) - (hgt s q)) = 0 then 0 else (hgt s p) / ((hgt s p) - (hgt s q)))) rfl (zE xA (Pc.here _) rfl rfl rb_32 rfl) (yD (.head _)) rfl ?_
 intro v26 r26
 replace rb5 := rb5.mono (((hh1.trans hh2).trans hh3).trans hh4)
 refine yO (F := fun v_ => (rpT (rpQ k)).Is h4 v_ q) rfl (zE xF (Pc.here _) rfl rfl rb5 rfl) (yD (.tail _ (.tail _ (.tail _ (.tail _ (.head _)))))) rfl ?_
 intro v27 r27
 refine yO (F := fun v_ => (rpT (rpQ k)).Is h4 v_ p) rfl (zE xF (Pc.here _) rfl rfl rb4 rfl) (yD (.tail _ (.tail _ (.tail _ (.tail _ (.tail _ (.head _))))))) rfl ?_
 intro v28 r28
 refine w_c rfl ?_
 refine zY (vs := [_, _]) call78 e2z (fun w hs => o_v_sub hs r27 r28 (by omega)) rfl ?_
 intro v29 h5 hh5 r29
 change (rpT (rpQ (k + k + 2))).Is h5 v29 (T3.mk (q.x - p.x) (q.y - p.y) (q.z - p.z)) at r29
 replace r29 := Rp.Is.le r29 (Le.t (Le.q (l := 2 * k + 2) (by omega)))
 refine w_c rfl ?_
 replace r26 := r26.mono hh5
 refine zY (vs := [_, _]) call82 e2z (fun w hs => o_v_scale hs r26 r29 (by omega)) rfl ?_
 intro v30 h6 hh6 r30
 change (rpT (rpQ ((2 * k + 2) + (9 * k + 3 * l + 9 * m + 40) + 2))).Is h6 v30 (T3.mk ((if ((hgt s p) - (hgt s q)) = 0 then 0 else (hgt s p) / ((hgt s p) - (hgt s q))) * (q.x - p.x)) ((if ((hgt s p) - (hgt s q)) = 0 then 0 else (hgt s p) / ((hgt s p) - (hgt s q))) * (q.y - p.y)) ((if ((hgt s p) - (hgt s q)) = 0 then 0 else (hgt s p) / ((hgt s p) - (hgt s q))) * (q.z - p.z))) at r30
 replace r30 := Rp.Is.le r30 (Le.t (Le.q (l := 11 * k + 3 * l + 9 * m + 44) (by omega)))
 refine w_c rfl ?_
 replace r25 := r25.mono (hh5.trans hh6)
 refine zY (vs := [_, _]) call80 e2z (fun w hs => o_v_add hs r25 r30 (by omega)) rfl ?_
 intro v31 h7 hh7 r31
 change (rpT (rpQ (k + (11 * k + 3 * l + 9 * m + 44) + 2))).Is h7 v31 (T3.mk (p.x + ((if ((hgt s p) - (hgt s q)) = 0 then 0 else (hgt s p) / ((hgt s p) - (hgt s q))) * (q.x - p.x))) (p.y + ((if ((hgt s p) - (hgt s q)) = 0 then 0 else (hgt s p) / ((hgt s p) - (hgt s q))) * (q.y - p.y))) (p.z + ((if ((hgt s p) - (hgt s q)) = 0 then 0 else (hgt s p) / ((hgt s p) - (hgt s q))) * (q.z - p.z)))) at r31
 replace r31 := Rp.Is.le r31 (Le.t (Le.q (l := 12 * k + 3 * l + 9 * m + 46) (by omega)))
 replace rb6 := rb6.mono ((((((hh1.trans hh2).trans hh3).trans hh4).trans hh5).trans hh6).trans hh7)
 refine yV (A := [_, _, _]) (F := fun c_ => (rpT (rpQ (12 * k + 3 * l + 9 * m + 50))).R h7 c_ (T3.mk (p.x + ((if ((hgt s p) - (hgt s q)) = 0 then 0 else (hgt s p) / ((hgt s p) - (hgt s q))) * (q.x - p.x))) (p.y + ((if ((hgt s p) - (hgt s q)) = 0 then 0 else (hgt s p) / ((hgt s p) - (hgt s q))) * (q.y - p.y))) (p.z + ((if ((hgt s p) - (hgt s q)) = 0 then 0 else (hgt s p) / ((hgt s p) - (hgt s q))) * (q.z - p.z))))) rfl (zX sizeOf32 (Pc.here _) rfl rfl rfl rb6 (r31.le (Le.t (Le.q (l := 12 * k + 3 * l + 9 * m + 50) (by omega)))) rfl) ?_
 intro cs_33 rb_34
 refine yZ (zK (e' := [(6, _)]) ⟨rfl, trivial⟩ (zB (zR (gq_exv (rv_o (t := 6) xF (.tail _ (.tail _ (.tail _ (.head _)))) rfl rb_34) ?_))))
 intro w_35 hvw_35 rr_36
 refine xM (fun E S => yL rfl hvw_35 E S) ?_
 exact rr_36
theorem o_r6_between {w0 : World} {h0 : Mem}  (hs : MLe h0 (mem w0)) {k m l : Nat} {vp : Value} {p : (T3 Rat)} (rp : (rpT (rpQ k)).Is h0 vp p) {vq : Value} {q : (T3 Rat)} (rq : (rpT (rpQ k)).Is h0 vq q) {vs : Value} {s : ((T3 Rat) × Rat)} (rs : (rpP (rpT (rpQ m)) (rpQ l)).Is h0 vs s) (hcd0 : k ≤ 60000000) (hcd1 : l ≤ 1000000) (hcd2 : m ≤ 1000000)  :
    Calls Tryz.prog 49 #[vp, vq, vs] w0 (Ret w0 h0 (fun h r => (rpT (rpQ (12 * k + 3 * l + 9 * m + 50))).Is h r (btw s p q))) := by
 refine zO (n := 32) (e := [(0, vp), (1, vq), (2, vs)]) (vs := [vp, vq, vs]) func49 rfl rfl (bL rfl) hs e3z (zC (zA (zJ (yU (ρ := (rpT (rpQ k))) rfl rp) rfl rfl rfl ?_)))
 intro v3 q3 hq3
 obtain ⟨b3, cs3, rfl, rfl, rb3⟩ := hq3
 refine zJ (yU (ρ := (rpT (rpQ k))) rfl rq) rfl rfl rfl ?_
 intro v4 q4 hq4
 obtain ⟨b4, cs4, rfl, rfl, rb4⟩ := hq4
 refine zJ (yU (ρ := (rpP (rpT (rpQ m)) (rpQ l))) rfl rs) rfl rfl rfl ?_
 intro v5 q5 hq5
 obtain ⟨b5, cs5, rfl, rfl, rb5⟩ := hq5
 refine zJ (yQ (ρ := (rpT (rpQ (12 * k + 3 * l + 9 * m + 50)))) (X := (T3.mk (0 : Rat) 0 0)) yI rfl rfl (zr_t (xS (by omega)))) rfl rfl rfl ?_
 intro v6 q6 hq6
 obtain ⟨b6, cs6, rfl, rfl, rb6⟩ := hq6
 refine zD (zB (zC ?_))
 refine yG 8 _ [(6, (7, 30, [.bool false, .slice none 0 0, .slice none 0 0])), (7, (8, 30, [.bool false, .slice none 0 0, .slice none 0 0]))] [(0, .q), (1, .q), (3, .q), (4, .q), (2, .c), (5, .c), (6, .a), (7, .a), (8, .t), (9, .t)] xG (AlOk.cons rfl rfl (zero_run info30 rfl rfl) (AlOk.cons rfl rfl (zero_run info30 rfl rfl) AlOk.nil)) (by kernel_rfl) (hae_cons rfl rfl (hae_cons rfl rfl hae_nil)) (fun r hr => hr) (yO (F := fun v_ => (rpP (rpT (rpQ m)) (rpQ l)).Is h0 v_ s) rfl (zE ty34 (Pc.here _) rfl rfl rb5 rfl) (yD (.tail _ (.head _))) rfl ?_)
 intro v11 r11
 refine yO (F := fun v_ => (rpT (rpQ k)).Is h0 v_ p) rfl (zE xF (Pc.here _) rfl rfl rb3 rfl) (yD (.tail _ (.tail _ (.tail _ (.head _))))) rfl ?_
 intro v12 r12
 refine yO (F := fun v_ => (rpP (rpT (rpQ m)) (rpQ l)).Is h0 v_ s) rfl (zE ty34 (Pc.here _) rfl rfl rb5 rfl) (yD (.tail _ (.head _))) rfl ?_
 intro v14 r14
 refine yO (F := fun v_ => (rpT (rpQ k)).Is h0 v_ q) rfl (zE xF (Pc.here _) rfl rfl rb4 rfl) (yD (.tail _ (.tail _ (.head _)))) rfl ?_
 intro v15 r15
 refine w_c rfl ?_
 refine zY (vs := [_, _]) call87 e2z (fun w hs => o_r6_value hs r11 r12 (by omega) (by omega) (by omega)) rfl ?_
 intro v13 h1 hh1 r13
 change (rpQ (3 * k + l + 3 * m + 12)).Is h1 v13 (hgt s p) at r13
 refine w_c rfl ?_
 replace r14 := r14.mono hh1
 replace r15 := r15.mono hh1
 refine zY (vs := [_, _]) call87 e2z (fun w hs => o_r6_value hs r14 r15 (by omega) (by omega) (by omega)) rfl ?_
 intro v16 h2 hh2 r16
 change (rpQ (3 * k + l + 3 * m + 12)).Is h2 v16 (hgt s q) at r16
 refine w_a rfl rfl (fun b7 => ?_)
 have rb7 : (rpQ (3 * k + l + 3 * m + 12)).R h2 [.bool false, .slice none 0 0, .slice none 0 0] (0 : Rat) := (xS (by omega))
 refine w_a rfl rfl (fun b8 => ?_)
 have rb8 : (rpQ (3 * k + l + 3 * m + 12)).R h2 [.bool false, .slice none 0 0, .slice none 0 0] (0 : Rat) := (xS (by omega))
 replace r13 := r13.mono hh2
 refine yV (A := [_]) (F := fun c_ => (rpQ (3 * k + l + 3 * m + 12)).R h2 c_ (hgt s p)) rfl (zX sizeOf30 (Pc.here _) rfl rfl rfl rb7 r13 rfl) ?_
 intro cs_37 rb_38
 refine yV (A := []) (F := fun c_ => (rpQ (3 * k + l + 3 * m + 12)).R h2 c_ (hgt s q)) rfl (zX sizeOf30 (Pc.here _) rfl rfl rfl rb8 r16 rfl) ?_
 intro cs_39 rb_40
 refine yZ (zK (e' := [(3, _), (4, _), (6, _), (7, _), (8, _)]) e5 (zB (zC ?_)))
 refine yG 11 _ [(8, (9, 30, [.bool false, .slice none 0 0, .slice none 0 0]))] [(0, .q), (1, .q), (2, .q), (3, .c), (4, .c), (5, .q), (6, .q), (7, .q), (8, .a), (9, .c), (10, .q)] xG (AlOk.cons rfl rfl (zero_run info30 rfl rfl) AlOk.nil) (by kernel_rfl) (hae_cons rfl rfl hae_nil) (fun r hr => hr) (yO (F := fun v_ => (rpQ (3 * k + l + 3 * m + 12)).Is h2 v_ (hgt s p)) rfl (zE xA (Pc.here _) rfl rfl rb_38 rfl) (yD (.tail _ (.head _))) rfl ?_)
 intro v18 r18
 refine yO (F := fun v_ => (rpQ (3 * k + l + 3 * m + 12)).Is h2 v_ (hgt s p)) rfl (zE xA (Pc.here _) rfl rfl rb_38 rfl) (yD (.tail _ (.head _))) rfl ?_
 intro v19 r19
 refine yO (F := fun v_ => (rpQ (3 * k + l + 3 * m + 12)).Is h2 v_ (hgt s q)) rfl (zE xA (Pc.here _) rfl rfl rb_40 rfl) (yD (.head _)) rfl ?_
 intro v20 r20
 refine w_c rfl ?_
 refine zY (vs := [_, _]) call56 e2z (fun w hs => o_rref_sub hs r19 r20 (by omega)) rfl ?_
 intro v21 h3 hh3 r21
 change (rpQ ((3 * k + l + 3 * m + 12) + (3 * k + l + 3 * m + 12) + 1)).Is h3 v21 ((hgt s p) - (hgt s q)) at r21
 replace r21 := Rp.Is.le r21 (Le.q (l := 6 * k + 2 * l + 6 * m + 25) (by omega))
 refine w_c rfl ?_
 replace r18 := r18.mono hh3
 refine zY (vs := [_, _]) call88 e2z (fun w hs => o_rref_quo hs r18 r21 (by omega)) rfl ?_
 intro v22 h4 hh4 r22
 obtain ⟨v22_0, rfl, r22_0⟩ := r22
 change (rpQ ((3 * k + l + 3 * m + 12) + (6 * k + 2 * l + 6 * m + 25))).Is h4 v22_0 (if ((hgt s p) - (hgt s q)) = 0 then 0 else (hgt s p) / ((hgt s p) - (hgt s q))) at r22_0
 replace r22_0 := Rp.Is.le r22_0 (Le.q (l := 9 * k + 3 * l + 9 * m + 37) (by omega))
 refine w_q rfl (fun h' L' hh hR => zH rfl) rfl (w_q rfl (fun h' L' hh hR => zN (vs := [_, _]) rfl rfl) rfl (w_q rfl (fun h' L' hh hR => zN (vs := [_, _]) rfl rfl) rfl ?_))
 refine w_a rfl rfl (fun b9 => ?_)
 have rb9 : (rpQ (9 * k + 3 * l + 9 * m + 40)).R h4 [.bool false, .slice none 0 0, .slice none 0 0] (0 : Rat) := (xS (by omega))
 refine w_c rfl (s_updx (A := []) (F := fun c_ => (rpQ (9 * k + 3 * l + 9 * m + 40)).R h4 c_ (if ((hgt s p) - (hgt s q)) = 0 then 0 else (hgt s p) / ((hgt s p) - (hgt s q)))) (zX sizeOf30 (Pc.here _) rfl rfl rfl rb9 (r22_0.le (Le.q (l := 9 * k + 3 * l + 9 * m + 40) (by omega))) rfl) (mem_kept (by first | (simp; done) | grind)) ?_)
 intro cs_41 rb_42
 refine w_q rfl (fun h' L' hh hR => yK rfl) rfl (yZ (zK (e' := [(3, _), (4, _), (6, _), (9, _)]) e4z (zB (zC ?_))))
 refine yG 7 _ [] [(0, .q), (1, .q), (2, .q), (3, .q), (4, .c), (5, .c), (6, .c), (7, .t)] xG nX (by kernel_rfl) nX (fun r hr => hr) ?_
 replace rb3 := rb3.mono (((hh1.trans hh2).trans hh3).trans hh4)
 refine yO (F := fun v_ => (rpT (rpQ k)).Is h4 v_ p) rfl (zE xF (Pc.here _) rfl rfl rb3 rfl) (yD (.tail _ (.tail _ (.tail _ (.tail _ (.tail _ (.tail _ (.head _)))))))) rfl ?_
 intro v25 r25
 refine yO (F := fun v_ => (rpQ (9 * k + 3 * l + 9 * m + 40)).Is h4 v_ (if ((hgt s p) - (hgt s q)) = 0 then 0 else (hgt s p) / ((hgt s p) - (hgt s q)))) rfl (zE xA (Pc.here _) rfl rfl rb_42 rfl) (yD (.head _)) rfl ?_
 intro v26 r26
 replace rb4 := rb4.mono (((hh1.trans hh2).trans hh3).trans hh4)
 refine yO (F := fun v_ => (rpT (rpQ k)).Is h4 v_ q) rfl (zE xF (Pc.here _) rfl rfl rb4 rfl) (yD (.tail _ (.tail _ (.tail _ (.tail _ (.tail _ (.head _))))))) rfl ?_
 intro v27 r27
 refine yO (F := fun v_ => (rpT (rpQ k)).Is h4 v_ p) rfl (zE xF (Pc.here _) rfl rfl rb3 rfl) (yD (.tail _ (.tail _ (.tail _ (.tail _ (.tail _ (.tail _ (.head _)))))))) rfl ?_
 intro v28 r28
 refine w_c rfl ?_
 refine zY (vs := [_, _]) call23 e2z (fun w hs => o_s4_sub hs r27 r28 (by omega)) rfl ?_
 intro v29 h5 hh5 r29
 change (rpT (rpQ (k + k + 1))).Is h5 v29 (T3.mk (q.x - p.x) (q.y - p.y) (q.z - p.z)) at r29
 replace r29 := Rp.Is.le r29 (Le.t (Le.q (l := 2 * k + 1) (by omega)))
 refine w_c rfl ?_
 replace r26 := r26.mono hh5
 refine zY (vs := [_, _]) call20 e2z (fun w hs => o_s4_scale hs r26 r29 (by omega)) rfl ?_
 intro v30 h6 hh6 r30
 change (rpT (rpQ ((2 * k + 1) + (9 * k + 3 * l + 9 * m + 40)))).Is h6 v30 (T3.mk ((if ((hgt s p) - (hgt s q)) = 0 then 0 else (hgt s p) / ((hgt s p) - (hgt s q))) * (q.x - p.x)) ((if ((hgt s p) - (hgt s q)) = 0 then 0 else (hgt s p) / ((hgt s p) - (hgt s q))) * (q.y - p.y)) ((if ((hgt s p) - (hgt s q)) = 0 then 0 else (hgt s p) / ((hgt s p) - (hgt s q))) * (q.z - p.z))) at r30
 replace r30 := Rp.Is.le r30 (Le.t (Le.q (l := 11 * k + 3 * l + 9 * m + 41) (by omega)))
 refine w_c rfl ?_
 replace r25 := r25.mono (hh5.trans hh6)
 refine zY (vs := [_, _]) call19 e2z (fun w hs => o_s4_add hs r25 r30 (by omega)) rfl ?_
 intro v31 h7 hh7 r31
 change (rpT (rpQ (k + (11 * k + 3 * l + 9 * m + 41) + 1))).Is h7 v31 (T3.mk (p.x + ((if ((hgt s p) - (hgt s q)) = 0 then 0 else (hgt s p) / ((hgt s p) - (hgt s q))) * (q.x - p.x))) (p.y + ((if ((hgt s p) - (hgt s q)) = 0 then 0 else (hgt s p) / ((hgt s p) - (hgt s q))) * (q.y - p.y))) (p.z + ((if ((hgt s p) - (hgt s q)) = 0 then 0 else (hgt s p) / ((hgt s p) - (hgt s q))) * (q.z - p.z)))) at r31
 replace r31 := Rp.Is.le r31 (Le.t (Le.q (l := 12 * k + 3 * l + 9 * m + 42) (by omega)))
 replace rb6 := rb6.mono ((((((hh1.trans hh2).trans hh3).trans hh4).trans hh5).trans hh6).trans hh7)
 refine yV (A := [_, _, _]) (F := fun c_ => (rpT (rpQ (12 * k + 3 * l + 9 * m + 50))).R h7 c_ (T3.mk (p.x + ((if ((hgt s p) - (hgt s q)) = 0 then 0 else (hgt s p) / ((hgt s p) - (hgt s q))) * (q.x - p.x))) (p.y + ((if ((hgt s p) - (hgt s q)) = 0 then 0 else (hgt s p) / ((hgt s p) - (hgt s q))) * (q.y - p.y))) (p.z + ((if ((hgt s p) - (hgt s q)) = 0 then 0 else (hgt s p) / ((hgt s p) - (hgt s q))) * (q.z - p.z))))) rfl (zX sizeOf32 (Pc.here _) rfl rfl rfl rb6 (r31.le (Le.t (Le.q (l := 12 * k + 3 * l + 9 * m + 50) (by omega)))) rfl) ?_
 intro cs_43 rb_44
 refine yZ (zK (e' := [(6, _)]) ⟨rfl, trivial⟩ (zB (zR (gq_exv (rv_o (t := 6) xF (.tail _ (.tail _ (.tail _ (.head _)))) rfl rb_44) ?_))))
 intro w_45 hvw_45 rr_46
 refine xM (fun E S => yL rfl hvw_45 E S) ?_
 exact rr_46
end Go.Proofs.YtghhjjmjpeehdaaGreat
namespace Go.Proofs.YtghhjjmjpeehdaaGreat
open Bk Go Tryz
set_option linter.unusedVariables false
set_option linter.unusedSimpArgs false
set_option maxRecDepth 10000
set_option maxHeartbeats 1000000 in
theorem o_cx_halves {w0 : World} {h0 : Mem}  (hs : MLe h0 (mem w0)) {k n m : Nat} {vl : Value} {l : (List (T3 Rat))} (rl : (rpS (rpT (rpQ k))).Is h0 vl l) {vs : Value} {s : ((T3 Rat) × Rat)} (rs : (rpP (rpT (rpQ n)) (rpQ m)).Is h0 vs s) (hcd0 : k ≤ 50000000) (hcd1 : m ≤ 1000000) (hcd2 : n ≤ 1000000) (hcd3 : l.length ≤ 100000)  :
    Calls Tryz.prog 47 #[vl, vs] w0 (Ret w0 h0 (fun h r => ∃ u0 u1, r = .tuple #[u0, u1] ∧ (rpS (rpT (rpQ (12 * k + 3 * m + 9 * n + 62)))).Is h u0 (cutB s l) ∧ (rpS (rpT (rpQ (12 * k + 3 * m + 9 * n + 62)))).Is h u1 (cutF s l))) := by
 refine zO (n := 110) (e := [(0, vl), (1, vs)]) (vs := [vl, vs]) func47 rfl rfl (bL rfl) hs e2z (zC (zA (zJ (yU (ρ := (rpP (rpT (rpQ n)) (rpQ m))) rfl rs) rfl rfl rfl ?_)))
 intro v3 q3 hq3
 obtain ⟨b3, cs3, rfl, rfl, rb3⟩ := hq3
 refine asg rfl rfl (asg rfl rfl (zD (zB (zC (zA (mv rfl rfl (gv (ov_len_sr underlying27 rfl rl) rfl (zJ (new_makex (ρ := rpI) (X := (0 : Int)) (by' := 8) l.length underlying22 info3 rfl rfl rfl rfl zr_i rfl rfl (by rfl) (by rfl) (by omega) (by omega)) rfl rfl rfl ?_))))))))
 intro v17 q17 hq17
 obtain ⟨cs17, rfl, rl17⟩ := hq17
 refine asg rfl rfl (zD (zB (zC (zA (asg (v := vI (0)) rfl rfl (asg (v := vI (0)) rfl rfl (zD (zB (zC (zC (zA (mv rfl rfl (gv (ov_len_sr underlying27 rfl rl) rfl ?_)))))))))))))
 refine mv (v := vI (0)) rfl rfl (zD (zB (zQ ?_)))
 refine gc_loop (ι := Nat × List Int × Int × Int × Value × List Value × Mem) (fun (i, SD, lo, hi, s6_1, cs_2, ma) => MLe h0 ma ∧ (RL rpI ma cs_2 SD ∧ ((i ≤ l.length ∧ SD.length = l.length) ∧ ∀ u, u < i → SD.getD u (0 : Int) = sdZ s (gp l u)) ∧ ((lo < 0 ↔ behTo s l i) ∧ lo ≤ 0) ∧ ((0 < hi ↔ aheTo s l i) ∧ 0 ≤ hi) ∧ -1 ≤ lo ∧ hi ≤ 1)) (fun (i, SD, lo, hi, s6_1, cs_2, ma) => [(0, vl), (3, vP b3 0), (4, .slice none 0 0), (5, .slice none 0 0), (6, s6_1), (7, vI lo), (8, vI hi), (18, vl), (19, vI (↑(l).length : Int)), (20, vI ↑i)]) (fun (i, SD, lo, hi, s6_1, cs_2, ma) => [.gs 3 1 s6_1 SD.length cs_2, .var b3 34 cs3]) (fun (i, SD, lo, hi, s6_1, cs_2, ma) => ma) (fun (i, SD, lo, hi, s6_1, cs_2, ma) => l.length - i) (0, (List.replicate l.length (0 : Int)), (0 : Int), (0 : Int), v17, cs17, h0) ?_ ⟨rfl, rfl, rfl, rfl, rfl, rfl, rfl, rfl, rfl, rfl, trivial⟩ rfl rfl ?_
 ·
  refine ⟨MLe.refl _, ?_⟩
  refine ⟨rl17, ?_⟩
  exact ⟨⟨⟨by omega, List.length_replicate⟩, fun u h => by omega⟩, ⟨⟨fun h => by omega, fun h => h.elim⟩, by omega⟩, ⟨⟨fun h => by omega, fun h => h.elim⟩, by omega⟩, by omega, by omega⟩
 intro x hx
 obtain ⟨i, SD, lo, hi, s6_1, cs_2, ma⟩ := x
 obtain ⟨hmma, hinv⟩ := hx
 show GC _ _ _ _ _ _ [(0, vl), (3, vP b3 0), (4, .slice none 0 0), (5, .slice none 0 0), (6, s6_1), (7, vI lo), (8, vI hi), (18, vl), (19, vI (↑(l).length : Int)), (20, vI ↑i)] [.gs 3 1 s6_1 SD.length cs_2, .var b3 34 cs3] ma
 obtain ⟨rl_3, hinv⟩ := hinv
 obtain ⟨⟨⟨hi1, hi2⟩, hi3⟩, hlo, hhi, hl1, hh1⟩ := hinv
 have hr0 := sd_range s (gp l i)
 refine zC (zA (gv (zW rfl rfl) rfl (zD (zB (zC ?_)))))
 refine zP rfl (fun hc21 => ?_) (fun hc21 => ?_)
 ·
  refine zL (zB (zC (zQ (zC (zA (mv rfl rfl ?_))))))
  replace rl := rl.mono hmma
  refine xQ (F := fun v_ => AtP (rpT (rpQ k)) ma v_ (l.getD i (T3.mk (0 : Rat) 0 0))) (ox_idx_s (T3.mk (0 : Rat) 0 0) i underlying27 xF rfl rfl rl rfl (by omega) p9N) mem0 rfl ?_
  intro v23 r23
  refine xQ (F := fun v_ => (rpT (rpQ k)).Is ma v_ (l.getD i (T3.mk (0 : Rat) 0 0))) (ox_load_at xF rfl r23) mem0 rfl ?_
  intro v24 r24
  refine zJ (yQ (ρ := (rpT (rpQ (k + 1)))) (X := (T3.mk (0 : Rat) 0 0)) yI rfl rfl (zr_t (xS (by omega)))) rfl rfl rfl ?_
  intro v10 q10 hq10
  obtain ⟨b10, cs10, rfl, rfl, rb10⟩ := hq10
  refine asg rfl rfl (xO (A := []) (F := fun c_ => (rpT (rpQ (k + 1))).R ma c_ (l.getD i (T3.mk (0 : Rat) 0 0))) (zX sizeOf32 (Pc.here _) rfl rfl rfl rb10 (r24.le (Le.t (Le.q (l := k + 1) (by omega)))) rfl) ?_)
  intro cs_4 rb_5
  refine zD (zB (zC (zA (mv rfl rfl (mv rfl rfl ?_)))))
  replace rb3 := rb3.mono hmma
  refine xQ (F := fun v_ => (rpP (rpT (rpQ n)) (rpQ m)).Is ma v_ s) (zE ty34 (Pc.here _) rfl rfl rb3 rfl) (yD (.tail _ (.tail _ (.head _)))) rfl ?_
  intro v27 r27
  refine xQ (F := fun v_ => (rpT (rpQ (k + 1))).Is ma v_ (l.getD i (T3.mk (0 : Rat) 0 0))) (zE xF (Pc.here _) rfl rfl rb_5 rfl) (yD (.head _)) rfl ?_
  intro v28 r28
  refine zM (vs := [_, _]) rfl rfl rfl rfl call64 e2z (fun w hs => o_pl_side hs r27 r28 (by omega) (by omega) (by omega)) ?_
  intro v29 h1 hh1 r29
  obtain rfl : v29 = vI (sdZ s (l.getD i (T3.mk (0 : Rat) 0 0))) := r29
  have hsd29 := sd_range s (l.getD i (T3.mk (0 : Rat) 0 0))
  refine gv ((ov_index_os i (.tail _ (.head _)) underlying22 sizeOf3 rfl rfl rfl (by first | omega | (simp only [lAz, lC, lN, lR, lS]; omega)) p1N).cv (show _ = xL 1 s6_1 ((i * 1 + 0)) from congrArg (xL 1 s6_1) (by rfl))) rfl ?_
  replace rl_3 := rl_3.mono hh1
  refine gl_updos (A := [_]) (F := fun c_ => RL rpI h1 c_ (SD.set i (sdZ s (l.getD i (T3.mk (0 : Rat) 0 0))))) (upd_os sizeOf3 (Pc.arr (Pc.here _) (0 : Int) i (by first | omega | (simp only [lAz, lC, lN, lR, lS]; omega))) rfl p1N rfl rfl rl_3 (is_i (by omega) (by omega)) rfl) ?_
  intro cs_6 rl_7
  refine zD (zK (e' := [(0, _), (3, _), (4, _), (5, _), (6, _), (7, _), (8, _), (18, _), (19, _), (20, _), (9, _)]) e11 (zB ?_))
  refine yG 14 _ [] [(0, .q), (1, .q), (2, .q), (3, .q), (4, .q), (5, .q), (6, .q), (7, .q), (8, .q), (9, .q), (10, .q), (11, .q), (12, .q), (13, .q)] xG nX (chk_of [0, 0, 0, 6, 8, 17, 0, 0, 0, 384, 512, 1088, 63, 8191] [16383, 16383, 16383, 16377, 16375, 16366, 16383, 16383, 16383, 15999, 15871, 15295, 16350, 14271] (by kernel_rfl)) nX (fun r hr => hr) (w_q rfl (fun h' L' hh hR => zH rfl) rfl (w_q rfl (fun h' L' hh hR => zH rfl) rfl (w_q rfl (fun h' L' hh hR => zH rfl) rfl (w_q rfl (fun h' L' hh hR => (ov_index_os i (hR _ (.tail _ (.head _))) underlying22 sizeOf3 rfl rfl rfl (by first | omega | (simp only [lAz, lC, lN, lR, lS]; omega)) p1N).cv (show _ = xL 1 s6_1 ((i * 1 + 0)) from congrArg (xL 1 s6_1) (by rfl))) rfl (yO (F := fun v_ => rpI.Is h1 v_ ((SD.set i (sdZ s (l.getD i (T3.mk (0 : Rat) 0 0)))).getD i (0 : Int))) rfl (ox_load_os ty3 (Pc.arr (Pc.here _) (0 : Int) i (by first | omega | (simp only [lAz, lC, lN, lR, lS]; omega))) rfl p1N rfl rl_7 rfl) (yD (.tail _ (.head _))) rfl ?_)))))
  intro v35 r35
  obtain ⟨rfl, hl35, hu35⟩ := of_i r35
  refine w_q rfl (fun h' L' hh hR => ov_min_i rfl rfl) rfl (w_q rfl (fun h' L' hh hR => zH rfl) rfl (w_q rfl (fun h' L' hh hR => zH rfl) rfl (w_q rfl (fun h' L' hh hR => zH rfl) rfl (w_q rfl (fun h' L' hh hR => (ov_index_os i (hR _ (.tail _ (.head _))) underlying22 sizeOf3 rfl rfl rfl (by first | omega | (simp only [lAz, lC, lN, lR, lS]; omega)) p1N).cv (show _ = xL 1 s6_1 ((i * 1 + 0)) from congrArg (xL 1 s6_1) (by rfl))) rfl (yO (F := fun v_ => rpI.Is h1 v_ ((SD.set i (sdZ s (l.getD i (T3.mk (0 : Rat) 0 0)))).getD i (0 : Int))) rfl (ox_load_os ty3 (Pc.arr (Pc.here _) (0 : Int) i (by first | omega | (simp only [lAz, lC, lN, lR, lS]; omega))) rfl p1N rfl rl_7 rfl) (yD (.tail _ (.head _))) rfl ?_)))))
  intro v41 r41
  obtain ⟨rfl, hl41, hu41⟩ := of_i r41
  refine w_q rfl (fun h' L' hh hR => ov_max_i rfl rfl) rfl (w_q rfl (fun h' L' hh hR => yK rfl) rfl (w_q rfl (fun h' L' hh hR => yK rfl) rfl (yZ (yY (zK (e' := [(0, _), (3, _), (4, _), (5, _), (6, _), (18, _), (19, _), (20, _), (7, _), (8, _)]) ⟨rfl, rfl, rfl, rfl, rfl, rfl, rfl, rfl, rfl, rfl, trivial⟩ (zB (zA (gv (zS (q := 1) rfl rfl (by omega) (by omega)) rfl (mv rfl rfl (zD (gq_drop (A := []) ?_)))))))))))
  refine yW ((i + 1), (SD.set i (sdZ s (l.getD i (T3.mk (0 : Rat) 0 0)))), (min lo (sdZ s (gp l i))), (max hi (sdZ s (gp l i))), s6_1, cs_6, h1) ?_ ?_ ⟨rfl, rfl, rfl, rfl, rfl, ?_, ?_, rfl, rfl, rfl, trivial⟩ rfl rfl
  ·
   refine ⟨(hmma.trans hh1), ?_⟩
   refine ⟨rl_7, ?_⟩
   exact ⟨⟨⟨by omega, by rw [lS]; exact hi2⟩, set_next (f := fun u => sdZ s (gp l u)) (by omega) hi3 rfl⟩, mn_next hlo.1 hlo.2, mx_next hhi.1 hhi.2, by omega, by omega⟩
  ·
   dsimp only
   omega
  · exact congrArg (fun z => some (vI z)) (by rw [set_at (by omega)]; rfl)
  · exact congrArg (fun z => some (vI z)) (by rw [set_at (by omega)]; rfl)
 have ei : i = l.length := by omega
 have hS : ∀ u, u < l.length → SD.getD u (0 : Int) = sdZ s (gp l u) := fun u hu => hi3 u (by omega)
 rw [ei] at hlo hhi
 refine xK (yE (yE (xJ (zB (zC (zQ (zC (zA (mv rfl rfl (gv (ov_eql_i (q := 0) rfl rfl) rfl (asg rfl rfl (zD (zB ?_)))))))))))))
 refine zP rfl (fun hc44 => ?_) (fun hc44 => ?_)
 ·
  refine gc_keep (e' := [(0, _)]) ⟨rfl, trivial⟩ (zC (zA (mv rfl rfl (asg rfl rfl (asg rfl rfl (zD (zB (zR (gr_in (yA (gq_body2 rfl rfl rfl ?_)))))))))))
  replace rl := rl.mono hmma
  refine ⟨_, _, ?_, (Rp.Is.cast (Rp.Is.le rl (Le.s (Le.t (Le.q (l := 12 * k + 3 * m + 9 * n + 62) (by omega))))) (by exact (cutB_all (by rw [← hhi.1]; omega)).1.symm)), (Rp.Is.cast (is_nil _) (by exact (cutB_all (by rw [← hhi.1]; omega)).2.symm))⟩
  rfl
 refine zC (zA (mv rfl rfl (gv (ov_eql_i (q := 0) rfl rfl) rfl (asg rfl rfl (zD (zK (e' := [(0, _), (3, _), (4, _), (5, _), (6, _), (48, _)]) e6 (zB ?_)))))))
 refine zP rfl (fun hc48 => ?_) (fun hc48 => ?_)
 ·
  refine zC (zA (mv rfl rfl (asg rfl rfl (asg rfl rfl (zD (zB (zR (gr_in (yA (gq_body2 rfl rfl rfl ?_))))))))))
  replace rl := rl.mono hmma
  refine ⟨_, _, ?_, (Rp.Is.cast (is_nil _) (by exact (cutF_all (by rw [← hhi.1]; omega) (by rw [← hlo.1]; omega)).1.symm)), (Rp.Is.cast (Rp.Is.le rl (Le.s (Le.t (Le.q (l := 12 * k + 3 * m + 9 * n + 62) (by omega))))) (by exact (cutF_all (by rw [← hhi.1]; omega) (by rw [← hlo.1]; omega)).2.symm))⟩
  rfl
 refine zL (yY (zB (zC (zC (zA (mv rfl rfl ?_))))))
 replace rl := rl.mono hmma
 refine gv (ov_len_sr underlying27 rfl rl) rfl (mv (v := vI (0)) rfl rfl (zD (zB (zQ (gc_nilown 32 9 ?_)))))
 have rl_8 : RL (rpT (rpQ (12 * k + 3 * m + 9 * n + 62))) ma [] ([] : List (T3 Rat)) := RL.nil
 refine gc_nilown 32 9 ?_
 have rl_9 : RL (rpT (rpQ (12 * k + 3 * m + 9 * n + 62))) ma [] ([] : List (T3 Rat)) := RL.nil
 refine gc_loop (ι := Nat × List (T3 Rat) × List (T3 Rat) × Value × List Value × Value × List Value × Mem) (fun (i, B, F, s4_10, cs_11, s5_13, cs_14, mb) => MLe ma mb ∧ (RL (rpT (rpQ (12 * k + 3 * m + 9 * n + 62))) mb cs_11 B ∧ RL (rpT (rpQ (12 * k + 3 * m + 9 * n + 62))) mb cs_14 F ∧ (i ≤ l.length ∧ B = bkTo s l i) ∧ F = frTo s l i)) (fun (i, B, F, s4_10, cs_11, s5_13, cs_14, mb) => [(0, vl), (3, vP b3 0), (4, s4_10), (5, s5_13), (6, s6_1), (52, vl), (53, vI (↑(l).length : Int)), (54, vI ↑i)]) (fun (i, B, F, s4_10, cs_11, s5_13, cs_14, mb) => [.gs 32 9 s5_13 F.length cs_14, .gs 32 9 s4_10 B.length cs_11, .gs 3 1 s6_1 SD.length cs_2, .var b3 34 cs3]) (fun (i, B, F, s4_10, cs_11, s5_13, cs_14, mb) => mb) (fun (i, B, F, s4_10, cs_11, s5_13, cs_14, mb) => l.length - i) (0, [], [], (.slice none 0 0), [], (.slice none 0 0), [], ma) ?_ e8 rfl rfl ?_
 ·
  refine ⟨MLe.refl _, ?_⟩
  refine ⟨rl_8, rl_9, ?_⟩
  exact ⟨⟨by omega, rfl⟩, rfl⟩
 intro x hx
 obtain ⟨i, B, F, s4_10, cs_11, s5_13, cs_14, mb⟩ := x
 obtain ⟨hmmb, hinv⟩ := hx
 show GC _ _ _ _ _ _ [(0, vl), (3, vP b3 0), (4, s4_10), (5, s5_13), (6, s6_1), (52, vl), (53, vI (↑(l).length : Int)), (54, vI ↑i)] [.gs 32 9 s5_13 F.length cs_14, .gs 32 9 s4_10 B.length cs_11, .gs 3 1 s6_1 SD.length cs_2, .var b3 34 cs3] mb
 obtain ⟨rl_12, rl_15, hinv⟩ := hinv
 obtain ⟨⟨hi1, hB⟩, hF⟩ := hinv
 have hbl := bk_len s l i
 have hfl := fr_len s l i
 have hBl : B.length ≤ 2 * i := by rw [hB]; exact hbl
 have hFl : F.length ≤ 2 * i := by rw [hF]; exact hfl
 refine zC (zA (gv (zW rfl rfl) rfl (zD (zB (zC ?_)))))
 refine zP rfl (fun hc55 => ?_) (fun hc55 => ?_)
 ·
  have hd1 := hS i (by omega)
  have hd2 := hS ((i + 1) % l.length) (Nat.mod_lt _ (by omega))
  have hr1 := sd_range s (gp l i)
  have hr2 := sd_range s (gp l ((i + 1) % l.length))
  refine zL (zB (zC (zQ (zC (zA (mv rfl rfl ?_))))))
  replace rl := rl.mono hmmb
  refine xQ (F := fun v_ => AtP (rpT (rpQ k)) mb v_ (l.getD i (T3.mk (0 : Rat) 0 0))) (ox_idx_s (T3.mk (0 : Rat) 0 0) i underlying27 xF rfl rfl rl rfl (by omega) p9N) mem0 rfl ?_
  intro v57 r57
  refine xQ (F := fun v_ => (rpT (rpQ k)).Is mb v_ (l.getD i (T3.mk (0 : Rat) 0 0))) (ox_load_at xF rfl r57) mem0 rfl ?_
  intro v58 r58
  refine zJ (yQ (ρ := (rpT (rpQ (k + 1)))) (X := (T3.mk (0 : Rat) 0 0)) yI rfl rfl (zr_t (xS (by omega)))) rfl rfl rfl ?_
  intro v12 q12 hq12
  obtain ⟨b12, cs12, rfl, rfl, rb12⟩ := hq12
  refine asg rfl rfl (xO (A := []) (F := fun c_ => (rpT (rpQ (k + 1))).R mb c_ (l.getD i (T3.mk (0 : Rat) 0 0))) (zX sizeOf32 (Pc.here _) rfl rfl rfl rb12 (r58.le (Le.t (Le.q (l := k + 1) (by omega)))) rfl) ?_)
  intro cs_16 rb_17
  refine zD (zB (zC (zA (mv rfl rfl (gv (zS (q := 1) rfl rfl (by omega) (by omega)) rfl (mv rfl rfl (gv (ov_len_sr underlying27 rfl rl) rfl (gv (ov_rem_i rfl rfl (by omega) (by omega)) rfl (asg rfl rfl (zD (zB (zC (zC ?_)))))))))))))
  refine zA (mv rfl rfl (mv rfl rfl (gv ((ov_index_os i (.tail _ (.tail _ (.tail _ (.head _)))) underlying22 sizeOf3 rfl rfl rfl (by first | omega | (simp only [lAz, lC, lN, lR, lS]; omega)) p1N).cv (show _ = xL 1 s6_1 ((i * 1 + 0)) from congrArg (xL 1 s6_1) (by rfl))) rfl ?_)))
  replace rl_3 := rl_3.mono hmmb
  refine xQ (F := fun v_ => rpI.Is mb v_ (SD.getD i (0 : Int))) (ox_load_os ty3 (Pc.arr (Pc.here _) (0 : Int) i (by first | omega | (simp only [lAz, lC, lN, lR, lS]; omega))) rfl p1N rfl rl_3 rfl) (yD (.tail _ (.tail _ (.tail _ (.head _))))) rfl ?_
  intro v67 r67
  obtain ⟨rfl, hl67, hu67⟩ := of_i r67
  refine gv (ov_leq_i (q := 0) rfl rfl) rfl (zD (zK (e' := [(0, _), (3, _), (4, _), (5, _), (6, _), (52, _), (53, _), (54, _), (12, _), (11, _), (13, _), (68, _)]) e12 (zB ?_)))
  refine zP rfl (fun hc68 => ?_) (fun hc68 => ?_)
  ·
   have hp1 : sdZ s (gp l i) ≤ 0 := by rw [← hS i (by omega)]; exact hc68
   refine zA (mv rfl rfl (xQ (F := fun v_ => (rpT (rpQ (k + 1))).Is mb v_ (l.getD i (T3.mk (0 : Rat) 0 0))) (zE xF (Pc.here _) rfl rfl rb_17 rfl) (yD (.head _)) rfl ?_))
   intro v70 r70
   refine zJ (new_buildx (ρ := (rpT (rpQ (k + 1)))) (m := 1) (xs := [(l.getD i (T3.mk (0 : Rat) 0 0))]) (ps' := [(0, _)]) underlying27 yI rfl rfl rfl (zr_t (xS (by omega))) e2z (yN rfl (Pc.arr (Pc.here _) (T3.mk (0 : Rat) 0 0) 0 (by decide)) r70 fx_nil) (show 1 * 9 ≤ 16777216 from by decide) p9N) rfl rfl rfl ?_
   intro v71 q71 hq71
   obtain ⟨cs71, rfl, rl71⟩ := hq71
   refine gl_freezex (A := []) (ρ := (rpT (rpQ (k + 1)))) rl71 ?_
   intro h1 hh1 rs_18
   replace rl_12 := rl_12.mono hh1
   refine gl_repop (A := [_, _]) (rep_appendx (ρ := (rpT (rpQ (12 * k + 3 * m + 9 * n + 62)))) (bytes := 168) underlying27 yI rfl rfl rfl rfl p9N rfl rfl rl_12 (rs_18.le (Le.s (Le.t (Le.q (l := 12 * k + 3 * m + 9 * n + 62) (by omega))))) (by first | omega | (simp only [lAz, lC, lN, lR, lS]; omega)) (by first | omega | (simp only [lAz, lC, lN, lR, lS]; omega))) rfl rfl rfl ?_
   intro v72 q72 hq72
   obtain ⟨cs72, rfl, rl72⟩ := hq72
   refine asg rfl rfl (zD (zB ?_))
   refine gc_cut (ι := List (T3 Rat) × List (T3 Rat) × Value × List Value × Value × List Value × Mem) (fun (B1, F1, s4_19, cs_20, s5_22, cs_23, mc) => MLe h1 mc ∧ (RL (rpT (rpQ (12 * k + 3 * m + 9 * n + 62))) mc cs_20 B1 ∧ RL (rpT (rpQ (12 * k + 3 * m + 9 * n + 62))) mc cs_23 F1 ∧ B1 = bkH s l i ∧ F1 = frH s l i)) (fun (B1, F1, s4_19, cs_20, s5_22, cs_23, mc) => [(0, vl), (3, vP b3 0), (4, s4_19), (5, s5_22), (6, s6_1), (11, vI ↑i), (12, vP b12 0), (13, vI (((↑i : Int) + (1 : Int)) % (↑(l).length : Int))), (52, vl), (53, vI (↑(l).length : Int)), (54, vI ↑i)]) (fun (B1, F1, s4_19, cs_20, s5_22, cs_23, mc) => [.var b12 32 cs_16, .gs 32 9 s5_22 F1.length cs_23, .gs 32 9 s4_19 B1.length cs_20, .gs 3 1 s6_1 SD.length cs_2, .var b3 34 cs3]) (fun (B1, F1, s4_19, cs_20, s5_22, cs_23, mc) => mc) ?_ ?_
   ·
    refine zC (zA (mv rfl rfl (mv rfl rfl (gv ((ov_index_os i (.tail _ (.tail _ (.tail _ (.head _)))) underlying22 sizeOf3 rfl rfl rfl (by first | omega | (simp only [lAz, lC, lN, lR, lS]; omega)) p1N).cv (show _ = xL 1 s6_1 ((i * 1 + 0)) from congrArg (xL 1 s6_1) (by rfl))) rfl ?_))))
    replace rl_3 := rl_3.mono hh1
    refine xQ (F := fun v_ => rpI.Is h1 v_ (SD.getD i (0 : Int))) (ox_load_os ty3 (Pc.arr (Pc.here _) (0 : Int) i (by first | omega | (simp only [lAz, lC, lN, lR, lS]; omega))) rfl p1N rfl rl_3 rfl) (yD (.tail _ (.tail _ (.tail _ (.head _))))) rfl ?_
    intro v76 r76
    obtain ⟨rfl, hl76, hu76⟩ := of_i r76
    refine gv (ov_geq_i (q := 0) rfl rfl) rfl (zD (zB ?_))
    refine zP rfl (fun hc77 => ?_) (fun hc77 => ?_)
    ·
     have hp2 : 0 ≤ sdZ s (gp l i) := by rw [← hS i (by omega)]; exact hc77
     refine zA (mv rfl rfl ?_)
     replace rb_17 := rb_17.mono hh1
     refine xQ (F := fun v_ => (rpT (rpQ (k + 1))).Is h1 v_ (l.getD i (T3.mk (0 : Rat) 0 0))) (zE xF (Pc.here _) rfl rfl rb_17 rfl) (yD (.head _)) rfl ?_
     intro v79 r79
     refine zJ (new_buildx (ρ := (rpT (rpQ (k + 1)))) (m := 1) (xs := [(l.getD i (T3.mk (0 : Rat) 0 0))]) (ps' := [(0, _)]) underlying27 yI rfl rfl rfl (zr_t (xS (by omega))) e2z (yN rfl (Pc.arr (Pc.here _) (T3.mk (0 : Rat) 0 0) 0 (by decide)) r79 fx_nil) (show 1 * 9 ≤ 16777216 from by decide) p9N) rfl rfl rfl ?_
     intro v80 q80 hq80
     obtain ⟨cs80, rfl, rl80⟩ := hq80
     refine gl_freezex (A := []) (ρ := (rpT (rpQ (k + 1)))) rl80 ?_
     intro h2 hh2 rs_25
     replace rl_15 := rl_15.mono (hh1.trans hh2)
     refine gl_repop (A := [_]) (rep_appendx (ρ := (rpT (rpQ (12 * k + 3 * m + 9 * n + 62)))) (bytes := 168) underlying27 yI rfl rfl rfl rfl p9N rfl rfl rl_15 (rs_25.le (Le.s (Le.t (Le.q (l := 12 * k + 3 * m + 9 * n + 62) (by omega))))) (by first | omega | (simp only [lAz, lC, lN, lR, lS]; omega)) (by first | omega | (simp only [lAz, lC, lN, lR, lS]; omega))) rfl rfl rfl ?_
     intro v81 q81 hq81
     obtain ⟨cs81, rfl, rl81⟩ := hq81
     refine asg rfl rfl (zD ?_)
     refine yR ((B ++ [(l.getD i (T3.mk (0 : Rat) 0 0))]), (F ++ [(l.getD i (T3.mk (0 : Rat) 0 0))]), v72, cs72, v81, cs81, h2) ?_ e11 rfl rfl
     refine ⟨hh2, ?_⟩
     replace rl72 := rl72.mono hh2
     refine ⟨rl72, rl81, ?_⟩
     exact ⟨by first | exact bk_h1 hB hp1 | exact bk_h0 hB hp1, by first | exact fr_h1 hF hp2 | exact fr_h0 hF hp2⟩
    have hp2 : ¬ 0 ≤ sdZ s (gp l i) := by rw [← hS i (by omega)]; exact hc77
    refine zL ?_
    refine yR ((B ++ [(l.getD i (T3.mk (0 : Rat) 0 0))]), F, v72, cs72, s5_13, cs_14, h1) ?_ e11 rfl rfl
    refine ⟨MLe.refl _, ?_⟩
    replace rl_15 := rl_15.mono hh1
    refine ⟨rl72, rl_15, ?_⟩
    exact ⟨by first | exact bk_h1 hB hp1 | exact bk_h0 hB hp1, by first | exact fr_h1 hF hp2 | exact fr_h0 hF hp2⟩
   intro x hx
   obtain ⟨B1, F1, s4_19, cs_20, s5_22, cs_23, mc⟩ := x
   obtain ⟨hmmc, hcut⟩ := hx
   show GC _ _ _ _ _ _ [(0, vl), (3, vP b3 0), (4, s4_19), (5, s5_22), (6, s6_1), (11, vI ↑i), (12, vP b12 0), (13, vI (((↑i : Int) + (1 : Int)) % (↑(l).length : Int))), (52, vl), (53, vI (↑(l).length : Int)), (54, vI ↑i)] [.var b12 32 cs_16, .gs 32 9 s5_22 F1.length cs_23, .gs 32 9 s4_19 B1.length cs_20, .gs 3 1 s6_1 SD.length cs_2, .var b3 34 cs3] mc
   obtain ⟨rl_21, rl_24, hcut⟩ := hcut
   obtain ⟨hB1, hF1⟩ := hcut
   have hBl1 : B1.length ≤ 2 * i + 1 := by rw [hB1]; exact bkh_len s l i
   have hFl1 : F1.length ≤ 2 * i + 1 := by rw [hF1]; exact frh_len s l i
   refine zC ?_
   refine yG 10 _ [] [(0, .q), (1, .q), (2, .q), (3, .q), (4, .q), (5, .q), (6, .q), (7, .q), (8, .q), (9, .q)] xG nX (by kernel_rfl) nX (fun r hr => hr) (w_q rfl (fun h' L' hh hR => zH rfl) rfl (w_q rfl (fun h' L' hh hR => zH rfl) rfl (w_q rfl (fun h' L' hh hR => (ov_index_os i (hR _ (.tail _ (.tail _ (.tail _ (.head _))))) underlying22 sizeOf3 rfl rfl rfl (by first | omega | (simp only [lAz, lC, lN, lR, lS]; omega)) p1N).cv (show _ = xL 1 s6_1 ((i * 1 + 0)) from congrArg (xL 1 s6_1) (by rfl))) rfl ?_)))
   replace rl_3 := rl_3.mono (hh1.trans hmmc)
   refine yO (F := fun v_ => rpI.Is mc v_ (SD.getD i (0 : Int))) rfl (ox_load_os ty3 (Pc.arr (Pc.here _) (0 : Int) i (by first | omega | (simp only [lAz, lC, lN, lR, lS]; omega))) rfl p1N rfl rl_3 rfl) (yD (.tail _ (.tail _ (.tail _ (.head _))))) rfl ?_
   intro v85 r85
   obtain ⟨rfl, hl85, hu85⟩ := of_i r85
   refine w_q rfl (fun h' L' hh hR => zH rfl) rfl (w_q rfl (fun h' L' hh hR => zH rfl) rfl (w_q rfl (fun h' L' hh hR => (ov_index_os ((i + 1) % l.length) (hR _ (.tail _ (.tail _ (.tail _ (.head _))))) underlying22 sizeOf3 rfl rfl (by first | rfl | (push_cast; rfl)) (by rw [hi2]; exact Nat.mod_lt _ (by omega)) p1N).cv (show _ = xL 1 s6_1 ((((i + 1) % l.length) * 1 + 0)) from congrArg (xL 1 s6_1) (by rfl))) rfl (yO (F := fun v_ => rpI.Is mc v_ (SD.getD ((i + 1) % l.length) (0 : Int))) rfl (ox_load_os ty3 (Pc.arr (Pc.here _) (0 : Int) ((i + 1) % l.length) (by rw [hi2]; exact Nat.mod_lt _ (by omega))) rfl p1N rfl rl_3 rfl) (yD (.tail _ (.tail _ (.tail _ (.head _))))) rfl ?_)))
   intro v89 r89
   obtain ⟨rfl, hl89, hu89⟩ := of_i r89
   refine w_q rfl (fun h' L' hh hR => ov_mul_i rfl rfl (by rw [hd1, hd2]; have := mul_range hr1 hr2; omega) (by rw [hd1, hd2]; have := mul_range hr1 hr2; omega)) rfl (w_q rfl (fun h' L' hh hR => zW (q := 0) rfl rfl) rfl (yZ (zK (e' := [(0, _), (3, _), (4, _), (5, _), (6, _), (12, _), (13, _), (52, _), (53, _), (54, _), (91, _)]) e11 (zB ?_))))
   refine zP rfl (fun hc91 => ?_) (fun hc91 => ?_)
   ·
    have hx1 : xP s l i := by have h := hc91; rw [hS i (by omega), hS ((i + 1) % l.length) (Nat.mod_lt _ (by omega))] at h; exact h
    refine zC ?_
    refine yG 8 _ [(7, (14, 32, [.bool false, .slice none 0 0, .slice none 0 0, .bool false, .slice none 0 0, .slice none 0 0, .bool false, .slice none 0 0, .slice none 0 0]))] [(0, .q), (1, .q), (2, .q), (3, .q), (4, .q), (5, .q), (6, .c), (7, .a), (8, .t)] xG (AlOk.cons rfl rfl (zero_run yI rfl rfl) AlOk.nil) (by kernel_rfl) (hae_cons rfl rfl hae_nil) (fun r hr => hr) ?_
    replace rb3 := rb3.mono (((hmma.trans hmmb).trans hh1).trans hmmc)
    refine yO (F := fun v_ => (rpP (rpT (rpQ n)) (rpQ m)).Is mc v_ s) rfl (zE ty34 (Pc.here _) rfl rfl rb3 rfl) (yD (.tail _ (.tail _ (.tail _ (.tail _ (.head _)))))) rfl ?_
    intro v92 r92
    replace rb_17 := rb_17.mono (hh1.trans hmmc)
    refine yO (F := fun v_ => (rpT (rpQ (k + 1))).Is mc v_ (l.getD i (T3.mk (0 : Rat) 0 0))) rfl (zE xF (Pc.here _) rfl rfl rb_17 rfl) (yD (.head _)) rfl ?_
    intro v93 r93
    refine w_q rfl (fun h' L' hh hR => zH rfl) rfl (w_q rfl (fun h' L' hh hR => zH rfl) rfl ?_)
    replace rl := rl.mono (hh1.trans hmmc)
    refine yO (F := fun v_ => AtP (rpT (rpQ k)) mc v_ (l.getD ((i + 1) % l.length) (T3.mk (0 : Rat) 0 0))) rfl (ox_idx_s (T3.mk (0 : Rat) 0 0) ((i + 1) % l.length) underlying27 xF rfl rfl rl (by first | rfl | (push_cast; rfl)) (by exact Nat.mod_lt _ (by omega)) p9N) mem0 rfl ?_
    intro v96 r96
    refine yO (F := fun v_ => (rpT (rpQ k)).Is mc v_ (l.getD ((i + 1) % l.length) (T3.mk (0 : Rat) 0 0))) rfl (ox_load_at xF rfl r96) mem0 rfl ?_
    intro v97 r97
    refine w_c rfl ?_
    refine zY (vs := [_, _, _]) call84 e3z (fun w hs => o_cx_common hs r92 r93 (r97.le (Le.t (Le.q (l := k + 1) (by omega)))) (by omega) (by omega) (by omega)) rfl ?_
    intro v98 h2 hh2 r98
    change (rpT (rpQ (12 * (k + 1) + 3 * m + 9 * n + 50))).Is h2 v98 (btw s (l.getD i (T3.mk (0 : Rat) 0 0)) (l.getD ((i + 1) % l.length) (T3.mk (0 : Rat) 0 0))) at r98
    replace r98 := Rp.Is.le r98 (Le.t (Le.q (l := 12 * k + 3 * m + 9 * n + 62) (by omega)))
    refine w_a rfl rfl (fun b14 => ?_)
    have rb14 : (rpT (rpQ 1)).R h2 [.bool false, .slice none 0 0, .slice none 0 0, .bool false, .slice none 0 0, .slice none 0 0, .bool false, .slice none 0 0, .slice none 0 0] (T3.mk (0 : Rat) 0 0) := (zr_t (xS (by decide)))
    have rw_26 := (Le.t (Le.q (l := 12 * k + 3 * m + 9 * n + 62) (by omega))).R rb14
    refine yV (A := []) (F := fun c_ => (rpT (rpQ (12 * k + 3 * m + 9 * n + 62))).R h2 c_ (btw s (l.getD i (T3.mk (0 : Rat) 0 0)) (l.getD ((i + 1) % l.length) (T3.mk (0 : Rat) 0 0)))) rfl (zX sizeOf32 (Pc.here _) rfl rfl rfl rw_26 r98 rfl) ?_
    intro cs_27 rb_28
    refine yZ (zK (e' := [(0, _), (3, _), (4, _), (5, _), (6, _), (52, _), (53, _), (54, _), (14, _)]) e9 (zB ?_))
    refine yG 10 [.var b14 32 cs_27, .var b12 32 cs_16, .gs 3 1 s6_1 SD.length cs_2, .var b3 34 cs3] [] [(0, .q), (1, .q), (4, .q), (5, .q), (2, .d 3 6), (7, .c), (8, .q), (9, .q)] xG nX (by kernel_rfl) nX (by intro r hr; simp only [List.mem_cons, List.mem_append, List.not_mem_nil, or_false] at hr ⊢ <;> grind) (w_q rfl (fun h' L' hh hR => zH rfl) rfl (yO (F := fun v_ => (rpT (rpQ (12 * k + 3 * m + 9 * n + 62))).Is h2 v_ (btw s (l.getD i (T3.mk (0 : Rat) 0 0)) (l.getD ((i + 1) % l.length) (T3.mk (0 : Rat) 0 0)))) rfl (zE xF (Pc.here _) rfl rfl rb_28 rfl) (yD (.head _)) rfl ?_))
    intro v100 r100
    refine w_q rfl (fun h' L' hh hR => zH rfl) rfl (yO (F := fun v_ => (rpT (rpQ (12 * k + 3 * m + 9 * n + 62))).Is h2 v_ (btw s (l.getD i (T3.mk (0 : Rat) 0 0)) (l.getD ((i + 1) % l.length) (T3.mk (0 : Rat) 0 0)))) rfl (zE xF (Pc.here _) rfl rfl rb_28 rfl) (yD (.head _)) rfl ?_)
    intro v104 r104
    refine w_d rfl rfl rfl ?_ ?_
    ·
     refine s_new (fun X => new_buildx (ρ := (rpT (rpQ (12 * k + 3 * m + 9 * n + 62)))) (m := 1) (xs := [btw s (l.getD i (T3.mk (0 : Rat) 0 0)) (l.getD ((i + 1) % l.length) (T3.mk (0 : Rat) 0 0))]) (ps' := [(0, _)]) underlying27 yI rfl rfl rfl (zr_t (xS (by omega))) e2z (yN rfl (Pc.arr (Pc.here _) (T3.mk (0 : Rat) 0 0) 0 (by decide)) r100 fx_nil) (show 1 * 9 ≤ 16777216 from by decide) p9N) rfl ?_
     intro v101 q101 hq101
     obtain ⟨cs101, rfl, rl101⟩ := hq101
     refine ⟨?_, ?_⟩
     ·
      refine s_freezex (A := []) (ρ := (rpT (rpQ (12 * k + 3 * m + 9 * n + 62)))) rl101 (drop_kept (by first | (simp; done) | grind)) ?_
      intro h3 hh3 rs_29
      replace rl_21 := rl_21.mono (hh2.trans hh3)
      refine s_rep (A := [_, _, _]) (fun X => rep_appendx (ρ := (rpT (rpQ (12 * k + 3 * m + 9 * n + 62)))) (bytes := 168) underlying27 yI rfl rfl rfl rfl p9N rfl rfl rl_21 rs_29 (by first | omega | (simp only [lAz, lC, lN, lR, lS]; omega)) (by first | omega | (simp only [lAz, lC, lN, lR, lS]; omega))) rfl (mem_kept (by first | (simp; done) | grind)) ?_
      intro v102 q102 hq102
      obtain ⟨cs102, rfl, rl102⟩ := hq102
      replace r104 := r104.mono hh3
      refine s_new (fun X => new_buildx (ρ := (rpT (rpQ (12 * k + 3 * m + 9 * n + 62)))) (m := 1) (xs := [btw s (l.getD i (T3.mk (0 : Rat) 0 0)) (l.getD ((i + 1) % l.length) (T3.mk (0 : Rat) 0 0))]) (ps' := [(0, _)]) underlying27 yI rfl rfl rfl (zr_t (xS (by omega))) e2z (yN rfl (Pc.arr (Pc.here _) (T3.mk (0 : Rat) 0 0) 0 (by decide)) r104 fx_nil) (show 1 * 9 ≤ 16777216 from by decide) p9N) rfl ?_
      intro v105 q105 hq105
      obtain ⟨cs105, rfl, rl105⟩ := hq105
      refine w_c rfl (s_freezex (A := []) (ρ := (rpT (rpQ (12 * k + 3 * m + 9 * n + 62)))) rl105 (drop_kept (by first | (simp; done) | grind)) ?_)
      intro h4 hh4 rs_30
      replace rl_24 := rl_24.mono ((hh2.trans hh3).trans hh4)
      refine s_rep (A := [_, _]) (fun X => rep_appendx (ρ := (rpT (rpQ (12 * k + 3 * m + 9 * n + 62)))) (bytes := 168) underlying27 yI rfl rfl rfl rfl p9N rfl rfl rl_24 rs_30 (by first | omega | (simp only [lAz, lC, lN, lR, lS]; omega)) (by first | omega | (simp only [lAz, lC, lN, lR, lS]; omega))) rfl (mem_kept (by first | (simp; done) | grind)) ?_
      intro v106 q106 hq106
      obtain ⟨cs106, rfl, rl106⟩ := hq106
      refine w_q rfl (fun h' L' hh hR => yK rfl) rfl (w_q rfl (fun h' L' hh hR => yK rfl) rfl (yZ (yY (zB (zA (gv (zS (q := 1) rfl rfl (by omega) (by omega)) rfl (mv rfl rfl (zD (gq_drop (A := []) (gq_drop (A := []) ?_))))))))))
      refine yW ((i + 1), (B1 ++ [btw s (l.getD i (T3.mk (0 : Rat) 0 0)) (l.getD ((i + 1) % l.length) (T3.mk (0 : Rat) 0 0))]), (F1 ++ [btw s (l.getD i (T3.mk (0 : Rat) 0 0)) (l.getD ((i + 1) % l.length) (T3.mk (0 : Rat) 0 0))]), v102, cs102, v106, cs106, h4) ?_ ?_ e8 rfl rfl
      ·
       refine ⟨(((((hmmb.trans hh1).trans hmmc).trans hh2).trans hh3).trans hh4), ?_⟩
       replace rl102 := rl102.mono hh4
       refine ⟨rl102, rl106, ?_⟩
       exact ⟨⟨by omega, (by first | exact bk_y hB1 hx1 | exact bk_z hB1 hx1)⟩, (by first | exact fr_y hF1 hx1 | exact fr_z hF1 hx1)⟩
      dsimp only
      omega
     refine s_new (fun X => new_buildx (ρ := (rpT (rpQ (12 * k + 3 * m + 9 * n + 62)))) (m := 1) (xs := [btw s (l.getD i (T3.mk (0 : Rat) 0 0)) (l.getD ((i + 1) % l.length) (T3.mk (0 : Rat) 0 0))]) (ps' := [(0, _)]) underlying27 yI rfl rfl rfl (zr_t (xS (by omega))) e2z (yN rfl (Pc.arr (Pc.here _) (T3.mk (0 : Rat) 0 0) 0 (by decide)) r104 fx_nil) (show 1 * 9 ≤ 16777216 from by decide) p9N) rfl ?_
     intro v105 q105 hq105
     obtain ⟨cs105, rfl, rl105⟩ := hq105
     refine s_freezex (A := [_]) (ρ := (rpT (rpQ (12 * k + 3 * m + 9 * n + 62)))) rl101 (drop_kept (by first | (simp; done) | grind)) ?_
     intro h3 hh3 rs_31
     replace rl_21 := rl_21.mono (hh2.trans hh3)
     refine s_rep (A := [_, _, _, _]) (fun X => rep_appendx (ρ := (rpT (rpQ (12 * k + 3 * m + 9 * n + 62)))) (bytes := 168) underlying27 yI rfl rfl rfl rfl p9N rfl rfl rl_21 rs_31 (by first | omega | (simp only [lAz, lC, lN, lR, lS]; omega)) (by first | omega | (simp only [lAz, lC, lN, lR, lS]; omega))) rfl (mem_kept (by first | (simp; done) | grind)) ?_
     intro v102 q102 hq102
     obtain ⟨cs102, rfl, rl102⟩ := hq102
     refine w_c rfl ?_
     replace rl105 := rl105.mono hh3
     refine s_freezex (A := []) (ρ := (rpT (rpQ (12 * k + 3 * m + 9 * n + 62)))) rl105 (drop_kept (by first | (simp; done) | grind)) ?_
     intro h4 hh4 rs_32
     replace rl_24 := rl_24.mono ((hh2.trans hh3).trans hh4)
     refine s_rep (A := [_, _]) (fun X => rep_appendx (ρ := (rpT (rpQ (12 * k + 3 * m + 9 * n + 62)))) (bytes := 168) underlying27 yI rfl rfl rfl rfl p9N rfl rfl rl_24 rs_32 (by first | omega | (simp only [lAz, lC, lN, lR, lS]; omega)) (by first | omega | (simp only [lAz, lC, lN, lR, lS]; omega))) rfl (mem_kept (by first | (simp; done) | grind)) ?_
     intro v106 q106 hq106
     obtain ⟨cs106, rfl, rl106⟩ := hq106
     refine w_q rfl (fun h' L' hh hR => yK rfl) rfl (w_q rfl (fun h' L' hh hR => yK rfl) rfl (yZ (yY (zB (zA (gv (zS (q := 1) rfl rfl (by omega) (by omega)) rfl (mv rfl rfl (zD (gq_drop (A := []) (gq_drop (A := []) ?_))))))))))
     refine yW ((i + 1), (B1 ++ [btw s (l.getD i (T3.mk (0 : Rat) 0 0)) (l.getD ((i + 1) % l.length) (T3.mk (0 : Rat) 0 0))]), (F1 ++ [btw s (l.getD i (T3.mk (0 : Rat) 0 0)) (l.getD ((i + 1) % l.length) (T3.mk (0 : Rat) 0 0))]), v102, cs102, v106, cs106, h4) ?_ ?_ e8 rfl rfl
     ·
      refine ⟨(((((hmmb.trans hh1).trans hmmc).trans hh2).trans hh3).trans hh4), ?_⟩
      replace rl102 := rl102.mono hh4
      refine ⟨rl102, rl106, ?_⟩
      exact ⟨⟨by omega, (by first | exact bk_y hB1 hx1 | exact bk_z hB1 hx1)⟩, (by first | exact fr_y hF1 hx1 | exact fr_z hF1 hx1)⟩
     dsimp only
     omega
    refine s_new (fun X => new_buildx (ρ := (rpT (rpQ (12 * k + 3 * m + 9 * n + 62)))) (m := 1) (xs := [btw s (l.getD i (T3.mk (0 : Rat) 0 0)) (l.getD ((i + 1) % l.length) (T3.mk (0 : Rat) 0 0))]) (ps' := [(0, _)]) underlying27 yI rfl rfl rfl (zr_t (xS (by omega))) e2z (yN rfl (Pc.arr (Pc.here _) (T3.mk (0 : Rat) 0 0) 0 (by decide)) r104 fx_nil) (show 1 * 9 ≤ 16777216 from by decide) p9N) rfl ?_
    intro v105 q105 hq105
    obtain ⟨cs105, rfl, rl105⟩ := hq105
    refine s_new (fun X => new_buildx (ρ := (rpT (rpQ (12 * k + 3 * m + 9 * n + 62)))) (m := 1) (xs := [btw s (l.getD i (T3.mk (0 : Rat) 0 0)) (l.getD ((i + 1) % l.length) (T3.mk (0 : Rat) 0 0))]) (ps' := [(0, _)]) underlying27 yI rfl rfl rfl (zr_t (xS (by omega))) e2z (yN rfl (Pc.arr (Pc.here _) (T3.mk (0 : Rat) 0 0) 0 (by decide)) r100 fx_nil) (show 1 * 9 ≤ 16777216 from by decide) p9N) rfl ?_
    intro v101 q101 hq101
    obtain ⟨cs101, rfl, rl101⟩ := hq101
    refine s_freezex (A := []) (ρ := (rpT (rpQ (12 * k + 3 * m + 9 * n + 62)))) rl101 (drop_kept (by first | (simp; done) | grind)) ?_
    intro h3 hh3 rs_33
    replace rl_21 := rl_21.mono (hh2.trans hh3)
    refine s_rep (A := [_, _, _, _]) (fun X => rep_appendx (ρ := (rpT (rpQ (12 * k + 3 * m + 9 * n + 62)))) (bytes := 168) underlying27 yI rfl rfl rfl rfl p9N rfl rfl rl_21 rs_33 (by first | omega | (simp only [lAz, lC, lN, lR, lS]; omega)) (by first | omega | (simp only [lAz, lC, lN, lR, lS]; omega))) rfl (mem_kept (by first | (simp; done) | grind)) ?_
    intro v102 q102 hq102
    obtain ⟨cs102, rfl, rl102⟩ := hq102
    refine w_c rfl ?_
    replace rl105 := rl105.mono hh3
    refine s_freezex (A := []) (ρ := (rpT (rpQ (12 * k + 3 * m + 9 * n + 62)))) rl105 (drop_kept (by first | (simp; done) | grind)) ?_
    intro h4 hh4 rs_34
    replace rl_24 := rl_24.mono ((hh2.trans hh3).trans hh4)
    refine s_rep (A := [_, _]) (fun X => rep_appendx (ρ := (rpT (rpQ (12 * k + 3 * m + 9 * n + 62)))) (bytes := 168) underlying27 yI rfl rfl rfl rfl p9N rfl rfl rl_24 rs_34 (by first | omega | (simp only [lAz, lC, lN, lR, lS]; omega)) (by first | omega | (simp only [lAz, lC, lN, lR, lS]; omega))) rfl (mem_kept (by first | (simp; done) | grind)) ?_
    intro v106 q106 hq106
    obtain ⟨cs106, rfl, rl106⟩ := hq106
    refine w_q rfl (fun h' L' hh hR => yK rfl) rfl (w_q rfl (fun h' L' hh hR => yK rfl) rfl (yZ (yY (zB (zA (gv (zS (q := 1) rfl rfl (by omega) (by omega)) rfl (mv rfl rfl (zD (gq_drop (A := []) (gq_drop (A := []) ?_))))))))))
    refine yW ((i + 1), (B1 ++ [btw s (l.getD i (T3.mk (0 : Rat) 0 0)) (l.getD ((i + 1) % l.length) (T3.mk (0 : Rat) 0 0))]), (F1 ++ [btw s (l.getD i (T3.mk (0 : Rat) 0 0)) (l.getD ((i + 1) % l.length) (T3.mk (0 : Rat) 0 0))]), v102, cs102, v106, cs106, h4) ?_ ?_ e8 rfl rfl
    ·
     refine ⟨(((((hmmb.trans hh1).trans hmmc).trans hh2).trans hh3).trans hh4), ?_⟩
     replace rl102 := rl102.mono hh4
     refine ⟨rl102, rl106, ?_⟩
     exact ⟨⟨by omega, (by first | exact bk_y hB1 hx1 | exact bk_z hB1 hx1)⟩, (by first | exact fr_y hF1 hx1 | exact fr_z hF1 hx1)⟩
    dsimp only
    omega
   have hx1 : ¬ xP s l i := by have h := hc91; rw [hS i (by omega), hS ((i + 1) % l.length) (Nat.mod_lt _ (by omega))] at h; exact h
   refine zL (yY (zB (zA (gv (zS (q := 1) rfl rfl (by omega) (by omega)) rfl (mv rfl rfl (zD (gq_drop (A := []) ?_)))))))
   refine yW ((i + 1), B1, F1, s4_19, cs_20, s5_22, cs_23, mc) ?_ ?_ e8 rfl rfl
   ·
    refine ⟨((hmmb.trans hh1).trans hmmc), ?_⟩
    refine ⟨rl_21, rl_24, ?_⟩
    exact ⟨⟨by omega, (by first | exact bk_y hB1 hx1 | exact bk_z hB1 hx1)⟩, (by first | exact fr_y hF1 hx1 | exact fr_z hF1 hx1)⟩
   dsimp only
   omega
  have hp1 : ¬ sdZ s (gp l i) ≤ 0 := by rw [← hS i (by omega)]; exact hc68
  refine zL (zB ?_)
  refine gc_cut (ι := List (T3 Rat) × List (T3 Rat) × Value × List Value × Value × List Value × Mem) (fun (B1, F1, s4_35, cs_36, s5_38, cs_39, mc) => MLe mb mc ∧ (RL (rpT (rpQ (12 * k + 3 * m + 9 * n + 62))) mc cs_36 B1 ∧ RL (rpT (rpQ (12 * k + 3 * m + 9 * n + 62))) mc cs_39 F1 ∧ B1 = bkH s l i ∧ F1 = frH s l i)) (fun (B1, F1, s4_35, cs_36, s5_38, cs_39, mc) => [(0, vl), (3, vP b3 0), (4, s4_35), (5, s5_38), (6, s6_1), (11, vI ↑i), (12, vP b12 0), (13, vI (((↑i : Int) + (1 : Int)) % (↑(l).length : Int))), (52, vl), (53, vI (↑(l).length : Int)), (54, vI ↑i)]) (fun (B1, F1, s4_35, cs_36, s5_38, cs_39, mc) => [.var b12 32 cs_16, .gs 32 9 s5_38 F1.length cs_39, .gs 32 9 s4_35 B1.length cs_36, .gs 3 1 s6_1 SD.length cs_2, .var b3 34 cs3]) (fun (B1, F1, s4_35, cs_36, s5_38, cs_39, mc) => mc) ?_ ?_
  ·
   refine zC (zA (mv rfl rfl (mv rfl rfl (gv ((ov_index_os i (.tail _ (.tail _ (.tail _ (.head _)))) underlying22 sizeOf3 rfl rfl rfl (by first | omega | (simp only [lAz, lC, lN, lR, lS]; omega)) p1N).cv (show _ = xL 1 s6_1 ((i * 1 + 0)) from congrArg (xL 1 s6_1) (by rfl))) rfl (xQ (F := fun v_ => rpI.Is mb v_ (SD.getD i (0 : Int))) (ox_load_os ty3 (Pc.arr (Pc.here _) (0 : Int) i (by first | omega | (simp only [lAz, lC, lN, lR, lS]; omega))) rfl p1N rfl rl_3 rfl) (yD (.tail _ (.tail _ (.tail _ (.head _))))) rfl ?_)))))
   intro v76 r76
   obtain ⟨rfl, hl76, hu76⟩ := of_i r76
   refine gv (ov_geq_i (q := 0) rfl rfl) rfl (zD (zB ?_))
   refine zP rfl (fun hc77 => ?_) (fun hc77 => ?_)
   ·
    have hp2 : 0 ≤ sdZ s (gp l i) := by rw [← hS i (by omega)]; exact hc77
    refine zA (mv rfl rfl (xQ (F := fun v_ => (rpT (rpQ (k + 1))).Is mb v_ (l.getD i (T3.mk (0 : Rat) 0 0))) (zE xF (Pc.here _) rfl rfl rb_17 rfl) (yD (.head _)) rfl ?_))
    intro v79 r79
    refine zJ (new_buildx (ρ := (rpT (rpQ (k + 1)))) (m := 1) (xs := [(l.getD i (T3.mk (0 : Rat) 0 0))]) (ps' := [(0, _)]) underlying27 yI rfl rfl rfl (zr_t (xS (by omega))) e2z (yN rfl (Pc.arr (Pc.here _) (T3.mk (0 : Rat) 0 0) 0 (by decide)) r79 fx_nil) (show 1 * 9 ≤ 16777216 from by decide) p9N) rfl rfl rfl ?_
    intro v80 q80 hq80
    obtain ⟨cs80, rfl, rl80⟩ := hq80
    refine gl_freezex (A := []) (ρ := (rpT (rpQ (k + 1)))) rl80 ?_
    intro h1 hh1 rs_41
    replace rl_15 := rl_15.mono hh1
    refine gl_repop (A := [_]) (rep_appendx (ρ := (rpT (rpQ (12 * k + 3 * m + 9 * n + 62)))) (bytes := 168) underlying27 yI rfl rfl rfl rfl p9N rfl rfl rl_15 (rs_41.le (Le.s (Le.t (Le.q (l := 12 * k + 3 * m + 9 * n + 62) (by omega))))) (by first | omega | (simp only [lAz, lC, lN, lR, lS]; omega)) (by first | omega | (simp only [lAz, lC, lN, lR, lS]; omega))) rfl rfl rfl ?_
    intro v81 q81 hq81
    obtain ⟨cs81, rfl, rl81⟩ := hq81
    refine asg rfl rfl (zD ?_)
    refine yR (B, (F ++ [(l.getD i (T3.mk (0 : Rat) 0 0))]), s4_10, cs_11, v81, cs81, h1) ?_ e11 rfl rfl
    refine ⟨hh1, ?_⟩
    replace rl_12 := rl_12.mono hh1
    refine ⟨rl_12, rl81, ?_⟩
    exact ⟨by first | exact bk_h1 hB hp1 | exact bk_h0 hB hp1, by first | exact fr_h1 hF hp2 | exact fr_h0 hF hp2⟩
   have hp2 : ¬ 0 ≤ sdZ s (gp l i) := by rw [← hS i (by omega)]; exact hc77
   refine zL ?_
   refine yR (B, F, s4_10, cs_11, s5_13, cs_14, mb) ?_ e11 rfl rfl
   refine ⟨MLe.refl _, ?_⟩
   refine ⟨rl_12, rl_15, ?_⟩
   exact ⟨by first | exact bk_h1 hB hp1 | exact bk_h0 hB hp1, by first | exact fr_h1 hF hp2 | exact fr_h0 hF hp2⟩
  intro x hx
  obtain ⟨B1, F1, s4_35, cs_36, s5_38, cs_39, mc⟩ := x
  obtain ⟨hmmc, hcut⟩ := hx
  show GC _ _ _ _ _ _ [(0, vl), (3, vP b3 0), (4, s4_35), (5, s5_38), (6, s6_1), (11, vI ↑i), (12, vP b12 0), (13, vI (((↑i : Int) + (1 : Int)) % (↑(l).length : Int))), (52, vl), (53, vI (↑(l).length : Int)), (54, vI ↑i)] [.var b12 32 cs_16, .gs 32 9 s5_38 F1.length cs_39, .gs 32 9 s4_35 B1.length cs_36, .gs 3 1 s6_1 SD.length cs_2, .var b3 34 cs3] mc
  obtain ⟨rl_37, rl_40, hcut⟩ := hcut
  obtain ⟨hB1, hF1⟩ := hcut
  have hBl1 : B1.length ≤ 2 * i + 1 := by rw [hB1]; exact bkh_len s l i
  have hFl1 : F1.length ≤ 2 * i + 1 := by rw [hF1]; exact frh_len s l i
  refine zC ?_
  refine yG 10 _ [] [(0, .q), (1, .q), (2, .q), (3, .q), (4, .q), (5, .q), (6, .q), (7, .q), (8, .q), (9, .q)] xG nX (by kernel_rfl) nX (fun r hr => hr) (w_q rfl (fun h' L' hh hR => zH rfl) rfl (w_q rfl (fun h' L' hh hR => zH rfl) rfl (w_q rfl (fun h' L' hh hR => (ov_index_os i (hR _ (.tail _ (.tail _ (.tail _ (.head _))))) underlying22 sizeOf3 rfl rfl rfl (by first | omega | (simp only [lAz, lC, lN, lR, lS]; omega)) p1N).cv (show _ = xL 1 s6_1 ((i * 1 + 0)) from congrArg (xL 1 s6_1) (by rfl))) rfl ?_)))
  replace rl_3 := rl_3.mono hmmc
  refine yO (F := fun v_ => rpI.Is mc v_ (SD.getD i (0 : Int))) rfl (ox_load_os ty3 (Pc.arr (Pc.here _) (0 : Int) i (by first | omega | (simp only [lAz, lC, lN, lR, lS]; omega))) rfl p1N rfl rl_3 rfl) (yD (.tail _ (.tail _ (.tail _ (.head _))))) rfl ?_
  intro v85 r85
  obtain ⟨rfl, hl85, hu85⟩ := of_i r85
  refine w_q rfl (fun h' L' hh hR => zH rfl) rfl (w_q rfl (fun h' L' hh hR => zH rfl) rfl (w_q rfl (fun h' L' hh hR => (ov_index_os ((i + 1) % l.length) (hR _ (.tail _ (.tail _ (.tail _ (.head _))))) underlying22 sizeOf3 rfl rfl (by first | rfl | (push_cast; rfl)) (by rw [hi2]; exact Nat.mod_lt _ (by omega)) p1N).cv (show _ = xL 1 s6_1 ((((i + 1) % l.length) * 1 + 0)) from congrArg (xL 1 s6_1) (by rfl))) rfl (yO (F := fun v_ => rpI.Is mc v_ (SD.getD ((i + 1) % l.length) (0 : Int))) rfl (ox_load_os ty3 (Pc.arr (Pc.here _) (0 : Int) ((i + 1) % l.length) (by rw [hi2]; exact Nat.mod_lt _ (by omega))) rfl p1N rfl rl_3 rfl) (yD (.tail _ (.tail _ (.tail _ (.head _))))) rfl ?_)))
  intro v89 r89
  obtain ⟨rfl, hl89, hu89⟩ := of_i r89
  refine w_q rfl (fun h' L' hh hR => ov_mul_i rfl rfl (by rw [hd1, hd2]; have := mul_range hr1 hr2; omega) (by rw [hd1, hd2]; have := mul_range hr1 hr2; omega)) rfl (w_q rfl (fun h' L' hh hR => zW (q := 0) rfl rfl) rfl (yZ (zK (e' := [(0, _), (3, _), (4, _), (5, _), (6, _), (12, _), (13, _), (52, _), (53, _), (54, _), (91, _)]) e11 (zB ?_))))
  refine zP rfl (fun hc91 => ?_) (fun hc91 => ?_)
  ·
   have hx1 : xP s l i := by have h := hc91; rw [hS i (by omega), hS ((i + 1) % l.length) (Nat.mod_lt _ (by omega))] at h; exact h
   refine zC ?_
   refine yG 8 _ [(7, (14, 32, [.bool false, .slice none 0 0, .slice none 0 0, .bool false, .slice none 0 0, .slice none 0 0, .bool false, .slice none 0 0, .slice none 0 0]))] [(0, .q), (1, .q), (2, .q), (3, .q), (4, .q), (5, .q), (6, .c), (7, .a), (8, .t)] xG (AlOk.cons rfl rfl (zero_run yI rfl rfl) AlOk.nil) (by kernel_rfl) (hae_cons rfl rfl hae_nil) (fun r hr => hr) ?_
   replace rb3 := rb3.mono ((hmma.trans hmmb).trans hmmc)
   refine yO (F := fun v_ => (rpP (rpT (rpQ n)) (rpQ m)).Is mc v_ s) rfl (zE ty34 (Pc.here _) rfl rfl rb3 rfl) (yD (.tail _ (.tail _ (.tail _ (.tail _ (.head _)))))) rfl ?_
   intro v92 r92
   replace rb_17 := rb_17.mono hmmc
   refine yO (F := fun v_ => (rpT (rpQ (k + 1))).Is mc v_ (l.getD i (T3.mk (0 : Rat) 0 0))) rfl (zE xF (Pc.here _) rfl rfl rb_17 rfl) (yD (.head _)) rfl ?_
   intro v93 r93
   refine w_q rfl (fun h' L' hh hR => zH rfl) rfl (w_q rfl (fun h' L' hh hR => zH rfl) rfl ?_)
   replace rl := rl.mono hmmc
   refine yO (F := fun v_ => AtP (rpT (rpQ k)) mc v_ (l.getD ((i + 1) % l.length) (T3.mk (0 : Rat) 0 0))) rfl (ox_idx_s (T3.mk (0 : Rat) 0 0) ((i + 1) % l.length) underlying27 xF rfl rfl rl (by first | rfl | (push_cast; rfl)) (by exact Nat.mod_lt _ (by omega)) p9N) mem0 rfl ?_
   intro v96 r96
   refine yO (F := fun v_ => (rpT (rpQ k)).Is mc v_ (l.getD ((i + 1) % l.length) (T3.mk (0 : Rat) 0 0))) rfl (ox_load_at xF rfl r96) mem0 rfl ?_
   intro v97 r97
   refine w_c rfl ?_
   refine zY (vs := [_, _, _]) call84 e3z (fun w hs => o_cx_common hs r92 r93 (r97.le (Le.t (Le.q (l := k + 1) (by omega)))) (by omega) (by omega) (by omega)) rfl ?_
   intro v98 h1 hh1 r98
   change (rpT (rpQ (12 * (k + 1) + 3 * m + 9 * n + 50))).Is h1 v98 (btw s (l.getD i (T3.mk (0 : Rat) 0 0)) (l.getD ((i + 1) % l.length) (T3.mk (0 : Rat) 0 0))) at r98
   replace r98 := Rp.Is.le r98 (Le.t (Le.q (l := 12 * k + 3 * m + 9 * n + 62) (by omega)))
   refine w_a rfl rfl (fun b14 => ?_)
   have rb14 : (rpT (rpQ 1)).R h1 [.bool false, .slice none 0 0, .slice none 0 0, .bool false, .slice none 0 0, .slice none 0 0, .bool false, .slice none 0 0, .slice none 0 0] (T3.mk (0 : Rat) 0 0) := (zr_t (xS (by decide)))
   have rw_42 := (Le.t (Le.q (l := 12 * k + 3 * m + 9 * n + 62) (by omega))).R rb14
   refine yV (A := []) (F := fun c_ => (rpT (rpQ (12 * k + 3 * m + 9 * n + 62))).R h1 c_ (btw s (l.getD i (T3.mk (0 : Rat) 0 0)) (l.getD ((i + 1) % l.length) (T3.mk (0 : Rat) 0 0)))) rfl (zX sizeOf32 (Pc.here _) rfl rfl rfl rw_42 r98 rfl) ?_
   intro cs_43 rb_44
   refine yZ (zK (e' := [(0, _), (3, _), (4, _), (5, _), (6, _), (52, _), (53, _), (54, _), (14, _)]) e9 (zB ?_))
   refine yG 10 [.var b14 32 cs_43, .var b12 32 cs_16, .gs 3 1 s6_1 SD.length cs_2, .var b3 34 cs3] [] [(0, .q), (1, .q), (4, .q), (5, .q), (2, .d 3 6), (7, .c), (8, .q), (9, .q)] xG nX (by kernel_rfl) nX (by intro r hr; simp only [List.mem_cons, List.mem_append, List.not_mem_nil, or_false] at hr ⊢ <;> grind) (w_q rfl (fun h' L' hh hR => zH rfl) rfl (yO (F := fun v_ => (rpT (rpQ (12 * k + 3 * m + 9 * n + 62))).Is h1 v_ (btw s (l.getD i (T3.mk (0 : Rat) 0 0)) (l.getD ((i + 1) % l.length) (T3.mk (0 : Rat) 0 0)))) rfl (zE xF (Pc.here _) rfl rfl rb_44 rfl) (yD (.head _)) rfl ?_))
   intro v100 r100
   refine w_q rfl (fun h' L' hh hR => zH rfl) rfl (yO (F := fun v_ => (rpT (rpQ (12 * k + 3 * m + 9 * n + 62))).Is h1 v_ (btw s (l.getD i (T3.mk (0 : Rat) 0 0)) (l.getD ((i + 1) % l.length) (T3.mk (0 : Rat) 0 0)))) rfl (zE xF (Pc.here _) rfl rfl rb_44 rfl) (yD (.head _)) rfl ?_)
   intro v104 r104
   refine w_d rfl rfl rfl ?_ ?_
   ·
    refine s_new (fun X => new_buildx (ρ := (rpT (rpQ (12 * k + 3 * m + 9 * n + 62)))) (m := 1) (xs := [btw s (l.getD i (T3.mk (0 : Rat) 0 0)) (l.getD ((i + 1) % l.length) (T3.mk (0 : Rat) 0 0))]) (ps' := [(0, _)]) underlying27 yI rfl rfl rfl (zr_t (xS (by omega))) e2z (yN rfl (Pc.arr (Pc.here _) (T3.mk (0 : Rat) 0 0) 0 (by decide)) r100 fx_nil) (show 1 * 9 ≤ 16777216 from by decide) p9N) rfl ?_
    intro v101 q101 hq101
    obtain ⟨cs101, rfl, rl101⟩ := hq101
    refine ⟨?_, ?_⟩
    ·
     refine s_freezex (A := []) (ρ := (rpT (rpQ (12 * k + 3 * m + 9 * n + 62)))) rl101 (drop_kept (by first | (simp; done) | grind)) ?_
     intro h2 hh2 rs_45
     replace rl_37 := rl_37.mono (hh1.trans hh2)
     refine s_rep (A := [_, _, _]) (fun X => rep_appendx (ρ := (rpT (rpQ (12 * k + 3 * m + 9 * n + 62)))) (bytes := 168) underlying27 yI rfl rfl rfl rfl p9N rfl rfl rl_37 rs_45 (by first | omega | (simp only [lAz, lC, lN, lR, lS]; omega)) (by first | omega | (simp only [lAz, lC, lN, lR, lS]; omega))) rfl (mem_kept (by first | (simp; done) | grind)) ?_
     intro v102 q102 hq102
     obtain ⟨cs102, rfl, rl102⟩ := hq102
     replace r104 := r104.mono hh2
     refine s_new (fun X => new_buildx (ρ := (rpT (rpQ (12 * k + 3 * m + 9 * n + 62)))) (m := 1) (xs := [btw s (l.getD i (T3.mk (0 : Rat) 0 0)) (l.getD ((i + 1) % l.length) (T3.mk (0 : Rat) 0 0))]) (ps' := [(0, _)]) underlying27 yI rfl rfl rfl (zr_t (xS (by omega))) e2z (yN rfl (Pc.arr (Pc.here _) (T3.mk (0 : Rat) 0 0) 0 (by decide)) r104 fx_nil) (show 1 * 9 ≤ 16777216 from by decide) p9N) rfl ?_
     intro v105 q105 hq105
     obtain ⟨cs105, rfl, rl105⟩ := hq105
     refine w_c rfl (s_freezex (A := []) (ρ := (rpT (rpQ (12 * k + 3 * m + 9 * n + 62)))) rl105 (drop_kept (by first | (simp; done) | grind)) ?_)
     intro h3 hh3 rs_46
     replace rl_40 := rl_40.mono ((hh1.trans hh2).trans hh3)
     refine s_rep (A := [_, _]) (fun X => rep_appendx (ρ := (rpT (rpQ (12 * k + 3 * m + 9 * n + 62)))) (bytes := 168) underlying27 yI rfl rfl rfl rfl p9N rfl rfl rl_40 rs_46 (by first | omega | (simp only [lAz, lC, lN, lR, lS]; omega)) (by first | omega | (simp only [lAz, lC, lN, lR, lS]; omega))) rfl (mem_kept (by first | (simp; done) | grind)) ?_
     intro v106 q106 hq106
     obtain ⟨cs106, rfl, rl106⟩ := hq106
     refine w_q rfl (fun h' L' hh hR => yK rfl) rfl (w_q rfl (fun h' L' hh hR => yK rfl) rfl (yZ (yY (zB (zA (gv (zS (q := 1) rfl rfl (by omega) (by omega)) rfl (mv rfl rfl (zD (gq_drop (A := []) (gq_drop (A := []) ?_))))))))))
     refine yW ((i + 1), (B1 ++ [btw s (l.getD i (T3.mk (0 : Rat) 0 0)) (l.getD ((i + 1) % l.length) (T3.mk (0 : Rat) 0 0))]), (F1 ++ [btw s (l.getD i (T3.mk (0 : Rat) 0 0)) (l.getD ((i + 1) % l.length) (T3.mk (0 : Rat) 0 0))]), v102, cs102, v106, cs106, h3) ?_ ?_ e8 rfl rfl
     ·
      refine ⟨((((hmmb.trans hmmc).trans hh1).trans hh2).trans hh3), ?_⟩
      replace rl102 := rl102.mono hh3
      refine ⟨rl102, rl106, ?_⟩
      exact ⟨⟨by omega, (by first | exact bk_y hB1 hx1 | exact bk_z hB1 hx1)⟩, (by first | exact fr_y hF1 hx1 | exact fr_z hF1 hx1)⟩
     dsimp only
     omega
    refine s_new (fun X => new_buildx (ρ := (rpT (rpQ (12 * k + 3 * m + 9 * n + 62)))) (m := 1) (xs := [btw s (l.getD i (T3.mk (0 : Rat) 0 0)) (l.getD ((i + 1) % l.length) (T3.mk (0 : Rat) 0 0))]) (ps' := [(0, _)]) underlying27 yI rfl rfl rfl (zr_t (xS (by omega))) e2z (yN rfl (Pc.arr (Pc.here _) (T3.mk (0 : Rat) 0 0) 0 (by decide)) r104 fx_nil) (show 1 * 9 ≤ 16777216 from by decide) p9N) rfl ?_
    intro v105 q105 hq105
    obtain ⟨cs105, rfl, rl105⟩ := hq105
    refine s_freezex (A := [_]) (ρ := (rpT (rpQ (12 * k + 3 * m + 9 * n + 62)))) rl101 (drop_kept (by first | (simp; done) | grind)) ?_
    intro h2 hh2 rs_47
    replace rl_37 := rl_37.mono (hh1.trans hh2)
    refine s_rep (A := [_, _, _, _]) (fun X => rep_appendx (ρ := (rpT (rpQ (12 * k + 3 * m + 9 * n + 62)))) (bytes := 168) underlying27 yI rfl rfl rfl rfl p9N rfl rfl rl_37 rs_47 (by first | omega | (simp only [lAz, lC, lN, lR, lS]; omega)) (by first | omega | (simp only [lAz, lC, lN, lR, lS]; omega))) rfl (mem_kept (by first | (simp; done) | grind)) ?_
    intro v102 q102 hq102
    obtain ⟨cs102, rfl, rl102⟩ := hq102
    refine w_c rfl ?_
    replace rl105 := rl105.mono hh2
    refine s_freezex (A := []) (ρ := (rpT (rpQ (12 * k + 3 * m + 9 * n + 62)))) rl105 (drop_kept (by first | (simp; done) | grind)) ?_
    intro h3 hh3 rs_48
    replace rl_40 := rl_40.mono ((hh1.trans hh2).trans hh3)
    refine s_rep (A := [_, _]) (fun X => rep_appendx (ρ := (rpT (rpQ (12 * k + 3 * m + 9 * n + 62)))) (bytes := 168) underlying27 yI rfl rfl rfl rfl p9N rfl rfl rl_40 rs_48 (by first | omega | (simp only [lAz, lC, lN, lR, lS]; omega)) (by first | omega | (simp only [lAz, lC, lN, lR, lS]; omega))) rfl (mem_kept (by first | (simp; done) | grind)) ?_
    intro v106 q106 hq106
    obtain ⟨cs106, rfl, rl106⟩ := hq106
    refine w_q rfl (fun h' L' hh hR => yK rfl) rfl (w_q rfl (fun h' L' hh hR => yK rfl) rfl (yZ (yY (zB (zA (gv (zS (q := 1) rfl rfl (by omega) (by omega)) rfl (mv rfl rfl (zD (gq_drop (A := []) (gq_drop (A := []) ?_))))))))))
    refine yW ((i + 1), (B1 ++ [btw s (l.getD i (T3.mk (0 : Rat) 0 0)) (l.getD ((i + 1) % l.length) (T3.mk (0 : Rat) 0 0))]), (F1 ++ [btw s (l.getD i (T3.mk (0 : Rat) 0 0)) (l.getD ((i + 1) % l.length) (T3.mk (0 : Rat) 0 0))]), v102, cs102, v106, cs106, h3) ?_ ?_ e8 rfl rfl
    ·
     refine ⟨((((hmmb.trans hmmc).trans hh1).trans hh2).trans hh3), ?_⟩
     replace rl102 := rl102.mono hh3
     refine ⟨rl102, rl106, ?_⟩
     exact ⟨⟨by omega, (by first | exact bk_y hB1 hx1 | exact bk_z hB1 hx1)⟩, (by first | exact fr_y hF1 hx1 | exact fr_z hF1 hx1)⟩
    dsimp only
    omega
   refine s_new (fun X => new_buildx (ρ := (rpT (rpQ (12 * k + 3 * m + 9 * n + 62)))) (m := 1) (xs := [btw s (l.getD i (T3.mk (0 : Rat) 0 0)) (l.getD ((i + 1) % l.length) (T3.mk (0 : Rat) 0 0))]) (ps' := [(0, _)]) underlying27 yI rfl rfl rfl (zr_t (xS (by omega))) e2z (yN rfl (Pc.arr (Pc.here _) (T3.mk (0 : Rat) 0 0) 0 (by decide)) r104 fx_nil) (show 1 * 9 ≤ 16777216 from by decide) p9N) rfl ?_
   intro v105 q105 hq105
   obtain ⟨cs105, rfl, rl105⟩ := hq105
   refine s_new (fun X => new_buildx (ρ := (rpT (rpQ (12 * k + 3 * m + 9 * n + 62)))) (m := 1) (xs := [btw s (l.getD i (T3.mk (0 : Rat) 0 0)) (l.getD ((i + 1) % l.length) (T3.mk (0 : Rat) 0 0))]) (ps' := [(0, _)]) underlying27 yI rfl rfl rfl (zr_t (xS (by omega))) e2z (yN rfl (Pc.arr (Pc.here _) (T3.mk (0 : Rat) 0 0) 0 (by decide)) r100 fx_nil) (show 1 * 9 ≤ 16777216 from by decide) p9N) rfl ?_
   intro v101 q101 hq101
   obtain ⟨cs101, rfl, rl101⟩ := hq101
   refine s_freezex (A := []) (ρ := (rpT (rpQ (12 * k + 3 * m + 9 * n + 62)))) rl101 (drop_kept (by first | (simp; done) | grind)) ?_
   intro h2 hh2 rs_49
   replace rl_37 := rl_37.mono (hh1.trans hh2)
   refine s_rep (A := [_, _, _, _]) (fun X => rep_appendx (ρ := (rpT (rpQ (12 * k + 3 * m + 9 * n + 62)))) (bytes := 168) underlying27 yI rfl rfl rfl rfl p9N rfl rfl rl_37 rs_49 (by first | omega | (simp only [lAz, lC, lN, lR, lS]; omega)) (by first | omega | (simp only [lAz, lC, lN, lR, lS]; omega))) rfl (mem_kept (by first | (simp; done) | grind)) ?_
   intro v102 q102 hq102
   obtain ⟨cs102, rfl, rl102⟩ := hq102
   refine w_c rfl ?_
   replace rl105 := rl105.mono hh2
   refine s_freezex (A := []) (ρ := (rpT (rpQ (12 * k + 3 * m + 9 * n + 62)))) rl105 (drop_kept (by first | (simp; done) | grind)) ?_
   intro h3 hh3 rs_50
   replace rl_40 := rl_40.mono ((hh1.trans hh2).trans hh3)
   refine s_rep (A := [_, _]) (fun X => rep_appendx (ρ := (rpT (rpQ (12 * k + 3 * m + 9 * n + 62)))) (bytes := 168) underlying27 yI rfl rfl rfl rfl p9N rfl rfl rl_40 rs_50 (by first | omega | (simp only [lAz, lC, lN, lR, lS]; omega)) (by first | omega | (simp only [lAz, lC, lN, lR, lS]; omega))) rfl (mem_kept (by first | (simp; done) | grind)) ?_
   intro v106 q106 hq106
   obtain ⟨cs106, rfl, rl106⟩ := hq106
   refine w_q rfl (fun h' L' hh hR => yK rfl) rfl (w_q rfl (fun h' L' hh hR => yK rfl) rfl (yZ (yY (zB (zA (gv (zS (q := 1) rfl rfl (by omega) (by omega)) rfl (mv rfl rfl (zD (gq_drop (A := []) (gq_drop (A := []) ?_))))))))))
   refine yW ((i + 1), (B1 ++ [btw s (l.getD i (T3.mk (0 : Rat) 0 0)) (l.getD ((i + 1) % l.length) (T3.mk (0 : Rat) 0 0))]), (F1 ++ [btw s (l.getD i (T3.mk (0 : Rat) 0 0)) (l.getD ((i + 1) % l.length) (T3.mk (0 : Rat) 0 0))]), v102, cs102, v106, cs106, h3) ?_ ?_ e8 rfl rfl
   ·
    refine ⟨((((hmmb.trans hmmc).trans hh1).trans hh2).trans hh3), ?_⟩
    replace rl102 := rl102.mono hh3
    refine ⟨rl102, rl106, ?_⟩
    exact ⟨⟨by omega, (by first | exact bk_y hB1 hx1 | exact bk_z hB1 hx1)⟩, (by first | exact fr_y hF1 hx1 | exact fr_z hF1 hx1)⟩
   dsimp only
   omega
  have hx1 : ¬ xP s l i := by have h := hc91; rw [hS i (by omega), hS ((i + 1) % l.length) (Nat.mod_lt _ (by omega))] at h; exact h
  refine zL (yY (zB (zA (gv (zS (q := 1) rfl rfl (by omega) (by omega)) rfl (mv rfl rfl (zD (gq_drop (A := []) ?_)))))))
  refine yW ((i + 1), B1, F1, s4_35, cs_36, s5_38, cs_39, mc) ?_ ?_ e8 rfl rfl
  ·
   refine ⟨(hmmb.trans hmmc), ?_⟩
   refine ⟨rl_37, rl_40, ?_⟩
   exact ⟨⟨by omega, (by first | exact bk_y hB1 hx1 | exact bk_z hB1 hx1)⟩, (by first | exact fr_y hF1 hx1 | exact fr_z hF1 hx1)⟩
  dsimp only
  omega
 have ej : i = l.length := by omega
 rw [ej] at hB hF
 refine xK (yE (yE (xJ (zB (zC (zA (mv rfl rfl (mv rfl rfl (asg rfl rfl (asg rfl rfl (zD (zB (zR ?_)))))))))))))
 refine gq_freezex (A := [_]) (ρ := (rpT (rpQ (12 * k + 3 * m + 9 * n + 62)))) rl_12 ?_
 intro h1 hh1 rs_51
 replace rl_15 := rl_15.mono hh1
 refine gq_freezex (A := []) (ρ := (rpT (rpQ (12 * k + 3 * m + 9 * n + 62)))) rl_15 ?_
 intro h2 hh2 rs_52
 refine gq_body2 rfl rfl rfl ?_
 replace rs_51 := rs_51.mono hh2
 refine ⟨_, _, ?_, (Rp.Is.cast rs_51 (by rw [hB]; exact (cut_both (by rw [← hhi.1]; omega) (by rw [← hlo.1]; omega)).1.symm)), (Rp.Is.cast rs_52 (by rw [hF]; exact (cut_both (by rw [← hhi.1]; omega) (by rw [← hlo.1]; omega)).2.symm))⟩
 rfl
theorem o_cx_cut {w0 : World} {h0 : Mem}  (hs : MLe h0 (mem w0)) {k n m : Nat} {vl : Value} {l : (List (T3 Rat))} (rl : (rpS (rpT (rpQ k))).Is h0 vl l) {vs : Value} {s : ((T3 Rat) × Rat)} (rs : (rpP (rpT (rpQ n)) (rpQ m)).Is h0 vs s) (hcd0 : k ≤ 50000000) (hcd1 : m ≤ 1000000) (hcd2 : n ≤ 1000000) (hcd3 : l.length ≤ 50000)  :
    Calls Tryz.prog 14 #[vl, vs] w0 (Ret w0 h0 (fun h r => ∃ u0 u1, r = .tuple #[u0, u1] ∧ (rpS (rpT (rpQ (12 * k + 3 * m + 9 * n + 62 + 2)))).Is h u0 (cutB s l) ∧ (rpS (rpT (rpQ (12 * k + 3 * m + 9 * n + 62 + 2)))).Is h u1 (cutF s l))) := by
 have hcb := cutB_len s l
 have hcf := cutF_len s l
 refine zO (n := 18) (e := [(0, vl), (1, vs)]) (vs := [vl, vs]) func14 rfl rfl (bL rfl) hs e2z (zC (zA (zJ (yU (ρ := (rpP (rpT (rpQ n)) (rpQ m))) rfl rs) rfl rfl rfl ?_)))
 intro v3 q3 hq3
 obtain ⟨b3, cs3, rfl, rfl, rb3⟩ := hq3
 refine asg rfl rfl (asg rfl rfl (zD (zB (zC (zA (mv rfl rfl (xQ (F := fun v_ => (rpP (rpT (rpQ n)) (rpQ m)).Is h0 v_ s) (zE ty34 (Pc.here _) rfl rfl rb3 rfl) (yD (.head _)) rfl ?_)))))))
 intro v10 r10
 refine zM (vs := [_, _]) rfl rfl rfl rfl call47 e2z (fun w hs => o_cx_halves hs rl r10 (by omega) (by omega) (by omega) (by omega)) ?_
 intro v11 h1 hh1 r11
 obtain ⟨v11_0, v11_1, rfl, r11_0, r11_1⟩ := r11
 change (rpS (rpT (rpQ (12 * k + 3 * m + 9 * n + 62)))).Is h1 v11_0 (cutB s l) at r11_0
 change (rpS (rpT (rpQ (12 * k + 3 * m + 9 * n + 62)))).Is h1 v11_1 (cutF s l) at r11_1
 refine mv rfl rfl (gv (zN (vs := [_, _]) rfl rfl) rfl (gv (zN (vs := [_, _]) rfl rfl) rfl (asg rfl rfl (asg rfl rfl (zD (zK (e' := [(6, _), (7, _)]) e2z (zB (zC (zA (mv rfl rfl ?_))))))))))
 refine zM (vs := [_]) rfl rfl rfl rfl call48 ⟨rfl, trivial⟩ (fun w hs => o_own_points hs r11_0 (by omega) (by omega)) ?_
 intro v15 h2 hh2 r15
 change (rpS (rpT (rpQ ((12 * k + 3 * m + 9 * n + 62) + 2)))).Is h2 v15 (cutB s l) at r15
 replace r15 := Rp.Is.le r15 (Le.s (Le.t (Le.q (l := 12 * k + 3 * m + 9 * n + 64) (by omega))))
 refine mv rfl rfl ?_
 replace r11_1 := r11_1.mono hh2
 refine zM (vs := [_]) rfl rfl rfl rfl call48 ⟨rfl, trivial⟩ (fun w hs => o_own_points hs r11_1 (by omega) (by omega)) ?_
 intro v17 h3 hh3 r17
 change (rpS (rpT (rpQ ((12 * k + 3 * m + 9 * n + 62) + 2)))).Is h3 v17 (cutF s l) at r17
 replace r17 := Rp.Is.le r17 (Le.s (Le.t (Le.q (l := 12 * k + 3 * m + 9 * n + 64) (by omega))))
 refine asg rfl rfl (asg rfl rfl (zD (zB (zR (gq_body2 rfl rfl rfl ?_)))))
 replace r15 := r15.mono hh3
 refine ⟨_, _, ?_, (Rp.Is.le r15 (Le.s (Le.t (Le.q (l := 12 * k + 3 * m + 9 * n + 62 + 2) (by omega))))), (Rp.Is.le r17 (Le.s (Le.t (Le.q (l := 12 * k + 3 * m + 9 * n + 62 + 2) (by omega)))))⟩
 rfl
end Go.Proofs.YtghhjjmjpeehdaaGreat
namespace Go.Proofs.YtghhjjmjpeehdaaGreat
open Bk Go Tryz
set_option linter.unusedVariables false
set_option linter.unusedSimpArgs false
set_option maxRecDepth 10000
set_option maxHeartbeats 1000000 in
theorem o_r6_cut {w0 : World} {h0 : Mem}  (hs : MLe h0 (mem w0)) {k n m : Nat} {vl : Value} {l : (List (T3 Rat))} (rl : (rpS (rpT (rpQ k))).Is h0 vl l) {vs : Value} {s : ((T3 Rat) × Rat)} (rs : (rpP (rpT (rpQ n)) (rpQ m)).Is h0 vs s) (hcd0 : k ≤ 50000000) (hcd1 : m ≤ 1000000) (hcd2 : n ≤ 1000000) (hcd3 : l.length ≤ 100000)  :
    Calls Tryz.prog 15 #[vl, vs] w0 (Ret w0 h0 (fun h r => ∃ u0 u1, r = .tuple #[u0, u1] ∧ (rpS (rpT (rpQ (12 * k + 3 * m + 9 * n + 62)))).Is h u0 (cutB s l) ∧ (rpS (rpT (rpQ (12 * k + 3 * m + 9 * n + 62)))).Is h u1 (cutF s l))) := by
 refine zO (n := 97) (e := [(0, vl), (1, vs)]) (vs := [vl, vs]) func15 rfl rfl (bL rfl) hs e2z (zC (zA (zJ (yU (ρ := (rpP (rpT (rpQ n)) (rpQ m))) rfl rs) rfl rfl rfl ?_)))
 intro v3 q3 hq3
 obtain ⟨b3, cs3, rfl, rfl, rb3⟩ := hq3
 refine asg rfl rfl (asg rfl rfl (zD (zB (zC (zA (asg rfl rfl (asg rfl rfl (zD (zB (zC (zA (asg rfl rfl (asg rfl rfl ?_)))))))))))))
 refine zD (zB (zC (zC (zA (asg (v := vI (0)) rfl rfl (zD (zB (zQ (gc_nilown 32 9 ?_)))))))))
 have rl_1 : RL (rpT (rpQ (12 * k + 3 * m + 9 * n + 62))) h0 [] ([] : List (T3 Rat)) := RL.nil
 refine gc_nilown 32 9 ?_
 have rl_2 : RL (rpT (rpQ (12 * k + 3 * m + 9 * n + 62))) h0 [] ([] : List (T3 Rat)) := RL.nil
 refine gc_loop (ι := Nat × List (T3 Rat) × List (T3 Rat) × Value × List Value × Value × List Value × Mem) (fun (i, B, F, s6_3, cs_4, s7_6, cs_7, mb) => MLe h0 mb ∧ (RL (rpT (rpQ (12 * k + 3 * m + 9 * n + 62))) mb cs_4 B ∧ RL (rpT (rpQ (12 * k + 3 * m + 9 * n + 62))) mb cs_7 F ∧ (i ≤ l.length ∧ B = bkTo s l i) ∧ F = frTo s l i)) (fun (i, B, F, s6_3, cs_4, s7_6, cs_7, mb) => [(0, vl), (3, vP b3 0), (6, s6_3), (7, s7_6), (8, vB (behTo s l i)), (9, vB (aheTo s l i)), (10, vI ↑i)]) (fun (i, B, F, s6_3, cs_4, s7_6, cs_7, mb) => [.gs 32 9 s7_6 F.length cs_7, .gs 32 9 s6_3 B.length cs_4, .var b3 34 cs3]) (fun (i, B, F, s6_3, cs_4, s7_6, cs_7, mb) => mb) (fun (i, B, F, s6_3, cs_4, s7_6, cs_7, mb) => l.length - i) (0, [], [], (.slice none 0 0), [], (.slice none 0 0), [], h0) ?_ ⟨?_, ?_, ?_, ?_, ?_, ?_, ?_, trivial⟩ rfl rfl ?_
 ·
  refine ⟨MLe.refl _, ?_⟩
  refine ⟨rl_1, rl_2, ?_⟩
  exact ⟨⟨by omega, rfl⟩, rfl⟩
 · exact rfl
 · exact rfl
 · exact rfl
 · exact rfl
 · exact congrArg some (xD id).symm
 · exact congrArg some (xD id).symm
 · exact rfl
 intro x hx
 obtain ⟨i, B, F, s6_3, cs_4, s7_6, cs_7, mb⟩ := x
 obtain ⟨hmmb, hinv⟩ := hx
 show GC _ _ _ _ _ _ [(0, vl), (3, vP b3 0), (6, s6_3), (7, s7_6), (8, vB (behTo s l i)), (9, vB (aheTo s l i)), (10, vI ↑i)] [.gs 32 9 s7_6 F.length cs_7, .gs 32 9 s6_3 B.length cs_4, .var b3 34 cs3] mb
 obtain ⟨rl_5, rl_8, hinv⟩ := hinv
 obtain ⟨⟨hi1, hB⟩, hF⟩ := hinv
 have hbl := bk_len s l i
 have hfl := fr_len s l i
 have hBl : B.length ≤ 2 * i := by rw [hB]; exact hbl
 have hFl : F.length ≤ 2 * i := by rw [hF]; exact hfl
 refine zC (zC (zA (mv rfl rfl (mv rfl rfl ?_))))
 replace rl := rl.mono hmmb
 refine gv (ov_len_sr underlying27 rfl rl) rfl (gv (zW rfl rfl) rfl (zD (zB ?_)))
 refine zP rfl (fun hc19 => ?_) (fun hc19 => ?_)
 ·
  refine zL (zB (zC (zQ (zC ?_))))
  refine yG 16 _ [(12, (11, 32, [.bool false, .slice none 0 0, .slice none 0 0, .bool false, .slice none 0 0, .slice none 0 0, .bool false, .slice none 0 0, .slice none 0 0])), (13, (12, 32, [.bool false, .slice none 0 0, .slice none 0 0, .bool false, .slice none 0 0, .slice none 0 0, .bool false, .slice none 0 0, .slice none 0 0]))] [(0, .q), (1, .q), (2, .q), (3, .q), (4, .q), (5, .q), (6, .q), (7, .q), (8, .q), (9, .q), (10, .q), (11, .q), (12, .a), (13, .a), (14, .c), (15, .c)] xG (AlOk.cons rfl rfl (zero_run yI rfl rfl) (AlOk.cons rfl rfl (zero_run yI rfl rfl) AlOk.nil)) (chk_of [0, 0, 3, 4, 0, 0, 32, 0, 128, 320, 528, 1024, 0, 0, 12303, 32767] [65535, 65535, 65532, 65531, 65535, 65535, 65503, 65535, 65407, 65215, 65007, 64511, 65535, 65535, 61431, 55295] (by kernel_rfl)) (hae_cons rfl rfl (hae_cons rfl rfl hae_nil)) (fun r hr => hr) (w_q rfl (fun h' L' hh hR => zH rfl) rfl (w_q rfl (fun h' L' hh hR => zH rfl) rfl (yO (F := fun v_ => AtP (rpT (rpQ k)) mb v_ (l.getD i (T3.mk (0 : Rat) 0 0))) rfl (ox_idx_s (T3.mk (0 : Rat) 0 0) i underlying27 xF rfl rfl rl rfl (by omega) p9N) mem0 rfl ?_)))
  intro v24 r24
  refine yO (F := fun v_ => (rpT (rpQ k)).Is mb v_ (l.getD i (T3.mk (0 : Rat) 0 0))) rfl (ox_load_at xF rfl r24) mem0 rfl ?_
  intro v25 r25
  refine w_q rfl (fun h' L' hh hR => zH rfl) rfl (w_q rfl (fun h' L' hh hR => zH rfl) rfl (w_q rfl (fun h' L' hh hR => zS (q := 1) rfl rfl (by omega) (by omega)) rfl (w_q rfl (fun h' L' hh hR => zH rfl) rfl (w_q rfl (fun h' L' hh hR => ov_len_sr underlying27 rfl (rl.mono hh)) rfl (w_q rfl (fun h' L' hh hR => ov_rem_i rfl rfl (by omega) (by omega)) rfl (yO (F := fun v_ => AtP (rpT (rpQ k)) mb v_ (l.getD ((i + 1) % l.length) (T3.mk (0 : Rat) 0 0))) rfl (ox_idx_s (T3.mk (0 : Rat) 0 0) ((i + 1) % l.length) underlying27 xF rfl rfl rl (by first | rfl | (push_cast; rfl)) (by exact Nat.mod_lt _ (by omega)) p9N) mem0 rfl ?_))))))
  intro v32 r32
  refine yO (F := fun v_ => (rpT (rpQ k)).Is mb v_ (l.getD ((i + 1) % l.length) (T3.mk (0 : Rat) 0 0))) rfl (ox_load_at xF rfl r32) mem0 rfl ?_
  intro v33 r33
  refine w_a rfl rfl (fun b11 => ?_)
  have rb11 : (rpT (rpQ (k + 1))).R mb [.bool false, .slice none 0 0, .slice none 0 0, .bool false, .slice none 0 0, .slice none 0 0, .bool false, .slice none 0 0, .slice none 0 0] (T3.mk (0 : Rat) 0 0) := (zr_t (xS (by omega)))
  refine w_a rfl rfl (fun b12 => ?_)
  have rb12 : (rpT (rpQ (k + 1))).R mb [.bool false, .slice none 0 0, .slice none 0 0, .bool false, .slice none 0 0, .slice none 0 0, .bool false, .slice none 0 0, .slice none 0 0] (T3.mk (0 : Rat) 0 0) := (zr_t (xS (by omega)))
  refine w_c rfl (s_updx (A := [_]) (F := fun c_ => (rpT (rpQ (k + 1))).R mb c_ (l.getD i (T3.mk (0 : Rat) 0 0))) (zX sizeOf32 (Pc.here _) rfl rfl rfl rb11 (r25.le (Le.t (Le.q (l := k + 1) (by omega)))) rfl) (mem_kept (by first | (simp; done) | grind)) ?_)
  intro cs_9 rb_10
  refine w_c rfl (s_updx (A := []) (F := fun c_ => (rpT (rpQ (k + 1))).R mb c_ (l.getD ((i + 1) % l.length) (T3.mk (0 : Rat) 0 0))) (zX sizeOf32 (Pc.here _) rfl rfl rfl rb12 (r33.le (Le.t (Le.q (l := k + 1) (by omega)))) rfl) (mem_kept (by first | (simp; done) | grind)) ?_)
  intro cs_11 rb_12
  refine yZ (zK (e' := [(0, _), (3, _), (6, _), (7, _), (8, _), (9, _), (10, _), (11, _), (12, _)]) e9 (zB (zC ?_)))
  refine yG 8 _ [] [(0, .q), (1, .q), (3, .q), (4, .q), (2, .c), (5, .c), (6, .q), (7, .q)] xG nX (by kernel_rfl) nX (fun r hr => hr) ?_
  replace rb3 := rb3.mono hmmb
  refine yO (F := fun v_ => (rpP (rpT (rpQ n)) (rpQ m)).Is mb v_ s) rfl (zE ty34 (Pc.here _) rfl rfl rb3 rfl) (yD (.tail _ (.tail _ (.tail _ (.tail _ (.head _)))))) rfl ?_
  intro v34 r34
  refine yO (F := fun v_ => (rpT (rpQ (k + 1))).Is mb v_ (l.getD i (T3.mk (0 : Rat) 0 0))) rfl (zE xF (Pc.here _) rfl rfl rb_10 rfl) (yD (.tail _ (.head _))) rfl ?_
  intro v35 r35
  refine yO (F := fun v_ => (rpP (rpT (rpQ n)) (rpQ m)).Is mb v_ s) rfl (zE ty34 (Pc.here _) rfl rfl rb3 rfl) (yD (.tail _ (.tail _ (.tail _ (.tail _ (.head _)))))) rfl ?_
  intro v37 r37
  refine yO (F := fun v_ => (rpT (rpQ (k + 1))).Is mb v_ (l.getD ((i + 1) % l.length) (T3.mk (0 : Rat) 0 0))) rfl (zE xF (Pc.here _) rfl rfl rb_12 rfl) (yD (.head _)) rfl ?_
  intro v38 r38
  refine w_c rfl ?_
  refine zY (vs := [_, _]) call25 e2z (fun w hs => o_s4_side hs r34 r35 (by omega) (by omega) (by omega)) rfl ?_
  intro v36 h1 hh1 r36
  obtain rfl : v36 = vI (sdZ s (l.getD i (T3.mk (0 : Rat) 0 0))) := r36
  have hsd36 := sd_range s (l.getD i (T3.mk (0 : Rat) 0 0))
  refine w_c rfl ?_
  replace r37 := r37.mono hh1
  replace r38 := r38.mono hh1
  refine zY (vs := [_, _]) call25 e2z (fun w hs => o_s4_side hs r37 r38 (by omega) (by omega) (by omega)) rfl ?_
  intro v39 h2 hh2 r39
  obtain rfl : v39 = vI (sdZ s (l.getD ((i + 1) % l.length) (T3.mk (0 : Rat) 0 0))) := r39
  have hsd39 := sd_range s (l.getD ((i + 1) % l.length) (T3.mk (0 : Rat) 0 0))
  refine w_q rfl (fun h' L' hh hR => yK rfl) rfl (w_q rfl (fun h' L' hh hR => yK rfl) rfl (yZ (zB (zC (zC (zA (mv rfl rfl (gv (ov_leq_i (q := 0) rfl rfl) rfl (zD (zB ?_))))))))))
  refine zP rfl (fun hc41 => ?_) (fun hc41 => ?_)
  ·
   have hp1 : sdZ s (gp l i) ≤ 0 := hc41
   refine zA (mv rfl rfl ?_)
   replace rb_10 := rb_10.mono (hh1.trans hh2)
   refine xQ (F := fun v_ => (rpT (rpQ (k + 1))).Is h2 v_ (l.getD i (T3.mk (0 : Rat) 0 0))) (zE xF (Pc.here _) rfl rfl rb_10 rfl) (yD (.tail _ (.head _))) rfl ?_
   intro v43 r43
   refine zJ (new_buildx (ρ := (rpT (rpQ (k + 1)))) (m := 1) (xs := [(l.getD i (T3.mk (0 : Rat) 0 0))]) (ps' := [(0, _)]) underlying27 yI rfl rfl rfl (zr_t (xS (by omega))) e2z (yN rfl (Pc.arr (Pc.here _) (T3.mk (0 : Rat) 0 0) 0 (by decide)) r43 fx_nil) (show 1 * 9 ≤ 16777216 from by decide) p9N) rfl rfl rfl ?_
   intro v44 q44 hq44
   obtain ⟨cs44, rfl, rl44⟩ := hq44
   refine gl_freezex (A := []) (ρ := (rpT (rpQ (k + 1)))) rl44 ?_
   intro h3 hh3 rs_13
   replace rl_5 := rl_5.mono ((hh1.trans hh2).trans hh3)
   refine gl_repop (A := [_, _, _]) (rep_appendx (ρ := (rpT (rpQ (12 * k + 3 * m + 9 * n + 62)))) (bytes := 168) underlying27 yI rfl rfl rfl rfl p9N rfl rfl rl_5 (rs_13.le (Le.s (Le.t (Le.q (l := 12 * k + 3 * m + 9 * n + 62) (by omega))))) (by first | omega | (simp only [lAz, lC, lN, lR, lS]; omega)) (by first | omega | (simp only [lAz, lC, lN, lR, lS]; omega))) rfl rfl rfl ?_
   intro v45 q45 hq45
   obtain ⟨cs45, rfl, rl45⟩ := hq45
   refine asg rfl rfl (zD (zK (e' := [(0, _), (3, _), (7, _), (8, _), (9, _), (10, _), (11, _), (12, _), (13, _), (14, _), (6, _)]) e11 (zB ?_)))
   refine gc_cut (ι := List (T3 Rat) × List (T3 Rat) × Value × List Value × Value × List Value × Mem) (fun (B1, F1, s6_14, cs_15, s7_17, cs_18, mc) => MLe h3 mc ∧ (RL (rpT (rpQ (12 * k + 3 * m + 9 * n + 62))) mc cs_15 B1 ∧ RL (rpT (rpQ (12 * k + 3 * m + 9 * n + 62))) mc cs_18 F1 ∧ B1 = bkH s l i ∧ F1 = frH s l i)) (fun (B1, F1, s6_14, cs_15, s7_17, cs_18, mc) => [(0, vl), (3, vP b3 0), (6, s6_14), (7, s7_17), (8, vB (behTo s l i)), (9, vB (aheTo s l i)), (10, vI ↑i), (11, vP b11 0), (12, vP b12 0), (13, vI (sdZ s (l.getD i (T3.mk (0 : Rat) 0 0)))), (14, vI (sdZ s (l.getD ((i + 1) % l.length) (T3.mk (0 : Rat) 0 0))))]) (fun (B1, F1, s6_14, cs_15, s7_17, cs_18, mc) => [.var b12 32 cs_11, .var b11 32 cs_9, .gs 32 9 s7_17 F1.length cs_18, .gs 32 9 s6_14 B1.length cs_15, .var b3 34 cs3]) (fun (B1, F1, s6_14, cs_15, s7_17, cs_18, mc) => mc) ?_ ?_
   ·
    refine zC (zA (mv rfl rfl (gv (ov_geq_i (q := 0) rfl rfl) rfl (zD (zB ?_)))))
    refine zP rfl (fun hc47 => ?_) (fun hc47 => ?_)
    ·
     have hp2 : 0 ≤ sdZ s (gp l i) := hc47
     refine zA (mv rfl rfl ?_)
     replace rb_10 := rb_10.mono hh3
     refine xQ (F := fun v_ => (rpT (rpQ (k + 1))).Is h3 v_ (l.getD i (T3.mk (0 : Rat) 0 0))) (zE xF (Pc.here _) rfl rfl rb_10 rfl) (yD (.tail _ (.head _))) rfl ?_
     intro v49 r49
     refine zJ (new_buildx (ρ := (rpT (rpQ (k + 1)))) (m := 1) (xs := [(l.getD i (T3.mk (0 : Rat) 0 0))]) (ps' := [(0, _)]) underlying27 yI rfl rfl rfl (zr_t (xS (by omega))) e2z (yN rfl (Pc.arr (Pc.here _) (T3.mk (0 : Rat) 0 0) 0 (by decide)) r49 fx_nil) (show 1 * 9 ≤ 16777216 from by decide) p9N) rfl rfl rfl ?_
     intro v50 q50 hq50
     obtain ⟨cs50, rfl, rl50⟩ := hq50
     refine gl_freezex (A := []) (ρ := (rpT (rpQ (k + 1)))) rl50 ?_
     intro h4 hh4 rs_20
     replace rl_8 := rl_8.mono (((hh1.trans hh2).trans hh3).trans hh4)
     refine gl_repop (A := [_, _]) (rep_appendx (ρ := (rpT (rpQ (12 * k + 3 * m + 9 * n + 62)))) (bytes := 168) underlying27 yI rfl rfl rfl rfl p9N rfl rfl rl_8 (rs_20.le (Le.s (Le.t (Le.q (l := 12 * k + 3 * m + 9 * n + 62) (by omega))))) (by first | omega | (simp only [lAz, lC, lN, lR, lS]; omega)) (by first | omega | (simp only [lAz, lC, lN, lR, lS]; omega))) rfl rfl rfl ?_
     intro v51 q51 hq51
     obtain ⟨cs51, rfl, rl51⟩ := hq51
     refine asg rfl rfl (zD ?_)
     refine yR ((B ++ [(l.getD i (T3.mk (0 : Rat) 0 0))]), (F ++ [(l.getD i (T3.mk (0 : Rat) 0 0))]), v45, cs45, v51, cs51, h4) ?_ e11 rfl rfl
     refine ⟨hh4, ?_⟩
     replace rl45 := rl45.mono hh4
     refine ⟨rl45, rl51, ?_⟩
     exact ⟨by first | exact bk_h1 hB hp1 | exact bk_h0 hB hp1, by first | exact fr_h1 hF hp2 | exact fr_h0 hF hp2⟩
    have hp2 : ¬ 0 ≤ sdZ s (gp l i) := hc47
    refine zL ?_
    refine yR ((B ++ [(l.getD i (T3.mk (0 : Rat) 0 0))]), F, v45, cs45, s7_6, cs_7, h3) ?_ e11 rfl rfl
    refine ⟨MLe.refl _, ?_⟩
    replace rl_8 := rl_8.mono ((hh1.trans hh2).trans hh3)
    refine ⟨rl45, rl_8, ?_⟩
    exact ⟨by first | exact bk_h1 hB hp1 | exact bk_h0 hB hp1, by first | exact fr_h1 hF hp2 | exact fr_h0 hF hp2⟩
   intro x hx
   obtain ⟨B1, F1, s6_14, cs_15, s7_17, cs_18, mc⟩ := x
   obtain ⟨hmmc, hcut⟩ := hx
   show GC _ _ _ _ _ _ [(0, vl), (3, vP b3 0), (6, s6_14), (7, s7_17), (8, vB (behTo s l i)), (9, vB (aheTo s l i)), (10, vI ↑i), (11, vP b11 0), (12, vP b12 0), (13, vI (sdZ s (l.getD i (T3.mk (0 : Rat) 0 0)))), (14, vI (sdZ s (l.getD ((i + 1) % l.length) (T3.mk (0 : Rat) 0 0))))] [.var b12 32 cs_11, .var b11 32 cs_9, .gs 32 9 s7_17 F1.length cs_18, .gs 32 9 s6_14 B1.length cs_15, .var b3 34 cs3] mc
   obtain ⟨rl_16, rl_19, hcut⟩ := hcut
   obtain ⟨hB1, hF1⟩ := hcut
   have hBl1 : B1.length ≤ 2 * i + 1 := by rw [hB1]; exact bkh_len s l i
   have hFl1 : F1.length ≤ 2 * i + 1 := by rw [hF1]; exact frh_len s l i
   refine zC (zA (mv rfl rfl ?_))
   refine gl_cut (ι := Unit) 4 (fun _ => True) (fun _ => [(56, vB ((behTo s l i) ∨ ((sdZ s (l.getD i (T3.mk (0 : Rat) 0 0))) < (0 : Int)))), (0, vl), (3, vP b3 0), (6, s6_14), (7, s7_17), (9, vB (aheTo s l i)), (10, vI ↑i), (11, vP b11 0), (12, vP b12 0), (13, vI (sdZ s (l.getD i (T3.mk (0 : Rat) 0 0)))), (14, vI (sdZ s (l.getD ((i + 1) % l.length) (T3.mk (0 : Rat) 0 0))))]) (fun _ => [.var b12 32 cs_11, .var b11 32 cs_9, .gs 32 9 s7_17 F1.length cs_18, .gs 32 9 s6_14 B1.length cs_15, .var b3 34 cs3]) (fun _ => mc) ?_ ?_
   ·
    refine gl_cases (behTo s l i) (fun hg => ?_) (fun hg => ?_)
    ·
     refine gl_val (zH (v := .bool true) (congrArg some (vB_true hg))) rfl rfl rfl (yM rfl rfl rfl rfl rfl rfl (yM rfl rfl rfl rfl rfl rfl (gv (xU rfl rfl) rfl (zD ?_))))
     refine yR () trivial ⟨?_, rfl, rfl, rfl, rfl, rfl, rfl, rfl, rfl, rfl, rfl, trivial⟩ rfl rfl
     exact congrArg some (vB_or_t hg)
    refine gl_val (zH (v := .bool false) (congrArg some (xD hg))) rfl rfl rfl (yX rfl rfl rfl (mv rfl rfl (yX rfl rfl rfl (gv (zW (q := 0) rfl rfl) rfl (gv (ov_pick_f rfl rfl) rfl (zD ?_))))))
    refine yR () trivial ⟨?_, rfl, rfl, rfl, rfl, rfl, rfl, rfl, rfl, rfl, rfl, trivial⟩ rfl rfl
    exact congrArg some (vB_or_f hg)
   intro _ _
   show GL _ _ _ _ _ _ _ [(56, vB ((behTo s l i) ∨ ((sdZ s (l.getD i (T3.mk (0 : Rat) 0 0))) < (0 : Int)))), (0, vl), (3, vP b3 0), (6, s6_14), (7, s7_17), (9, vB (aheTo s l i)), (10, vI ↑i), (11, vP b11 0), (12, vP b12 0), (13, vI (sdZ s (l.getD i (T3.mk (0 : Rat) 0 0)))), (14, vI (sdZ s (l.getD ((i + 1) % l.length) (T3.mk (0 : Rat) 0 0))))] [.var b12 32 cs_11, .var b11 32 cs_9, .gs 32 9 s7_17 F1.length cs_18, .gs 32 9 s6_14 B1.length cs_15, .var b3 34 cs3] mc
   refine mv rfl rfl ?_
   refine gl_cut (ι := Unit) 4 (fun _ => True) (fun _ => [(61, vB ((aheTo s l i) ∨ ((0 : Int) < (sdZ s (l.getD i (T3.mk (0 : Rat) 0 0)))))), (0, vl), (3, vP b3 0), (6, s6_14), (7, s7_17), (10, vI ↑i), (11, vP b11 0), (12, vP b12 0), (13, vI (sdZ s (l.getD i (T3.mk (0 : Rat) 0 0)))), (14, vI (sdZ s (l.getD ((i + 1) % l.length) (T3.mk (0 : Rat) 0 0)))), (56, vB ((behTo s l i) ∨ ((sdZ s (l.getD i (T3.mk (0 : Rat) 0 0))) < (0 : Int))))]) (fun _ => [.var b12 32 cs_11, .var b11 32 cs_9, .gs 32 9 s7_17 F1.length cs_18, .gs 32 9 s6_14 B1.length cs_15, .var b3 34 cs3]) (fun _ => mc) ?_ ?_
   ·
    refine gl_cases (aheTo s l i) (fun hg => ?_) (fun hg => ?_)
    ·
     refine gl_val (zH (v := .bool true) (congrArg some (vB_true hg))) rfl rfl rfl (yM rfl rfl rfl rfl rfl rfl (yM rfl rfl rfl rfl rfl rfl (gv (xU rfl rfl) rfl (zD ?_))))
     refine yR () trivial ⟨?_, rfl, rfl, rfl, rfl, rfl, rfl, rfl, rfl, rfl, rfl, trivial⟩ rfl rfl
     exact congrArg some (vB_or_t hg)
    refine gl_val (zH (v := .bool false) (congrArg some (xD hg))) rfl rfl rfl (yX rfl rfl rfl (mv rfl rfl (yX rfl rfl rfl (gv (ov_gtr_i (q := 0) rfl rfl) rfl (gv (ov_pick_f rfl rfl) rfl (zD ?_))))))
    refine yR () trivial ⟨?_, rfl, rfl, rfl, rfl, rfl, rfl, rfl, rfl, rfl, rfl, trivial⟩ rfl rfl
    exact congrArg some (vB_or_f hg)
   intro _ _
   show GL _ _ _ _ _ _ _ [(61, vB ((aheTo s l i) ∨ ((0 : Int) < (sdZ s (l.getD i (T3.mk (0 : Rat) 0 0)))))), (0, vl), (3, vP b3 0), (6, s6_14), (7, s7_17), (10, vI ↑i), (11, vP b11 0), (12, vP b12 0), (13, vI (sdZ s (l.getD i (T3.mk (0 : Rat) 0 0)))), (14, vI (sdZ s (l.getD ((i + 1) % l.length) (T3.mk (0 : Rat) 0 0)))), (56, vB ((behTo s l i) ∨ ((sdZ s (l.getD i (T3.mk (0 : Rat) 0 0))) < (0 : Int))))] [.var b12 32 cs_11, .var b11 32 cs_9, .gs 32 9 s7_17 F1.length cs_18, .gs 32 9 s6_14 B1.length cs_15, .var b3 34 cs3] mc
   refine asg rfl rfl (asg rfl rfl (zD (zB (zC (zA (mv rfl rfl (mv rfl rfl (gv (ov_mul_i rfl rfl (by have := mul_range hsd36 hsd39; omega) (by have := mul_range hsd36 hsd39; omega)) rfl (gv (zW (q := 0) rfl rfl) rfl (zD (zB ?_)))))))))))
   refine zP rfl (fun hc65 => ?_) (fun hc65 => ?_)
   ·
    have hx1 : xP s l i := hc65
    refine zC (zA ?_)
    replace rb_10 := rb_10.mono (hh3.trans hmmc)
    refine xQ (F := fun v_ => (rpT (rpQ (k + 1))).Is mc v_ (l.getD i (T3.mk (0 : Rat) 0 0))) (zE xF (Pc.here _) rfl rfl rb_10 rfl) (yD (.tail _ (.head _))) rfl ?_
    intro v66 r66
    replace rb_12 := rb_12.mono (((hh1.trans hh2).trans hh3).trans hmmc)
    refine xQ (F := fun v_ => (rpT (rpQ (k + 1))).Is mc v_ (l.getD ((i + 1) % l.length) (T3.mk (0 : Rat) 0 0))) (zE xF (Pc.here _) rfl rfl rb_12 rfl) (yD (.head _)) rfl ?_
    intro v67 r67
    replace rb3 := rb3.mono (((hh1.trans hh2).trans hh3).trans hmmc)
    refine xQ (F := fun v_ => (rpP (rpT (rpQ n)) (rpQ m)).Is mc v_ s) (zE ty34 (Pc.here _) rfl rfl rb3 rfl) (yD (.tail _ (.tail _ (.tail _ (.tail _ (.head _)))))) rfl ?_
    intro v68 r68
    refine zM (vs := [_, _, _]) rfl rfl rfl rfl call49 e3z (fun w hs => o_r6_between hs r66 r67 r68 (by omega) (by omega) (by omega)) ?_
    intro v69 h4 hh4 r69
    change (rpT (rpQ (12 * (k + 1) + 3 * m + 9 * n + 50))).Is h4 v69 (btw s (l.getD i (T3.mk (0 : Rat) 0 0)) (l.getD ((i + 1) % l.length) (T3.mk (0 : Rat) 0 0))) at r69
    replace r69 := Rp.Is.le r69 (Le.t (Le.q (l := 12 * k + 3 * m + 9 * n + 62) (by omega)))
    refine zJ (yQ (ρ := (rpT (rpQ 1))) (X := (T3.mk (0 : Rat) 0 0)) yI rfl rfl (zr_t (xS (by decide)))) rfl rfl rfl ?_
    intro v15 q15 hq15
    obtain ⟨b15, cs15, rfl, rfl, rb15⟩ := hq15
    have rw_21 := (Le.t (Le.q (l := 12 * k + 3 * m + 9 * n + 62) (by omega))).R rb15
    refine xO (A := []) (F := fun c_ => (rpT (rpQ (12 * k + 3 * m + 9 * n + 62))).R h4 c_ (btw s (l.getD i (T3.mk (0 : Rat) 0 0)) (l.getD ((i + 1) % l.length) (T3.mk (0 : Rat) 0 0)))) (zX sizeOf32 (Pc.here _) rfl rfl rfl rw_21 r69 rfl) ?_
    intro cs_22 rb_23
    refine zD (zK (e' := [(0, _), (3, _), (6, _), (7, _), (10, _), (8, _), (9, _), (15, _)]) e8 (zB ?_))
    refine yG 10 [.var b15 32 cs_22, .var b12 32 cs_11, .var b11 32 cs_9, .var b3 34 cs3] [] [(0, .q), (1, .q), (4, .q), (5, .q), (2, .d 3 6), (7, .c), (8, .q), (9, .q)] xG nX (by kernel_rfl) nX (by intro r hr; simp only [List.mem_cons, List.mem_append, List.not_mem_nil, or_false] at hr ⊢ <;> grind) (w_q rfl (fun h' L' hh hR => zH rfl) rfl (yO (F := fun v_ => (rpT (rpQ (12 * k + 3 * m + 9 * n + 62))).Is h4 v_ (btw s (l.getD i (T3.mk (0 : Rat) 0 0)) (l.getD ((i + 1) % l.length) (T3.mk (0 : Rat) 0 0)))) rfl (zE xF (Pc.here _) rfl rfl rb_23 rfl) (yD (.head _)) rfl ?_))
    intro v71 r71
    refine w_q rfl (fun h' L' hh hR => zH rfl) rfl (yO (F := fun v_ => (rpT (rpQ (12 * k + 3 * m + 9 * n + 62))).Is h4 v_ (btw s (l.getD i (T3.mk (0 : Rat) 0 0)) (l.getD ((i + 1) % l.length) (T3.mk (0 : Rat) 0 0)))) rfl (zE xF (Pc.here _) rfl rfl rb_23 rfl) (yD (.head _)) rfl ?_)
    intro v75 r75
    refine w_d rfl rfl rfl ?_ ?_
    ·
     refine s_new (fun X => new_buildx (ρ := (rpT (rpQ (12 * k + 3 * m + 9 * n + 62)))) (m := 1) (xs := [btw s (l.getD i (T3.mk (0 : Rat) 0 0)) (l.getD ((i + 1) % l.length) (T3.mk (0 : Rat) 0 0))]) (ps' := [(0, _)]) underlying27 yI rfl rfl rfl (zr_t (xS (by omega))) e2z (yN rfl (Pc.arr (Pc.here _) (T3.mk (0 : Rat) 0 0) 0 (by decide)) r71 fx_nil) (show 1 * 9 ≤ 16777216 from by decide) p9N) rfl ?_
     intro v72 q72 hq72
     obtain ⟨cs72, rfl, rl72⟩ := hq72
     refine ⟨?_, ?_⟩
     ·
      refine s_freezex (A := []) (ρ := (rpT (rpQ (12 * k + 3 * m + 9 * n + 62)))) rl72 (drop_kept (by first | (simp; done) | grind)) ?_
      intro h5 hh5 rs_24
      replace rl_16 := rl_16.mono (hh4.trans hh5)
      refine s_rep (A := [_, _, _, _]) (fun X => rep_appendx (ρ := (rpT (rpQ (12 * k + 3 * m + 9 * n + 62)))) (bytes := 168) underlying27 yI rfl rfl rfl rfl p9N rfl rfl rl_16 rs_24 (by first | omega | (simp only [lAz, lC, lN, lR, lS]; omega)) (by first | omega | (simp only [lAz, lC, lN, lR, lS]; omega))) rfl (mem_kept (by first | (simp; done) | grind)) ?_
      intro v73 q73 hq73
      obtain ⟨cs73, rfl, rl73⟩ := hq73
      replace r75 := r75.mono hh5
      refine s_new (fun X => new_buildx (ρ := (rpT (rpQ (12 * k + 3 * m + 9 * n + 62)))) (m := 1) (xs := [btw s (l.getD i (T3.mk (0 : Rat) 0 0)) (l.getD ((i + 1) % l.length) (T3.mk (0 : Rat) 0 0))]) (ps' := [(0, _)]) underlying27 yI rfl rfl rfl (zr_t (xS (by omega))) e2z (yN rfl (Pc.arr (Pc.here _) (T3.mk (0 : Rat) 0 0) 0 (by decide)) r75 fx_nil) (show 1 * 9 ≤ 16777216 from by decide) p9N) rfl ?_
      intro v76 q76 hq76
      obtain ⟨cs76, rfl, rl76⟩ := hq76
      refine w_c rfl (s_freezex (A := []) (ρ := (rpT (rpQ (12 * k + 3 * m + 9 * n + 62)))) rl76 (drop_kept (by first | (simp; done) | grind)) ?_)
      intro h6 hh6 rs_25
      replace rl_19 := rl_19.mono ((hh4.trans hh5).trans hh6)
      refine s_rep (A := [_, _, _]) (fun X => rep_appendx (ρ := (rpT (rpQ (12 * k + 3 * m + 9 * n + 62)))) (bytes := 168) underlying27 yI rfl rfl rfl rfl p9N rfl rfl rl_19 rs_25 (by first | omega | (simp only [lAz, lC, lN, lR, lS]; omega)) (by first | omega | (simp only [lAz, lC, lN, lR, lS]; omega))) rfl (mem_kept (by first | (simp; done) | grind)) ?_
      intro v77 q77 hq77
      obtain ⟨cs77, rfl, rl77⟩ := hq77
      refine w_q rfl (fun h' L' hh hR => yK rfl) rfl (w_q rfl (fun h' L' hh hR => yK rfl) rfl (yZ (yY (zB (zA (mv rfl rfl (gv (zS (q := 1) rfl rfl (by omega) (by omega)) rfl (asg rfl rfl (zD (gq_drop (A := []) (gq_drop (A := []) (gq_drop (A := []) ?_))))))))))))
      refine yW ((i + 1), (B1 ++ [btw s (l.getD i (T3.mk (0 : Rat) 0 0)) (l.getD ((i + 1) % l.length) (T3.mk (0 : Rat) 0 0))]), (F1 ++ [btw s (l.getD i (T3.mk (0 : Rat) 0 0)) (l.getD ((i + 1) % l.length) (T3.mk (0 : Rat) 0 0))]), v73, cs73, v77, cs77, h6) ?_ ?_ e7 rfl rfl
      ·
       refine ⟨(((((((hmmb.trans hh1).trans hh2).trans hh3).trans hmmc).trans hh4).trans hh5).trans hh6), ?_⟩
       replace rl73 := rl73.mono hh6
       refine ⟨rl73, rl77, ?_⟩
       exact ⟨⟨by omega, (by first | exact bk_y hB1 hx1 | exact bk_z hB1 hx1)⟩, (by first | exact fr_y hF1 hx1 | exact fr_z hF1 hx1)⟩
      dsimp only
      omega
     refine s_new (fun X => new_buildx (ρ := (rpT (rpQ (12 * k + 3 * m + 9 * n + 62)))) (m := 1) (xs := [btw s (l.getD i (T3.mk (0 : Rat) 0 0)) (l.getD ((i + 1) % l.length) (T3.mk (0 : Rat) 0 0))]) (ps' := [(0, _)]) underlying27 yI rfl rfl rfl (zr_t (xS (by omega))) e2z (yN rfl (Pc.arr (Pc.here _) (T3.mk (0 : Rat) 0 0) 0 (by decide)) r75 fx_nil) (show 1 * 9 ≤ 16777216 from by decide) p9N) rfl ?_
     intro v76 q76 hq76
     obtain ⟨cs76, rfl, rl76⟩ := hq76
     refine s_freezex (A := [_]) (ρ := (rpT (rpQ (12 * k + 3 * m + 9 * n + 62)))) rl72 (drop_kept (by first | (simp; done) | grind)) ?_
     intro h5 hh5 rs_26
     replace rl_16 := rl_16.mono (hh4.trans hh5)
     refine s_rep (A := [_, _, _, _, _]) (fun X => rep_appendx (ρ := (rpT (rpQ (12 * k + 3 * m + 9 * n + 62)))) (bytes := 168) underlying27 yI rfl rfl rfl rfl p9N rfl rfl rl_16 rs_26 (by first | omega | (simp only [lAz, lC, lN, lR, lS]; omega)) (by first | omega | (simp only [lAz, lC, lN, lR, lS]; omega))) rfl (mem_kept (by first | (simp; done) | grind)) ?_
     intro v73 q73 hq73
     obtain ⟨cs73, rfl, rl73⟩ := hq73
     refine w_c rfl ?_
     replace rl76 := rl76.mono hh5
     refine s_freezex (A := []) (ρ := (rpT (rpQ (12 * k + 3 * m + 9 * n + 62)))) rl76 (drop_kept (by first | (simp; done) | grind)) ?_
     intro h6 hh6 rs_27
     replace rl_19 := rl_19.mono ((hh4.trans hh5).trans hh6)
     refine s_rep (A := [_, _, _]) (fun X => rep_appendx (ρ := (rpT (rpQ (12 * k + 3 * m + 9 * n + 62)))) (bytes := 168) underlying27 yI rfl rfl rfl rfl p9N rfl rfl rl_19 rs_27 (by first | omega | (simp only [lAz, lC, lN, lR, lS]; omega)) (by first | omega | (simp only [lAz, lC, lN, lR, lS]; omega))) rfl (mem_kept (by first | (simp; done) | grind)) ?_
     intro v77 q77 hq77
     obtain ⟨cs77, rfl, rl77⟩ := hq77
     refine w_q rfl (fun h' L' hh hR => yK rfl) rfl (w_q rfl (fun h' L' hh hR => yK rfl) rfl (yZ (yY (zB (zA (mv rfl rfl (gv (zS (q := 1) rfl rfl (by omega) (by omega)) rfl (asg rfl rfl (zD (gq_drop (A := []) (gq_drop (A := []) (gq_drop (A := []) ?_))))))))))))
     refine yW ((i + 1), (B1 ++ [btw s (l.getD i (T3.mk (0 : Rat) 0 0)) (l.getD ((i + 1) % l.length) (T3.mk (0 : Rat) 0 0))]), (F1 ++ [btw s (l.getD i (T3.mk (0 : Rat) 0 0)) (l.getD ((i + 1) % l.length) (T3.mk (0 : Rat) 0 0))]), v73, cs73, v77, cs77, h6) ?_ ?_ e7 rfl rfl
     ·
      refine ⟨(((((((hmmb.trans hh1).trans hh2).trans hh3).trans hmmc).trans hh4).trans hh5).trans hh6), ?_⟩
      replace rl73 := rl73.mono hh6
      refine ⟨rl73, rl77, ?_⟩
      exact ⟨⟨by omega, (by first | exact bk_y hB1 hx1 | exact bk_z hB1 hx1)⟩, (by first | exact fr_y hF1 hx1 | exact fr_z hF1 hx1)⟩
     dsimp only
     omega
    refine s_new (fun X => new_buildx (ρ := (rpT (rpQ (12 * k + 3 * m + 9 * n + 62)))) (m := 1) (xs := [btw s (l.getD i (T3.mk (0 : Rat) 0 0)) (l.getD ((i + 1) % l.length) (T3.mk (0 : Rat) 0 0))]) (ps' := [(0, _)]) underlying27 yI rfl rfl rfl (zr_t (xS (by omega))) e2z (yN rfl (Pc.arr (Pc.here _) (T3.mk (0 : Rat) 0 0) 0 (by decide)) r75 fx_nil) (show 1 * 9 ≤ 16777216 from by decide) p9N) rfl ?_
    intro v76 q76 hq76
    obtain ⟨cs76, rfl, rl76⟩ := hq76
    refine s_new (fun X => new_buildx (ρ := (rpT (rpQ (12 * k + 3 * m + 9 * n + 62)))) (m := 1) (xs := [btw s (l.getD i (T3.mk (0 : Rat) 0 0)) (l.getD ((i + 1) % l.length) (T3.mk (0 : Rat) 0 0))]) (ps' := [(0, _)]) underlying27 yI rfl rfl rfl (zr_t (xS (by omega))) e2z (yN rfl (Pc.arr (Pc.here _) (T3.mk (0 : Rat) 0 0) 0 (by decide)) r71 fx_nil) (show 1 * 9 ≤ 16777216 from by decide) p9N) rfl ?_
    intro v72 q72 hq72
    obtain ⟨cs72, rfl, rl72⟩ := hq72
    refine s_freezex (A := []) (ρ := (rpT (rpQ (12 * k + 3 * m + 9 * n + 62)))) rl72 (drop_kept (by first | (simp; done) | grind)) ?_
    intro h5 hh5 rs_28
    replace rl_16 := rl_16.mono (hh4.trans hh5)
    refine s_rep (A := [_, _, _, _, _]) (fun X => rep_appendx (ρ := (rpT (rpQ (12 * k + 3 * m + 9 * n + 62)))) (bytes := 168) underlying27 yI rfl rfl rfl rfl p9N rfl rfl rl_16 rs_28 (by first | omega | (simp only [lAz, lC, lN, lR, lS]; omega)) (by first | omega | (simp only [lAz, lC, lN, lR, lS]; omega))) rfl (mem_kept (by first | (simp; done) | grind)) ?_
    intro v73 q73 hq73
    obtain ⟨cs73, rfl, rl73⟩ := hq73
    refine w_c rfl ?_
    replace rl76 := rl76.mono hh5
    refine s_freezex (A := []) (ρ := (rpT (rpQ (12 * k + 3 * m + 9 * n + 62)))) rl76 (drop_kept (by first | (simp; done) | grind)) ?_
    intro h6 hh6 rs_29
    replace rl_19 := rl_19.mono ((hh4.trans hh5).trans hh6)
    refine s_rep (A := [_, _, _]) (fun X => rep_appendx (ρ := (rpT (rpQ (12 * k + 3 * m + 9 * n + 62)))) (bytes := 168) underlying27 yI rfl rfl rfl rfl p9N rfl rfl rl_19 rs_29 (by first | omega | (simp only [lAz, lC, lN, lR, lS]; omega)) (by first | omega | (simp only [lAz, lC, lN, lR, lS]; omega))) rfl (mem_kept (by first | (simp; done) | grind)) ?_
    intro v77 q77 hq77
    obtain ⟨cs77, rfl, rl77⟩ := hq77
    refine w_q rfl (fun h' L' hh hR => yK rfl) rfl (w_q rfl (fun h' L' hh hR => yK rfl) rfl (yZ (yY (zB (zA (mv rfl rfl (gv (zS (q := 1) rfl rfl (by omega) (by omega)) rfl (asg rfl rfl (zD (gq_drop (A := []) (gq_drop (A := []) (gq_drop (A := []) ?_))))))))))))
    refine yW ((i + 1), (B1 ++ [btw s (l.getD i (T3.mk (0 : Rat) 0 0)) (l.getD ((i + 1) % l.length) (T3.mk (0 : Rat) 0 0))]), (F1 ++ [btw s (l.getD i (T3.mk (0 : Rat) 0 0)) (l.getD ((i + 1) % l.length) (T3.mk (0 : Rat) 0 0))]), v73, cs73, v77, cs77, h6) ?_ ?_ e7 rfl rfl
    ·
     refine ⟨(((((((hmmb.trans hh1).trans hh2).trans hh3).trans hmmc).trans hh4).trans hh5).trans hh6), ?_⟩
     replace rl73 := rl73.mono hh6
     refine ⟨rl73, rl77, ?_⟩
     exact ⟨⟨by omega, (by first | exact bk_y hB1 hx1 | exact bk_z hB1 hx1)⟩, (by first | exact fr_y hF1 hx1 | exact fr_z hF1 hx1)⟩
    dsimp only
    omega
   have hx1 : ¬ xP s l i := hc65
   refine gc_keep (e' := [(0, _), (3, _), (6, _), (7, _), (10, _), (8, _), (9, _)]) e7 (zL (yY (zB (zA (mv rfl rfl (gv (zS (q := 1) rfl rfl (by omega) (by omega)) rfl (asg rfl rfl (zD (gq_drop (A := []) (gq_drop (A := []) ?_))))))))))
   refine yW ((i + 1), B1, F1, s6_14, cs_15, s7_17, cs_18, mc) ?_ ?_ e7 rfl rfl
   ·
    refine ⟨((((hmmb.trans hh1).trans hh2).trans hh3).trans hmmc), ?_⟩
    refine ⟨rl_16, rl_19, ?_⟩
    exact ⟨⟨by omega, (by first | exact bk_y hB1 hx1 | exact bk_z hB1 hx1)⟩, (by first | exact fr_y hF1 hx1 | exact fr_z hF1 hx1)⟩
   dsimp only
   omega
  have hp1 : ¬ sdZ s (gp l i) ≤ 0 := hc41
  refine zL (zB ?_)
  refine gc_cut (ι := List (T3 Rat) × List (T3 Rat) × Value × List Value × Value × List Value × Mem) (fun (B1, F1, s6_30, cs_31, s7_33, cs_34, mc) => MLe h2 mc ∧ (RL (rpT (rpQ (12 * k + 3 * m + 9 * n + 62))) mc cs_31 B1 ∧ RL (rpT (rpQ (12 * k + 3 * m + 9 * n + 62))) mc cs_34 F1 ∧ B1 = bkH s l i ∧ F1 = frH s l i)) (fun (B1, F1, s6_30, cs_31, s7_33, cs_34, mc) => [(0, vl), (3, vP b3 0), (6, s6_30), (7, s7_33), (8, vB (behTo s l i)), (9, vB (aheTo s l i)), (10, vI ↑i), (11, vP b11 0), (12, vP b12 0), (13, vI (sdZ s (l.getD i (T3.mk (0 : Rat) 0 0)))), (14, vI (sdZ s (l.getD ((i + 1) % l.length) (T3.mk (0 : Rat) 0 0))))]) (fun (B1, F1, s6_30, cs_31, s7_33, cs_34, mc) => [.var b12 32 cs_11, .var b11 32 cs_9, .gs 32 9 s7_33 F1.length cs_34, .gs 32 9 s6_30 B1.length cs_31, .var b3 34 cs3]) (fun (B1, F1, s6_30, cs_31, s7_33, cs_34, mc) => mc) ?_ ?_
  ·
   refine zC (zA (mv rfl rfl (gv (ov_geq_i (q := 0) rfl rfl) rfl (zD (zB ?_)))))
   refine zP rfl (fun hc47 => ?_) (fun hc47 => ?_)
   ·
    have hp2 : 0 ≤ sdZ s (gp l i) := hc47
    refine gc_keep (e' := [(0, _), (3, _), (6, _), (7, _), (8, _), (9, _), (10, _), (11, _), (12, _), (13, _), (14, _)]) e11 (zA (mv rfl rfl ?_))
    replace rb_10 := rb_10.mono (hh1.trans hh2)
    refine xQ (F := fun v_ => (rpT (rpQ (k + 1))).Is h2 v_ (l.getD i (T3.mk (0 : Rat) 0 0))) (zE xF (Pc.here _) rfl rfl rb_10 rfl) (yD (.tail _ (.head _))) rfl ?_
    intro v49 r49
    refine zJ (new_buildx (ρ := (rpT (rpQ (k + 1)))) (m := 1) (xs := [(l.getD i (T3.mk (0 : Rat) 0 0))]) (ps' := [(0, _)]) underlying27 yI rfl rfl rfl (zr_t (xS (by omega))) e2z (yN rfl (Pc.arr (Pc.here _) (T3.mk (0 : Rat) 0 0) 0 (by decide)) r49 fx_nil) (show 1 * 9 ≤ 16777216 from by decide) p9N) rfl rfl rfl ?_
    intro v50 q50 hq50
    obtain ⟨cs50, rfl, rl50⟩ := hq50
    refine gl_freezex (A := []) (ρ := (rpT (rpQ (k + 1)))) rl50 ?_
    intro h3 hh3 rs_36
    replace rl_8 := rl_8.mono ((hh1.trans hh2).trans hh3)
    refine gl_repop (A := [_, _]) (rep_appendx (ρ := (rpT (rpQ (12 * k + 3 * m + 9 * n + 62)))) (bytes := 168) underlying27 yI rfl rfl rfl rfl p9N rfl rfl rl_8 (rs_36.le (Le.s (Le.t (Le.q (l := 12 * k + 3 * m + 9 * n + 62) (by omega))))) (by first | omega | (simp only [lAz, lC, lN, lR, lS]; omega)) (by first | omega | (simp only [lAz, lC, lN, lR, lS]; omega))) rfl rfl rfl ?_
    intro v51 q51 hq51
    obtain ⟨cs51, rfl, rl51⟩ := hq51
    refine asg rfl rfl (zD ?_)
    refine yR (B, (F ++ [(l.getD i (T3.mk (0 : Rat) 0 0))]), s6_3, cs_4, v51, cs51, h3) ?_ e11 rfl rfl
    refine ⟨hh3, ?_⟩
    replace rl_5 := rl_5.mono ((hh1.trans hh2).trans hh3)
    refine ⟨rl_5, rl51, ?_⟩
    exact ⟨by first | exact bk_h1 hB hp1 | exact bk_h0 hB hp1, by first | exact fr_h1 hF hp2 | exact fr_h0 hF hp2⟩
   have hp2 : ¬ 0 ≤ sdZ s (gp l i) := hc47
   refine gc_keep (e' := [(0, _), (3, _), (6, _), (7, _), (8, _), (9, _), (10, _), (11, _), (12, _), (13, _), (14, _)]) e11 (zL ?_)
   refine yR (B, F, s6_3, cs_4, s7_6, cs_7, h2) ?_ e11 rfl rfl
   refine ⟨MLe.refl _, ?_⟩
   replace rl_5 := rl_5.mono (hh1.trans hh2)
   replace rl_8 := rl_8.mono (hh1.trans hh2)
   refine ⟨rl_5, rl_8, ?_⟩
   exact ⟨by first | exact bk_h1 hB hp1 | exact bk_h0 hB hp1, by first | exact fr_h1 hF hp2 | exact fr_h0 hF hp2⟩
  intro x hx
  obtain ⟨B1, F1, s6_30, cs_31, s7_33, cs_34, mc⟩ := x
  obtain ⟨hmmc, hcut⟩ := hx
  show GC _ _ _ _ _ _ [(0, vl), (3, vP b3 0), (6, s6_30), (7, s7_33), (8, vB (behTo s l i)), (9, vB (aheTo s l i)), (10, vI ↑i), (11, vP b11 0), (12, vP b12 0), (13, vI (sdZ s (l.getD i (T3.mk (0 : Rat) 0 0)))), (14, vI (sdZ s (l.getD ((i + 1) % l.length) (T3.mk (0 : Rat) 0 0))))] [.var b12 32 cs_11, .var b11 32 cs_9, .gs 32 9 s7_33 F1.length cs_34, .gs 32 9 s6_30 B1.length cs_31, .var b3 34 cs3] mc
  obtain ⟨rl_32, rl_35, hcut⟩ := hcut
  obtain ⟨hB1, hF1⟩ := hcut
  have hBl1 : B1.length ≤ 2 * i + 1 := by rw [hB1]; exact bkh_len s l i
  have hFl1 : F1.length ≤ 2 * i + 1 := by rw [hF1]; exact frh_len s l i
  refine zC (zA (mv rfl rfl ?_))
  refine gl_cut (ι := Unit) 4 (fun _ => True) (fun _ => [(56, vB ((behTo s l i) ∨ ((sdZ s (l.getD i (T3.mk (0 : Rat) 0 0))) < (0 : Int)))), (0, vl), (3, vP b3 0), (6, s6_30), (7, s7_33), (9, vB (aheTo s l i)), (10, vI ↑i), (11, vP b11 0), (12, vP b12 0), (13, vI (sdZ s (l.getD i (T3.mk (0 : Rat) 0 0)))), (14, vI (sdZ s (l.getD ((i + 1) % l.length) (T3.mk (0 : Rat) 0 0))))]) (fun _ => [.var b12 32 cs_11, .var b11 32 cs_9, .gs 32 9 s7_33 F1.length cs_34, .gs 32 9 s6_30 B1.length cs_31, .var b3 34 cs3]) (fun _ => mc) ?_ ?_
  ·
   refine gl_cases (behTo s l i) (fun hg => ?_) (fun hg => ?_)
   ·
    refine gl_val (zH (v := .bool true) (congrArg some (vB_true hg))) rfl rfl rfl (yM rfl rfl rfl rfl rfl rfl (yM rfl rfl rfl rfl rfl rfl (gv (xU rfl rfl) rfl (zD ?_))))
    refine yR () trivial ⟨?_, rfl, rfl, rfl, rfl, rfl, rfl, rfl, rfl, rfl, rfl, trivial⟩ rfl rfl
    exact congrArg some (vB_or_t hg)
   refine gl_val (zH (v := .bool false) (congrArg some (xD hg))) rfl rfl rfl (yX rfl rfl rfl (mv rfl rfl (yX rfl rfl rfl (gv (zW (q := 0) rfl rfl) rfl (gv (ov_pick_f rfl rfl) rfl (zD ?_))))))
   refine yR () trivial ⟨?_, rfl, rfl, rfl, rfl, rfl, rfl, rfl, rfl, rfl, rfl, trivial⟩ rfl rfl
   exact congrArg some (vB_or_f hg)
  intro _ _
  show GL _ _ _ _ _ _ _ [(56, vB ((behTo s l i) ∨ ((sdZ s (l.getD i (T3.mk (0 : Rat) 0 0))) < (0 : Int)))), (0, vl), (3, vP b3 0), (6, s6_30), (7, s7_33), (9, vB (aheTo s l i)), (10, vI ↑i), (11, vP b11 0), (12, vP b12 0), (13, vI (sdZ s (l.getD i (T3.mk (0 : Rat) 0 0)))), (14, vI (sdZ s (l.getD ((i + 1) % l.length) (T3.mk (0 : Rat) 0 0))))] [.var b12 32 cs_11, .var b11 32 cs_9, .gs 32 9 s7_33 F1.length cs_34, .gs 32 9 s6_30 B1.length cs_31, .var b3 34 cs3] mc
  refine mv rfl rfl ?_
  refine gl_cut (ι := Unit) 4 (fun _ => True) (fun _ => [(61, vB ((aheTo s l i) ∨ ((0 : Int) < (sdZ s (l.getD i (T3.mk (0 : Rat) 0 0)))))), (0, vl), (3, vP b3 0), (6, s6_30), (7, s7_33), (10, vI ↑i), (11, vP b11 0), (12, vP b12 0), (13, vI (sdZ s (l.getD i (T3.mk (0 : Rat) 0 0)))), (14, vI (sdZ s (l.getD ((i + 1) % l.length) (T3.mk (0 : Rat) 0 0)))), (56, vB ((behTo s l i) ∨ ((sdZ s (l.getD i (T3.mk (0 : Rat) 0 0))) < (0 : Int))))]) (fun _ => [.var b12 32 cs_11, .var b11 32 cs_9, .gs 32 9 s7_33 F1.length cs_34, .gs 32 9 s6_30 B1.length cs_31, .var b3 34 cs3]) (fun _ => mc) ?_ ?_
  ·
   refine gl_cases (aheTo s l i) (fun hg => ?_) (fun hg => ?_)
   ·
    refine gl_val (zH (v := .bool true) (congrArg some (vB_true hg))) rfl rfl rfl (yM rfl rfl rfl rfl rfl rfl (yM rfl rfl rfl rfl rfl rfl (gv (xU rfl rfl) rfl (zD ?_))))
    refine yR () trivial ⟨?_, rfl, rfl, rfl, rfl, rfl, rfl, rfl, rfl, rfl, rfl, trivial⟩ rfl rfl
    exact congrArg some (vB_or_t hg)
   refine gl_val (zH (v := .bool false) (congrArg some (xD hg))) rfl rfl rfl (yX rfl rfl rfl (mv rfl rfl (yX rfl rfl rfl (gv (ov_gtr_i (q := 0) rfl rfl) rfl (gv (ov_pick_f rfl rfl) rfl (zD ?_))))))
   refine yR () trivial ⟨?_, rfl, rfl, rfl, rfl, rfl, rfl, rfl, rfl, rfl, rfl, trivial⟩ rfl rfl
   exact congrArg some (vB_or_f hg)
  intro _ _
  show GL _ _ _ _ _ _ _ [(61, vB ((aheTo s l i) ∨ ((0 : Int) < (sdZ s (l.getD i (T3.mk (0 : Rat) 0 0)))))), (0, vl), (3, vP b3 0), (6, s6_30), (7, s7_33), (10, vI ↑i), (11, vP b11 0), (12, vP b12 0), (13, vI (sdZ s (l.getD i (T3.mk (0 : Rat) 0 0)))), (14, vI (sdZ s (l.getD ((i + 1) % l.length) (T3.mk (0 : Rat) 0 0)))), (56, vB ((behTo s l i) ∨ ((sdZ s (l.getD i (T3.mk (0 : Rat) 0 0))) < (0 : Int))))] [.var b12 32 cs_11, .var b11 32 cs_9, .gs 32 9 s7_33 F1.length cs_34, .gs 32 9 s6_30 B1.length cs_31, .var b3 34 cs3] mc
  refine asg rfl rfl (asg rfl rfl (zD (zB (zC (zA (mv rfl rfl (mv rfl rfl (gv (ov_mul_i rfl rfl (by have := mul_range hsd36 hsd39; omega) (by have := mul_range hsd36 hsd39; omega)) rfl (gv (zW (q := 0) rfl rfl) rfl (zD (zB ?_)))))))))))
  refine zP rfl (fun hc65 => ?_) (fun hc65 => ?_)
  ·
   have hx1 : xP s l i := hc65
   refine zC (zA ?_)
   replace rb_10 := rb_10.mono ((hh1.trans hh2).trans hmmc)
   refine xQ (F := fun v_ => (rpT (rpQ (k + 1))).Is mc v_ (l.getD i (T3.mk (0 : Rat) 0 0))) (zE xF (Pc.here _) rfl rfl rb_10 rfl) (yD (.tail _ (.head _))) rfl ?_
   intro v66 r66
   replace rb_12 := rb_12.mono ((hh1.trans hh2).trans hmmc)
   refine xQ (F := fun v_ => (rpT (rpQ (k + 1))).Is mc v_ (l.getD ((i + 1) % l.length) (T3.mk (0 : Rat) 0 0))) (zE xF (Pc.here _) rfl rfl rb_12 rfl) (yD (.head _)) rfl ?_
   intro v67 r67
   replace rb3 := rb3.mono ((hh1.trans hh2).trans hmmc)
   refine xQ (F := fun v_ => (rpP (rpT (rpQ n)) (rpQ m)).Is mc v_ s) (zE ty34 (Pc.here _) rfl rfl rb3 rfl) (yD (.tail _ (.tail _ (.tail _ (.tail _ (.head _)))))) rfl ?_
   intro v68 r68
   refine zM (vs := [_, _, _]) rfl rfl rfl rfl call49 e3z (fun w hs => o_r6_between hs r66 r67 r68 (by omega) (by omega) (by omega)) ?_
   intro v69 h3 hh3 r69
   change (rpT (rpQ (12 * (k + 1) + 3 * m + 9 * n + 50))).Is h3 v69 (btw s (l.getD i (T3.mk (0 : Rat) 0 0)) (l.getD ((i + 1) % l.length) (T3.mk (0 : Rat) 0 0))) at r69
   replace r69 := Rp.Is.le r69 (Le.t (Le.q (l := 12 * k + 3 * m + 9 * n + 62) (by omega)))
   refine zJ (yQ (ρ := (rpT (rpQ 1))) (X := (T3.mk (0 : Rat) 0 0)) yI rfl rfl (zr_t (xS (by decide)))) rfl rfl rfl ?_
   intro v15 q15 hq15
   obtain ⟨b15, cs15, rfl, rfl, rb15⟩ := hq15
   have rw_37 := (Le.t (Le.q (l := 12 * k + 3 * m + 9 * n + 62) (by omega))).R rb15
   refine xO (A := []) (F := fun c_ => (rpT (rpQ (12 * k + 3 * m + 9 * n + 62))).R h3 c_ (btw s (l.getD i (T3.mk (0 : Rat) 0 0)) (l.getD ((i + 1) % l.length) (T3.mk (0 : Rat) 0 0)))) (zX sizeOf32 (Pc.here _) rfl rfl rfl rw_37 r69 rfl) ?_
   intro cs_38 rb_39
   refine zD (zK (e' := [(0, _), (3, _), (6, _), (7, _), (10, _), (8, _), (9, _), (15, _)]) e8 (zB ?_))
   refine yG 10 [.var b15 32 cs_38, .var b12 32 cs_11, .var b11 32 cs_9, .var b3 34 cs3] [] [(0, .q), (1, .q), (4, .q), (5, .q), (2, .d 3 6), (7, .c), (8, .q), (9, .q)] xG nX (by kernel_rfl) nX (by intro r hr; simp only [List.mem_cons, List.mem_append, List.not_mem_nil, or_false] at hr ⊢ <;> grind) (w_q rfl (fun h' L' hh hR => zH rfl) rfl (yO (F := fun v_ => (rpT (rpQ (12 * k + 3 * m + 9 * n + 62))).Is h3 v_ (btw s (l.getD i (T3.mk (0 : Rat) 0 0)) (l.getD ((i + 1) % l.length) (T3.mk (0 : Rat) 0 0)))) rfl (zE xF (Pc.here _) rfl rfl rb_39 rfl) (yD (.head _)) rfl ?_))
   intro v71 r71
   refine w_q rfl (fun h' L' hh hR => zH rfl) rfl (yO (F := fun v_ => (rpT (rpQ (12 * k + 3 * m + 9 * n + 62))).Is h3 v_ (btw s (l.getD i (T3.mk (0 : Rat) 0 0)) (l.getD ((i + 1) % l.length) (T3.mk (0 : Rat) 0 0)))) rfl (zE xF (Pc.here _) rfl rfl rb_39 rfl) (yD (.head _)) rfl ?_)
   intro v75 r75
   refine w_d rfl rfl rfl ?_ ?_
   ·
    refine s_new (fun X => new_buildx (ρ := (rpT (rpQ (12 * k + 3 * m + 9 * n + 62)))) (m := 1) (xs := [btw s (l.getD i (T3.mk (0 : Rat) 0 0)) (l.getD ((i + 1) % l.length) (T3.mk (0 : Rat) 0 0))]) (ps' := [(0, _)]) underlying27 yI rfl rfl rfl (zr_t (xS (by omega))) e2z (yN rfl (Pc.arr (Pc.here _) (T3.mk (0 : Rat) 0 0) 0 (by decide)) r71 fx_nil) (show 1 * 9 ≤ 16777216 from by decide) p9N) rfl ?_
    intro v72 q72 hq72
    obtain ⟨cs72, rfl, rl72⟩ := hq72
    refine ⟨?_, ?_⟩
    ·
     refine s_freezex (A := []) (ρ := (rpT (rpQ (12 * k + 3 * m + 9 * n + 62)))) rl72 (drop_kept (by first | (simp; done) | grind)) ?_
     intro h4 hh4 rs_40
     replace rl_32 := rl_32.mono (hh3.trans hh4)
     refine s_rep (A := [_, _, _, _]) (fun X => rep_appendx (ρ := (rpT (rpQ (12 * k + 3 * m + 9 * n + 62)))) (bytes := 168) underlying27 yI rfl rfl rfl rfl p9N rfl rfl rl_32 rs_40 (by first | omega | (simp only [lAz, lC, lN, lR, lS]; omega)) (by first | omega | (simp only [lAz, lC, lN, lR, lS]; omega))) rfl (mem_kept (by first | (simp; done) | grind)) ?_
     intro v73 q73 hq73
     obtain ⟨cs73, rfl, rl73⟩ := hq73
     replace r75 := r75.mono hh4
     refine s_new (fun X => new_buildx (ρ := (rpT (rpQ (12 * k + 3 * m + 9 * n + 62)))) (m := 1) (xs := [btw s (l.getD i (T3.mk (0 : Rat) 0 0)) (l.getD ((i + 1) % l.length) (T3.mk (0 : Rat) 0 0))]) (ps' := [(0, _)]) underlying27 yI rfl rfl rfl (zr_t (xS (by omega))) e2z (yN rfl (Pc.arr (Pc.here _) (T3.mk (0 : Rat) 0 0) 0 (by decide)) r75 fx_nil) (show 1 * 9 ≤ 16777216 from by decide) p9N) rfl ?_
     intro v76 q76 hq76
     obtain ⟨cs76, rfl, rl76⟩ := hq76
     refine w_c rfl (s_freezex (A := []) (ρ := (rpT (rpQ (12 * k + 3 * m + 9 * n + 62)))) rl76 (drop_kept (by first | (simp; done) | grind)) ?_)
     intro h5 hh5 rs_41
     replace rl_35 := rl_35.mono ((hh3.trans hh4).trans hh5)
     refine s_rep (A := [_, _, _]) (fun X => rep_appendx (ρ := (rpT (rpQ (12 * k + 3 * m + 9 * n + 62)))) (bytes := 168) underlying27 yI rfl rfl rfl rfl p9N rfl rfl rl_35 rs_41 (by first | omega | (simp only [lAz, lC, lN, lR, lS]; omega)) (by first | omega | (simp only [lAz, lC, lN, lR, lS]; omega))) rfl (mem_kept (by first | (simp; done) | grind)) ?_
     intro v77 q77 hq77
     obtain ⟨cs77, rfl, rl77⟩ := hq77
     refine w_q rfl (fun h' L' hh hR => yK rfl) rfl (w_q rfl (fun h' L' hh hR => yK rfl) rfl (yZ (yY (zB (zA (mv rfl rfl (gv (zS (q := 1) rfl rfl (by omega) (by omega)) rfl (asg rfl rfl (zD (gq_drop (A := []) (gq_drop (A := []) (gq_drop (A := []) ?_))))))))))))
     refine yW ((i + 1), (B1 ++ [btw s (l.getD i (T3.mk (0 : Rat) 0 0)) (l.getD ((i + 1) % l.length) (T3.mk (0 : Rat) 0 0))]), (F1 ++ [btw s (l.getD i (T3.mk (0 : Rat) 0 0)) (l.getD ((i + 1) % l.length) (T3.mk (0 : Rat) 0 0))]), v73, cs73, v77, cs77, h5) ?_ ?_ e7 rfl rfl
     ·
      refine ⟨((((((hmmb.trans hh1).trans hh2).trans hmmc).trans hh3).trans hh4).trans hh5), ?_⟩
      replace rl73 := rl73.mono hh5
      refine ⟨rl73, rl77, ?_⟩
      exact ⟨⟨by omega, (by first | exact bk_y hB1 hx1 | exact bk_z hB1 hx1)⟩, (by first | exact fr_y hF1 hx1 | exact fr_z hF1 hx1)⟩
     dsimp only
     omega
    refine s_new (fun X => new_buildx (ρ := (rpT (rpQ (12 * k + 3 * m + 9 * n + 62)))) (m := 1) (xs := [btw s (l.getD i (T3.mk (0 : Rat) 0 0)) (l.getD ((i + 1) % l.length) (T3.mk (0 : Rat) 0 0))]) (ps' := [(0, _)]) underlying27 yI rfl rfl rfl (zr_t (xS (by omega))) e2z (yN rfl (Pc.arr (Pc.here _) (T3.mk (0 : Rat) 0 0) 0 (by decide)) r75 fx_nil) (show 1 * 9 ≤ 16777216 from by decide) p9N) rfl ?_
    intro v76 q76 hq76
    obtain ⟨cs76, rfl, rl76⟩ := hq76
    refine s_freezex (A := [_]) (ρ := (rpT (rpQ (12 * k + 3 * m + 9 * n + 62)))) rl72 (drop_kept (by first | (simp; done) | grind)) ?_
    intro h4 hh4 rs_42
    replace rl_32 := rl_32.mono (hh3.trans hh4)
    refine s_rep (A := [_, _, _, _, _]) (fun X => rep_appendx (ρ := (rpT (rpQ (12 * k + 3 * m + 9 * n + 62)))) (bytes := 168) underlying27 yI rfl rfl rfl rfl p9N rfl rfl rl_32 rs_42 (by first | omega | (simp only [lAz, lC, lN, lR, lS]; omega)) (by first | omega | (simp only [lAz, lC, lN, lR, lS]; omega))) rfl (mem_kept (by first | (simp; done) | grind)) ?_
    intro v73 q73 hq73
    obtain ⟨cs73, rfl, rl73⟩ := hq73
    refine w_c rfl ?_
    replace rl76 := rl76.mono hh4
    refine s_freezex (A := []) (ρ := (rpT (rpQ (12 * k + 3 * m + 9 * n + 62)))) rl76 (drop_kept (by first | (simp; done) | grind)) ?_
    intro h5 hh5 rs_43
    replace rl_35 := rl_35.mono ((hh3.trans hh4).trans hh5)
    refine s_rep (A := [_, _, _]) (fun X => rep_appendx (ρ := (rpT (rpQ (12 * k + 3 * m + 9 * n + 62)))) (bytes := 168) underlying27 yI rfl rfl rfl rfl p9N rfl rfl rl_35 rs_43 (by first | omega | (simp only [lAz, lC, lN, lR, lS]; omega)) (by first | omega | (simp only [lAz, lC, lN, lR, lS]; omega))) rfl (mem_kept (by first | (simp; done) | grind)) ?_
    intro v77 q77 hq77
    obtain ⟨cs77, rfl, rl77⟩ := hq77
    refine w_q rfl (fun h' L' hh hR => yK rfl) rfl (w_q rfl (fun h' L' hh hR => yK rfl) rfl (yZ (yY (zB (zA (mv rfl rfl (gv (zS (q := 1) rfl rfl (by omega) (by omega)) rfl (asg rfl rfl (zD (gq_drop (A := []) (gq_drop (A := []) (gq_drop (A := []) ?_))))))))))))
    refine yW ((i + 1), (B1 ++ [btw s (l.getD i (T3.mk (0 : Rat) 0 0)) (l.getD ((i + 1) % l.length) (T3.mk (0 : Rat) 0 0))]), (F1 ++ [btw s (l.getD i (T3.mk (0 : Rat) 0 0)) (l.getD ((i + 1) % l.length) (T3.mk (0 : Rat) 0 0))]), v73, cs73, v77, cs77, h5) ?_ ?_ e7 rfl rfl
    ·
     refine ⟨((((((hmmb.trans hh1).trans hh2).trans hmmc).trans hh3).trans hh4).trans hh5), ?_⟩
     replace rl73 := rl73.mono hh5
     refine ⟨rl73, rl77, ?_⟩
     exact ⟨⟨by omega, (by first | exact bk_y hB1 hx1 | exact bk_z hB1 hx1)⟩, (by first | exact fr_y hF1 hx1 | exact fr_z hF1 hx1)⟩
    dsimp only
    omega
   refine s_new (fun X => new_buildx (ρ := (rpT (rpQ (12 * k + 3 * m + 9 * n + 62)))) (m := 1) (xs := [btw s (l.getD i (T3.mk (0 : Rat) 0 0)) (l.getD ((i + 1) % l.length) (T3.mk (0 : Rat) 0 0))]) (ps' := [(0, _)]) underlying27 yI rfl rfl rfl (zr_t (xS (by omega))) e2z (yN rfl (Pc.arr (Pc.here _) (T3.mk (0 : Rat) 0 0) 0 (by decide)) r75 fx_nil) (show 1 * 9 ≤ 16777216 from by decide) p9N) rfl ?_
   intro v76 q76 hq76
   obtain ⟨cs76, rfl, rl76⟩ := hq76
   refine s_new (fun X => new_buildx (ρ := (rpT (rpQ (12 * k + 3 * m + 9 * n + 62)))) (m := 1) (xs := [btw s (l.getD i (T3.mk (0 : Rat) 0 0)) (l.getD ((i + 1) % l.length) (T3.mk (0 : Rat) 0 0))]) (ps' := [(0, _)]) underlying27 yI rfl rfl rfl (zr_t (xS (by omega))) e2z (yN rfl (Pc.arr (Pc.here _) (T3.mk (0 : Rat) 0 0) 0 (by decide)) r71 fx_nil) (show 1 * 9 ≤ 16777216 from by decide) p9N) rfl ?_
   intro v72 q72 hq72
   obtain ⟨cs72, rfl, rl72⟩ := hq72
   refine s_freezex (A := []) (ρ := (rpT (rpQ (12 * k + 3 * m + 9 * n + 62)))) rl72 (drop_kept (by first | (simp; done) | grind)) ?_
   intro h4 hh4 rs_44
   replace rl_32 := rl_32.mono (hh3.trans hh4)
   refine s_rep (A := [_, _, _, _, _]) (fun X => rep_appendx (ρ := (rpT (rpQ (12 * k + 3 * m + 9 * n + 62)))) (bytes := 168) underlying27 yI rfl rfl rfl rfl p9N rfl rfl rl_32 rs_44 (by first | omega | (simp only [lAz, lC, lN, lR, lS]; omega)) (by first | omega | (simp only [lAz, lC, lN, lR, lS]; omega))) rfl (mem_kept (by first | (simp; done) | grind)) ?_
   intro v73 q73 hq73
   obtain ⟨cs73, rfl, rl73⟩ := hq73
   refine w_c rfl ?_
   replace rl76 := rl76.mono hh4
   refine s_freezex (A := []) (ρ := (rpT (rpQ (12 * k + 3 * m + 9 * n + 62)))) rl76 (drop_kept (by first | (simp; done) | grind)) ?_
   intro h5 hh5 rs_45
   replace rl_35 := rl_35.mono ((hh3.trans hh4).trans hh5)
   refine s_rep (A := [_, _, _]) (fun X => rep_appendx (ρ := (rpT (rpQ (12 * k + 3 * m + 9 * n + 62)))) (bytes := 168) underlying27 yI rfl rfl rfl rfl p9N rfl rfl rl_35 rs_45 (by first | omega | (simp only [lAz, lC, lN, lR, lS]; omega)) (by first | omega | (simp only [lAz, lC, lN, lR, lS]; omega))) rfl (mem_kept (by first | (simp; done) | grind)) ?_
   intro v77 q77 hq77
   obtain ⟨cs77, rfl, rl77⟩ := hq77
   refine w_q rfl (fun h' L' hh hR => yK rfl) rfl (w_q rfl (fun h' L' hh hR => yK rfl) rfl (yZ (yY (zB (zA (mv rfl rfl (gv (zS (q := 1) rfl rfl (by omega) (by omega)) rfl (asg rfl rfl (zD (gq_drop (A := []) (gq_drop (A := []) (gq_drop (A := []) ?_))))))))))))
   refine yW ((i + 1), (B1 ++ [btw s (l.getD i (T3.mk (0 : Rat) 0 0)) (l.getD ((i + 1) % l.length) (T3.mk (0 : Rat) 0 0))]), (F1 ++ [btw s (l.getD i (T3.mk (0 : Rat) 0 0)) (l.getD ((i + 1) % l.length) (T3.mk (0 : Rat) 0 0))]), v73, cs73, v77, cs77, h5) ?_ ?_ e7 rfl rfl
   ·
    refine ⟨((((((hmmb.trans hh1).trans hh2).trans hmmc).trans hh3).trans hh4).trans hh5), ?_⟩
    replace rl73 := rl73.mono hh5
    refine ⟨rl73, rl77, ?_⟩
    exact ⟨⟨by omega, (by first | exact bk_y hB1 hx1 | exact bk_z hB1 hx1)⟩, (by first | exact fr_y hF1 hx1 | exact fr_z hF1 hx1)⟩
   dsimp only
   omega
  have hx1 : ¬ xP s l i := hc65
  refine gc_keep (e' := [(0, _), (3, _), (6, _), (7, _), (10, _), (8, _), (9, _)]) e7 (zL (yY (zB (zA (mv rfl rfl (gv (zS (q := 1) rfl rfl (by omega) (by omega)) rfl (asg rfl rfl (zD (gq_drop (A := []) (gq_drop (A := []) ?_))))))))))
  refine yW ((i + 1), B1, F1, s6_30, cs_31, s7_33, cs_34, mc) ?_ ?_ e7 rfl rfl
  ·
   refine ⟨(((hmmb.trans hh1).trans hh2).trans hmmc), ?_⟩
   refine ⟨rl_32, rl_35, ?_⟩
   exact ⟨⟨by omega, (by first | exact bk_y hB1 hx1 | exact bk_z hB1 hx1)⟩, (by first | exact fr_y hF1 hx1 | exact fr_z hF1 hx1)⟩
  dsimp only
  omega
 have ej : i = l.length := by omega
 rw [ej] at hB hF
 refine xK (yE (yE (xJ (zB (zC (zQ (zC (zA (mv rfl rfl (gv (ov_not rfl) rfl ?_))))))))))
 refine gl_cut (ι := Unit) 4 (fun _ => True) (fun _ => [(84, vB ((¬ (behTo s l i)) ∧ (¬ (aheTo s l i)))), (0, vl), (6, s6_3), (7, s7_6), (8, vB (behTo s l i)), (9, vB (aheTo s l i))]) (fun _ => [.gs 32 9 s7_6 F.length cs_7, .gs 32 9 s6_3 B.length cs_4, .var b3 34 cs3]) (fun _ => mb) ?_ ?_
 ·
  refine gl_cases (¬ (behTo s l i)) (fun hg => ?_) (fun hg => ?_)
  ·
   refine gl_val (zH (v := .bool true) (congrArg some (vB_true hg))) rfl rfl rfl (yX rfl rfl rfl (mv rfl rfl (yX rfl rfl rfl (gv (ov_not rfl) rfl (gv (xU rfl rfl) rfl (zD ?_))))))
   refine yR () trivial ⟨?_, rfl, rfl, rfl, rfl, rfl, trivial⟩ rfl rfl
   exact congrArg some (vB_and_t hg)
  refine gl_val (zH (v := .bool false) (congrArg some (xD hg))) rfl rfl rfl (yM rfl rfl rfl rfl rfl rfl (yM rfl rfl rfl rfl rfl rfl (gv (ov_pick_f rfl rfl) rfl (zD ?_))))
  refine yR () trivial ⟨?_, rfl, rfl, rfl, rfl, rfl, trivial⟩ rfl rfl
  exact congrArg some (vB_and_f hg)
 intro _ _
 show GL _ _ _ _ _ _ _ [(84, vB ((¬ (behTo s l i)) ∧ (¬ (aheTo s l i)))), (0, vl), (6, s6_3), (7, s7_6), (8, vB (behTo s l i)), (9, vB (aheTo s l i))] [.gs 32 9 s7_6 F.length cs_7, .gs 32 9 s6_3 B.length cs_4, .var b3 34 cs3] mb
 refine asg rfl rfl (zD (zB ?_))
 refine zP rfl (fun hc78 => ?_) (fun hc78 => ?_)
 ·
  refine zC (zA (mv rfl rfl (gl_nilown 32 9 ?_)))
  have rl_46 : RL (rpT (rpQ k)) mb [] ([] : List (T3 Rat)) := RL.nil
  refine gl_repop (A := []) (rep_appendx (ρ := (rpT (rpQ k))) (bytes := 168) underlying27 yI rfl rfl rfl rfl p9N rfl rfl rl_46 rl (by first | omega | (simp only [lAz, lC, lN, lR, lS]; omega)) (by first | omega | (simp only [lAz, lC, lN, lR, lS]; omega))) rfl rfl rfl ?_
  intro v86 q86 hq86
  obtain ⟨cs86, rfl, rl86⟩ := hq86
  refine asg rfl rfl (asg rfl rfl (zD (zB (zR (gr_in (yA (gq_freezex (A := []) (ρ := (rpT (rpQ k))) rl86 ?_)))))))
  intro h1 hh1 rs_47
  refine gq_body2 rfl rfl rfl ?_
  refine ⟨_, _, ?_, (Rp.Is.cast (Rp.Is.le rs_47 (Le.s (Le.t (Le.q (l := 12 * k + 3 * m + 9 * n + 62) (by omega))))) (by rw [List.nil_append]; exact (cutB_all (by rw [← ej]; exact hc78.2)).1.symm)), (Rp.Is.cast (is_nil _) (by exact (cutB_all (by rw [← ej]; exact hc78.2)).2.symm))⟩
  rfl
 refine zC (zA (mv rfl rfl (gv (ov_not rfl) rfl (asg rfl rfl (zD (zB ?_))))))
 refine zP rfl (fun hc87 => ?_) (fun hc87 => ?_)
 ·
  refine zC (zA (mv rfl rfl (asg rfl rfl (asg rfl rfl (zD (zK (e' := [(4, _), (5, _)]) e2z (zB (zR (gr_in (yA (gq_freezex (A := []) (ρ := (rpT (rpQ (12 * k + 3 * m + 9 * n + 62)))) rl_8 ?_)))))))))))
  intro h1 hh1 rs_48
  refine gq_body2 rfl rfl rfl ?_
  refine ⟨_, _, ?_, (Rp.Is.cast (is_nil _) (by exact (cut_nb (by rw [← ej]; exact Classical.byContradiction fun e => hc78 ⟨hc87, e⟩) (by rw [← ej]; exact hc87)).1.symm)), (Rp.Is.cast rs_48 (by rw [hF]; exact (cut_nb (by rw [← ej]; exact Classical.byContradiction fun e => hc78 ⟨hc87, e⟩) (by rw [← ej]; exact hc87)).2.symm))⟩
  rfl
 refine zC (zA (mv rfl rfl (gv (ov_not rfl) rfl (asg rfl rfl (zD (zK (e' := [(6, _), (7, _), (91, _)]) e3z (zB ?_)))))))
 refine zP rfl (fun hc91 => ?_) (fun hc91 => ?_)
 ·
  refine zC (zA (mv rfl rfl (asg rfl rfl (asg rfl rfl (zD (zB (zR (gr_in (yA (gq_freezex (A := [_]) (ρ := (rpT (rpQ (12 * k + 3 * m + 9 * n + 62)))) rl_5 ?_))))))))))
  intro h1 hh1 rs_49
  refine gq_body2 rfl rfl rfl ?_
  refine ⟨_, _, ?_, (Rp.Is.cast rs_49 (by rw [hB]; exact (cut_na (by rw [← ej]; exact hc91)).1.symm)), (Rp.Is.cast (is_nil _) (by exact (cut_na (by rw [← ej]; exact hc91)).2.symm))⟩
  rfl
 refine zL (yY (zB (zC (zA (mv rfl rfl (mv rfl rfl (asg rfl rfl (asg rfl rfl (zD (zB (zR (gq_freezex (A := [_]) (ρ := (rpT (rpQ (12 * k + 3 * m + 9 * n + 62)))) rl_5 ?_))))))))))))
 intro h1 hh1 rs_50
 replace rl_8 := rl_8.mono hh1
 refine gq_freezex (A := []) (ρ := (rpT (rpQ (12 * k + 3 * m + 9 * n + 62)))) rl_8 ?_
 intro h2 hh2 rs_51
 refine gq_body2 rfl rfl rfl ?_
 replace rs_50 := rs_50.mono hh2
 refine ⟨_, _, ?_, (Rp.Is.cast rs_50 (by rw [hB]; exact (cut_both (by rw [← ej]; exact Classical.not_not.1 hc91) (by rw [← ej]; exact Classical.not_not.1 hc87)).1.symm)), (Rp.Is.cast rs_51 (by rw [hF]; exact (cut_both (by rw [← ej]; exact Classical.not_not.1 hc91) (by rw [← ej]; exact Classical.not_not.1 hc87)).2.symm))⟩
 rfl
end Go.Proofs.YtghhjjmjpeehdaaGreat
