/- Texts that the proof needs, part 4. -/
import Derived.Test.YtfpjclgbieppeaaGreatK3


namespace Bk
set_option linter.unusedVariables false
set_option linter.unusedSimpArgs false
open Go Go.RowKit
open Classical

def gp (l : List Pt) (m : Nat) : Pt := l.getD m (T3.mk (0 : Rat) (0 : Rat) (0 : Rat))
def areaTo (l : List Pt) (i j : Nat) : Nat → Rat
  | 0 => 0
  | m + 1 => areaTo l i j m + ((gp l m).at i * (gp l ((m + 1) % l.length)).at j - (gp l ((m + 1) % l.length)).at i * (gp l m).at j)
theorem turn_eq (a b c : Pt) : sgnQ (areaTo [a, b, c] 0 1 3) = orZ (pr a 0 1) (pr b 0 1) (pr c 0 1) := by
  have : areaTo [a, b, c] 0 1 3 = cr (pr a 0 1) (pr b 0 1) (pr c 0 1) := by
    simp [areaTo, gp, pr, cr, T3.at]
    grind
  unfold orZ
  rw [this]
def crossP (a b p : P2) : Prop := ¬ (a.2 ≤ p.2 ↔ b.2 ≤ p.2) ∧ ((a.2 ≤ p.2 ∧ 0 < orZ a b p) ∨ (b.2 ≤ p.2 ∧ orZ a b p < 0))
def edgeA (l : List Pt) (i j m : Nat) : P2 := pr (gp l m) i j
def edgeB (l : List Pt) (i j m : Nat) : P2 := pr (gp l ((m + 1) % l.length)) i j
def oddTo (l : List Pt) (p : P2) (i j : Nat) : Nat → Prop
  | 0 => False
  | m + 1 => (crossP (edgeA l i j m) (edgeB l i j m) p ∧ ¬ oddTo l p i j m) ∨ (¬ crossP (edgeA l i j m) (edgeB l i j m) p ∧ oddTo l p i j m)
noncomputable def insZ (l : List Pt) (p : P2) (i j : Nat) : Int :=
  if ∃ m, m < l.length ∧ onS (edgeA l i j m) (edgeB l i j m) p then 0 else if oddTo l p i j l.length then 1 else -1
theorem ins_on {l : List Pt} {p : P2} {i j m : Nat} (hm : m < l.length) (h : onS (edgeA l i j m) (edgeB l i j m) p) : 0 = insZ l p i j := (if_pos ⟨m, hm, h⟩).symm
theorem ins_in {l : List Pt} {p : P2} {i j n : Nat} (hn : ¬ n < l.length) (hn2 : n ≤ l.length) (h : ∀ q, q < n → ¬ onS (edgeA l i j q) (edgeB l i j q) p) (ho : oddTo l p i j n) : 1 = insZ l p i j := by
  have e : n = l.length := by omega
  subst e
  unfold insZ
  rw [if_neg (fun ⟨m, hm, hq⟩ => h m hm hq), if_pos ho]
theorem ins_out {l : List Pt} {p : P2} {i j n : Nat} (hn : ¬ n < l.length) (hn2 : n ≤ l.length) (h : ∀ q, q < n → ¬ onS (edgeA l i j q) (edgeB l i j q) p) (ho : ¬ oddTo l p i j n) : -1 = insZ l p i j := by
  have e : n = l.length := by omega
  subst e
  unfold insZ
  rw [if_neg (fun ⟨m, hm, hq⟩ => h m hm hq), if_neg ho]
theorem on_next {l : List Pt} {p : P2} {i j n : Nat} (h : ∀ q, q < n → ¬ onS (edgeA l i j q) (edgeB l i j q) p) (h1 : ¬ onS (edgeA l i j n) (edgeB l i j n) p) : ∀ q, q < n + 1 → ¬ onS (edgeA l i j q) (edgeB l i j q) p := fun q hq => by
  rcases Nat.lt_succ_iff_lt_or_eq.1 hq with h2 | h2
  · exact h q h2
  · subst h2; exact h1
theorem odd_same {l : List Pt} {p : P2} {i j n : Nat} (h : (edgeA l i j n).2 ≤ p.2 ↔ (edgeB l i j n).2 ≤ p.2) : oddTo l p i j n = oddTo l p i j (n + 1) := by
  have : ¬ crossP (edgeA l i j n) (edgeB l i j n) p := fun hc => hc.1 h
  show _ = (_ ∨ _)
  simp [this]
theorem odd_flip {l : List Pt} {p : P2} {i j n : Nat} (h : ¬ ((edgeA l i j n).2 ≤ p.2 ↔ (edgeB l i j n).2 ≤ p.2)) (h1 : ((edgeA l i j n).2 ≤ p.2 ∧ 0 < orZ (edgeA l i j n) (edgeB l i j n) p) ∨ ((edgeB l i j n).2 ≤ p.2 ∧ orZ (edgeA l i j n) (edgeB l i j n) p < 0)) : (¬ oddTo l p i j n) = oddTo l p i j (n + 1) := by
  have : crossP (edgeA l i j n) (edgeB l i j n) p := ⟨h, h1⟩
  show _ = (_ ∨ _)
  simp [this]
theorem odd_stay {l : List Pt} {p : P2} {i j n : Nat} (h1 : ¬ (((edgeA l i j n).2 ≤ p.2 ∧ 0 < orZ (edgeA l i j n) (edgeB l i j n) p) ∨ ((edgeB l i j n).2 ≤ p.2 ∧ orZ (edgeA l i j n) (edgeB l i j n) p < 0))) : oddTo l p i j n = oddTo l p i j (n + 1) := by
  have : ¬ crossP (edgeA l i j n) (edgeB l i j n) p := fun hc => h1 hc.2
  show _ = (_ ∨ _)
  simp [this]
theorem less_1 {a b : Pt} (h : ¬ cmpQ a.x b.x = 0) : cmpQ a.x b.x < 0 ↔ lx (pr a 0 1) (pr b 0 1) := by
  have h2 := less_iff (a := a) (b := b) (i := 0) (j := 1)
  rw [← h2]
  exact ⟨.inl, fun e => e.elim id fun e => absurd e.1 h⟩
theorem less_2 {a b : Pt} (h : ¬ ¬ cmpQ a.x b.x = 0) : cmpQ a.y b.y < 0 ↔ lx (pr a 0 1) (pr b 0 1) := by
  have h1 := Classical.not_not.1 h
  have h2 := less_iff (a := a) (b := b) (i := 0) (j := 1)
  rw [← h2]
  exact ⟨fun e => .inr ⟨h1, e⟩, fun e => e.elim (fun e => absurd h1 (by have : cmpQ a.x b.x < 0 := e; omega)) fun e => e.2⟩
theorem pr_loT (a b : Pt) (i j : Nat) : pr (loT a b i j) i j = lo2 (pr a i j) (pr b i j) := pr_ite _ _ _ _
theorem pr_hiT (a b : Pt) (i j : Nat) : pr (hiT a b i j) i j = hi2 (pr a i j) (pr b i j) := pr_ite _ _ _ _
theorem on_T {a b p : Pt} {i j : Nat} : (orZ (pr (loT a b i j) i j) (pr (hiT a b i j) i j) (pr p i j) = 0 ∧ ¬ lx (pr p i j) (pr (loT a b i j) i j) ∧ ¬ lx (pr (hiT a b i j) i j) (pr p i j)) ↔ onS (pr a i j) (pr b i j) (pr p i j) := by
  rw [pr_loT, pr_hiT, ← on_seg2, orZ_zero, orZ_zero]
  unfold lo2 hi2
  split
  · rw [cr_swap]
    grind
  · exact Iff.rfl
noncomputable def lineT (a b c d lo hi : Pt) : Int :=
  if lx (pr hi 0 1) (pr lo 0 1) then 0 else if ¬ pr lo 0 1 = pr hi 0 1 then 3
  else if (((pr lo 0 1 = pr a 0 1 ∨ pr lo 0 1 = pr b 0 1) ∧ (pr lo 0 1 = pr c 0 1 ∨ pr lo 0 1 = pr d 0 1)) ∧ onS (pr a 0 1) (pr b 0 1) (pr lo 0 1)) ∧ onS (pr c 0 1) (pr d 0 1) (pr lo 0 1) then 1
  else if onS (pr a 0 1) (pr b 0 1) (pr lo 0 1) ∧ onS (pr c 0 1) (pr d 0 1) (pr lo 0 1) then 2 else 0
theorem line_T {a b c d lo hi : Pt} (h1 : lo = mxT a c 0 1) (h2 : hi = mnT b d 0 1) : lineT a b c d lo hi = lineR (pr a 0 1) (pr b 0 1) (pr c 0 1) (pr d 0 1) := by
  have e1 : pr lo 0 1 = if lx (pr a 0 1) (pr c 0 1) then pr c 0 1 else pr a 0 1 := by rw [h1]; exact pr_ite _ _ _ _
  have e2 : pr hi 0 1 = if lx (pr d 0 1) (pr b 0 1) then pr d 0 1 else pr b 0 1 := by rw [h2]; exact pr_ite _ _ _ _
  unfold lineT lineR
  rw [e1, e2]
  simp only [and_assoc, ne_eq]
noncomputable def touchT (a b c d : Pt) : Int :=
  if ((orZ (pr a 0 1) (pr b 0 1) (pr c 0 1) = 0 ∧ orZ (pr a 0 1) (pr b 0 1) (pr d 0 1) = 0) ∧ orZ (pr c 0 1) (pr d 0 1) (pr a 0 1) = 0) ∧ orZ (pr c 0 1) (pr d 0 1) (pr b 0 1) = 0 then lineR (pr a 0 1) (pr b 0 1) (pr c 0 1) (pr d 0 1)
  else if pr a 0 1 = pr b 0 1 ∨ pr c 0 1 = pr d 0 1 then singleR (pr a 0 1) (pr b 0 1) (pr c 0 1) (pr d 0 1)
  else if 0 < orZ (pr a 0 1) (pr b 0 1) (pr c 0 1) * orZ (pr a 0 1) (pr b 0 1) (pr d 0 1) ∨ 0 < orZ (pr c 0 1) (pr d 0 1) (pr a 0 1) * orZ (pr c 0 1) (pr d 0 1) (pr b 0 1) then 0
  else if ((pr a 0 1 = pr c 0 1 ∨ pr a 0 1 = pr d 0 1) ∨ pr b 0 1 = pr c 0 1) ∨ pr b 0 1 = pr d 0 1 then 1 else 2
theorem touch_T {a b c d A B C D : Pt} (h1 : A = loT (T3.mk a.x a.y 0) (T3.mk b.x b.y 0) 0 1) (h2 : B = hiT (T3.mk a.x a.y 0) (T3.mk b.x b.y 0) 0 1) (h3 : C = loT (T3.mk c.x c.y 0) (T3.mk d.x d.y 0) 0 1) (h4 : D = hiT (T3.mk c.x c.y 0) (T3.mk d.x d.y 0) 0 1) :
    touchT A B C D = touchR (pr a 0 1) (pr b 0 1) (pr c 0 1) (pr d 0 1) := by
  have e1 : pr A 0 1 = lo2 (pr a 0 1) (pr b 0 1) := by rw [h1]; exact pr_loT _ _ _ _
  have e2 : pr B 0 1 = hi2 (pr a 0 1) (pr b 0 1) := by rw [h2]; exact pr_hiT _ _ _ _
  have e3 : pr C 0 1 = lo2 (pr c 0 1) (pr d 0 1) := by rw [h3]; exact pr_loT _ _ _ _
  have e4 : pr D 0 1 = hi2 (pr c 0 1) (pr d 0 1) := by rw [h4]; exact pr_hiT _ _ _ _
  unfold touchT touchR touchS
  rw [e1, e2, e3, e4]
  simp only [and_assoc, or_assoc]
theorem sane_area : areaTo [(T3.mk ((0 : Int) : Rat) ((0 : Int) : Rat) ((0 : Int) : Rat)), (T3.mk ((2 : Int) : Rat) ((0 : Int) : Rat) ((0 : Int) : Rat)), (T3.mk ((0 : Int) : Rat) ((2 : Int) : Rat) ((0 : Int) : Rat))] 0 1 3 = ((4 : Int) : Rat) := by decide +kernel
theorem sane_in : insZ [(T3.mk ((0 : Int) : Rat) ((0 : Int) : Rat) ((0 : Int) : Rat)), (T3.mk ((2 : Int) : Rat) ((0 : Int) : Rat) ((0 : Int) : Rat)), (T3.mk ((0 : Int) : Rat) ((2 : Int) : Rat) ((0 : Int) : Rat))] (pr (T3.mk ((1 : Int) : Rat) ((1 : Int) : Rat) ((0 : Int) : Rat)) 0 1) 0 1 = 0 := by
  refine if_pos ⟨1, by decide, ?_⟩
  unfold onS betwP
  decide +kernel
theorem sane_touch : touch2 (pr (T3.mk ((0 : Int) : Rat) ((0 : Int) : Rat) ((0 : Int) : Rat)) 0 1) (pr (T3.mk ((2 : Int) : Rat) ((0 : Int) : Rat) ((0 : Int) : Rat)) 0 1) (pr (T3.mk ((1 : Int) : Rat) ((0 : Int) : Rat) ((0 : Int) : Rat)) 0 1) (pr (T3.mk ((1 : Int) : Rat) ((5 : Int) : Rat) ((0 : Int) : Rat)) 0 1) = 2 := by
  unfold touch2
  simp only [orZ_zero, or_mul_pos]
  unfold apartP
  rw [if_neg (by decide +kernel), if_neg (by decide +kernel), if_neg (by decide +kernel), if_neg (by decide +kernel)]
end Bk


namespace Go.Proofs.YtfpjclgbieppeaaGreat
open Bk Go
set_option linter.unusedVariables false
set_option linter.unusedSimpArgs false
set_option maxRecDepth 10000

theorem pl_small {w0 : World} {h0 : Mem}  (hs : MLe h0 (mem w0)) {qa : Rat} {vna vda : Value} (hna : Us .u32 h0 vna (zG qa.num.natAbs)) (hda : Us .u32 h0 vda (zG (denN qa.den))) :
    Calls Tryz.prog 113 #[.agg #[vB (qa.num < 0), vna, vda]] w0 (Ret w0 h0 (fun _ r => r = .tuple #[vI (smZ qa), vB (smB qa)])) := by
 refine zR (n := 33) (e := [(0, .agg #[vB (qa.num < 0), vna, vda])]) (vs := [.agg #[vB (qa.num < 0), vna, vda]]) Tryz.func113 rfl rfl (Nat.le_of_ble_eq_true rfl) hs ⟨rfl, trivial⟩ (zC (zA (zP (new_box (cs := [_, _, _]) rfl rfl) rfl rfl rfl ?_)))
 intro v1 r1 hr1
 obtain ⟨b1, rfl, rfl⟩ := hr1
 refine asg (v := vI (0)) rfl rfl (asg rfl rfl (zD (zB (zC (zC (zA (gv (zS Tryz.underlying31 rfl Tryz.sizeOf29 rfl) rfl (gv (yC (.head _) Tryz.isAgg29 rfl rfl) rfl (gv (yE Tryz.underlying29 rfl hda) rfl (gv (ov_gtr_i (q := 0) rfl rfl) rfl ?_))))))))))
 refine gl_cut (ι := Unit) 6 (fun _ => True) (fun _ => [(14, vB (((0 : Int) < (↑(zG (denN qa.den)).length : Int)) ∨ ((1 : Int) < (↑(zG qa.num.natAbs).length : Int)))), (1, vP b1 0)]) (fun _ => [.var b1 31 [vB (qa.num < 0), vna, vda]]) (fun _ => h0) ?_ ?_
 ·
  refine gl_cases ((0 : Int) < (↑(zG (denN qa.den)).length : Int)) (fun hg => ?_) (fun hg => ?_)
  ·
   refine yG (zF (v := .bool true) (congrArg some (yI hg))) rfl rfl rfl (zK rfl rfl rfl rfl rfl rfl (zK rfl rfl rfl rfl rfl rfl (zK rfl rfl rfl rfl rfl rfl (zK rfl rfl rfl rfl rfl rfl (gv (yF rfl rfl) rfl (zD ?_))))))
   refine zU () trivial ⟨?_, rfl, trivial⟩ rfl rfl
   exact congrArg some (vB_or_t hg)
  refine yG (zF (v := .bool false) (congrArg some (yA hg))) rfl rfl rfl (zT rfl rfl rfl (gv (zS Tryz.underlying31 rfl Tryz.sizeOf29 rfl) rfl (zT rfl rfl rfl (gv (yC (.head _) Tryz.isAgg29 rfl rfl) rfl (zT rfl rfl rfl (gv (yE Tryz.underlying29 rfl hna) rfl (zT rfl rfl rfl (gv (ov_gtr_i (q := 1) rfl rfl) rfl (gv (yD rfl rfl) rfl (zD ?_))))))))))
  refine zU () trivial ⟨?_, rfl, trivial⟩ rfl rfl
  exact congrArg some (vB_or_f hg)
 intro _ _
 show GL _ _ _ _ _ _ _ [(14, vB (((0 : Int) < (↑(zG (denN qa.den)).length : Int)) ∨ ((1 : Int) < (↑(zG qa.num.natAbs).length : Int)))), (1, vP b1 0)] [.var b1 31 [vB (qa.num < 0), vna, vda]] h0
 refine zD (zB ?_)
 refine zH rfl (fun hc14 => ?_) (fun hc14 => ?_)
 ·
  refine zC (zA (asg (v := vI (0)) rfl rfl (asg rfl rfl (zD (zB (zN (zO (gq_body2 rfl rfl rfl ?_))))))))
  obtain ⟨e1, e2⟩ := sm_e1 hc14
  rw [e1, yA e2]
 refine zI (zB (zC (zC (zA (gv (zS Tryz.underlying31 rfl Tryz.sizeOf29 rfl) rfl (gv (yC (.head _) Tryz.isAgg29 rfl rfl) rfl (gv (yE Tryz.underlying29 rfl hna) rfl (gv (ov_eql_i (q := 0) rfl rfl) rfl (zD (zB ?_))))))))))
 refine zH rfl (fun hc18 => ?_) (fun hc18 => ?_)
 ·
  refine zC (zA (asg (v := vI (0)) rfl rfl (asg rfl rfl (zD (zB (zN (zO (gq_body2 rfl rfl rfl ?_))))))))
  obtain ⟨e1, e2⟩ := sm_e2 hc14 hc18
  rw [e1, yI e2]
 obtain ⟨hs1, hs2, hs3⟩ := sm_limb hc14 hc18
 have hs4 := sm_num hc14
 refine zI (zB (zC (zA (gv (zS Tryz.underlying31 rfl Tryz.sizeOf29 rfl) rfl (gv (yC (.head _) Tryz.isAgg29 rfl rfl) rfl (gv (yP (q := 0) (0) Tryz.underlying29 Tryz.sizeOf93 rfl rfl hna rfl (by omega)) rfl (gv (ov_load_us Tryz.isAgg93 rfl hna (by omega)) rfl ?_)))))))
 rw [hs1]
 refine gv (ov_conv_ui (k := .u32) Tryz.underlying93 Tryz.underlying2 rfl (by omega)) rfl (asg rfl rfl (zD (zL (e' := [(1, _), (4, _)]) ⟨rfl, rfl, trivial⟩ (zB (zC (zC (zA (gv (zS Tryz.underlying31 rfl Tryz.sizeOf4 rfl) rfl (gv (yC (.head _) Tryz.isAgg4 rfl rfl) rfl (zD (zB ?_)))))))))))
 refine zH rfl (fun hc25 => ?_) (fun hc25 => ?_)
 ·
  have hneg := hc25
  refine zC (zA (mv rfl rfl (gv (ov_neg_i rfl (by omega) (by omega)) rfl (mv rfl rfl (gv (yH (q := 268435456) rfl rfl) rfl (asg rfl rfl (asg rfl rfl (zD (zB (zN (zO (gq_body2 rfl rfl rfl ?_))))))))))))
  exact tup_small (by omega) (Iff.trans (by omega) hs3.symm)
 have hneg := hc25
 refine zI (zB (zC (zA (mv rfl rfl (mv rfl rfl (gv (yH (q := 268435456) rfl rfl) rfl (asg rfl rfl (asg rfl rfl (zD (zB (zN (gq_body2 rfl rfl rfl ?_))))))))))))
 exact tup_small (by omega) (Iff.trans (by omega) hs3.symm)

theorem o_pl_small {w0 : World} {h0 : Mem} (hs : MLe h0 (mem w0)) {k : Nat} {va : Value} {a : Rat} (ra : (rpQ k).Is h0 va a) : Calls Tryz.prog 113 #[va] w0 (Ret w0 h0 (fun _ r => r = .tuple #[vI (smZ a), vB (smB a)])) := by
  obtain ⟨vna, vda, rfl, hna, hda, hla⟩ := open_q ra
  exact pl_small hs hna hda

theorem o_pl_sign {w0 : World} {h0 : Mem}  (hs : MLe h0 (mem w0)) {n : Int} (hn1 : -9223372036854775808 ≤ n) (hn2 : n < 9223372036854775808)  :
    Calls Tryz.prog 95 #[vI n] w0 (Ret w0 h0 (fun _ r => r = vI (sgnZ n))) := by
 refine zR (n := 9) (e := [(0, vI n)]) (vs := [vI n]) Tryz.func95 rfl rfl (Nat.le_of_ble_eq_true rfl) hs ⟨rfl, trivial⟩ (zC (zA (asg (v := vI (0)) rfl rfl (zD (zB (zC (zQ (zC (zA (mv rfl rfl (gv (ov_gtr_i (q := 0) rfl rfl) rfl (asg rfl rfl (zD ?_)))))))))))))
 refine zB ?_
 refine zH rfl (fun hc3 => ?_) (fun hc3 => ?_)
 ·
  refine zC (zA (asg (v := vI (1)) rfl rfl (zD (zB (zN (gr_in (zO (zW rfl rfl ?_))))))))
  unfold sgnZ; rw [if_pos hc3]
 refine zC (zA (mv rfl rfl (gv (yH (q := 0) rfl rfl) rfl (asg rfl rfl (zD (zB ?_))))))
 refine zH rfl (fun hc6 => ?_) (fun hc6 => ?_)
 ·
  refine zC (zA (asg (v := vI (-1)) rfl rfl (zD (zB (zN (gr_in (zO (zW rfl rfl ?_))))))))
  unfold sgnZ; rw [if_neg hc3, if_pos hc6]
 refine zI (gq_in (zB (zC (zA (asg (v := vI (0)) rfl rfl (zD (zB (zN (zW rfl rfl ?_)))))))))
 unfold sgnZ; rw [if_neg hc3, if_neg hc6]

theorem o_pl_pair {w0 : World} {h0 : Mem}  (hs : MLe h0 (mem w0)) {k : Nat} {vp : Value} {p : (T3 Rat)} (rp : (rpT (rpQ k)).Is h0 vp p) {i : Nat} {j : Nat} (hcd0 : i < 3) (hcd1 : j < 3)  :
    Calls Tryz.prog 94 #[vp, vI ↑i, vI ↑j] w0 (Ret w0 h0 (fun h r => r = .tuple #[vI (smZ (p.at i)), vI (smZ (p.at j)), vB (smB (p.at i) ∧ smB (p.at j))])) := by
 refine zR (n := 33) (e := [(0, vp), (1, vI ↑i), (2, vI ↑j)]) (vs := [vp, vI ↑i, vI ↑j]) Tryz.func94 rfl rfl (Nat.le_of_ble_eq_true rfl) hs ⟨rfl, rfl, rfl, trivial⟩ (zC (zA (zP (new_boxx (ρ := (rpT (rpQ k))) rfl rp) rfl rfl rfl ?_)))
 intro v3 q3 hq3
 obtain ⟨b3, cs3, rfl, rfl, rb3⟩ := hq3
 refine asg (v := vI (0)) rfl rfl (asg (v := vI (0)) rfl rfl (asg rfl rfl (zD (zB (zC (zA (mv rfl rfl (gv ((zY (sz := 3) i Tryz.underlying33 Tryz.sizeOf31 rfl rfl rfl (by omega)).cv (show _ = vP b3 ((i * 3 + 0)) from congrArg (vP b3) (by omega))) rfl (gl_x (F := fun v_ => (rpQ k).Is h0 v_ (p.at i)) (zE ty31 (Pc.ta (Pc.here _) i (by omega)) rfl rfl rb3 rfl) (mem1 (.head _)) rfl ?_)))))))))
 intro v16 r16
 refine zJ (vs := [_]) rfl rfl rfl rfl Tryz.call113 ⟨rfl, trivial⟩ (fun w hs => o_pl_small hs r16) ?_
 intro v17 h1 hh1 r17
 obtain rfl := r17
 refine mv rfl rfl (gv (yB (vs := [_, _]) rfl rfl) rfl (gv (yB (vs := [_, _]) rfl rfl) rfl (asg rfl rfl (asg rfl rfl (zD (zL (e' := [(2, _), (3, _), (9, _), (10, _)]) ⟨rfl, rfl, rfl, rfl, trivial⟩ (zB (zC (zA (mv rfl rfl (gv ((zY (sz := 3) j Tryz.underlying33 Tryz.sizeOf31 rfl rfl rfl (by omega)).cv (show _ = vP b3 ((j * 3 + 0)) from congrArg (vP b3) (by omega))) rfl ?_)))))))))))
 replace rb3 := rb3.mono hh1
 refine gl_x (F := fun v_ => (rpQ k).Is h1 v_ (p.at j)) (zE ty31 (Pc.ta (Pc.here _) j (by omega)) rfl rfl rb3 rfl) (mem1 (.head _)) rfl ?_
 intro v23 r23
 refine zJ (vs := [_]) rfl rfl rfl rfl Tryz.call113 ⟨rfl, trivial⟩ (fun w hs => o_pl_small hs r23) ?_
 intro v24 h2 hh2 r24
 obtain rfl := r24
 refine mv rfl rfl (gv (yB (vs := [_, _]) rfl rfl) rfl (gv (yB (vs := [_, _]) rfl rfl) rfl (asg rfl rfl (asg rfl rfl (zD (zB (zC (zA (mv rfl rfl (mv rfl rfl (mv rfl rfl ?_)))))))))))
 refine gl_cut (ι := Unit) 3 (fun _ => True) (fun _ => [(32, vB ((smB (p.at i)) ∧ (smB (p.at j)))), (27, vI (smZ (p.at i))), (28, vI (smZ (p.at j)))]) (fun _ => [.var b3 33 cs3]) (fun _ => h2) ?_ ?_
 ·
  refine gl_cases (smB (p.at i)) (fun hg => ?_) (fun hg => ?_)
  ·
   refine yG (zF (v := .bool true) (congrArg some (yI hg))) rfl rfl rfl (zT rfl rfl rfl (mv rfl rfl (gv (yF rfl rfl) rfl (zD ?_))))
   refine zU () trivial ⟨?_, rfl, rfl, trivial⟩ rfl rfl
   exact congrArg some (vB_and_t hg)
  refine yG (zF (v := .bool false) (congrArg some (yA hg))) rfl rfl rfl (zK rfl rfl rfl rfl rfl rfl (gv (yD rfl rfl) rfl (zD ?_)))
  refine zU () trivial ⟨?_, rfl, rfl, trivial⟩ rfl rfl
  exact congrArg some (vB_and_f hg)
 intro _ _
 show GL _ _ _ _ _ _ _ [(32, vB ((smB (p.at i)) ∧ (smB (p.at j)))), (27, vI (smZ (p.at i))), (28, vI (smZ (p.at j)))] [.var b3 33 cs3] h2
 refine asg rfl rfl (asg rfl rfl (asg rfl rfl (zD (zB (zN (gq_body3 rfl rfl rfl rfl ?_))))))
 rfl

theorem o_pl_orient {w0 : World} {h0 : Mem}  (hs : MLe h0 (mem w0)) {k : Nat} {va : Value} {a : (T3 Rat)} (ra : (rpT (rpQ k)).Is h0 va a) {vb : Value} {b : (T3 Rat)} (rb : (rpT (rpQ k)).Is h0 vb b) {vc : Value} {c : (T3 Rat)} (rc : (rpT (rpQ k)).Is h0 vc c) {i : Nat} {j : Nat} (hcd0 : i < 3) (hcd1 : j < 3) (hcd2 : k ≤ 1000000000)  :
    Calls Tryz.prog 69 #[va, vb, vc, vI ↑i, vI ↑j] w0 (Ret w0 h0 (fun _ r => r = vI (orZ (pr a i j) (pr b i j) (pr c i j)))) := by
 refine zR (n := 100) (e := [(0, va), (1, vb), (2, vc), (3, vI ↑i), (4, vI ↑j)]) (vs := [va, vb, vc, vI ↑i, vI ↑j]) Tryz.func69 rfl rfl (Nat.le_of_ble_eq_true rfl) hs ⟨rfl, rfl, rfl, rfl, rfl, trivial⟩ (zC (zA (zP (new_boxx (ρ := (rpT (rpQ k))) rfl ra) rfl rfl rfl ?_)))
 intro v5 q5 hq5
 obtain ⟨b5, cs5, rfl, rfl, rb5⟩ := hq5
 refine zP (new_boxx (ρ := (rpT (rpQ k))) rfl rb) rfl rfl rfl ?_
 intro v6 q6 hq6
 obtain ⟨b6, cs6, rfl, rfl, rb6⟩ := hq6
 refine zP (new_boxx (ρ := (rpT (rpQ k))) rfl rc) rfl rfl rfl ?_
 intro v7 q7 hq7
 obtain ⟨b7, cs7, rfl, rfl, rb7⟩ := hq7
 refine asg (v := vI (0)) rfl rfl (zD (zB (zC (zA (gl_x (F := fun v_ => (rpT (rpQ k)).Is h0 v_ a) (zE ty33 (Pc.here _) rfl rfl rb5 rfl) (mem1 (.tail _ (.tail _ (.head _)))) rfl ?_)))))
 intro v22 r22
 refine mv rfl rfl (mv rfl rfl ?_)
 refine zJ (vs := [_, _, _]) rfl rfl rfl rfl Tryz.call94 ⟨rfl, rfl, rfl, trivial⟩ (fun w hs => o_pl_pair (i := i) (j := j) hs r22 (by omega) (by omega)) ?_
 intro v25 h1 hh1 r25
 obtain rfl := r25
 refine mv rfl rfl (gv (yB (vs := [_, _, _]) rfl rfl) rfl (gv (yB (vs := [_, _, _]) rfl rfl) rfl (gv (yB (vs := [_, _, _]) rfl rfl) rfl (asg rfl rfl (asg rfl rfl (asg rfl rfl (zD (zL (e' := [(3, _), (4, _), (5, _), (6, _), (7, _), (11, _), (12, _), (13, _)]) ⟨rfl, rfl, rfl, rfl, rfl, rfl, rfl, rfl, trivial⟩ (zB (zC (zA ?_)))))))))))
 replace rb6 := rb6.mono hh1
 refine gl_x (F := fun v_ => (rpT (rpQ k)).Is h1 v_ b) (zE ty33 (Pc.here _) rfl rfl rb6 rfl) (mem1 (.tail _ (.head _))) rfl ?_
 intro v30 r30
 refine mv rfl rfl (mv rfl rfl ?_)
 refine zJ (vs := [_, _, _]) rfl rfl rfl rfl Tryz.call94 ⟨rfl, rfl, rfl, trivial⟩ (fun w hs => o_pl_pair (i := i) (j := j) hs r30 (by omega) (by omega)) ?_
 intro v33 h2 hh2 r33
 obtain rfl := r33
 refine mv rfl rfl (gv (yB (vs := [_, _, _]) rfl rfl) rfl (gv (yB (vs := [_, _, _]) rfl rfl) rfl (gv (yB (vs := [_, _, _]) rfl rfl) rfl (asg rfl rfl (asg rfl rfl (asg rfl rfl (zD (zB (zC (zA ?_))))))))))
 replace rb7 := rb7.mono (hh1.trans hh2)
 refine gl_x (F := fun v_ => (rpT (rpQ k)).Is h2 v_ c) (zE ty33 (Pc.here _) rfl rfl rb7 rfl) (mem1 (.head _)) rfl ?_
 intro v38 r38
 refine mv rfl rfl (mv rfl rfl ?_)
 refine zJ (vs := [_, _, _]) rfl rfl rfl rfl Tryz.call94 ⟨rfl, rfl, rfl, trivial⟩ (fun w hs => o_pl_pair (i := i) (j := j) hs r38 (by omega) (by omega)) ?_
 intro v41 h3 hh3 r41
 obtain rfl := r41
 refine mv rfl rfl (gv (yB (vs := [_, _, _]) rfl rfl) rfl (gv (yB (vs := [_, _, _]) rfl rfl) rfl (gv (yB (vs := [_, _, _]) rfl rfl) rfl (asg rfl rfl (asg rfl rfl (asg rfl rfl (zD (zL (e' := [(3, _), (4, _), (5, _), (6, _), (7, _), (11, _), (12, _), (13, _), (14, _), (15, _), (16, _), (17, _), (18, _), (19, _)]) ⟨rfl, rfl, rfl, rfl, rfl, rfl, rfl, rfl, rfl, rfl, rfl, rfl, rfl, rfl, trivial⟩ (zB (zC (zC (zA (mv rfl rfl ?_)))))))))))))
 refine gl_cut (ι := Unit) 3 (fun _ => True) (fun _ => [(48, vB ((smB (a.at i) ∧ smB (a.at j)) ∧ (smB (b.at i) ∧ smB (b.at j)))), (3, vI ↑i), (4, vI ↑j), (5, vP b5 0), (6, vP b6 0), (7, vP b7 0), (11, vI (smZ (a.at i))), (12, vI (smZ (a.at j))), (14, vI (smZ (b.at i))), (15, vI (smZ (b.at j))), (17, vI (smZ (c.at i))), (18, vI (smZ (c.at j))), (19, vB (smB (c.at i) ∧ smB (c.at j)))]) (fun _ => [.var b7 33 cs7, .var b6 33 cs6, .var b5 33 cs5]) (fun _ => h3) ?_ ?_
 ·
  refine gl_cases (smB (a.at i) ∧ smB (a.at j)) (fun hg => ?_) (fun hg => ?_)
  ·
   refine yG (zF (v := .bool true) (congrArg some (yI hg))) rfl rfl rfl (zT rfl rfl rfl (mv rfl rfl (gv (yF rfl rfl) rfl (zD ?_))))
   refine zU () trivial ⟨?_, rfl, rfl, rfl, rfl, rfl, rfl, rfl, rfl, rfl, rfl, rfl, rfl, trivial⟩ rfl rfl
   exact congrArg some (vB_and_t hg)
  refine yG (zF (v := .bool false) (congrArg some (yA hg))) rfl rfl rfl (zK rfl rfl rfl rfl rfl rfl (gv (yD rfl rfl) rfl (zD ?_)))
  refine zU () trivial ⟨?_, rfl, rfl, rfl, rfl, rfl, rfl, rfl, rfl, rfl, rfl, rfl, rfl, trivial⟩ rfl rfl
  exact congrArg some (vB_and_f hg)
 intro _ _
 show GL _ _ _ _ _ _ _ [(48, vB ((smB (a.at i) ∧ smB (a.at j)) ∧ (smB (b.at i) ∧ smB (b.at j)))), (3, vI ↑i), (4, vI ↑j), (5, vP b5 0), (6, vP b6 0), (7, vP b7 0), (11, vI (smZ (a.at i))), (12, vI (smZ (a.at j))), (14, vI (smZ (b.at i))), (15, vI (smZ (b.at j))), (17, vI (smZ (c.at i))), (18, vI (smZ (c.at j))), (19, vB (smB (c.at i) ∧ smB (c.at j)))] [.var b7 33 cs7, .var b6 33 cs6, .var b5 33 cs5] h3
 refine gl_cut (ι := Unit) 3 (fun _ => True) (fun _ => [(51, vB (((smB (a.at i) ∧ smB (a.at j)) ∧ (smB (b.at i) ∧ smB (b.at j))) ∧ (smB (c.at i) ∧ smB (c.at j)))), (3, vI ↑i), (4, vI ↑j), (5, vP b5 0), (6, vP b6 0), (7, vP b7 0), (11, vI (smZ (a.at i))), (12, vI (smZ (a.at j))), (14, vI (smZ (b.at i))), (15, vI (smZ (b.at j))), (17, vI (smZ (c.at i))), (18, vI (smZ (c.at j)))]) (fun _ => [.var b7 33 cs7, .var b6 33 cs6, .var b5 33 cs5]) (fun _ => h3) ?_ ?_
 ·
  refine gl_cases ((smB (a.at i) ∧ smB (a.at j)) ∧ (smB (b.at i) ∧ smB (b.at j))) (fun hg => ?_) (fun hg => ?_)
  ·
   refine yG (zF (v := .bool true) (congrArg some (yI hg))) rfl rfl rfl (zT rfl rfl rfl (mv rfl rfl (gv (yF rfl rfl) rfl (zD ?_))))
   refine zU () trivial ⟨?_, rfl, rfl, rfl, rfl, rfl, rfl, rfl, rfl, rfl, rfl, rfl, trivial⟩ rfl rfl
   exact congrArg some (vB_and_t hg)
  refine yG (zF (v := .bool false) (congrArg some (yA hg))) rfl rfl rfl (zK rfl rfl rfl rfl rfl rfl (gv (yD rfl rfl) rfl (zD ?_)))
  refine zU () trivial ⟨?_, rfl, rfl, rfl, rfl, rfl, rfl, rfl, rfl, rfl, rfl, rfl, trivial⟩ rfl rfl
  exact congrArg some (vB_and_f hg)
 intro _ _
 show GL _ _ _ _ _ _ _ [(51, vB (((smB (a.at i) ∧ smB (a.at j)) ∧ (smB (b.at i) ∧ smB (b.at j))) ∧ (smB (c.at i) ∧ smB (c.at j)))), (3, vI ↑i), (4, vI ↑j), (5, vP b5 0), (6, vP b6 0), (7, vP b7 0), (11, vI (smZ (a.at i))), (12, vI (smZ (a.at j))), (14, vI (smZ (b.at i))), (15, vI (smZ (b.at j))), (17, vI (smZ (c.at i))), (18, vI (smZ (c.at j)))] [.var b7 33 cs7, .var b6 33 cs6, .var b5 33 cs5] h3
 refine zD (zB ?_)
 refine zH rfl (fun hc51 => ?_) (fun hc51 => ?_)
 ·
  obtain ⟨⟨⟨ha1, ha2⟩, hb1, hb2⟩, hc1', hc2'⟩ := hc51
  have ka1 := (sm_eq ha1).2
  have ka2 := (sm_eq ha2).2
  have kb1 := (sm_eq hb1).2
  have kb2 := (sm_eq hb2).2
  have kc1 := (sm_eq hc1').2
  have kc2 := (sm_eq hc2').2
  have kp := prod_b (u := smZ (b.at i) - smZ (a.at i)) (v := smZ (c.at j) - smZ (a.at j)) (by omega) (by omega) (by omega) (by omega)
  have kq := prod_b (u := smZ (b.at j) - smZ (a.at j)) (v := smZ (c.at i) - smZ (a.at i)) (by omega) (by omega) (by omega) (by omega)
  refine zC (zA (mv rfl rfl (mv rfl rfl (gv (ov_sub_i rfl rfl (by omega) (by omega)) rfl (mv rfl rfl (mv rfl rfl (gv (ov_sub_i rfl rfl (by omega) (by omega)) rfl (gv (ov_mul_i rfl rfl (by omega) (by omega)) rfl (mv rfl rfl (mv rfl rfl (gv (ov_sub_i rfl rfl (by omega) (by omega)) rfl (mv rfl rfl (mv rfl rfl ?_)))))))))))))
  refine gv (ov_sub_i rfl rfl (by omega) (by omega)) rfl (gv (ov_mul_i rfl rfl (by omega) (by omega)) rfl (gv (ov_sub_i rfl rfl (by omega) (by omega)) rfl ?_))
  refine zJ (vs := [_]) rfl rfl rfl rfl Tryz.call95 ⟨rfl, trivial⟩ (fun w hs => o_pl_sign hs (by omega) (by omega)) ?_
  intro v67 h4 hh4 r67
  obtain rfl : v67 = vI (sgnZ ((((smZ (b.at i)) - (smZ (a.at i))) * ((smZ (c.at j)) - (smZ (a.at j)))) - (((smZ (b.at j)) - (smZ (a.at j))) * ((smZ (c.at i)) - (smZ (a.at i)))))) := r67
  refine asg rfl rfl (zD (zL (e' := [(10, _)]) ⟨rfl, trivial⟩ (zB (zN (zO (zW rfl rfl ?_))))))
  exact congrArg vI (or_small (a := pr a i j) (b := pr b i j) (c := pr c i j) ⟨ha1, ha2⟩ ⟨hb1, hb2⟩ ⟨hc1', hc2'⟩)
 refine zI (zB (zC ?_))
 refine gc_draw 16 _ [(15, (20, 31, [.bool false, .slice none 0 0, .slice none 0 0]))] [(0, .q), (1, .q), (2, .q), (3, .q), (4, .q), (5, .q), (7, .q), (8, .q), (9, .q), (10, .q), (11, .q), (12, .q), (6, .c), (13, .c), (14, .c), (15, .a), (16, .t)] mixed (AlOk.cons rfl (zero_run info31 rfl rfl) AlOk.nil) (chk_of [0, 1, 2, 0, 8, 16, 36, 0, 128, 256, 0, 1024, 2048, 4672, 8256, 0, 65535] [131071, 131070, 131069, 131071, 131063, 131055, 131035, 131071, 130943, 130815, 131071, 130047, 129023, 126463, 122815, 131071, 81919] (by kernel_rfl)) (hae_cons rfl rfl hae_nil) (fun r hr => hr) (w_q rfl (fun h' L' hh hR => zF rfl) rfl (w_q rfl (fun h' L' hh hR => (zY (sz := 3) i Tryz.underlying33 Tryz.sizeOf31 rfl rfl rfl (by omega)).cv (show _ = vP b6 ((i * 3 + 0)) from congrArg (vP b6) (by omega))) rfl ?_))
 replace rb6 := rb6.mono (hh2.trans hh3)
 refine w_qx (F := fun v_ => (rpQ k).Is h3 v_ (b.at i)) rfl (zE ty31 (Pc.ta (Pc.here _) i (by omega)) rfl rfl rb6 rfl) (mem1 (.tail _ (.head _))) rfl ?_
 intro v70 r70
 refine w_q rfl (fun h' L' hh hR => zF rfl) rfl (w_q rfl (fun h' L' hh hR => (zY (sz := 3) i Tryz.underlying33 Tryz.sizeOf31 rfl rfl rfl (by omega)).cv (show _ = vP b5 ((i * 3 + 0)) from congrArg (vP b5) (by omega))) rfl ?_)
 replace rb5 := rb5.mono ((hh1.trans hh2).trans hh3)
 refine w_qx (F := fun v_ => (rpQ k).Is h3 v_ (a.at i)) rfl (zE ty31 (Pc.ta (Pc.here _) i (by omega)) rfl rfl rb5 rfl) (mem1 (.tail _ (.tail _ (.head _)))) rfl ?_
 intro v73 r73
 refine w_q rfl (fun h' L' hh hR => zF rfl) rfl (w_q rfl (fun h' L' hh hR => (zY (sz := 3) j Tryz.underlying33 Tryz.sizeOf31 rfl rfl rfl (by omega)).cv (show _ = vP b7 ((j * 3 + 0)) from congrArg (vP b7) (by omega))) rfl ?_)
 replace rb7 := rb7.mono hh3
 refine w_qx (F := fun v_ => (rpQ k).Is h3 v_ (c.at j)) rfl (zE ty31 (Pc.ta (Pc.here _) j (by omega)) rfl rfl rb7 rfl) (mem1 (.head _)) rfl ?_
 intro v77 r77
 refine w_q rfl (fun h' L' hh hR => zF rfl) rfl (w_q rfl (fun h' L' hh hR => (zY (sz := 3) j Tryz.underlying33 Tryz.sizeOf31 rfl rfl rfl (by omega)).cv (show _ = vP b5 ((j * 3 + 0)) from congrArg (vP b5) (by omega))) rfl (w_qx (F := fun v_ => (rpQ k).Is h3 v_ (a.at j)) rfl (zE ty31 (Pc.ta (Pc.here _) j (by omega)) rfl rfl rb5 rfl) (mem1 (.tail _ (.tail _ (.head _)))) rfl ?_))
 intro v80 r80
 refine w_c rfl ?_
 refine yO (vs := [_, _]) Tryz.call72 ⟨rfl, rfl, trivial⟩ (fun w hs => o_rat_sub hs r70 r73 (by omega)) rfl ?_
 intro v74 h4 hh4 r74
 change (rpQ (k + k + 1)).Is h4 v74 ((b.at i) - (a.at i)) at r74
 replace r74 := Rp.Is.le r74 (Le.q (l := 2 * k + 1) (by omega))
 refine w_c rfl ?_
 replace r77 := r77.mono hh4
 replace r80 := r80.mono hh4
 refine yO (vs := [_, _]) Tryz.call72 ⟨rfl, rfl, trivial⟩ (fun w hs => o_rat_sub hs r77 r80 (by omega)) rfl ?_
 intro v81 h5 hh5 r81
 change (rpQ (k + k + 1)).Is h5 v81 ((c.at j) - (a.at j)) at r81
 replace r81 := Rp.Is.le r81 (Le.q (l := 2 * k + 1) (by omega))
 refine w_c rfl ?_
 replace r74 := r74.mono hh5
 refine yO (vs := [_, _]) Tryz.call73 ⟨rfl, rfl, trivial⟩ (fun w hs => o_rat_mul hs r74 r81 (by omega)) rfl ?_
 intro v82 h6 hh6 r82
 change (rpQ ((2 * k + 1) + (2 * k + 1))).Is h6 v82 (((b.at i) - (a.at i)) * ((c.at j) - (a.at j))) at r82
 replace r82 := Rp.Is.le r82 (Le.q (l := 4 * k + 2) (by omega))
 refine w_a rfl (fun b20 => ?_)
 have rb20 : (rpQ 1).R h6 [.bool false, .slice none 0 0, .slice none 0 0] (0 : Rat) := (zr_q (by decide))
 have rw_1 := (Le.q (l := 4 * k + 2) (by omega)).R rb20
 refine w_tx_upd (A := []) (F := fun c_ => (rpQ (4 * k + 2)).R h6 c_ (((b.at i) - (a.at i)) * ((c.at j) - (a.at j)))) rfl (upd_box Tryz.sizeOf31 (Pc.here _) rfl rfl rfl rw_1 r82 rfl) ?_
 intro cs_2 rb_3
 refine w_nil (zL (e' := [(3, _), (4, _), (5, _), (6, _), (7, _), (20, _)]) ⟨rfl, rfl, rfl, rfl, rfl, rfl, trivial⟩ (zB (zC ?_)))
 refine gc_draw 18 _ [] [(0, .q), (1, .q), (2, .q), (3, .q), (4, .q), (5, .q), (6, .q), (8, .q), (9, .q), (10, .q), (11, .q), (12, .q), (13, .q), (7, .c), (14, .c), (15, .c), (16, .c), (17, .q)] mixed (fun x hx => by cases hx) (chk_of [0, 0, 2, 4, 0, 16, 32, 72, 0, 256, 512, 0, 2048, 4096, 9344, 16512, 32769, 131071] [262143, 262143, 262141, 262139, 262143, 262127, 262111, 262071, 262143, 261887, 261631, 262143, 260095, 258047, 252927, 245631, 229374, 196607] (by kernel_rfl)) (fun x hx => by cases hx) (fun r hr => hr) (w_qx (F := fun v_ => (rpQ (4 * k + 2)).Is h6 v_ (((b.at i) - (a.at i)) * ((c.at j) - (a.at j)))) rfl (zE ty31 (Pc.here _) rfl rfl rb_3 rfl) (mem1 (.head _)) rfl ?_)
 intro v83 r83
 refine w_q rfl (fun h' L' hh hR => zF rfl) rfl (w_q rfl (fun h' L' hh hR => (zY (sz := 3) j Tryz.underlying33 Tryz.sizeOf31 rfl rfl rfl (by omega)).cv (show _ = vP b6 ((j * 3 + 0)) from congrArg (vP b6) (by omega))) rfl ?_)
 replace rb6 := rb6.mono ((hh4.trans hh5).trans hh6)
 refine w_qx (F := fun v_ => (rpQ k).Is h6 v_ (b.at j)) rfl (zE ty31 (Pc.ta (Pc.here _) j (by omega)) rfl rfl rb6 rfl) (mem1 (.tail _ (.tail _ (.head _)))) rfl ?_
 intro v86 r86
 refine w_q rfl (fun h' L' hh hR => zF rfl) rfl (w_q rfl (fun h' L' hh hR => (zY (sz := 3) j Tryz.underlying33 Tryz.sizeOf31 rfl rfl rfl (by omega)).cv (show _ = vP b5 ((j * 3 + 0)) from congrArg (vP b5) (by omega))) rfl ?_)
 replace rb5 := rb5.mono ((hh4.trans hh5).trans hh6)
 refine w_qx (F := fun v_ => (rpQ k).Is h6 v_ (a.at j)) rfl (zE ty31 (Pc.ta (Pc.here _) j (by omega)) rfl rfl rb5 rfl) (mem1 (.tail _ (.tail _ (.tail _ (.head _))))) rfl ?_
 intro v89 r89
 refine w_q rfl (fun h' L' hh hR => zF rfl) rfl (w_q rfl (fun h' L' hh hR => (zY (sz := 3) i Tryz.underlying33 Tryz.sizeOf31 rfl rfl rfl (by omega)).cv (show _ = vP b7 ((i * 3 + 0)) from congrArg (vP b7) (by omega))) rfl ?_)
 replace rb7 := rb7.mono ((hh4.trans hh5).trans hh6)
 refine w_qx (F := fun v_ => (rpQ k).Is h6 v_ (c.at i)) rfl (zE ty31 (Pc.ta (Pc.here _) i (by omega)) rfl rfl rb7 rfl) (mem1 (.tail _ (.head _))) rfl ?_
 intro v93 r93
 refine w_q rfl (fun h' L' hh hR => zF rfl) rfl (w_q rfl (fun h' L' hh hR => (zY (sz := 3) i Tryz.underlying33 Tryz.sizeOf31 rfl rfl rfl (by omega)).cv (show _ = vP b5 ((i * 3 + 0)) from congrArg (vP b5) (by omega))) rfl (w_qx (F := fun v_ => (rpQ k).Is h6 v_ (a.at i)) rfl (zE ty31 (Pc.ta (Pc.here _) i (by omega)) rfl rfl rb5 rfl) (mem1 (.tail _ (.tail _ (.tail _ (.head _))))) rfl ?_))
 intro v96 r96
 refine w_c rfl ?_
 refine yO (vs := [_, _]) Tryz.call72 ⟨rfl, rfl, trivial⟩ (fun w hs => o_rat_sub hs r86 r89 (by omega)) rfl ?_
 intro v90 h7 hh7 r90
 change (rpQ (k + k + 1)).Is h7 v90 ((b.at j) - (a.at j)) at r90
 replace r90 := Rp.Is.le r90 (Le.q (l := 2 * k + 1) (by omega))
 refine w_c rfl ?_
 replace r93 := r93.mono hh7
 replace r96 := r96.mono hh7
 refine yO (vs := [_, _]) Tryz.call72 ⟨rfl, rfl, trivial⟩ (fun w hs => o_rat_sub hs r93 r96 (by omega)) rfl ?_
 intro v97 h8 hh8 r97
 change (rpQ (k + k + 1)).Is h8 v97 ((c.at i) - (a.at i)) at r97
 replace r97 := Rp.Is.le r97 (Le.q (l := 2 * k + 1) (by omega))
 refine w_c rfl ?_
 replace r90 := r90.mono hh8
 refine yO (vs := [_, _]) Tryz.call73 ⟨rfl, rfl, trivial⟩ (fun w hs => o_rat_mul hs r90 r97 (by omega)) rfl ?_
 intro v98 h9 hh9 r98
 change (rpQ ((2 * k + 1) + (2 * k + 1))).Is h9 v98 (((b.at j) - (a.at j)) * ((c.at i) - (a.at i))) at r98
 replace r98 := Rp.Is.le r98 (Le.q (l := 4 * k + 2) (by omega))
 refine w_c rfl ?_
 replace r83 := r83.mono ((hh7.trans hh8).trans hh9)
 refine yO (vs := [_, _]) Tryz.call68 ⟨rfl, rfl, trivial⟩ (fun w hs => o_rat_cmp hs r83 r98 (by omega)) rfl ?_
 intro v99 h10 hh10 r99
 obtain rfl : v99 = vI (cmpQ (((b.at i) - (a.at i)) * ((c.at j) - (a.at j))) (((b.at j) - (a.at j)) * ((c.at i) - (a.at i)))) := r99
 have hcr99 := cmpQ_range (((b.at i) - (a.at i)) * ((c.at j) - (a.at j))) (((b.at j) - (a.at j)) * ((c.at i) - (a.at i)))
 refine w_q rfl (fun h' L' hh hR => ov_assign rfl) rfl (w_nil (zL (e' := [(10, _)]) ⟨rfl, trivial⟩ (zB (zN (zW rfl rfl ?_)))))
 exact congrArg vI (or_cmp (pr a i j) (pr b i j) (pr c i j))

theorem o_pl_same {w0 : World} {h0 : Mem}  (hs : MLe h0 (mem w0)) {k : Nat} {va : Value} {a : (T3 Rat)} (ra : (rpT (rpQ k)).Is h0 va a) {vb : Value} {b : (T3 Rat)} (rb : (rpT (rpQ k)).Is h0 vb b) {i : Nat} {j : Nat} (hcd0 : i < 3) (hcd1 : j < 3) (hcd2 : k ≤ 2000000000)  :
    Calls Tryz.prog 74 #[va, vb, vI ↑i, vI ↑j] w0 (Ret w0 h0 (fun _ r => r = vB (pr a i j = pr b i j))) := by
 refine zR (n := 27) (e := [(0, va), (1, vb), (2, vI ↑i), (3, vI ↑j)]) (vs := [va, vb, vI ↑i, vI ↑j]) Tryz.func74 rfl rfl (Nat.le_of_ble_eq_true rfl) hs ⟨rfl, rfl, rfl, rfl, trivial⟩ (zC (zA (zP (new_boxx (ρ := (rpT (rpQ k))) rfl ra) rfl rfl rfl ?_)))
 intro v4 q4 hq4
 obtain ⟨b4, cs4, rfl, rfl, rb4⟩ := hq4
 refine zP (new_boxx (ρ := (rpT (rpQ k))) rfl rb) rfl rfl rfl ?_
 intro v5 q5 hq5
 obtain ⟨b5, cs5, rfl, rfl, rb5⟩ := hq5
 refine asg rfl rfl (zD (zB (zC ?_)))
 refine gc_draw 19 _ [] [(0, .q), (1, .q), (2, .q), (3, .q), (4, .q), (5, .q), (6, .c), (7, .q), (8, .q), (9, .q), (10, .q), (11, .q), (12, .q), (13, .q), (14, .q), (15, .c), (16, .q), (17, .q), (18, .q)] mixed (fun x hx => by cases hx) (chk_of [0, 1, 2, 0, 8, 16, 36, 64, 192, 256, 768, 1280, 256, 4352, 8448, 18688, 33024, 65792, 262143] [524287, 524286, 524285, 524287, 524279, 524271, 524251, 524223, 524159, 524031, 523519, 523007, 524031, 519935, 515839, 505599, 491263, 458495, 393215] (by kernel_rfl)) (fun x hx => by cases hx) (fun r hr => hr) (w_q rfl (fun h' L' hh hR => zF rfl) rfl (w_q rfl (fun h' L' hh hR => (zY (sz := 3) i Tryz.underlying33 Tryz.sizeOf31 rfl rfl rfl (by omega)).cv (show _ = vP b4 ((i * 3 + 0)) from congrArg (vP b4) (by omega))) rfl (w_qx (F := fun v_ => (rpQ k).Is h0 v_ (a.at i)) rfl (zE ty31 (Pc.ta (Pc.here _) i (by omega)) rfl rfl rb4 rfl) (mem1 (.tail _ (.head _))) rfl ?_)))
 intro v11 r11
 refine w_q rfl (fun h' L' hh hR => zF rfl) rfl (w_q rfl (fun h' L' hh hR => (zY (sz := 3) i Tryz.underlying33 Tryz.sizeOf31 rfl rfl rfl (by omega)).cv (show _ = vP b5 ((i * 3 + 0)) from congrArg (vP b5) (by omega))) rfl (w_qx (F := fun v_ => (rpQ k).Is h0 v_ (b.at i)) rfl (zE ty31 (Pc.ta (Pc.here _) i (by omega)) rfl rfl rb5 rfl) (mem1 (.head _)) rfl ?_))
 intro v14 r14
 refine w_c rfl ?_
 refine yO (vs := [_, _]) Tryz.call68 ⟨rfl, rfl, trivial⟩ (fun w hs => o_rat_cmp hs r11 r14 (by omega)) rfl ?_
 intro v15 h1 hh1 r15
 obtain rfl : v15 = vI (cmpQ (a.at i) (b.at i)) := r15
 have hcr15 := cmpQ_range (a.at i) (b.at i)
 refine w_q rfl (fun h' L' hh hR => ov_eql_i (q := 0) rfl rfl) rfl (w_q rfl (fun h' L' hh hR => zF rfl) rfl ?_)
 refine prop_cases ((cmpQ (a.at i) (b.at i)) = (0 : Int)) (fun hg_4 => ?_) (fun hg_4 => ?_)
 ·
  rw [yI hg_4]
  refine w_q_on rfl rfl rfl (fun h' L' hh hR => zF rfl) rfl (w_q_on rfl rfl rfl (fun h' L' hh hR => (zY (sz := 3) j Tryz.underlying33 Tryz.sizeOf31 rfl rfl rfl (by omega)).cv (show _ = vP b4 ((j * 3 + 0)) from congrArg (vP b4) (by omega))) rfl ?_)
  replace rb4 := rb4.mono hh1
  refine w_qx_on (F := fun v_ => (rpQ k).Is h1 v_ (a.at j)) rfl rfl rfl (zE ty31 (Pc.ta (Pc.here _) j (by omega)) rfl rfl rb4 rfl) (mem1 (.tail _ (.head _))) rfl ?_
  intro v20 r20
  refine w_q_on rfl rfl rfl (fun h' L' hh hR => zF rfl) rfl (w_q_on rfl rfl rfl (fun h' L' hh hR => (zY (sz := 3) j Tryz.underlying33 Tryz.sizeOf31 rfl rfl rfl (by omega)).cv (show _ = vP b5 ((j * 3 + 0)) from congrArg (vP b5) (by omega))) rfl ?_)
  replace rb5 := rb5.mono hh1
  refine w_qx_on (F := fun v_ => (rpQ k).Is h1 v_ (b.at j)) rfl rfl rfl (zE ty31 (Pc.ta (Pc.here _) j (by omega)) rfl rfl rb5 rfl) (mem1 (.head _)) rfl ?_
  intro v23 r23
  refine w_c rfl (s_on rfl rfl ?_)
  refine yO (vs := [_, _]) Tryz.call68 ⟨rfl, rfl, trivial⟩ (fun w hs => o_rat_cmp hs r20 r23 (by omega)) rfl ?_
  intro v24 h2 hh2 r24
  obtain rfl : v24 = vI (cmpQ (a.at j) (b.at j)) := r24
  have hcr24 := cmpQ_range (a.at j) (b.at j)
  refine w_q_on rfl rfl rfl (fun h' L' hh hR => ov_eql_i (q := 0) rfl rfl) rfl (w_q rfl (fun h' L' hh hR => yF rfl rfl) rfl (w_q rfl (fun h' L' hh hR => ov_assign rfl) rfl (w_nil (zL (e' := [(8, _)]) ⟨rfl, trivial⟩ (zB (zN (zW rfl rfl ?_)))))))
  first | exact vB_iff (by rw [pr_eq, ← cmpQ_zero, ← cmpQ_zero]; grind) | exact (yI (by rw [pr_eq, ← cmpQ_zero, ← cmpQ_zero]; grind)).symm | exact (yA (by rw [pr_eq, ← cmpQ_zero, ← cmpQ_zero]; grind)).symm
 rw [yA hg_4]
 refine zM rfl rfl rfl rfl rfl (zM rfl rfl rfl rfl rfl (zM rfl rfl rfl rfl rfl (zM rfl rfl rfl rfl rfl (zM rfl rfl rfl rfl rfl (zM rfl rfl rfl rfl rfl ?_)))))
 refine w_c rfl (s_off rfl rfl rfl rfl (zM rfl rfl rfl rfl rfl (w_q rfl (fun h' L' hh hR => yD rfl rfl) rfl (w_q rfl (fun h' L' hh hR => ov_assign rfl) rfl (w_nil (zL (e' := [(8, _)]) ⟨rfl, trivial⟩ (zB (zN (zW rfl rfl ?_)))))))))
 first | exact vB_iff (by rw [pr_eq, ← cmpQ_zero, ← cmpQ_zero]; grind) | exact (yI (by rw [pr_eq, ← cmpQ_zero, ← cmpQ_zero]; grind)).symm | exact (yA (by rw [pr_eq, ← cmpQ_zero, ← cmpQ_zero]; grind)).symm

theorem o_pl_between {w0 : World} {h0 : Mem}  (hs : MLe h0 (mem w0)) {k : Nat} {va : Value} {a : Rat} (ra : (rpQ k).Is h0 va a) {vb : Value} {b : Rat} (rb : (rpQ k).Is h0 vb b) {vx : Value} {x : Rat} (rx : (rpQ k).Is h0 vx x) (hcd0 : k ≤ 1000000000)  :
    Calls Tryz.prog 88 #[va, vb, vx] w0 (Ret w0 h0 (fun _ r => r = vB (betwP a b x))) := by
 refine zR (n := 29) (e := [(0, va), (1, vb), (2, vx)]) (vs := [va, vb, vx]) Tryz.func88 rfl rfl (Nat.le_of_ble_eq_true rfl) hs ⟨rfl, rfl, rfl, trivial⟩ (zC (zA (zP (new_boxx (ρ := (rpQ k)) rfl ra) rfl rfl rfl ?_)))
 intro v3 q3 hq3
 obtain ⟨b3, cs3, rfl, rfl, rb3⟩ := hq3
 refine zP (new_boxx (ρ := (rpQ k)) rfl rb) rfl rfl rfl ?_
 intro v4 q4 hq4
 obtain ⟨b4, cs4, rfl, rfl, rb4⟩ := hq4
 refine zP (new_boxx (ρ := (rpQ k)) rfl rx) rfl rfl rfl ?_
 intro v5 q5 hq5
 obtain ⟨b5, cs5, rfl, rfl, rb5⟩ := hq5
 refine asg rfl rfl (zD (zB (zC ?_)))
 refine gc_draw 8 _ [] [(0, .q), (1, .q), (3, .q), (4, .q), (2, .c), (5, .c), (6, .q), (7, .q)] mixed (fun x hx => by cases hx) (by kernel_rfl) (fun x hx => by cases hx) (fun r hr => hr) (w_qx (F := fun v_ => (rpQ k).Is h0 v_ a) rfl (zE ty31 (Pc.here _) rfl rfl rb3 rfl) (mem1 (.tail _ (.tail _ (.head _)))) rfl ?_)
 intro v9 r9
 refine w_qx (F := fun v_ => (rpQ k).Is h0 v_ x) rfl (zE ty31 (Pc.here _) rfl rfl rb5 rfl) (mem1 (.head _)) rfl ?_
 intro v10 r10
 refine w_qx (F := fun v_ => (rpQ k).Is h0 v_ x) rfl (zE ty31 (Pc.here _) rfl rfl rb5 rfl) (mem1 (.head _)) rfl ?_
 intro v12 r12
 refine w_qx (F := fun v_ => (rpQ k).Is h0 v_ b) rfl (zE ty31 (Pc.here _) rfl rfl rb4 rfl) (mem1 (.tail _ (.head _))) rfl ?_
 intro v13 r13
 refine w_c rfl ?_
 refine yO (vs := [_, _]) Tryz.call68 ⟨rfl, rfl, trivial⟩ (fun w hs => o_rat_cmp hs r9 r10 (by omega)) rfl ?_
 intro v11 h1 hh1 r11
 obtain rfl : v11 = vI (cmpQ a x) := r11
 have hcr11 := cmpQ_range a x
 refine w_c rfl ?_
 replace r12 := r12.mono hh1
 replace r13 := r13.mono hh1
 refine yO (vs := [_, _]) Tryz.call68 ⟨rfl, rfl, trivial⟩ (fun w hs => o_rat_cmp hs r12 r13 (by omega)) rfl ?_
 intro v14 h2 hh2 r14
 obtain rfl : v14 = vI (cmpQ x b) := r14
 have hcr14 := cmpQ_range x b
 refine w_q rfl (fun h' L' hh hR => ov_assign rfl) rfl (w_q rfl (fun h' L' hh hR => ov_assign rfl) rfl (w_nil (zL (e' := [(7, _), (8, _)]) ⟨rfl, rfl, trivial⟩ (zB (zC (zA (mv rfl rfl (gv (ov_leq_i (q := 0) rfl rfl) rfl ?_))))))))
 refine gl_cut (ι := Unit) 4 (fun _ => True) (fun _ => [(20, vB (((cmpQ a x) ≤ (0 : Int)) ∧ ((cmpQ x b) ≤ (0 : Int)))), (7, vI (cmpQ a x)), (8, vI (cmpQ x b))]) (fun _ => [.var b5 31 cs5, .var b4 31 cs4, .var b3 31 cs3]) (fun _ => h2) ?_ ?_
 ·
  refine gl_cases ((cmpQ a x) ≤ (0 : Int)) (fun hg => ?_) (fun hg => ?_)
  ·
   refine yG (zF (v := .bool true) (congrArg some (yI hg))) rfl rfl rfl (zT rfl rfl rfl (mv rfl rfl (zT rfl rfl rfl (gv (ov_leq_i (q := 0) rfl rfl) rfl (gv (yF rfl rfl) rfl (zD ?_))))))
   refine zU () trivial ⟨?_, rfl, rfl, trivial⟩ rfl rfl
   exact congrArg some (vB_and_t hg)
  refine yG (zF (v := .bool false) (congrArg some (yA hg))) rfl rfl rfl (zK rfl rfl rfl rfl rfl rfl (zK rfl rfl rfl rfl rfl rfl (gv (yD rfl rfl) rfl (zD ?_))))
  refine zU () trivial ⟨?_, rfl, rfl, trivial⟩ rfl rfl
  exact congrArg some (vB_and_f hg)
 intro _ _
 show GL _ _ _ _ _ _ _ [(20, vB (((cmpQ a x) ≤ (0 : Int)) ∧ ((cmpQ x b) ≤ (0 : Int)))), (7, vI (cmpQ a x)), (8, vI (cmpQ x b))] [.var b5 31 cs5, .var b4 31 cs4, .var b3 31 cs3] h2
 refine gl_cut (ι := Unit) 8 (fun _ => True) (fun _ => [(28, vB ((((cmpQ a x) ≤ (0 : Int)) ∧ ((cmpQ x b) ≤ (0 : Int))) ∨ (((0 : Int) ≤ (cmpQ a x)) ∧ ((0 : Int) ≤ (cmpQ x b)))))]) (fun _ => [.var b5 31 cs5, .var b4 31 cs4, .var b3 31 cs3]) (fun _ => h2) ?_ ?_
 ·
  refine gl_cases (((cmpQ a x) ≤ (0 : Int)) ∧ ((cmpQ x b) ≤ (0 : Int))) (fun hg => ?_) (fun hg => ?_)
  ·
   refine yG (zF (v := .bool true) (congrArg some (yI hg))) rfl rfl rfl (zK rfl rfl rfl rfl rfl rfl (zK rfl rfl rfl rfl rfl rfl (zK rfl rfl rfl rfl rfl rfl (gl_offu rfl rfl rfl rfl rfl (gl_offu rfl rfl rfl rfl rfl (zK rfl rfl rfl rfl rfl rfl (gv (yF rfl rfl) rfl (zD ?_))))))))
   refine zU () trivial ⟨?_, trivial⟩ rfl rfl
   exact congrArg some (vB_or_t hg)
  refine yG (zF (v := .bool false) (congrArg some (yA hg))) rfl rfl rfl (zT rfl rfl rfl (mv rfl rfl (zT rfl rfl rfl (gv (ov_geq_i (q := 0) rfl rfl) rfl ?_))))
  refine gl_cut (ι := Unit) 4 (fun _ => True) (fun _ => [(27, vB (((0 : Int) ≤ (cmpQ a x)) ∧ ((0 : Int) ≤ (cmpQ x b)))), (21, .bool false)]) (fun _ => [.var b5 31 cs5, .var b4 31 cs4, .var b3 31 cs3]) (fun _ => h2) ?_ ?_
  ·
   refine gl_cases ((0 : Int) ≤ (cmpQ a x)) (fun hg => ?_) (fun hg => ?_)
   ·
    refine zT rfl rfl rfl (yG (zF (v := .bool true) (congrArg some (yI hg))) rfl rfl rfl (zT rfl rfl rfl (mv rfl rfl (zT rfl rfl rfl (gv (ov_geq_i (q := 0) rfl rfl) rfl (zT rfl rfl rfl (gv (yF rfl rfl) rfl (zD ?_))))))))
    refine zU () trivial ⟨?_, rfl, trivial⟩ rfl rfl
    exact congrArg some (vB_and_t hg)
   refine zT rfl rfl rfl (yG (zF (v := .bool false) (congrArg some (yA hg))) rfl rfl rfl (zK rfl rfl rfl rfl rfl rfl (zK rfl rfl rfl rfl rfl rfl (zT rfl rfl rfl (gv (yD rfl rfl) rfl (zD ?_))))))
   refine zU () trivial ⟨?_, rfl, trivial⟩ rfl rfl
   exact congrArg some (vB_and_f hg)
  intro _ _
  show GL _ _ _ _ _ _ _ [(27, vB (((0 : Int) ≤ (cmpQ a x)) ∧ ((0 : Int) ≤ (cmpQ x b)))), (21, .bool false)] [.var b5 31 cs5, .var b4 31 cs4, .var b3 31 cs3] h2
  refine gv (yD rfl rfl) rfl (zD ?_)
  refine zU () trivial ⟨?_, trivial⟩ rfl rfl
  exact congrArg some (vB_or_f hg)
 intro _ _
 show GL _ _ _ _ _ _ _ [(28, vB ((((cmpQ a x) ≤ (0 : Int)) ∧ ((cmpQ x b) ≤ (0 : Int))) ∨ (((0 : Int) ≤ (cmpQ a x)) ∧ ((0 : Int) ≤ (cmpQ x b)))))] [.var b5 31 cs5, .var b4 31 cs4, .var b3 31 cs3] h2
 refine asg rfl rfl (zD (zB (zN (zW rfl rfl ?_))))
 exact vB_iff betw_iff

theorem o_pl_on {w0 : World} {h0 : Mem}  (hs : MLe h0 (mem w0)) {k : Nat} {va : Value} {a : (T3 Rat)} (ra : (rpT (rpQ k)).Is h0 va a) {vb : Value} {b : (T3 Rat)} (rb : (rpT (rpQ k)).Is h0 vb b) {vp : Value} {p : (T3 Rat)} (rp : (rpT (rpQ k)).Is h0 vp p) {i : Nat} {j : Nat} (hcd0 : i < 3) (hcd1 : j < 3) (hcd2 : k ≤ 1000000000)  :
    Calls Tryz.prog 67 #[va, vb, vp, vI ↑i, vI ↑j] w0 (Ret w0 h0 (fun _ r => r = vB (onS (pr a i j) (pr b i j) (pr p i j)))) := by
 refine zR (n := 42) (e := [(0, va), (1, vb), (2, vp), (3, vI ↑i), (4, vI ↑j)]) (vs := [va, vb, vp, vI ↑i, vI ↑j]) Tryz.func67 rfl rfl (Nat.le_of_ble_eq_true rfl) hs ⟨rfl, rfl, rfl, rfl, rfl, trivial⟩ (zC (zA (zP (new_boxx (ρ := (rpT (rpQ k))) rfl ra) rfl rfl rfl ?_)))
 intro v5 q5 hq5
 obtain ⟨b5, cs5, rfl, rfl, rb5⟩ := hq5
 refine zP (new_boxx (ρ := (rpT (rpQ k))) rfl rb) rfl rfl rfl ?_
 intro v6 q6 hq6
 obtain ⟨b6, cs6, rfl, rfl, rb6⟩ := hq6
 refine zP (new_boxx (ρ := (rpT (rpQ k))) rfl rp) rfl rfl rfl ?_
 intro v7 q7 hq7
 obtain ⟨b7, cs7, rfl, rfl, rb7⟩ := hq7
 refine asg rfl rfl (zD (zB (zC ?_)))
 refine gc_draw 32 _ [] [(0, .q), (1, .q), (2, .q), (3, .q), (4, .q), (5, .q), (6, .q), (7, .q), (8, .q), (9, .c), (10, .q), (11, .q), (12, .q), (13, .q), (14, .q), (15, .q), (16, .q), (17, .q), (18, .q), (19, .q), (20, .c), (21, .q), (22, .q), (23, .q), (24, .q), (25, .q), (26, .q), (27, .q), (28, .c), (29, .q), (30, .q), (31, .q)] mixed (fun x hx => by cases hx) (chk_of [0, 1, 2, 0, 8, 16, 0, 64, 128, 292, 512, 1024, 3072, 5120, 1024, 17408, 33792, 1024, 132096, 263168, 599040, 1049600, 3145728, 4194304, 4194304, 4194304, 4194304, 4194304, 264241152, 272629760, 541065216, 2147483647] [4294967295, 4294967294, 4294967293, 4294967295, 4294967287, 4294967279, 4294967295, 4294967231, 4294967167, 4294967003, 4294966783, 4294966271, 4294964223, 4294962175, 4294966271, 4294949887, 4294933503, 4294966271, 4294835199, 4294704127, 4294368255, 4293917695, 4292870143, 4290772991, 4290772991, 4290772991, 4290772991, 4290772991, 4030726143, 4022337535, 3753902079, 3221225471] (by kernel_rfl)) (fun x hx => by cases hx) (fun r hr => hr) (w_q rfl (fun h' L' hh hR => zF rfl) rfl (w_q rfl (fun h' L' hh hR => (zY (sz := 3) i Tryz.underlying33 Tryz.sizeOf31 rfl rfl rfl (by omega)).cv (show _ = vP b5 ((i * 3 + 0)) from congrArg (vP b5) (by omega))) rfl (w_qx (F := fun v_ => (rpQ k).Is h0 v_ (a.at i)) rfl (zE ty31 (Pc.ta (Pc.here _) i (by omega)) rfl rfl rb5 rfl) (mem1 (.tail _ (.tail _ (.head _)))) rfl ?_)))
 intro v13 r13
 refine w_q rfl (fun h' L' hh hR => zF rfl) rfl (w_q rfl (fun h' L' hh hR => (zY (sz := 3) i Tryz.underlying33 Tryz.sizeOf31 rfl rfl rfl (by omega)).cv (show _ = vP b6 ((i * 3 + 0)) from congrArg (vP b6) (by omega))) rfl (w_qx (F := fun v_ => (rpQ k).Is h0 v_ (b.at i)) rfl (zE ty31 (Pc.ta (Pc.here _) i (by omega)) rfl rfl rb6 rfl) (mem1 (.tail _ (.head _))) rfl ?_))
 intro v16 r16
 refine w_q rfl (fun h' L' hh hR => zF rfl) rfl (w_q rfl (fun h' L' hh hR => (zY (sz := 3) i Tryz.underlying33 Tryz.sizeOf31 rfl rfl rfl (by omega)).cv (show _ = vP b7 ((i * 3 + 0)) from congrArg (vP b7) (by omega))) rfl (w_qx (F := fun v_ => (rpQ k).Is h0 v_ (p.at i)) rfl (zE ty31 (Pc.ta (Pc.here _) i (by omega)) rfl rfl rb7 rfl) (mem1 (.head _)) rfl ?_))
 intro v19 r19
 refine w_c rfl ?_
 refine yO (vs := [_, _, _]) Tryz.call88 ⟨rfl, rfl, rfl, trivial⟩ (fun w hs => o_pl_between hs r13 r16 r19 (by omega)) rfl ?_
 intro v20 h1 hh1 r20
 obtain rfl : v20 = vB (betwP (a.at i) (b.at i) (p.at i)) := r20
 refine w_q rfl (fun h' L' hh hR => zF rfl) rfl ?_
 refine prop_cases (betwP (a.at i) (b.at i) (p.at i)) (fun hg_5 => ?_) (fun hg_5 => ?_)
 ·
  rw [yI hg_5]
  refine w_q_on rfl rfl rfl (fun h' L' hh hR => zF rfl) rfl (w_q_on rfl rfl rfl (fun h' L' hh hR => (zY (sz := 3) j Tryz.underlying33 Tryz.sizeOf31 rfl rfl rfl (by omega)).cv (show _ = vP b5 ((j * 3 + 0)) from congrArg (vP b5) (by omega))) rfl ?_)
  replace rb5 := rb5.mono hh1
  refine w_qx_on (F := fun v_ => (rpQ k).Is h1 v_ (a.at j)) rfl rfl rfl (zE ty31 (Pc.ta (Pc.here _) j (by omega)) rfl rfl rb5 rfl) (mem1 (.tail _ (.tail _ (.head _)))) rfl ?_
  intro v24 r24
  refine w_q_on rfl rfl rfl (fun h' L' hh hR => zF rfl) rfl (w_q_on rfl rfl rfl (fun h' L' hh hR => (zY (sz := 3) j Tryz.underlying33 Tryz.sizeOf31 rfl rfl rfl (by omega)).cv (show _ = vP b6 ((j * 3 + 0)) from congrArg (vP b6) (by omega))) rfl ?_)
  replace rb6 := rb6.mono hh1
  refine w_qx_on (F := fun v_ => (rpQ k).Is h1 v_ (b.at j)) rfl rfl rfl (zE ty31 (Pc.ta (Pc.here _) j (by omega)) rfl rfl rb6 rfl) (mem1 (.tail _ (.head _))) rfl ?_
  intro v27 r27
  refine w_q_on rfl rfl rfl (fun h' L' hh hR => zF rfl) rfl (w_q_on rfl rfl rfl (fun h' L' hh hR => (zY (sz := 3) j Tryz.underlying33 Tryz.sizeOf31 rfl rfl rfl (by omega)).cv (show _ = vP b7 ((j * 3 + 0)) from congrArg (vP b7) (by omega))) rfl ?_)
  replace rb7 := rb7.mono hh1
  refine w_qx_on (F := fun v_ => (rpQ k).Is h1 v_ (p.at j)) rfl rfl rfl (zE ty31 (Pc.ta (Pc.here _) j (by omega)) rfl rfl rb7 rfl) (mem1 (.head _)) rfl ?_
  intro v30 r30
  refine w_c rfl (s_on rfl rfl ?_)
  refine yO (vs := [_, _, _]) Tryz.call88 ⟨rfl, rfl, rfl, trivial⟩ (fun w hs => o_pl_between hs r24 r27 r30 (by omega)) rfl ?_
  intro v31 h2 hh2 r31
  obtain rfl : v31 = vB (betwP (a.at j) (b.at j) (p.at j)) := r31
  refine w_q rfl (fun h' L' hh hR => yF rfl rfl) rfl (w_q rfl (fun h' L' hh hR => zF rfl) rfl ?_)
  refine prop_cases (betwP (a.at j) (b.at j) (p.at j)) (fun hg_6 => ?_) (fun hg_6 => ?_)
  ·
   rw [yI hg_6]
   replace rb5 := rb5.mono hh2
   refine w_qx_on (F := fun v_ => (rpT (rpQ k)).Is h2 v_ a) rfl rfl rfl (zE ty33 (Pc.here _) rfl rfl rb5 rfl) (mem1 (.tail _ (.tail _ (.head _)))) rfl ?_
   intro v34 r34
   replace rb6 := rb6.mono hh2
   refine w_qx_on (F := fun v_ => (rpT (rpQ k)).Is h2 v_ b) rfl rfl rfl (zE ty33 (Pc.here _) rfl rfl rb6 rfl) (mem1 (.tail _ (.head _))) rfl ?_
   intro v35 r35
   replace rb7 := rb7.mono hh2
   refine w_qx_on (F := fun v_ => (rpT (rpQ k)).Is h2 v_ p) rfl rfl rfl (zE ty33 (Pc.here _) rfl rfl rb7 rfl) (mem1 (.head _)) rfl ?_
   intro v36 r36
   refine w_q_on rfl rfl rfl (fun h' L' hh hR => zF rfl) rfl (w_q_on rfl rfl rfl (fun h' L' hh hR => zF rfl) rfl ?_)
   refine w_c rfl (s_on rfl rfl ?_)
   refine yO (vs := [_, _, _, _, _]) Tryz.call69 ⟨rfl, rfl, rfl, rfl, rfl, trivial⟩ (fun w hs => o_pl_orient (i := i) (j := j) hs r34 r35 r36 (by omega) (by omega) (by omega)) rfl ?_
   intro v39 h3 hh3 r39
   obtain rfl : v39 = vI (orZ (pr a i j) (pr b i j) (pr p i j)) := r39
   have hor39 := or_range (pr a i j) (pr b i j) (pr p i j)
   refine w_q_on rfl rfl rfl (fun h' L' hh hR => ov_eql_i (q := 0) rfl rfl) rfl (w_q rfl (fun h' L' hh hR => yF rfl rfl) rfl (w_q rfl (fun h' L' hh hR => ov_assign rfl) rfl (w_nil (zL (e' := [(10, _)]) ⟨rfl, trivial⟩ (zB (zN (zW rfl rfl ?_)))))))
   first | exact vB_iff (by unfold onS; simp only [pr, ← orZ_zero] at *; grind) | exact (yI (by unfold onS; simp only [pr, ← orZ_zero] at *; grind)).symm | exact (yA (by unfold onS; simp only [pr, ← orZ_zero] at *; grind)).symm
  rw [yA hg_6]
  refine zM rfl rfl rfl rfl rfl (zM rfl rfl rfl rfl rfl (zM rfl rfl rfl rfl rfl (zM rfl rfl rfl rfl rfl (zM rfl rfl rfl rfl rfl ?_))))
  refine w_c rfl (s_off rfl rfl rfl rfl (zM rfl rfl rfl rfl rfl (w_q rfl (fun h' L' hh hR => yD rfl rfl) rfl (w_q rfl (fun h' L' hh hR => ov_assign rfl) rfl (w_nil (zL (e' := [(10, _)]) ⟨rfl, trivial⟩ (zB (zN (zW rfl rfl ?_)))))))))
  first | exact vB_iff (by unfold onS; simp only [pr, ← orZ_zero] at *; grind) | exact (yI (by unfold onS; simp only [pr, ← orZ_zero] at *; grind)).symm | exact (yA (by unfold onS; simp only [pr, ← orZ_zero] at *; grind)).symm
 rw [yA hg_5]
 refine zM rfl rfl rfl rfl rfl (zM rfl rfl rfl rfl rfl (zM rfl rfl rfl rfl rfl (zM rfl rfl rfl rfl rfl (zM rfl rfl rfl rfl rfl (zM rfl rfl rfl rfl rfl (zM rfl rfl rfl rfl rfl (zM rfl rfl rfl rfl rfl (zM rfl rfl rfl rfl rfl ?_))))))))
 refine w_c rfl (s_off rfl rfl rfl rfl (w_q rfl (fun h' L' hh hR => yD rfl rfl) rfl (w_q rfl (fun h' L' hh hR => zF rfl) rfl (zM rfl rfl rfl rfl rfl (zM rfl rfl rfl rfl rfl (zM rfl rfl rfl rfl rfl (zM rfl rfl rfl rfl rfl (zM rfl rfl rfl rfl rfl ?_))))))))
 refine w_c rfl (s_off rfl rfl rfl rfl (zM rfl rfl rfl rfl rfl (w_q rfl (fun h' L' hh hR => yD rfl rfl) rfl (w_q rfl (fun h' L' hh hR => ov_assign rfl) rfl (w_nil (zL (e' := [(10, _)]) ⟨rfl, trivial⟩ (zB (zN (zW rfl rfl ?_)))))))))
 first | exact vB_iff (by unfold onS; simp only [pr, ← orZ_zero] at *; grind) | exact (yI (by unfold onS; simp only [pr, ← orZ_zero] at *; grind)).symm | exact (yA (by unfold onS; simp only [pr, ← orZ_zero] at *; grind)).symm

theorem o_pl_apart {w0 : World} {h0 : Mem}  (hs : MLe h0 (mem w0)) {k : Nat} {va : Value} {a : Rat} (ra : (rpQ k).Is h0 va a) {vb : Value} {b : Rat} (rb : (rpQ k).Is h0 vb b) {vc : Value} {c : Rat} (rc : (rpQ k).Is h0 vc c) {vd : Value} {d : Rat} (rd : (rpQ k).Is h0 vd d) (hcd0 : k ≤ 1000000000)  :
    Calls Tryz.prog 82 #[va, vb, vc, vd] w0 (Ret w0 h0 (fun _ r => r = vB (apartP a b c d))) := by
 refine zR (n := 55) (e := [(0, va), (1, vb), (2, vc), (3, vd)]) (vs := [va, vb, vc, vd]) Tryz.func82 rfl rfl (Nat.le_of_ble_eq_true rfl) hs ⟨rfl, rfl, rfl, rfl, trivial⟩ (zC (zA (zP (new_boxx (ρ := (rpQ k)) rfl ra) rfl rfl rfl ?_)))
 intro v4 q4 hq4
 obtain ⟨b4, cs4, rfl, rfl, rb4⟩ := hq4
 refine zP (new_boxx (ρ := (rpQ k)) rfl rb) rfl rfl rfl ?_
 intro v5 q5 hq5
 obtain ⟨b5, cs5, rfl, rfl, rb5⟩ := hq5
 refine zP (new_boxx (ρ := (rpQ k)) rfl rc) rfl rfl rfl ?_
 intro v6 q6 hq6
 obtain ⟨b6, cs6, rfl, rfl, rb6⟩ := hq6
 refine zP (new_boxx (ρ := (rpQ k)) rfl rd) rfl rfl rfl ?_
 intro v7 q7 hq7
 obtain ⟨b7, cs7, rfl, rfl, rb7⟩ := hq7
 refine asg rfl rfl (zD (zB (zC (zA (gl_x (F := fun v_ => (rpQ k).Is h0 v_ a) (zE ty31 (Pc.here _) rfl rfl rb4 rfl) (mem1 (.tail _ (.tail _ (.tail _ (.head _))))) rfl ?_)))))
 intro v9 r9
 refine gl_x (F := fun v_ => (rpQ k).Is h0 v_ c) (zE ty31 (Pc.here _) rfl rfl rb6 rfl) (mem1 (.tail _ (.head _))) rfl ?_
 intro v10 r10
 refine zJ (vs := [_, _]) rfl rfl rfl rfl Tryz.call68 ⟨rfl, rfl, trivial⟩ (fun w hs => o_rat_cmp hs r9 r10 (by omega)) ?_
 intro v11 h1 hh1 r11
 obtain rfl : v11 = vI (cmpQ a c) := r11
 have hcr11 := cmpQ_range a c
 refine gv (yH (q := 0) rfl rfl) rfl ?_
 refine gl_cut (ι := Mem) 6 (fun m_ => MLe h1 m_) (fun _ => [(18, vB (((cmpQ a c) < (0 : Int)) ∧ ((cmpQ a d) < (0 : Int)))), (4, vP b4 0), (5, vP b5 0), (6, vP b6 0), (7, vP b7 0)]) (fun _ => [.var b7 31 cs7, .var b6 31 cs6, .var b5 31 cs5, .var b4 31 cs4]) (fun m_ => m_) ?_ ?_
 ·
  refine gl_cases ((cmpQ a c) < (0 : Int)) (fun hg => ?_) (fun hg => ?_)
  ·
   refine yG (zF (v := .bool true) (congrArg some (yI hg))) rfl rfl rfl (zT rfl rfl rfl ?_)
   replace rb4 := rb4.mono hh1
   refine gl_x (F := fun v_ => (rpQ k).Is h1 v_ a) (zE ty31 (Pc.here _) rfl rfl rb4 rfl) (mem1 (.tail _ (.tail _ (.tail _ (.head _))))) rfl ?_
   intro v14 r14
   refine zT rfl rfl rfl ?_
   replace rb7 := rb7.mono hh1
   refine gl_x (F := fun v_ => (rpQ k).Is h1 v_ d) (zE ty31 (Pc.here _) rfl rfl rb7 rfl) (mem1 (.head _)) rfl ?_
   intro v15 r15
   refine zT rfl rfl rfl ?_
   refine zJ (vs := [_, _]) rfl rfl rfl rfl Tryz.call68 ⟨rfl, rfl, trivial⟩ (fun w hs => o_rat_cmp hs r14 r15 (by omega)) ?_
   intro v16 h2 hh2 r16
   obtain rfl : v16 = vI (cmpQ a d) := r16
   have hcr16 := cmpQ_range a d
   refine zT rfl rfl rfl (gv (yH (q := 0) rfl rfl) rfl (gv (yF rfl rfl) rfl (zD ?_)))
   refine zU h2 hh2 ⟨?_, rfl, rfl, rfl, rfl, trivial⟩ rfl rfl
   exact congrArg some (vB_and_t hg)
  refine yG (zF (v := .bool false) (congrArg some (yA hg))) rfl rfl rfl (zK rfl rfl rfl rfl rfl rfl (zK rfl rfl rfl rfl rfl rfl (zK rfl rfl rfl rfl rfl rfl (zK rfl rfl rfl rfl rfl rfl (gv (yD rfl rfl) rfl (zD ?_))))))
  refine zU h1 (MLe.refl _) ⟨?_, rfl, rfl, rfl, rfl, trivial⟩ rfl rfl
  exact congrArg some (vB_and_f hg)
 intro mg1_4 hmmg1_4
 show GL _ _ _ _ _ _ _ [(18, vB (((cmpQ a c) < (0 : Int)) ∧ ((cmpQ a d) < (0 : Int)))), (4, vP b4 0), (5, vP b5 0), (6, vP b6 0), (7, vP b7 0)] [.var b7 31 cs7, .var b6 31 cs6, .var b5 31 cs5, .var b4 31 cs4] mg1_4
 refine gl_cut (ι := Mem) 6 (fun m_ => MLe mg1_4 m_) (fun _ => [(24, vB ((((cmpQ a c) < (0 : Int)) ∧ ((cmpQ a d) < (0 : Int))) ∧ ((cmpQ b c) < (0 : Int)))), (4, vP b4 0), (5, vP b5 0), (6, vP b6 0), (7, vP b7 0)]) (fun _ => [.var b7 31 cs7, .var b6 31 cs6, .var b5 31 cs5, .var b4 31 cs4]) (fun m_ => m_) ?_ ?_
 ·
  refine gl_cases (((cmpQ a c) < (0 : Int)) ∧ ((cmpQ a d) < (0 : Int))) (fun hg => ?_) (fun hg => ?_)
  ·
   refine yG (zF (v := .bool true) (congrArg some (yI hg))) rfl rfl rfl (zT rfl rfl rfl ?_)
   replace rb5 := rb5.mono (hh1.trans hmmg1_4)
   refine gl_x (F := fun v_ => (rpQ k).Is mg1_4 v_ b) (zE ty31 (Pc.here _) rfl rfl rb5 rfl) (mem1 (.tail _ (.tail _ (.head _)))) rfl ?_
   intro v20 r20
   refine zT rfl rfl rfl ?_
   replace rb6 := rb6.mono (hh1.trans hmmg1_4)
   refine gl_x (F := fun v_ => (rpQ k).Is mg1_4 v_ c) (zE ty31 (Pc.here _) rfl rfl rb6 rfl) (mem1 (.tail _ (.head _))) rfl ?_
   intro v21 r21
   refine zT rfl rfl rfl ?_
   refine zJ (vs := [_, _]) rfl rfl rfl rfl Tryz.call68 ⟨rfl, rfl, trivial⟩ (fun w hs => o_rat_cmp hs r20 r21 (by omega)) ?_
   intro v22 h2 hh2 r22
   obtain rfl : v22 = vI (cmpQ b c) := r22
   have hcr22 := cmpQ_range b c
   refine zT rfl rfl rfl (gv (yH (q := 0) rfl rfl) rfl (gv (yF rfl rfl) rfl (zD ?_)))
   refine zU h2 hh2 ⟨?_, rfl, rfl, rfl, rfl, trivial⟩ rfl rfl
   exact congrArg some (vB_and_t hg)
  refine yG (zF (v := .bool false) (congrArg some (yA hg))) rfl rfl rfl (zK rfl rfl rfl rfl rfl rfl (zK rfl rfl rfl rfl rfl rfl (zK rfl rfl rfl rfl rfl rfl (zK rfl rfl rfl rfl rfl rfl (gv (yD rfl rfl) rfl (zD ?_))))))
  refine zU mg1_4 (MLe.refl _) ⟨?_, rfl, rfl, rfl, rfl, trivial⟩ rfl rfl
  exact congrArg some (vB_and_f hg)
 intro mg1_10 hmmg1_10
 show GL _ _ _ _ _ _ _ [(24, vB ((((cmpQ a c) < (0 : Int)) ∧ ((cmpQ a d) < (0 : Int))) ∧ ((cmpQ b c) < (0 : Int)))), (4, vP b4 0), (5, vP b5 0), (6, vP b6 0), (7, vP b7 0)] [.var b7 31 cs7, .var b6 31 cs6, .var b5 31 cs5, .var b4 31 cs4] mg1_10
 refine gl_cut (ι := Mem) 6 (fun m_ => MLe mg1_10 m_) (fun _ => [(30, vB (((((cmpQ a c) < (0 : Int)) ∧ ((cmpQ a d) < (0 : Int))) ∧ ((cmpQ b c) < (0 : Int))) ∧ ((cmpQ b d) < (0 : Int)))), (4, vP b4 0), (5, vP b5 0), (6, vP b6 0), (7, vP b7 0)]) (fun _ => [.var b7 31 cs7, .var b6 31 cs6, .var b5 31 cs5, .var b4 31 cs4]) (fun m_ => m_) ?_ ?_
 ·
  refine gl_cases ((((cmpQ a c) < (0 : Int)) ∧ ((cmpQ a d) < (0 : Int))) ∧ ((cmpQ b c) < (0 : Int))) (fun hg => ?_) (fun hg => ?_)
  ·
   refine yG (zF (v := .bool true) (congrArg some (yI hg))) rfl rfl rfl (zT rfl rfl rfl ?_)
   replace rb5 := rb5.mono ((hh1.trans hmmg1_4).trans hmmg1_10)
   refine gl_x (F := fun v_ => (rpQ k).Is mg1_10 v_ b) (zE ty31 (Pc.here _) rfl rfl rb5 rfl) (mem1 (.tail _ (.tail _ (.head _)))) rfl ?_
   intro v26 r26
   refine zT rfl rfl rfl ?_
   replace rb7 := rb7.mono ((hh1.trans hmmg1_4).trans hmmg1_10)
   refine gl_x (F := fun v_ => (rpQ k).Is mg1_10 v_ d) (zE ty31 (Pc.here _) rfl rfl rb7 rfl) (mem1 (.head _)) rfl ?_
   intro v27 r27
   refine zT rfl rfl rfl ?_
   refine zJ (vs := [_, _]) rfl rfl rfl rfl Tryz.call68 ⟨rfl, rfl, trivial⟩ (fun w hs => o_rat_cmp hs r26 r27 (by omega)) ?_
   intro v28 h2 hh2 r28
   obtain rfl : v28 = vI (cmpQ b d) := r28
   have hcr28 := cmpQ_range b d
   refine zT rfl rfl rfl (gv (yH (q := 0) rfl rfl) rfl (gv (yF rfl rfl) rfl (zD ?_)))
   refine zU h2 hh2 ⟨?_, rfl, rfl, rfl, rfl, trivial⟩ rfl rfl
   exact congrArg some (vB_and_t hg)
  refine yG (zF (v := .bool false) (congrArg some (yA hg))) rfl rfl rfl (zK rfl rfl rfl rfl rfl rfl (zK rfl rfl rfl rfl rfl rfl (zK rfl rfl rfl rfl rfl rfl (zK rfl rfl rfl rfl rfl rfl (gv (yD rfl rfl) rfl (zD ?_))))))
  refine zU mg1_10 (MLe.refl _) ⟨?_, rfl, rfl, rfl, rfl, trivial⟩ rfl rfl
  exact congrArg some (vB_and_f hg)
 intro mg1_16 hmmg1_16
 show GL _ _ _ _ _ _ _ [(30, vB (((((cmpQ a c) < (0 : Int)) ∧ ((cmpQ a d) < (0 : Int))) ∧ ((cmpQ b c) < (0 : Int))) ∧ ((cmpQ b d) < (0 : Int)))), (4, vP b4 0), (5, vP b5 0), (6, vP b6 0), (7, vP b7 0)] [.var b7 31 cs7, .var b6 31 cs6, .var b5 31 cs5, .var b4 31 cs4] mg1_16
 refine gl_cut (ι := Mem) 24 (fun m_ => MLe mg1_16 m_) (fun _ => [(54, vB ((((((cmpQ a c) < (0 : Int)) ∧ ((cmpQ a d) < (0 : Int))) ∧ ((cmpQ b c) < (0 : Int))) ∧ ((cmpQ b d) < (0 : Int))) ∨ (((((0 : Int) < (cmpQ a c)) ∧ ((0 : Int) < (cmpQ a d))) ∧ ((0 : Int) < (cmpQ b c))) ∧ ((0 : Int) < (cmpQ b d)))))]) (fun _ => [.var b7 31 cs7, .var b6 31 cs6, .var b5 31 cs5, .var b4 31 cs4]) (fun m_ => m_) ?_ ?_
 ·
  refine gl_cases (((((cmpQ a c) < (0 : Int)) ∧ ((cmpQ a d) < (0 : Int))) ∧ ((cmpQ b c) < (0 : Int))) ∧ ((cmpQ b d) < (0 : Int))) (fun hg => ?_) (fun hg => ?_)
  ·
   refine yG (zF (v := .bool true) (congrArg some (yI hg))) rfl rfl rfl (zK rfl rfl rfl rfl rfl rfl (zK rfl rfl rfl rfl rfl rfl (zK rfl rfl rfl rfl rfl rfl (zK rfl rfl rfl rfl rfl rfl (zK rfl rfl rfl rfl rfl rfl (gl_offu rfl rfl rfl rfl rfl (gl_offu rfl rfl rfl rfl rfl (gl_offu rfl rfl rfl rfl rfl (gl_offu rfl rfl rfl rfl rfl (zK rfl rfl rfl rfl rfl rfl (zK rfl rfl rfl rfl rfl rfl (gl_offu rfl rfl rfl rfl rfl (gl_offu rfl rfl rfl rfl rfl ?_)))))))))))))
   refine gl_offu rfl rfl rfl rfl rfl (gl_offu rfl rfl rfl rfl rfl (zK rfl rfl rfl rfl rfl rfl (zK rfl rfl rfl rfl rfl rfl (gl_offu rfl rfl rfl rfl rfl (gl_offu rfl rfl rfl rfl rfl (gl_offu rfl rfl rfl rfl rfl (gl_offu rfl rfl rfl rfl rfl (zK rfl rfl rfl rfl rfl rfl (gv (yF rfl rfl) rfl (zD ?_))))))))))
   refine zU mg1_16 (MLe.refl _) ⟨?_, trivial⟩ rfl rfl
   exact congrArg some (vB_or_t hg)
  refine yG (zF (v := .bool false) (congrArg some (yA hg))) rfl rfl rfl (zT rfl rfl rfl ?_)
  replace rb4 := rb4.mono (((hh1.trans hmmg1_4).trans hmmg1_10).trans hmmg1_16)
  refine gl_x (F := fun v_ => (rpQ k).Is mg1_16 v_ a) (zE ty31 (Pc.here _) rfl rfl rb4 rfl) (mem1 (.tail _ (.tail _ (.tail _ (.head _))))) rfl ?_
  intro v32 r32
  refine zT rfl rfl rfl ?_
  replace rb6 := rb6.mono (((hh1.trans hmmg1_4).trans hmmg1_10).trans hmmg1_16)
  refine gl_x (F := fun v_ => (rpQ k).Is mg1_16 v_ c) (zE ty31 (Pc.here _) rfl rfl rb6 rfl) (mem1 (.tail _ (.head _))) rfl ?_
  intro v33 r33
  refine zT rfl rfl rfl ?_
  refine zJ (vs := [_, _]) rfl rfl rfl rfl Tryz.call68 ⟨rfl, rfl, trivial⟩ (fun w hs => o_rat_cmp hs r32 r33 (by omega)) ?_
  intro v34 h2 hh2 r34
  obtain rfl : v34 = vI (cmpQ a c) := r34
  have hcr34 := cmpQ_range a c
  refine zT rfl rfl rfl (gv (ov_gtr_i (q := 0) rfl rfl) rfl ?_)
  refine gl_cut (ι := Mem) 6 (fun m_ => MLe h2 m_) (fun _ => [(41, vB (((0 : Int) < (cmpQ a c)) ∧ ((0 : Int) < (cmpQ a d)))), (5, vP b5 0), (6, vP b6 0), (7, vP b7 0), (31, .bool false)]) (fun _ => [.var b7 31 cs7, .var b6 31 cs6, .var b5 31 cs5, .var b4 31 cs4]) (fun m_ => m_) ?_ ?_
  ·
   refine gl_cases ((0 : Int) < (cmpQ a c)) (fun hg => ?_) (fun hg => ?_)
   ·
    refine zT rfl rfl rfl (yG (zF (v := .bool true) (congrArg some (yI hg))) rfl rfl rfl (zT rfl rfl rfl ?_))
    replace rb4 := rb4.mono hh2
    refine gl_x (F := fun v_ => (rpQ k).Is h2 v_ a) (zE ty31 (Pc.here _) rfl rfl rb4 rfl) (mem1 (.tail _ (.tail _ (.tail _ (.head _))))) rfl ?_
    intro v37 r37
    refine zT rfl rfl rfl ?_
    replace rb7 := rb7.mono ((((hh1.trans hmmg1_4).trans hmmg1_10).trans hmmg1_16).trans hh2)
    refine gl_x (F := fun v_ => (rpQ k).Is h2 v_ d) (zE ty31 (Pc.here _) rfl rfl rb7 rfl) (mem1 (.head _)) rfl ?_
    intro v38 r38
    refine zT rfl rfl rfl ?_
    refine zJ (vs := [_, _]) rfl rfl rfl rfl Tryz.call68 ⟨rfl, rfl, trivial⟩ (fun w hs => o_rat_cmp hs r37 r38 (by omega)) ?_
    intro v39 h3 hh3 r39
    obtain rfl : v39 = vI (cmpQ a d) := r39
    have hcr39 := cmpQ_range a d
    refine zT rfl rfl rfl (gv (ov_gtr_i (q := 0) rfl rfl) rfl (zT rfl rfl rfl (gv (yF rfl rfl) rfl (zD ?_))))
    refine zU h3 hh3 ⟨?_, rfl, rfl, rfl, rfl, trivial⟩ rfl rfl
    exact congrArg some (vB_and_t hg)
   refine zT rfl rfl rfl (yG (zF (v := .bool false) (congrArg some (yA hg))) rfl rfl rfl (zK rfl rfl rfl rfl rfl rfl (zK rfl rfl rfl rfl rfl rfl (zK rfl rfl rfl rfl rfl rfl (zK rfl rfl rfl rfl rfl rfl (zT rfl rfl rfl (gv (yD rfl rfl) rfl (zD ?_))))))))
   refine zU h2 (MLe.refl _) ⟨?_, rfl, rfl, rfl, rfl, trivial⟩ rfl rfl
   exact congrArg some (vB_and_f hg)
  intro mg1_27 hmmg1_27
  show GL _ _ _ _ _ _ _ [(41, vB (((0 : Int) < (cmpQ a c)) ∧ ((0 : Int) < (cmpQ a d)))), (5, vP b5 0), (6, vP b6 0), (7, vP b7 0), (31, .bool false)] [.var b7 31 cs7, .var b6 31 cs6, .var b5 31 cs5, .var b4 31 cs4] mg1_27
  refine gl_cut (ι := Mem) 6 (fun m_ => MLe mg1_27 m_) (fun _ => [(47, vB ((((0 : Int) < (cmpQ a c)) ∧ ((0 : Int) < (cmpQ a d))) ∧ ((0 : Int) < (cmpQ b c)))), (5, vP b5 0), (7, vP b7 0), (31, .bool false)]) (fun _ => [.var b7 31 cs7, .var b6 31 cs6, .var b5 31 cs5, .var b4 31 cs4]) (fun m_ => m_) ?_ ?_
  ·
   refine gl_cases (((0 : Int) < (cmpQ a c)) ∧ ((0 : Int) < (cmpQ a d))) (fun hg => ?_) (fun hg => ?_)
   ·
    refine zT rfl rfl rfl (yG (zF (v := .bool true) (congrArg some (yI hg))) rfl rfl rfl (zT rfl rfl rfl ?_))
    replace rb5 := rb5.mono (((((hh1.trans hmmg1_4).trans hmmg1_10).trans hmmg1_16).trans hh2).trans hmmg1_27)
    refine gl_x (F := fun v_ => (rpQ k).Is mg1_27 v_ b) (zE ty31 (Pc.here _) rfl rfl rb5 rfl) (mem1 (.tail _ (.tail _ (.head _)))) rfl ?_
    intro v43 r43
    refine zT rfl rfl rfl ?_
    replace rb6 := rb6.mono (hh2.trans hmmg1_27)
    refine gl_x (F := fun v_ => (rpQ k).Is mg1_27 v_ c) (zE ty31 (Pc.here _) rfl rfl rb6 rfl) (mem1 (.tail _ (.head _))) rfl ?_
    intro v44 r44
    refine zT rfl rfl rfl ?_
    refine zJ (vs := [_, _]) rfl rfl rfl rfl Tryz.call68 ⟨rfl, rfl, trivial⟩ (fun w hs => o_rat_cmp hs r43 r44 (by omega)) ?_
    intro v45 h3 hh3 r45
    obtain rfl : v45 = vI (cmpQ b c) := r45
    have hcr45 := cmpQ_range b c
    refine zT rfl rfl rfl (gv (ov_gtr_i (q := 0) rfl rfl) rfl (zT rfl rfl rfl (gv (yF rfl rfl) rfl (zD ?_))))
    refine zU h3 hh3 ⟨?_, rfl, rfl, rfl, trivial⟩ rfl rfl
    exact congrArg some (vB_and_t hg)
   refine zT rfl rfl rfl (yG (zF (v := .bool false) (congrArg some (yA hg))) rfl rfl rfl (zK rfl rfl rfl rfl rfl rfl (zK rfl rfl rfl rfl rfl rfl (zK rfl rfl rfl rfl rfl rfl (zK rfl rfl rfl rfl rfl rfl (zT rfl rfl rfl (gv (yD rfl rfl) rfl (zD ?_))))))))
   refine zU mg1_27 (MLe.refl _) ⟨?_, rfl, rfl, rfl, trivial⟩ rfl rfl
   exact congrArg some (vB_and_f hg)
  intro mg1_33 hmmg1_33
  show GL _ _ _ _ _ _ _ [(47, vB ((((0 : Int) < (cmpQ a c)) ∧ ((0 : Int) < (cmpQ a d))) ∧ ((0 : Int) < (cmpQ b c)))), (5, vP b5 0), (7, vP b7 0), (31, .bool false)] [.var b7 31 cs7, .var b6 31 cs6, .var b5 31 cs5, .var b4 31 cs4] mg1_33
  refine gl_cut (ι := Mem) 6 (fun m_ => MLe mg1_33 m_) (fun _ => [(53, vB (((((0 : Int) < (cmpQ a c)) ∧ ((0 : Int) < (cmpQ a d))) ∧ ((0 : Int) < (cmpQ b c))) ∧ ((0 : Int) < (cmpQ b d)))), (31, .bool false)]) (fun _ => [.var b7 31 cs7, .var b6 31 cs6, .var b5 31 cs5, .var b4 31 cs4]) (fun m_ => m_) ?_ ?_
  ·
   refine gl_cases ((((0 : Int) < (cmpQ a c)) ∧ ((0 : Int) < (cmpQ a d))) ∧ ((0 : Int) < (cmpQ b c))) (fun hg => ?_) (fun hg => ?_)
   ·
    refine zT rfl rfl rfl (yG (zF (v := .bool true) (congrArg some (yI hg))) rfl rfl rfl (zT rfl rfl rfl ?_))
    replace rb5 := rb5.mono ((((((hh1.trans hmmg1_4).trans hmmg1_10).trans hmmg1_16).trans hh2).trans hmmg1_27).trans hmmg1_33)
    refine gl_x (F := fun v_ => (rpQ k).Is mg1_33 v_ b) (zE ty31 (Pc.here _) rfl rfl rb5 rfl) (mem1 (.tail _ (.tail _ (.head _)))) rfl ?_
    intro v49 r49
    refine zT rfl rfl rfl ?_
    replace rb7 := rb7.mono ((((((hh1.trans hmmg1_4).trans hmmg1_10).trans hmmg1_16).trans hh2).trans hmmg1_27).trans hmmg1_33)
    refine gl_x (F := fun v_ => (rpQ k).Is mg1_33 v_ d) (zE ty31 (Pc.here _) rfl rfl rb7 rfl) (mem1 (.head _)) rfl ?_
    intro v50 r50
    refine zT rfl rfl rfl ?_
    refine zJ (vs := [_, _]) rfl rfl rfl rfl Tryz.call68 ⟨rfl, rfl, trivial⟩ (fun w hs => o_rat_cmp hs r49 r50 (by omega)) ?_
    intro v51 h3 hh3 r51
    obtain rfl : v51 = vI (cmpQ b d) := r51
    have hcr51 := cmpQ_range b d
    refine zT rfl rfl rfl (gv (ov_gtr_i (q := 0) rfl rfl) rfl (zT rfl rfl rfl (gv (yF rfl rfl) rfl (zD ?_))))
    refine zU h3 hh3 ⟨?_, rfl, trivial⟩ rfl rfl
    exact congrArg some (vB_and_t hg)
   refine zT rfl rfl rfl (yG (zF (v := .bool false) (congrArg some (yA hg))) rfl rfl rfl (zK rfl rfl rfl rfl rfl rfl (zK rfl rfl rfl rfl rfl rfl (zK rfl rfl rfl rfl rfl rfl (zK rfl rfl rfl rfl rfl rfl (zT rfl rfl rfl (gv (yD rfl rfl) rfl (zD ?_))))))))
   refine zU mg1_33 (MLe.refl _) ⟨?_, rfl, trivial⟩ rfl rfl
   exact congrArg some (vB_and_f hg)
  intro mg1_39 hmmg1_39
  show GL _ _ _ _ _ _ _ [(53, vB (((((0 : Int) < (cmpQ a c)) ∧ ((0 : Int) < (cmpQ a d))) ∧ ((0 : Int) < (cmpQ b c))) ∧ ((0 : Int) < (cmpQ b d)))), (31, .bool false)] [.var b7 31 cs7, .var b6 31 cs6, .var b5 31 cs5, .var b4 31 cs4] mg1_39
  refine gv (yD rfl rfl) rfl (zD ?_)
  refine zU mg1_39 (((hh2.trans hmmg1_27).trans hmmg1_33).trans hmmg1_39) ⟨?_, trivial⟩ rfl rfl
  exact congrArg some (vB_or_f hg)
 intro mg1_22 hmmg1_22
 show GL _ _ _ _ _ _ _ [(54, vB ((((((cmpQ a c) < (0 : Int)) ∧ ((cmpQ a d) < (0 : Int))) ∧ ((cmpQ b c) < (0 : Int))) ∧ ((cmpQ b d) < (0 : Int))) ∨ (((((0 : Int) < (cmpQ a c)) ∧ ((0 : Int) < (cmpQ a d))) ∧ ((0 : Int) < (cmpQ b c))) ∧ ((0 : Int) < (cmpQ b d)))))] [.var b7 31 cs7, .var b6 31 cs6, .var b5 31 cs5, .var b4 31 cs4] mg1_22
 refine asg rfl rfl (zD (zB (zN (zW rfl rfl ?_))))
 exact vB_iff apart_iff

theorem o_pl_less {w0 : World} {h0 : Mem}  (hs : MLe h0 (mem w0)) {k : Nat} {va : Value} {a : (T3 Rat)} (ra : (rpT (rpQ k)).Is h0 va a) {vb : Value} {b : (T3 Rat)} (rb : (rpT (rpQ k)).Is h0 vb b) {i : Nat} {j : Nat} (hcd0 : i < 3) (hcd1 : j < 3) (hcd2 : k ≤ 2000000000)  :
    Calls Tryz.prog 102 #[va, vb, vI ↑i, vI ↑j] w0 (Ret w0 h0 (fun _ r => r = vB (lx (pr a i j) (pr b i j)))) := by
 refine zR (n := 33) (e := [(0, va), (1, vb), (2, vI ↑i), (3, vI ↑j)]) (vs := [va, vb, vI ↑i, vI ↑j]) Tryz.func102 rfl rfl (Nat.le_of_ble_eq_true rfl) hs ⟨rfl, rfl, rfl, rfl, trivial⟩ (zC (zA (zP (new_boxx (ρ := (rpT (rpQ k))) rfl ra) rfl rfl rfl ?_)))
 intro v4 q4 hq4
 obtain ⟨b4, cs4, rfl, rfl, rb4⟩ := hq4
 refine zP (new_boxx (ρ := (rpT (rpQ k))) rfl rb) rfl rfl rfl ?_
 intro v5 q5 hq5
 obtain ⟨b5, cs5, rfl, rfl, rb5⟩ := hq5
 refine asg rfl rfl (zD (zB (zC ?_)))
 refine gc_draw 8 _ [] [(0, .q), (1, .q), (2, .q), (3, .q), (4, .q), (5, .q), (6, .c), (7, .q)] mixed (fun x hx => by cases hx) (by kernel_rfl) (fun x hx => by cases hx) (fun r hr => hr) (w_q rfl (fun h' L' hh hR => zF rfl) rfl (w_q rfl (fun h' L' hh hR => (zY (sz := 3) i Tryz.underlying33 Tryz.sizeOf31 rfl rfl rfl (by omega)).cv (show _ = vP b4 ((i * 3 + 0)) from congrArg (vP b4) (by omega))) rfl (w_qx (F := fun v_ => (rpQ k).Is h0 v_ (a.at i)) rfl (zE ty31 (Pc.ta (Pc.here _) i (by omega)) rfl rfl rb4 rfl) (mem1 (.tail _ (.head _))) rfl ?_)))
 intro v12 r12
 refine w_q rfl (fun h' L' hh hR => zF rfl) rfl (w_q rfl (fun h' L' hh hR => (zY (sz := 3) i Tryz.underlying33 Tryz.sizeOf31 rfl rfl rfl (by omega)).cv (show _ = vP b5 ((i * 3 + 0)) from congrArg (vP b5) (by omega))) rfl (w_qx (F := fun v_ => (rpQ k).Is h0 v_ (b.at i)) rfl (zE ty31 (Pc.ta (Pc.here _) i (by omega)) rfl rfl rb5 rfl) (mem1 (.head _)) rfl ?_))
 intro v15 r15
 refine w_c rfl ?_
 refine yO (vs := [_, _]) Tryz.call68 ⟨rfl, rfl, trivial⟩ (fun w hs => o_rat_cmp hs r12 r15 (by omega)) rfl ?_
 intro v16 h1 hh1 r16
 obtain rfl : v16 = vI (cmpQ (a.at i) (b.at i)) := r16
 have hcr16 := cmpQ_range (a.at i) (b.at i)
 refine w_q rfl (fun h' L' hh hR => ov_assign rfl) rfl (w_nil (zL (e' := [(3, _), (4, _), (5, _), (9, _)]) ⟨rfl, rfl, rfl, rfl, trivial⟩ (zB (zC ?_))))
 refine gc_draw 17 _ [] [(0, .q), (1, .q), (2, .q), (3, .q), (4, .q), (5, .q), (6, .q), (7, .q), (8, .q), (9, .q), (10, .q), (11, .q), (12, .c), (13, .q), (14, .q), (15, .q), (16, .q)] mixed (fun x hx => by cases hx) (chk_of [0, 1, 2, 4, 12, 20, 32, 96, 160, 32, 544, 1056, 2336, 4128, 8228, 16388, 65535] [131071, 131070, 131069, 131067, 131059, 131051, 131039, 130975, 130911, 131039, 130527, 130015, 128735, 126943, 122843, 114683, 98303] (by kernel_rfl)) (fun x hx => by cases hx) (fun r hr => hr) (w_q rfl (fun h' L' hh hR => zF rfl) rfl (w_q rfl (fun h' L' hh hR => yH (q := 0) rfl rfl) rfl (w_q rfl (fun h' L' hh hR => zF rfl) rfl ?_)))
 refine prop_cases ((cmpQ (a.at i) (b.at i)) < (0 : Int)) (fun hg_7 => ?_) (fun hg_7 => ?_)
 ·
  rw [yI hg_7]
  refine zM rfl rfl rfl rfl rfl (zM rfl rfl rfl rfl rfl (zM rfl rfl rfl rfl rfl (w_q_offu rfl rfl rfl rfl (w_q_offu rfl rfl rfl rfl (w_q_offu rfl rfl rfl rfl (w_q_offu rfl rfl rfl rfl (w_q_offu rfl rfl rfl rfl (w_q_offu rfl rfl rfl rfl ?_))))))))
  refine w_c rfl (s_offu rfl rfl rfl (w_q_offu rfl rfl rfl rfl (zM rfl rfl rfl rfl rfl (w_q rfl (fun h' L' hh hR => yF rfl rfl) rfl (w_q rfl (fun h' L' hh hR => ov_assign rfl) rfl (w_nil (zL (e' := [(8, _)]) ⟨rfl, trivial⟩ (zB (zN (zW rfl rfl ?_))))))))))
  first | exact vB_iff (by rw [← less_iff]; grind) | exact (yI (by rw [← less_iff]; grind)).symm | exact (yA (by rw [← less_iff]; grind)).symm
 rw [yA hg_7]
 refine w_q_on rfl rfl rfl (fun h' L' hh hR => zF rfl) rfl (w_q_on rfl rfl rfl (fun h' L' hh hR => ov_eql_i (q := 0) rfl rfl) rfl (w_q_on rfl rfl rfl (fun h' L' hh hR => zF rfl) rfl ?_))
 refine prop_cases ((cmpQ (a.at i) (b.at i)) = (0 : Int)) (fun hg_8 => ?_) (fun hg_8 => ?_)
 ·
  rw [yI hg_8]
  refine w_q_on rfl rfl rfl (fun h' L' hh hR => zF rfl) rfl (w_q_on rfl rfl rfl (fun h' L' hh hR => (zY (sz := 3) j Tryz.underlying33 Tryz.sizeOf31 rfl rfl rfl (by omega)).cv (show _ = vP b4 ((j * 3 + 0)) from congrArg (vP b4) (by omega))) rfl ?_)
  replace rb4 := rb4.mono hh1
  refine w_qx_on (F := fun v_ => (rpQ k).Is h1 v_ (a.at j)) rfl rfl rfl (zE ty31 (Pc.ta (Pc.here _) j (by omega)) rfl rfl rb4 rfl) (mem1 (.tail _ (.head _))) rfl ?_
  intro v25 r25
  refine w_q_on rfl rfl rfl (fun h' L' hh hR => zF rfl) rfl (w_q_on rfl rfl rfl (fun h' L' hh hR => (zY (sz := 3) j Tryz.underlying33 Tryz.sizeOf31 rfl rfl rfl (by omega)).cv (show _ = vP b5 ((j * 3 + 0)) from congrArg (vP b5) (by omega))) rfl ?_)
  replace rb5 := rb5.mono hh1
  refine w_qx_on (F := fun v_ => (rpQ k).Is h1 v_ (b.at j)) rfl rfl rfl (zE ty31 (Pc.ta (Pc.here _) j (by omega)) rfl rfl rb5 rfl) (mem1 (.head _)) rfl ?_
  intro v28 r28
  refine w_c rfl (s_on rfl rfl ?_)
  refine yO (vs := [_, _]) Tryz.call68 ⟨rfl, rfl, trivial⟩ (fun w hs => o_rat_cmp hs r25 r28 (by omega)) rfl ?_
  intro v29 h2 hh2 r29
  obtain rfl : v29 = vI (cmpQ (a.at j) (b.at j)) := r29
  have hcr29 := cmpQ_range (a.at j) (b.at j)
  refine w_q_on rfl rfl rfl (fun h' L' hh hR => yH (q := 0) rfl rfl) rfl (w_q_on rfl rfl rfl (fun h' L' hh hR => yF rfl rfl) rfl (w_q rfl (fun h' L' hh hR => yD rfl rfl) rfl (w_q rfl (fun h' L' hh hR => ov_assign rfl) rfl (w_nil (zL (e' := [(8, _)]) ⟨rfl, trivial⟩ (zB (zN (zW rfl rfl ?_))))))))
  first | exact vB_iff (by rw [← less_iff]; grind) | exact (yI (by rw [← less_iff]; grind)).symm | exact (yA (by rw [← less_iff]; grind)).symm
 rw [yA hg_8]
 refine zM rfl rfl rfl rfl rfl (zM rfl rfl rfl rfl rfl (zM rfl rfl rfl rfl rfl (zM rfl rfl rfl rfl rfl (zM rfl rfl rfl rfl rfl (zM rfl rfl rfl rfl rfl ?_)))))
 refine w_c rfl (s_off rfl rfl rfl rfl (zM rfl rfl rfl rfl rfl (w_q_on rfl rfl rfl (fun h' L' hh hR => yD rfl rfl) rfl (w_q rfl (fun h' L' hh hR => yD rfl rfl) rfl (w_q rfl (fun h' L' hh hR => ov_assign rfl) rfl (w_nil (zL (e' := [(8, _)]) ⟨rfl, trivial⟩ (zB (zN (zW rfl rfl ?_))))))))))
 first | exact vB_iff (by rw [← less_iff]; grind) | exact (yI (by rw [← less_iff]; grind)).symm | exact (yA (by rw [← less_iff]; grind)).symm

theorem o_pl_along {w0 : World} {h0 : Mem}  (hs : MLe h0 (mem w0)) {k : Nat} {va : Value} {a : (T3 Rat)} (ra : (rpT (rpQ k)).Is h0 va a) {vb : Value} {b : (T3 Rat)} (rb : (rpT (rpQ k)).Is h0 vb b) {vc : Value} {c : (T3 Rat)} (rc : (rpT (rpQ k)).Is h0 vc c) {vd : Value} {d : (T3 Rat)} (rd : (rpT (rpQ k)).Is h0 vd d) {i : Nat} {j : Nat} (hcd0 : i < 3) (hcd1 : j < 3) (hcd2 : k ≤ 1000000000)  :
    Calls Tryz.prog 83 #[va, vb, vc, vd, vI ↑i, vI ↑j] w0 (Ret w0 h0 (fun _ r => r = vI (along2 (pr a i j) (pr b i j) (pr c i j) (pr d i j)))) := by
 refine zR (n := 83) (e := [(0, va), (1, vb), (2, vc), (3, vd), (4, vI ↑i), (5, vI ↑j)]) (vs := [va, vb, vc, vd, vI ↑i, vI ↑j]) Tryz.func83 rfl rfl (Nat.le_of_ble_eq_true rfl) hs ⟨rfl, rfl, rfl, rfl, rfl, rfl, trivial⟩ (zC (zA (zP (new_boxx (ρ := (rpT (rpQ k))) rfl ra) rfl rfl rfl ?_)))
 intro v6 q6 hq6
 obtain ⟨b6, cs6, rfl, rfl, rb6⟩ := hq6
 refine zP (new_boxx (ρ := (rpT (rpQ k))) rfl rb) rfl rfl rfl ?_
 intro v7 q7 hq7
 obtain ⟨b7, cs7, rfl, rfl, rb7⟩ := hq7
 refine zP (new_boxx (ρ := (rpT (rpQ k))) rfl rc) rfl rfl rfl ?_
 intro v8 q8 hq8
 obtain ⟨b8, cs8, rfl, rfl, rb8⟩ := hq8
 refine zP (new_boxx (ρ := (rpT (rpQ k))) rfl rd) rfl rfl rfl ?_
 intro v9 q9 hq9
 obtain ⟨b9, cs9, rfl, rfl, rb9⟩ := hq9
 refine asg (v := vI (0)) rfl rfl (zD (zB ?_))
 refine gc_cut (ι := List Value × List Value × Mem) (fun (cs_9, cs_11, m1) => MLe h0 m1 ∧ ((rpT (rpQ k)).R m1 cs_9 (loT a b i j) ∧ (rpT (rpQ k)).R m1 cs_11 (hiT a b i j) ∧ True)) (fun (cs_9, cs_11, m1) => [(4, vI ↑i), (5, vI ↑j), (6, vP b6 0), (7, vP b7 0), (8, vP b8 0), (9, vP b9 0)]) (fun (cs_9, cs_11, m1) => [.var b9 33 cs9, .var b8 33 cs8, .var b7 33 cs_11, .var b6 33 cs_9]) (fun (cs_9, cs_11, m1) => m1) ?_ ?_
 ·
  refine zC (zA (gl_x (F := fun v_ => (rpT (rpQ k)).Is h0 v_ b) (zE ty33 (Pc.here _) rfl rfl rb7 rfl) (mem1 (.tail _ (.tail _ (.head _)))) rfl ?_))
  intro v16 r16
  refine gl_x (F := fun v_ => (rpT (rpQ k)).Is h0 v_ a) (zE ty33 (Pc.here _) rfl rfl rb6 rfl) (mem1 (.tail _ (.tail _ (.tail _ (.head _))))) rfl ?_
  intro v17 r17
  refine mv rfl rfl (mv rfl rfl ?_)
  refine zJ (vs := [_, _, _, _]) rfl rfl rfl rfl Tryz.call102 ⟨rfl, rfl, rfl, rfl, trivial⟩ (fun w hs => o_pl_less (i := i) (j := j) hs r16 r17 (by omega) (by omega) (by omega)) ?_
  intro v20 h1 hh1 r20
  obtain rfl : v20 = vB (lx (pr b i j) (pr a i j)) := r20
  refine zD (zB ?_)
  refine zH rfl (fun hc20 => ?_) (fun hc20 => ?_)
  ·
   refine gc_keep (e' := [(4, _), (5, _), (6, _), (7, _), (8, _), (9, _)]) ⟨rfl, rfl, rfl, rfl, rfl, rfl, trivial⟩ (zA ?_)
   replace rb7 := rb7.mono hh1
   refine gl_x (F := fun v_ => (rpT (rpQ k)).Is h1 v_ b) (zE ty33 (Pc.here _) rfl rfl rb7 rfl) (mem1 (.tail _ (.tail _ (.head _)))) rfl ?_
   intro v21 r21
   replace rb6 := rb6.mono hh1
   refine gl_x (F := fun v_ => (rpT (rpQ k)).Is h1 v_ a) (zE ty33 (Pc.here _) rfl rfl rb6 rfl) (mem1 (.tail _ (.tail _ (.tail _ (.head _))))) rfl ?_
   intro v22 r22
   refine gl_updx (A := [_, _, _]) (F := fun c_ => (rpT (rpQ k)).R h1 c_ b) (upd_box Tryz.sizeOf33 (Pc.here _) rfl rfl rfl rb6 r21 rfl) ?_
   intro cs_13 rb_14
   refine gl_updx (A := [_, _]) (F := fun c_ => (rpT (rpQ k)).R h1 c_ a) (upd_box Tryz.sizeOf33 (Pc.here _) rfl rfl rfl rb7 r22 rfl) ?_
   intro cs_15 rb_16
   refine zD ?_
   refine zU (cs_13, cs_15, h1) ?_ ⟨rfl, rfl, rfl, rfl, rfl, rfl, trivial⟩ rfl rfl
   refine ⟨hh1, ?_⟩
   refine ⟨(Rp.castR rb_14 (if_pos hc20).symm), (Rp.castR rb_16 (if_pos hc20).symm), ?_⟩
   trivial
  refine gc_keep (e' := [(4, _), (5, _), (6, _), (7, _), (8, _), (9, _)]) ⟨rfl, rfl, rfl, rfl, rfl, rfl, trivial⟩ (zI ?_)
  refine zU (cs6, cs7, h1) ?_ ⟨rfl, rfl, rfl, rfl, rfl, rfl, trivial⟩ rfl rfl
  refine ⟨hh1, ?_⟩
  replace rb6 := rb6.mono hh1
  replace rb7 := rb7.mono hh1
  refine ⟨(Rp.castR rb6 (if_neg hc20).symm), (Rp.castR rb7 (if_neg hc20).symm), ?_⟩
  trivial
 intro x hx
 obtain ⟨cs_9, cs_11, m1⟩ := x
 obtain ⟨hmm1, hcut⟩ := hx
 show GC _ _ _ _ _ _ [(4, vI ↑i), (5, vI ↑j), (6, vP b6 0), (7, vP b7 0), (8, vP b8 0), (9, vP b9 0)] [.var b9 33 cs9, .var b8 33 cs8, .var b7 33 cs_11, .var b6 33 cs_9] m1
 obtain ⟨rb_10, rb_12, hcut⟩ := hcut
 refine gc_cut (ι := List Value × List Value × Mem) (fun (cs_17, cs_19, m2) => MLe m1 m2 ∧ ((rpT (rpQ k)).R m2 cs_17 (loT c d i j) ∧ (rpT (rpQ k)).R m2 cs_19 (hiT c d i j) ∧ True)) (fun (cs_17, cs_19, m2) => [(4, vI ↑i), (5, vI ↑j), (6, vP b6 0), (7, vP b7 0), (8, vP b8 0), (9, vP b9 0)]) (fun (cs_17, cs_19, m2) => [.var b9 33 cs_19, .var b8 33 cs_17, .var b7 33 cs_11, .var b6 33 cs_9]) (fun (cs_17, cs_19, m2) => m2) ?_ ?_
 ·
  refine zC (zA ?_)
  replace rb9 := rb9.mono hmm1
  refine gl_x (F := fun v_ => (rpT (rpQ k)).Is m1 v_ d) (zE ty33 (Pc.here _) rfl rfl rb9 rfl) (mem1 (.head _)) rfl ?_
  intro v23 r23
  replace rb8 := rb8.mono hmm1
  refine gl_x (F := fun v_ => (rpT (rpQ k)).Is m1 v_ c) (zE ty33 (Pc.here _) rfl rfl rb8 rfl) (mem1 (.tail _ (.head _))) rfl ?_
  intro v24 r24
  refine mv rfl rfl (mv rfl rfl ?_)
  refine zJ (vs := [_, _, _, _]) rfl rfl rfl rfl Tryz.call102 ⟨rfl, rfl, rfl, rfl, trivial⟩ (fun w hs => o_pl_less (i := i) (j := j) hs r23 r24 (by omega) (by omega) (by omega)) ?_
  intro v27 h1 hh1 r27
  obtain rfl : v27 = vB (lx (pr d i j) (pr c i j)) := r27
  refine zD (zB ?_)
  refine zH rfl (fun hc27 => ?_) (fun hc27 => ?_)
  ·
   refine zA ?_
   replace rb9 := rb9.mono hh1
   refine gl_x (F := fun v_ => (rpT (rpQ k)).Is h1 v_ d) (zE ty33 (Pc.here _) rfl rfl rb9 rfl) (mem1 (.head _)) rfl ?_
   intro v28 r28
   replace rb8 := rb8.mono hh1
   refine gl_x (F := fun v_ => (rpT (rpQ k)).Is h1 v_ c) (zE ty33 (Pc.here _) rfl rfl rb8 rfl) (mem1 (.tail _ (.head _))) rfl ?_
   intro v29 r29
   refine gl_updx (A := [_]) (F := fun c_ => (rpT (rpQ k)).R h1 c_ d) (upd_box Tryz.sizeOf33 (Pc.here _) rfl rfl rfl rb8 r28 rfl) ?_
   intro cs_21 rb_22
   refine gl_updx (A := []) (F := fun c_ => (rpT (rpQ k)).R h1 c_ c) (upd_box Tryz.sizeOf33 (Pc.here _) rfl rfl rfl rb9 r29 rfl) ?_
   intro cs_23 rb_24
   refine zD ?_
   refine zU (cs_21, cs_23, h1) ?_ ⟨rfl, rfl, rfl, rfl, rfl, rfl, trivial⟩ rfl rfl
   refine ⟨hh1, ?_⟩
   refine ⟨(Rp.castR rb_22 (if_pos hc27).symm), (Rp.castR rb_24 (if_pos hc27).symm), ?_⟩
   trivial
  refine zI ?_
  refine zU (cs8, cs9, h1) ?_ ⟨rfl, rfl, rfl, rfl, rfl, rfl, trivial⟩ rfl rfl
  refine ⟨hh1, ?_⟩
  replace rb8 := rb8.mono hh1
  replace rb9 := rb9.mono hh1
  refine ⟨(Rp.castR rb8 (if_neg hc27).symm), (Rp.castR rb9 (if_neg hc27).symm), ?_⟩
  trivial
 intro x hx
 obtain ⟨cs_17, cs_19, m2⟩ := x
 obtain ⟨hmm2, hcut⟩ := hx
 show GC _ _ _ _ _ _ [(4, vI ↑i), (5, vI ↑j), (6, vP b6 0), (7, vP b7 0), (8, vP b8 0), (9, vP b9 0)] [.var b9 33 cs_19, .var b8 33 cs_17, .var b7 33 cs_11, .var b6 33 cs_9] m2
 obtain ⟨rb_18, rb_20, hcut⟩ := hcut
 refine zC ?_
 refine gc_draw 6 _ [(2, (13, 33, [.bool false, .slice none 0 0, .slice none 0 0, .bool false, .slice none 0 0, .slice none 0 0, .bool false, .slice none 0 0, .slice none 0 0])), (3, (14, 33, [.bool false, .slice none 0 0, .slice none 0 0, .bool false, .slice none 0 0, .slice none 0 0, .bool false, .slice none 0 0, .slice none 0 0]))] [(0, .q), (1, .q), (2, .a), (3, .a), (4, .c), (5, .c)] mixed (AlOk.cons rfl (zero_run info33 rfl rfl) (AlOk.cons rfl (zero_run info33 rfl rfl) AlOk.nil)) (by kernel_rfl) (hae_cons rfl rfl (hae_cons rfl rfl hae_nil)) (fun r hr => hr) ?_
 replace rb_10 := rb_10.mono hmm2
 refine w_qx (F := fun v_ => (rpT (rpQ k)).Is m2 v_ (loT a b i j)) rfl (zE ty33 (Pc.here _) rfl rfl rb_10 rfl) (mem1 (.tail _ (.tail _ (.tail _ (.head _))))) rfl ?_
 intro v30 r30
 replace rb_12 := rb_12.mono hmm2
 refine w_qx (F := fun v_ => (rpT (rpQ k)).Is m2 v_ (hiT a b i j)) rfl (zE ty33 (Pc.here _) rfl rfl rb_12 rfl) (mem1 (.tail _ (.tail _ (.head _)))) rfl ?_
 intro v31 r31
 refine w_a rfl (fun b13 => ?_)
 have rb13 : (rpT (rpQ (k + 1))).R m2 [.bool false, .slice none 0 0, .slice none 0 0, .bool false, .slice none 0 0, .slice none 0 0, .bool false, .slice none 0 0, .slice none 0 0] (T3.mk (0 : Rat) (0 : Rat) (0 : Rat)) := (zr_t (zr_q (by omega)))
 refine w_a rfl (fun b14 => ?_)
 have rb14 : (rpT (rpQ (k + 1))).R m2 [.bool false, .slice none 0 0, .slice none 0 0, .bool false, .slice none 0 0, .slice none 0 0, .bool false, .slice none 0 0, .slice none 0 0] (T3.mk (0 : Rat) (0 : Rat) (0 : Rat)) := (zr_t (zr_q (by omega)))
 refine w_c rfl (s_updx (A := [_]) (F := fun c_ => (rpT (rpQ (k + 1))).R m2 c_ (loT a b i j)) (upd_box Tryz.sizeOf33 (Pc.here _) rfl rfl rfl rb13 (r30.le (Le.t (Le.q (l := k + 1) (by omega)))) rfl) (mem_kept (by first | (simp; done) | grind)) ?_)
 intro cs_25 rb_26
 refine w_c rfl (s_updx (A := []) (F := fun c_ => (rpT (rpQ (k + 1))).R m2 c_ (hiT a b i j)) (upd_box Tryz.sizeOf33 (Pc.here _) rfl rfl rfl rb14 (r31.le (Le.t (Le.q (l := k + 1) (by omega)))) rfl) (mem_kept (by first | (simp; done) | grind)) ?_)
 intro cs_27 rb_28
 refine w_nil (zB ?_)
 refine gc_cut (ι := List Value × Mem) (fun (cs_29, m3) => MLe m2 m3 ∧ ((rpT (rpQ (k + 1))).R m3 cs_29 (mxT (loT a b i j) (loT c d i j) i j) ∧ True)) (fun (cs_29, m3) => [(4, vI ↑i), (5, vI ↑j), (6, vP b6 0), (7, vP b7 0), (8, vP b8 0), (9, vP b9 0), (13, vP b13 0), (14, vP b14 0)]) (fun (cs_29, m3) => [.var b14 33 cs_27, .var b13 33 cs_29, .var b9 33 cs_19, .var b8 33 cs_17, .var b7 33 cs_11, .var b6 33 cs_9]) (fun (cs_29, m3) => m3) ?_ ?_
 ·
  refine zC (zA (gl_x (F := fun v_ => (rpT (rpQ k)).Is m2 v_ (loT a b i j)) (zE ty33 (Pc.here _) rfl rfl rb_10 rfl) (mem1 (.tail _ (.tail _ (.tail _ (.tail _ (.tail _ (.head _))))))) rfl ?_))
  intro v32 r32
  refine gl_x (F := fun v_ => (rpT (rpQ k)).Is m2 v_ (loT c d i j)) (zE ty33 (Pc.here _) rfl rfl rb_18 rfl) (mem1 (.tail _ (.tail _ (.tail _ (.head _))))) rfl ?_
  intro v33 r33
  refine mv rfl rfl (mv rfl rfl ?_)
  refine zJ (vs := [_, _, _, _]) rfl rfl rfl rfl Tryz.call102 ⟨rfl, rfl, rfl, rfl, trivial⟩ (fun w hs => o_pl_less (i := i) (j := j) hs r32 r33 (by omega) (by omega) (by omega)) ?_
  intro v36 h1 hh1 r36
  obtain rfl : v36 = vB (lx (pr (loT a b i j) i j) (pr (loT c d i j) i j)) := r36
  refine zD (zB ?_)
  refine zH rfl (fun hc36 => ?_) (fun hc36 => ?_)
  ·
   refine zA ?_
   replace rb_18 := rb_18.mono hh1
   refine gl_x (F := fun v_ => (rpT (rpQ k)).Is h1 v_ (loT c d i j)) (zE ty33 (Pc.here _) rfl rfl rb_18 rfl) (mem1 (.tail _ (.tail _ (.tail _ (.head _))))) rfl ?_
   intro v37 r37
   replace rb_26 := rb_26.mono hh1
   refine gl_updx (A := [_]) (F := fun c_ => (rpT (rpQ (k + 1))).R h1 c_ (loT c d i j)) (upd_box Tryz.sizeOf33 (Pc.here _) rfl rfl rfl rb_26 (r37.le (Le.t (Le.q (l := k + 1) (by omega)))) rfl) ?_
   intro cs_31 rb_32
   refine zD ?_
   refine zU (cs_31, h1) ?_ ⟨rfl, rfl, rfl, rfl, rfl, rfl, rfl, rfl, trivial⟩ rfl rfl
   refine ⟨hh1, ?_⟩
   refine ⟨(Rp.castR rb_32 (if_pos hc36).symm), ?_⟩
   trivial
  refine zI ?_
  refine zU (cs_25, h1) ?_ ⟨rfl, rfl, rfl, rfl, rfl, rfl, rfl, rfl, trivial⟩ rfl rfl
  refine ⟨hh1, ?_⟩
  replace rb_26 := rb_26.mono hh1
  refine ⟨(Rp.castR rb_26 (if_neg hc36).symm), ?_⟩
  trivial
 intro x hx
 obtain ⟨cs_29, m3⟩ := x
 obtain ⟨hmm3, hcut⟩ := hx
 show GC _ _ _ _ _ _ [(4, vI ↑i), (5, vI ↑j), (6, vP b6 0), (7, vP b7 0), (8, vP b8 0), (9, vP b9 0), (13, vP b13 0), (14, vP b14 0)] [.var b14 33 cs_27, .var b13 33 cs_29, .var b9 33 cs_19, .var b8 33 cs_17, .var b7 33 cs_11, .var b6 33 cs_9] m3
 obtain ⟨rb_30, hcut⟩ := hcut
 refine gc_cut (ι := List Value × Mem) (fun (cs_33, m4) => MLe m3 m4 ∧ ((rpT (rpQ (k + 1))).R m4 cs_33 (mnT (hiT a b i j) (hiT c d i j) i j) ∧ True)) (fun (cs_33, m4) => [(4, vI ↑i), (5, vI ↑j), (6, vP b6 0), (7, vP b7 0), (8, vP b8 0), (9, vP b9 0), (13, vP b13 0), (14, vP b14 0)]) (fun (cs_33, m4) => [.var b14 33 cs_33, .var b13 33 cs_29, .var b9 33 cs_19, .var b8 33 cs_17, .var b7 33 cs_11, .var b6 33 cs_9]) (fun (cs_33, m4) => m4) ?_ ?_
 ·
  refine zC (zA ?_)
  replace rb_20 := rb_20.mono hmm3
  refine gl_x (F := fun v_ => (rpT (rpQ k)).Is m3 v_ (hiT c d i j)) (zE ty33 (Pc.here _) rfl rfl rb_20 rfl) (mem1 (.tail _ (.tail _ (.head _)))) rfl ?_
  intro v38 r38
  replace rb_12 := rb_12.mono hmm3
  refine gl_x (F := fun v_ => (rpT (rpQ k)).Is m3 v_ (hiT a b i j)) (zE ty33 (Pc.here _) rfl rfl rb_12 rfl) (mem1 (.tail _ (.tail _ (.tail _ (.tail _ (.head _)))))) rfl ?_
  intro v39 r39
  refine mv rfl rfl (mv rfl rfl ?_)
  refine zJ (vs := [_, _, _, _]) rfl rfl rfl rfl Tryz.call102 ⟨rfl, rfl, rfl, rfl, trivial⟩ (fun w hs => o_pl_less (i := i) (j := j) hs r38 r39 (by omega) (by omega) (by omega)) ?_
  intro v42 h1 hh1 r42
  obtain rfl : v42 = vB (lx (pr (hiT c d i j) i j) (pr (hiT a b i j) i j)) := r42
  refine zD (zB ?_)
  refine zH rfl (fun hc42 => ?_) (fun hc42 => ?_)
  ·
   refine zA ?_
   replace rb_20 := rb_20.mono hh1
   refine gl_x (F := fun v_ => (rpT (rpQ k)).Is h1 v_ (hiT c d i j)) (zE ty33 (Pc.here _) rfl rfl rb_20 rfl) (mem1 (.tail _ (.tail _ (.head _)))) rfl ?_
   intro v43 r43
   replace rb_28 := rb_28.mono (hmm3.trans hh1)
   refine gl_updx (A := []) (F := fun c_ => (rpT (rpQ (k + 1))).R h1 c_ (hiT c d i j)) (upd_box Tryz.sizeOf33 (Pc.here _) rfl rfl rfl rb_28 (r43.le (Le.t (Le.q (l := k + 1) (by omega)))) rfl) ?_
   intro cs_35 rb_36
   refine zD ?_
   refine zU (cs_35, h1) ?_ ⟨rfl, rfl, rfl, rfl, rfl, rfl, rfl, rfl, trivial⟩ rfl rfl
   refine ⟨hh1, ?_⟩
   refine ⟨(Rp.castR rb_36 (if_pos hc42).symm), ?_⟩
   trivial
  refine zI ?_
  refine zU (cs_27, h1) ?_ ⟨rfl, rfl, rfl, rfl, rfl, rfl, rfl, rfl, trivial⟩ rfl rfl
  refine ⟨hh1, ?_⟩
  replace rb_28 := rb_28.mono (hmm3.trans hh1)
  refine ⟨(Rp.castR rb_28 (if_neg hc42).symm), ?_⟩
  trivial
 intro x hx
 obtain ⟨cs_33, m4⟩ := x
 obtain ⟨hmm4, hcut⟩ := hx
 show GC _ _ _ _ _ _ [(4, vI ↑i), (5, vI ↑j), (6, vP b6 0), (7, vP b7 0), (8, vP b8 0), (9, vP b9 0), (13, vP b13 0), (14, vP b14 0)] [.var b14 33 cs_33, .var b13 33 cs_29, .var b9 33 cs_19, .var b8 33 cs_17, .var b7 33 cs_11, .var b6 33 cs_9] m4
 obtain ⟨rb_34, hcut⟩ := hcut
 refine zC (zQ (zC (zA (gl_x (F := fun v_ => (rpT (rpQ (k + 1))).Is m4 v_ (mnT (hiT a b i j) (hiT c d i j) i j)) (zE ty33 (Pc.here _) rfl rfl rb_34 rfl) (mem1 (.head _)) rfl ?_))))
 intro v45 r45
 replace rb_30 := rb_30.mono hmm4
 refine gl_x (F := fun v_ => (rpT (rpQ (k + 1))).Is m4 v_ (mxT (loT a b i j) (loT c d i j) i j)) (zE ty33 (Pc.here _) rfl rfl rb_30 rfl) (mem1 (.tail _ (.head _))) rfl ?_
 intro v46 r46
 refine mv rfl rfl (mv rfl rfl ?_)
 refine zJ (vs := [_, _, _, _]) rfl rfl rfl rfl Tryz.call102 ⟨rfl, rfl, rfl, rfl, trivial⟩ (fun w hs => o_pl_less (i := i) (j := j) hs r45 r46 (by omega) (by omega) (by omega)) ?_
 intro v49 h1 hh1 r49
 obtain rfl : v49 = vB (lx (pr (mnT (hiT a b i j) (hiT c d i j) i j) i j) (pr (mxT (loT a b i j) (loT c d i j) i j) i j)) := r49
 refine asg rfl rfl (zD (zB ?_))
 refine zH rfl (fun hc44 => ?_) (fun hc44 => ?_)
 ·
  refine gc_keep (e' := []) trivial (zC (zA (asg (v := vI (0)) rfl rfl (zD (zB (zN (gr_in (zO (zW rfl rfl ?_)))))))))
  have hT := along_T a b c d i j rfl rfl rfl rfl rfl rfl
  rw [hT, if_pos hc44]
 refine zC (zA ?_)
 replace rb_30 := rb_30.mono hh1
 refine gl_x (F := fun v_ => (rpT (rpQ (k + 1))).Is h1 v_ (mxT (loT a b i j) (loT c d i j) i j)) (zE ty33 (Pc.here _) rfl rfl rb_30 rfl) (mem1 (.tail _ (.head _))) rfl ?_
 intro v51 r51
 replace rb_34 := rb_34.mono hh1
 refine gl_x (F := fun v_ => (rpT (rpQ (k + 1))).Is h1 v_ (mnT (hiT a b i j) (hiT c d i j) i j)) (zE ty33 (Pc.here _) rfl rfl rb_34 rfl) (mem1 (.head _)) rfl ?_
 intro v52 r52
 refine mv rfl rfl (mv rfl rfl ?_)
 refine zJ (vs := [_, _, _, _]) rfl rfl rfl rfl Tryz.call102 ⟨rfl, rfl, rfl, rfl, trivial⟩ (fun w hs => o_pl_less (i := i) (j := j) hs r51 r52 (by omega) (by omega) (by omega)) ?_
 intro v55 h2 hh2 r55
 obtain rfl : v55 = vB (lx (pr (mxT (loT a b i j) (loT c d i j) i j) i j) (pr (mnT (hiT a b i j) (hiT c d i j) i j) i j)) := r55
 refine asg rfl rfl (zD (zL (e' := [(4, _), (5, _), (6, _), (7, _), (8, _), (9, _), (13, _), (50, _)]) ⟨rfl, rfl, rfl, rfl, rfl, rfl, rfl, rfl, trivial⟩ (zB ?_)))
 refine zH rfl (fun hc50 => ?_) (fun hc50 => ?_)
 ·
  refine zC (zA (asg (v := vI (3)) rfl rfl (zD (zB (zN (gr_in (zO (zW rfl rfl ?_))))))))
  have hT := along_T a b c d i j rfl rfl rfl rfl rfl rfl
  rw [hT, if_neg hc44, if_pos hc50]
 refine zI (gq_in (zB (zC (zA ?_))))
 replace rb_30 := rb_30.mono hh2
 refine gl_x (F := fun v_ => (rpT (rpQ (k + 1))).Is h2 v_ (mxT (loT a b i j) (loT c d i j) i j)) (zE ty33 (Pc.here _) rfl rfl rb_30 rfl) (mem1 (.tail _ (.head _))) rfl ?_
 intro v56 r56
 replace rb_10 := rb_10.mono (((hmm3.trans hmm4).trans hh1).trans hh2)
 refine gl_x (F := fun v_ => (rpT (rpQ k)).Is h2 v_ (loT a b i j)) (zE ty33 (Pc.here _) rfl rfl rb_10 rfl) (mem1 (.tail _ (.tail _ (.tail _ (.tail _ (.tail _ (.head _))))))) rfl ?_
 intro v57 r57
 refine mv rfl rfl (mv rfl rfl ?_)
 refine zJ (vs := [_, _, _, _]) rfl rfl rfl rfl Tryz.call74 ⟨rfl, rfl, rfl, rfl, trivial⟩ (fun w hs => o_pl_same (i := i) (j := j) hs r56 (r57.le (Le.t (Le.q (l := k + 1) (by omega)))) (by omega) (by omega) (by omega)) ?_
 intro v60 h3 hh3 r60
 obtain rfl : v60 = vB (pr (mxT (loT a b i j) (loT c d i j) i j) i j = pr (loT a b i j) i j) := r60
 refine gl_cut (ι := Mem) 7 (fun m_ => MLe h3 m_) (fun _ => [(67, vB ((pr (mxT (loT a b i j) (loT c d i j) i j) i j = pr (loT a b i j) i j) ∨ (pr (mxT (loT a b i j) (loT c d i j) i j) i j = pr (hiT a b i j) i j))), (4, vI ↑i), (5, vI ↑j), (8, vP b8 0), (9, vP b9 0), (13, vP b13 0)]) (fun _ => [.var b14 33 cs_33, .var b13 33 cs_29, .var b9 33 cs_19, .var b8 33 cs_17, .var b7 33 cs_11, .var b6 33 cs_9]) (fun m_ => m_) ?_ ?_
 ·
  refine gl_cases (pr (mxT (loT a b i j) (loT c d i j) i j) i j = pr (loT a b i j) i j) (fun hg => ?_) (fun hg => ?_)
  ·
   refine yG (zF (v := .bool true) (congrArg some (yI hg))) rfl rfl rfl (zK rfl rfl rfl rfl rfl rfl (zK rfl rfl rfl rfl rfl rfl (zK rfl rfl rfl rfl rfl rfl (zK rfl rfl rfl rfl rfl rfl (zK rfl rfl rfl rfl rfl rfl (gv (yF rfl rfl) rfl (zD ?_)))))))
   refine zU h3 (MLe.refl _) ⟨?_, rfl, rfl, rfl, rfl, rfl, trivial⟩ rfl rfl
   exact congrArg some (vB_or_t hg)
  refine yG (zF (v := .bool false) (congrArg some (yA hg))) rfl rfl rfl (zT rfl rfl rfl ?_)
  replace rb_30 := rb_30.mono hh3
  refine gl_x (F := fun v_ => (rpT (rpQ (k + 1))).Is h3 v_ (mxT (loT a b i j) (loT c d i j) i j)) (zE ty33 (Pc.here _) rfl rfl rb_30 rfl) (mem1 (.tail _ (.head _))) rfl ?_
  intro v62 r62
  refine zT rfl rfl rfl ?_
  replace rb_12 := rb_12.mono ((((hmm3.trans hmm4).trans hh1).trans hh2).trans hh3)
  refine gl_x (F := fun v_ => (rpT (rpQ k)).Is h3 v_ (hiT a b i j)) (zE ty33 (Pc.here _) rfl rfl rb_12 rfl) (mem1 (.tail _ (.tail _ (.tail _ (.tail _ (.head _)))))) rfl ?_
  intro v63 r63
  refine zT rfl rfl rfl (mv rfl rfl (zT rfl rfl rfl (mv rfl rfl (zT rfl rfl rfl ?_))))
  refine zJ (vs := [_, _, _, _]) rfl rfl rfl rfl Tryz.call74 ⟨rfl, rfl, rfl, rfl, trivial⟩ (fun w hs => o_pl_same (i := i) (j := j) hs r62 (r63.le (Le.t (Le.q (l := k + 1) (by omega)))) (by omega) (by omega) (by omega)) ?_
  intro v66 h4 hh4 r66
  obtain rfl : v66 = vB (pr (mxT (loT a b i j) (loT c d i j) i j) i j = pr (hiT a b i j) i j) := r66
  refine gv (yD rfl rfl) rfl (zD ?_)
  refine zU h4 hh4 ⟨?_, rfl, rfl, rfl, rfl, rfl, trivial⟩ rfl rfl
  exact congrArg some (vB_or_f hg)
 intro mg14_5 hmmg14_5
 show GL _ _ _ _ _ _ _ [(67, vB ((pr (mxT (loT a b i j) (loT c d i j) i j) i j = pr (loT a b i j) i j) ∨ (pr (mxT (loT a b i j) (loT c d i j) i j) i j = pr (hiT a b i j) i j))), (4, vI ↑i), (5, vI ↑j), (8, vP b8 0), (9, vP b9 0), (13, vP b13 0)] [.var b14 33 cs_33, .var b13 33 cs_29, .var b9 33 cs_19, .var b8 33 cs_17, .var b7 33 cs_11, .var b6 33 cs_9] mg14_5
 refine gl_cut (ι := Mem) 14 (fun m_ => MLe mg14_5 m_) (fun _ => [(81, vB (((pr (mxT (loT a b i j) (loT c d i j) i j) i j = pr (loT a b i j) i j) ∨ (pr (mxT (loT a b i j) (loT c d i j) i j) i j = pr (hiT a b i j) i j)) ∧ ((pr (mxT (loT a b i j) (loT c d i j) i j) i j = pr (loT c d i j) i j) ∨ (pr (mxT (loT a b i j) (loT c d i j) i j) i j = pr (hiT c d i j) i j))))]) (fun _ => [.var b14 33 cs_33, .var b13 33 cs_29, .var b9 33 cs_19, .var b8 33 cs_17, .var b7 33 cs_11, .var b6 33 cs_9]) (fun m_ => m_) ?_ ?_
 ·
  refine gl_cases ((pr (mxT (loT a b i j) (loT c d i j) i j) i j = pr (loT a b i j) i j) ∨ (pr (mxT (loT a b i j) (loT c d i j) i j) i j = pr (hiT a b i j) i j)) (fun hg => ?_) (fun hg => ?_)
  ·
   refine yG (zF (v := .bool true) (congrArg some (yI hg))) rfl rfl rfl (zT rfl rfl rfl ?_)
   replace rb_30 := rb_30.mono (hh3.trans hmmg14_5)
   refine gl_x (F := fun v_ => (rpT (rpQ (k + 1))).Is mg14_5 v_ (mxT (loT a b i j) (loT c d i j) i j)) (zE ty33 (Pc.here _) rfl rfl rb_30 rfl) (mem1 (.tail _ (.head _))) rfl ?_
   intro v69 r69
   refine zT rfl rfl rfl ?_
   replace rb_18 := rb_18.mono (((((hmm3.trans hmm4).trans hh1).trans hh2).trans hh3).trans hmmg14_5)
   refine gl_x (F := fun v_ => (rpT (rpQ k)).Is mg14_5 v_ (loT c d i j)) (zE ty33 (Pc.here _) rfl rfl rb_18 rfl) (mem1 (.tail _ (.tail _ (.tail _ (.head _))))) rfl ?_
   intro v70 r70
   refine zT rfl rfl rfl (mv rfl rfl (zT rfl rfl rfl (mv rfl rfl (zT rfl rfl rfl ?_))))
   refine zJ (vs := [_, _, _, _]) rfl rfl rfl rfl Tryz.call74 ⟨rfl, rfl, rfl, rfl, trivial⟩ (fun w hs => o_pl_same (i := i) (j := j) hs r69 (r70.le (Le.t (Le.q (l := k + 1) (by omega)))) (by omega) (by omega) (by omega)) ?_
   intro v73 h4 hh4 r73
   obtain rfl : v73 = vB (pr (mxT (loT a b i j) (loT c d i j) i j) i j = pr (loT c d i j) i j) := r73
   refine gl_cut (ι := Mem) 7 (fun m_ => MLe h4 m_) (fun _ => [(80, vB ((pr (mxT (loT a b i j) (loT c d i j) i j) i j = pr (loT c d i j) i j) ∨ (pr (mxT (loT a b i j) (loT c d i j) i j) i j = pr (hiT c d i j) i j))), (68, .bool true)]) (fun _ => [.var b14 33 cs_33, .var b13 33 cs_29, .var b9 33 cs_19, .var b8 33 cs_17, .var b7 33 cs_11, .var b6 33 cs_9]) (fun m_ => m_) ?_ ?_
   ·
    refine gl_cases (pr (mxT (loT a b i j) (loT c d i j) i j) i j = pr (loT c d i j) i j) (fun hg => ?_) (fun hg => ?_)
    ·
     refine zT rfl rfl rfl (yG (zF (v := .bool true) (congrArg some (yI hg))) rfl rfl rfl (zK rfl rfl rfl rfl rfl rfl (zK rfl rfl rfl rfl rfl rfl (zK rfl rfl rfl rfl rfl rfl (zK rfl rfl rfl rfl rfl rfl (zK rfl rfl rfl rfl rfl rfl (zT rfl rfl rfl (gv (yF rfl rfl) rfl (zD ?_)))))))))
     refine zU h4 (MLe.refl _) ⟨?_, rfl, trivial⟩ rfl rfl
     exact congrArg some (vB_or_t hg)
    refine zT rfl rfl rfl (yG (zF (v := .bool false) (congrArg some (yA hg))) rfl rfl rfl (zT rfl rfl rfl ?_))
    replace rb_30 := rb_30.mono hh4
    refine gl_x (F := fun v_ => (rpT (rpQ (k + 1))).Is h4 v_ (mxT (loT a b i j) (loT c d i j) i j)) (zE ty33 (Pc.here _) rfl rfl rb_30 rfl) (mem1 (.tail _ (.head _))) rfl ?_
    intro v75 r75
    refine zT rfl rfl rfl ?_
    replace rb_20 := rb_20.mono ((((((hmm3.trans hmm4).trans hh1).trans hh2).trans hh3).trans hmmg14_5).trans hh4)
    refine gl_x (F := fun v_ => (rpT (rpQ k)).Is h4 v_ (hiT c d i j)) (zE ty33 (Pc.here _) rfl rfl rb_20 rfl) (mem1 (.tail _ (.tail _ (.head _)))) rfl ?_
    intro v76 r76
    refine zT rfl rfl rfl (mv rfl rfl (zT rfl rfl rfl (mv rfl rfl (zT rfl rfl rfl ?_))))
    refine zJ (vs := [_, _, _, _]) rfl rfl rfl rfl Tryz.call74 ⟨rfl, rfl, rfl, rfl, trivial⟩ (fun w hs => o_pl_same (i := i) (j := j) hs r75 (r76.le (Le.t (Le.q (l := k + 1) (by omega)))) (by omega) (by omega) (by omega)) ?_
    intro v79 h5 hh5 r79
    obtain rfl : v79 = vB (pr (mxT (loT a b i j) (loT c d i j) i j) i j = pr (hiT c d i j) i j) := r79
    refine zT rfl rfl rfl (gv (yD rfl rfl) rfl (zD ?_))
    refine zU h5 hh5 ⟨?_, rfl, trivial⟩ rfl rfl
    exact congrArg some (vB_or_f hg)
   intro mg14_18 hmmg14_18
   show GL _ _ _ _ _ _ _ [(80, vB ((pr (mxT (loT a b i j) (loT c d i j) i j) i j = pr (loT c d i j) i j) ∨ (pr (mxT (loT a b i j) (loT c d i j) i j) i j = pr (hiT c d i j) i j))), (68, .bool true)] [.var b14 33 cs_33, .var b13 33 cs_29, .var b9 33 cs_19, .var b8 33 cs_17, .var b7 33 cs_11, .var b6 33 cs_9] mg14_18
   refine gv (yF rfl rfl) rfl (zD ?_)
   refine zU mg14_18 (hh4.trans hmmg14_18) ⟨?_, trivial⟩ rfl rfl
   exact congrArg some (vB_and_t hg)
  refine yG (zF (v := .bool false) (congrArg some (yA hg))) rfl rfl rfl (zK rfl rfl rfl rfl rfl rfl (zK rfl rfl rfl rfl rfl rfl (zK rfl rfl rfl rfl rfl rfl (zK rfl rfl rfl rfl rfl rfl (zK rfl rfl rfl rfl rfl rfl (zK rfl rfl rfl rfl rfl rfl (gl_offu rfl rfl rfl rfl rfl (gl_offu rfl rfl rfl rfl rfl (gl_offu rfl rfl rfl rfl rfl (gl_offu rfl rfl rfl rfl rfl (gl_offu rfl rfl rfl rfl rfl (zK rfl rfl rfl rfl rfl rfl (gv (yD rfl rfl) rfl ?_)))))))))))))
  refine zD ?_
  refine zU mg14_5 (MLe.refl _) ⟨?_, trivial⟩ rfl rfl
  exact congrArg some (vB_and_f hg)
 intro mg14_12 hmmg14_12
 show GL _ _ _ _ _ _ _ [(81, vB (((pr (mxT (loT a b i j) (loT c d i j) i j) i j = pr (loT a b i j) i j) ∨ (pr (mxT (loT a b i j) (loT c d i j) i j) i j = pr (hiT a b i j) i j)) ∧ ((pr (mxT (loT a b i j) (loT c d i j) i j) i j = pr (loT c d i j) i j) ∨ (pr (mxT (loT a b i j) (loT c d i j) i j) i j = pr (hiT c d i j) i j))))] [.var b14 33 cs_33, .var b13 33 cs_29, .var b9 33 cs_19, .var b8 33 cs_17, .var b7 33 cs_11, .var b6 33 cs_9] mg14_12
 refine asg rfl rfl (zD (zB (zC (zC (zA (mv rfl rfl (zD (zB ?_))))))))
 refine zH rfl (fun hc82 => ?_) (fun hc82 => ?_)
 ·
  refine zC (zA (asg (v := vI (1)) rfl rfl (zD (zB (zN (zO (zW rfl rfl ?_)))))))
  have hT := along_T a b c d i j rfl rfl rfl rfl rfl rfl
  rw [hT, if_neg hc44, if_neg hc50, if_pos hc82]
 refine zI (zB (zC (zA (asg (v := vI (2)) rfl rfl (zD (zB (zN (zW rfl rfl ?_))))))))
 have hT := along_T a b c d i j rfl rfl rfl rfl rfl rfl
 rw [hT, if_neg hc44, if_neg hc50, if_neg hc82]

theorem o_pl_touch {w0 : World} {h0 : Mem}  (hs : MLe h0 (mem w0)) {k : Nat} {va : Value} {a : (T3 Rat)} (ra : (rpT (rpQ k)).Is h0 va a) {vb : Value} {b : (T3 Rat)} (rb : (rpT (rpQ k)).Is h0 vb b) {vc : Value} {c : (T3 Rat)} (rc : (rpT (rpQ k)).Is h0 vc c) {vd : Value} {d : (T3 Rat)} (rd : (rpT (rpQ k)).Is h0 vd d) {i : Nat} {j : Nat} (hcd0 : i < 3) (hcd1 : j < 3) (hcd2 : k ≤ 1000000000)  :
    Calls Tryz.prog 59 #[va, vb, vc, vd, vI ↑i, vI ↑j] w0 (Ret w0 h0 (fun _ r => r = vI (touch2 (pr a i j) (pr b i j) (pr c i j) (pr d i j)))) := by
 refine zR (n := 117) (e := [(0, va), (1, vb), (2, vc), (3, vd), (4, vI ↑i), (5, vI ↑j)]) (vs := [va, vb, vc, vd, vI ↑i, vI ↑j]) Tryz.func59 rfl rfl (Nat.le_of_ble_eq_true rfl) hs ⟨rfl, rfl, rfl, rfl, rfl, rfl, trivial⟩ (zC (zA (zP (new_boxx (ρ := (rpT (rpQ k))) rfl ra) rfl rfl rfl ?_)))
 intro v6 q6 hq6
 obtain ⟨b6, cs6, rfl, rfl, rb6⟩ := hq6
 refine zP (new_boxx (ρ := (rpT (rpQ k))) rfl rb) rfl rfl rfl ?_
 intro v7 q7 hq7
 obtain ⟨b7, cs7, rfl, rfl, rb7⟩ := hq7
 refine zP (new_boxx (ρ := (rpT (rpQ k))) rfl rc) rfl rfl rfl ?_
 intro v8 q8 hq8
 obtain ⟨b8, cs8, rfl, rfl, rb8⟩ := hq8
 refine zP (new_boxx (ρ := (rpT (rpQ k))) rfl rd) rfl rfl rfl ?_
 intro v9 q9 hq9
 obtain ⟨b9, cs9, rfl, rfl, rb9⟩ := hq9
 refine asg (v := vI (0)) rfl rfl (zD (zB (zC (zC ?_))))
 refine gc_draw 28 _ [] [(0, .q), (1, .q), (2, .q), (3, .q), (4, .q), (5, .q), (6, .q), (7, .q), (8, .q), (9, .q), (10, .q), (11, .q), (12, .c), (13, .q), (14, .q), (15, .q), (16, .q), (17, .q), (18, .q), (19, .q), (20, .q), (21, .q), (22, .q), (23, .q), (24, .q), (25, .q), (26, .c), (27, .q)] mixed (fun x hx => by cases hx) (chk_of [0, 1, 2, 0, 8, 16, 0, 64, 128, 0, 512, 1024, 2340, 4096, 8192, 24576, 40960, 8192, 139264, 270336, 8192, 1056768, 2105344, 8192, 8396800, 16785408, 38346752, 67117056] [268435455, 268435454, 268435453, 268435455, 268435447, 268435439, 268435455, 268435391, 268435327, 268435455, 268434943, 268434431, 268433115, 268431359, 268427263, 268410879, 268394495, 268427263, 268296191, 268165119, 268427263, 267378687, 266330111, 268427263, 260038655, 251650047, 230088703, 201318399] (by kernel_rfl)) (fun x hx => by cases hx) (fun r hr => hr) (w_q rfl (fun h' L' hh hR => zF rfl) rfl (w_q rfl (fun h' L' hh hR => (zY (sz := 3) i Tryz.underlying33 Tryz.sizeOf31 rfl rfl rfl (by omega)).cv (show _ = vP b6 ((i * 3 + 0)) from congrArg (vP b6) (by omega))) rfl (w_qx (F := fun v_ => (rpQ k).Is h0 v_ (a.at i)) rfl (zE ty31 (Pc.ta (Pc.here _) i (by omega)) rfl rfl rb6 rfl) (mem1 (.tail _ (.tail _ (.tail _ (.head _))))) rfl ?_)))
 intro v19 r19
 refine w_q rfl (fun h' L' hh hR => zF rfl) rfl (w_q rfl (fun h' L' hh hR => (zY (sz := 3) i Tryz.underlying33 Tryz.sizeOf31 rfl rfl rfl (by omega)).cv (show _ = vP b7 ((i * 3 + 0)) from congrArg (vP b7) (by omega))) rfl (w_qx (F := fun v_ => (rpQ k).Is h0 v_ (b.at i)) rfl (zE ty31 (Pc.ta (Pc.here _) i (by omega)) rfl rfl rb7 rfl) (mem1 (.tail _ (.tail _ (.head _)))) rfl ?_))
 intro v22 r22
 refine w_q rfl (fun h' L' hh hR => zF rfl) rfl (w_q rfl (fun h' L' hh hR => (zY (sz := 3) i Tryz.underlying33 Tryz.sizeOf31 rfl rfl rfl (by omega)).cv (show _ = vP b8 ((i * 3 + 0)) from congrArg (vP b8) (by omega))) rfl (w_qx (F := fun v_ => (rpQ k).Is h0 v_ (c.at i)) rfl (zE ty31 (Pc.ta (Pc.here _) i (by omega)) rfl rfl rb8 rfl) (mem1 (.tail _ (.head _))) rfl ?_))
 intro v25 r25
 refine w_q rfl (fun h' L' hh hR => zF rfl) rfl (w_q rfl (fun h' L' hh hR => (zY (sz := 3) i Tryz.underlying33 Tryz.sizeOf31 rfl rfl rfl (by omega)).cv (show _ = vP b9 ((i * 3 + 0)) from congrArg (vP b9) (by omega))) rfl (w_qx (F := fun v_ => (rpQ k).Is h0 v_ (d.at i)) rfl (zE ty31 (Pc.ta (Pc.here _) i (by omega)) rfl rfl rb9 rfl) (mem1 (.head _)) rfl ?_))
 intro v28 r28
 refine w_c rfl ?_
 refine yO (vs := [_, _, _, _]) Tryz.call82 ⟨rfl, rfl, rfl, rfl, trivial⟩ (fun w hs => o_pl_apart hs r19 r22 r25 r28 (by omega)) rfl ?_
 intro v29 h1 hh1 r29
 obtain rfl : v29 = vB (apartP (a.at i) (b.at i) (c.at i) (d.at i)) := r29
 refine w_q rfl (fun h' L' hh hR => zF rfl) rfl ?_
 refine prop_cases (apartP (a.at i) (b.at i) (c.at i) (d.at i)) (fun hg_37 => ?_) (fun hg_37 => ?_)
 ·
  rw [yI hg_37]
  refine zM rfl rfl rfl rfl rfl (zM rfl rfl rfl rfl rfl (zM rfl rfl rfl rfl rfl (zM rfl rfl rfl rfl rfl (zM rfl rfl rfl rfl rfl (zM rfl rfl rfl rfl rfl (zM rfl rfl rfl rfl rfl (zM rfl rfl rfl rfl rfl (zM rfl rfl rfl rfl rfl (zM rfl rfl rfl rfl rfl (zM rfl rfl rfl rfl rfl (zM rfl rfl rfl rfl rfl ?_)))))))))))
  refine w_c rfl (s_off rfl rfl rfl rfl (w_q rfl (fun h' L' hh hR => yF rfl rfl) rfl (w_nil (zL (e' := [(4, _), (5, _), (6, _), (7, _), (8, _), (9, _), (44, _)]) ⟨rfl, rfl, rfl, rfl, rfl, rfl, rfl, trivial⟩ (zB (gc_cond_t rfl (zC (zA (asg (v := vI (0)) rfl rfl (zD (zB (zN (zO ?_)))))))))))))
  refine zW rfl rfl ?_
  unfold touch2; refine congrArg vI ?_; simp only [pr] at *; grind
 rw [yA hg_37]
 refine w_q_on rfl rfl rfl (fun h' L' hh hR => zF rfl) rfl (w_q_on rfl rfl rfl (fun h' L' hh hR => (zY (sz := 3) j Tryz.underlying33 Tryz.sizeOf31 rfl rfl rfl (by omega)).cv (show _ = vP b6 ((j * 3 + 0)) from congrArg (vP b6) (by omega))) rfl ?_)
 replace rb6 := rb6.mono hh1
 refine w_qx_on (F := fun v_ => (rpQ k).Is h1 v_ (a.at j)) rfl rfl rfl (zE ty31 (Pc.ta (Pc.here _) j (by omega)) rfl rfl rb6 rfl) (mem1 (.tail _ (.tail _ (.tail _ (.head _))))) rfl ?_
 intro v33 r33
 refine w_q_on rfl rfl rfl (fun h' L' hh hR => zF rfl) rfl (w_q_on rfl rfl rfl (fun h' L' hh hR => (zY (sz := 3) j Tryz.underlying33 Tryz.sizeOf31 rfl rfl rfl (by omega)).cv (show _ = vP b7 ((j * 3 + 0)) from congrArg (vP b7) (by omega))) rfl ?_)
 replace rb7 := rb7.mono hh1
 refine w_qx_on (F := fun v_ => (rpQ k).Is h1 v_ (b.at j)) rfl rfl rfl (zE ty31 (Pc.ta (Pc.here _) j (by omega)) rfl rfl rb7 rfl) (mem1 (.tail _ (.tail _ (.head _)))) rfl ?_
 intro v36 r36
 refine w_q_on rfl rfl rfl (fun h' L' hh hR => zF rfl) rfl (w_q_on rfl rfl rfl (fun h' L' hh hR => (zY (sz := 3) j Tryz.underlying33 Tryz.sizeOf31 rfl rfl rfl (by omega)).cv (show _ = vP b8 ((j * 3 + 0)) from congrArg (vP b8) (by omega))) rfl ?_)
 replace rb8 := rb8.mono hh1
 refine w_qx_on (F := fun v_ => (rpQ k).Is h1 v_ (c.at j)) rfl rfl rfl (zE ty31 (Pc.ta (Pc.here _) j (by omega)) rfl rfl rb8 rfl) (mem1 (.tail _ (.head _))) rfl ?_
 intro v39 r39
 refine w_q_on rfl rfl rfl (fun h' L' hh hR => zF rfl) rfl (w_q_on rfl rfl rfl (fun h' L' hh hR => (zY (sz := 3) j Tryz.underlying33 Tryz.sizeOf31 rfl rfl rfl (by omega)).cv (show _ = vP b9 ((j * 3 + 0)) from congrArg (vP b9) (by omega))) rfl ?_)
 replace rb9 := rb9.mono hh1
 refine w_qx_on (F := fun v_ => (rpQ k).Is h1 v_ (d.at j)) rfl rfl rfl (zE ty31 (Pc.ta (Pc.here _) j (by omega)) rfl rfl rb9 rfl) (mem1 (.head _)) rfl ?_
 intro v42 r42
 refine w_c rfl (s_on rfl rfl ?_)
 refine yO (vs := [_, _, _, _]) Tryz.call82 ⟨rfl, rfl, rfl, rfl, trivial⟩ (fun w hs => o_pl_apart hs r33 r36 r39 r42 (by omega)) rfl ?_
 intro v43 h2 hh2 r43
 obtain rfl : v43 = vB (apartP (a.at j) (b.at j) (c.at j) (d.at j)) := r43
 refine w_q rfl (fun h' L' hh hR => yD rfl rfl) rfl (w_nil (zL (e' := [(4, _), (5, _), (6, _), (7, _), (8, _), (9, _), (44, _)]) ⟨rfl, rfl, rfl, rfl, rfl, rfl, rfl, trivial⟩ (zB ?_)))
 refine zH rfl (fun hc44 => ?_) (fun hc44 => ?_)
 ·
  refine zC (zA (asg (v := vI (0)) rfl rfl (zD (zB (zN (zO (zW rfl rfl ?_)))))))
  unfold touch2; refine congrArg vI ?_; simp only [pr] at *; grind
 refine zI (zB (zC ?_))
 refine gc_draw 14 _ [] [(0, .q), (1, .q), (2, .q), (3, .q), (4, .q), (6, .q), (7, .q), (8, .q), (9, .q), (10, .q), (5, .c), (11, .c), (12, .q), (13, .q)] mixed (fun x hx => by cases hx) (chk_of [0, 0, 0, 0, 0, 31, 0, 0, 0, 0, 0, 2016, 2111, 8191] [16383, 16383, 16383, 16383, 16383, 16352, 16383, 16383, 16383, 16383, 16383, 14399, 16351, 14335] (by kernel_rfl)) (fun x hx => by cases hx) (fun r hr => hr) ?_
 replace rb6 := rb6.mono hh2
 refine w_qx (F := fun v_ => (rpT (rpQ k)).Is h2 v_ a) rfl (zE ty33 (Pc.here _) rfl rfl rb6 rfl) (mem1 (.tail _ (.tail _ (.tail _ (.head _))))) rfl ?_
 intro v45 r45
 replace rb7 := rb7.mono hh2
 refine w_qx (F := fun v_ => (rpT (rpQ k)).Is h2 v_ b) rfl (zE ty33 (Pc.here _) rfl rfl rb7 rfl) (mem1 (.tail _ (.tail _ (.head _)))) rfl ?_
 intro v46 r46
 replace rb8 := rb8.mono hh2
 refine w_qx (F := fun v_ => (rpT (rpQ k)).Is h2 v_ c) rfl (zE ty33 (Pc.here _) rfl rfl rb8 rfl) (mem1 (.tail _ (.head _))) rfl ?_
 intro v47 r47
 refine w_q rfl (fun h' L' hh hR => zF rfl) rfl (w_q rfl (fun h' L' hh hR => zF rfl) rfl (w_qx (F := fun v_ => (rpT (rpQ k)).Is h2 v_ a) rfl (zE ty33 (Pc.here _) rfl rfl rb6 rfl) (mem1 (.tail _ (.tail _ (.tail _ (.head _))))) rfl ?_))
 intro v51 r51
 refine w_qx (F := fun v_ => (rpT (rpQ k)).Is h2 v_ b) rfl (zE ty33 (Pc.here _) rfl rfl rb7 rfl) (mem1 (.tail _ (.tail _ (.head _)))) rfl ?_
 intro v52 r52
 replace rb9 := rb9.mono hh2
 refine w_qx (F := fun v_ => (rpT (rpQ k)).Is h2 v_ d) rfl (zE ty33 (Pc.here _) rfl rfl rb9 rfl) (mem1 (.head _)) rfl ?_
 intro v53 r53
 refine w_q rfl (fun h' L' hh hR => zF rfl) rfl (w_q rfl (fun h' L' hh hR => zF rfl) rfl ?_)
 refine w_c rfl ?_
 refine yO (vs := [_, _, _, _, _]) Tryz.call69 ⟨rfl, rfl, rfl, rfl, rfl, trivial⟩ (fun w hs => o_pl_orient (i := i) (j := j) hs r45 r46 r47 (by omega) (by omega) (by omega)) rfl ?_
 intro v50 h3 hh3 r50
 obtain rfl : v50 = vI (orZ (pr a i j) (pr b i j) (pr c i j)) := r50
 have hor50 := or_range (pr a i j) (pr b i j) (pr c i j)
 refine w_c rfl ?_
 replace r51 := r51.mono hh3
 replace r52 := r52.mono hh3
 replace r53 := r53.mono hh3
 refine yO (vs := [_, _, _, _, _]) Tryz.call69 ⟨rfl, rfl, rfl, rfl, rfl, trivial⟩ (fun w hs => o_pl_orient (i := i) (j := j) hs r51 r52 r53 (by omega) (by omega) (by omega)) rfl ?_
 intro v56 h4 hh4 r56
 obtain rfl : v56 = vI (orZ (pr a i j) (pr b i j) (pr d i j)) := r56
 have hor56 := or_range (pr a i j) (pr b i j) (pr d i j)
 refine w_q rfl (fun h' L' hh hR => ov_assign rfl) rfl (w_q rfl (fun h' L' hh hR => ov_assign rfl) rfl (w_nil (zL (e' := [(4, _), (5, _), (6, _), (7, _), (8, _), (9, _), (13, _), (14, _)]) ⟨rfl, rfl, rfl, rfl, rfl, rfl, rfl, rfl, trivial⟩ (zB (zC ?_)))))
 refine gc_draw 14 _ [] [(0, .q), (1, .q), (2, .q), (3, .q), (4, .q), (6, .q), (7, .q), (8, .q), (9, .q), (10, .q), (5, .c), (11, .c), (12, .q), (13, .q)] mixed (fun x hx => by cases hx) (chk_of [0, 0, 0, 0, 0, 31, 0, 0, 0, 0, 0, 2016, 2111, 8191] [16383, 16383, 16383, 16383, 16383, 16352, 16383, 16383, 16383, 16383, 16383, 14399, 16351, 14335] (by kernel_rfl)) (fun x hx => by cases hx) (fun r hr => hr) ?_
 replace rb8 := rb8.mono (hh3.trans hh4)
 refine w_qx (F := fun v_ => (rpT (rpQ k)).Is h4 v_ c) rfl (zE ty33 (Pc.here _) rfl rfl rb8 rfl) (mem1 (.tail _ (.head _))) rfl ?_
 intro v57 r57
 replace rb9 := rb9.mono (hh3.trans hh4)
 refine w_qx (F := fun v_ => (rpT (rpQ k)).Is h4 v_ d) rfl (zE ty33 (Pc.here _) rfl rfl rb9 rfl) (mem1 (.head _)) rfl ?_
 intro v58 r58
 replace rb6 := rb6.mono (hh3.trans hh4)
 refine w_qx (F := fun v_ => (rpT (rpQ k)).Is h4 v_ a) rfl (zE ty33 (Pc.here _) rfl rfl rb6 rfl) (mem1 (.tail _ (.tail _ (.tail _ (.head _))))) rfl ?_
 intro v59 r59
 refine w_q rfl (fun h' L' hh hR => zF rfl) rfl (w_q rfl (fun h' L' hh hR => zF rfl) rfl (w_qx (F := fun v_ => (rpT (rpQ k)).Is h4 v_ c) rfl (zE ty33 (Pc.here _) rfl rfl rb8 rfl) (mem1 (.tail _ (.head _))) rfl ?_))
 intro v63 r63
 refine w_qx (F := fun v_ => (rpT (rpQ k)).Is h4 v_ d) rfl (zE ty33 (Pc.here _) rfl rfl rb9 rfl) (mem1 (.head _)) rfl ?_
 intro v64 r64
 replace rb7 := rb7.mono (hh3.trans hh4)
 refine w_qx (F := fun v_ => (rpT (rpQ k)).Is h4 v_ b) rfl (zE ty33 (Pc.here _) rfl rfl rb7 rfl) (mem1 (.tail _ (.tail _ (.head _)))) rfl ?_
 intro v65 r65
 refine w_q rfl (fun h' L' hh hR => zF rfl) rfl (w_q rfl (fun h' L' hh hR => zF rfl) rfl ?_)
 refine w_c rfl ?_
 refine yO (vs := [_, _, _, _, _]) Tryz.call69 ⟨rfl, rfl, rfl, rfl, rfl, trivial⟩ (fun w hs => o_pl_orient (i := i) (j := j) hs r57 r58 r59 (by omega) (by omega) (by omega)) rfl ?_
 intro v62 h5 hh5 r62
 obtain rfl : v62 = vI (orZ (pr c i j) (pr d i j) (pr a i j)) := r62
 have hor62 := or_range (pr c i j) (pr d i j) (pr a i j)
 refine w_c rfl ?_
 replace r63 := r63.mono hh5
 replace r64 := r64.mono hh5
 replace r65 := r65.mono hh5
 refine yO (vs := [_, _, _, _, _]) Tryz.call69 ⟨rfl, rfl, rfl, rfl, rfl, trivial⟩ (fun w hs => o_pl_orient (i := i) (j := j) hs r63 r64 r65 (by omega) (by omega) (by omega)) rfl ?_
 intro v68 h6 hh6 r68
 obtain rfl : v68 = vI (orZ (pr c i j) (pr d i j) (pr b i j)) := r68
 have hor68 := or_range (pr c i j) (pr d i j) (pr b i j)
 refine w_q rfl (fun h' L' hh hR => ov_assign rfl) rfl (w_q rfl (fun h' L' hh hR => ov_assign rfl) rfl (w_nil (zL (e' := [(4, _), (5, _), (6, _), (7, _), (8, _), (9, _), (13, _), (14, _), (15, _), (16, _)]) ⟨rfl, rfl, rfl, rfl, rfl, rfl, rfl, rfl, rfl, rfl, trivial⟩ (zB (zC (zQ (zC (zA (mv rfl rfl (gv (ov_eql_i (q := 0) rfl rfl) rfl ?_))))))))))
 refine gl_cut (ι := Unit) 4 (fun _ => True) (fun _ => [(75, vB (((orZ (pr a i j) (pr b i j) (pr c i j)) = (0 : Int)) ∧ ((orZ (pr a i j) (pr b i j) (pr d i j)) = (0 : Int)))), (4, vI ↑i), (5, vI ↑j), (6, vP b6 0), (7, vP b7 0), (8, vP b8 0), (9, vP b9 0), (13, vI (orZ (pr a i j) (pr b i j) (pr c i j))), (14, vI (orZ (pr a i j) (pr b i j) (pr d i j))), (15, vI (orZ (pr c i j) (pr d i j) (pr a i j))), (16, vI (orZ (pr c i j) (pr d i j) (pr b i j)))]) (fun _ => [.var b9 33 cs9, .var b8 33 cs8, .var b7 33 cs7, .var b6 33 cs6]) (fun _ => h6) ?_ ?_
 ·
  refine gl_cases ((orZ (pr a i j) (pr b i j) (pr c i j)) = (0 : Int)) (fun hg => ?_) (fun hg => ?_)
  ·
   refine yG (zF (v := .bool true) (congrArg some (yI hg))) rfl rfl rfl (zT rfl rfl rfl (mv rfl rfl (zT rfl rfl rfl (gv (ov_eql_i (q := 0) rfl rfl) rfl (gv (yF rfl rfl) rfl (zD ?_))))))
   refine zU () trivial ⟨?_, rfl, rfl, rfl, rfl, rfl, rfl, rfl, rfl, rfl, rfl, trivial⟩ rfl rfl
   exact congrArg some (vB_and_t hg)
  refine yG (zF (v := .bool false) (congrArg some (yA hg))) rfl rfl rfl (zK rfl rfl rfl rfl rfl rfl (zK rfl rfl rfl rfl rfl rfl (gv (yD rfl rfl) rfl (zD ?_))))
  refine zU () trivial ⟨?_, rfl, rfl, rfl, rfl, rfl, rfl, rfl, rfl, rfl, rfl, trivial⟩ rfl rfl
  exact congrArg some (vB_and_f hg)
 intro _ _
 show GL _ _ _ _ _ _ _ [(75, vB (((orZ (pr a i j) (pr b i j) (pr c i j)) = (0 : Int)) ∧ ((orZ (pr a i j) (pr b i j) (pr d i j)) = (0 : Int)))), (4, vI ↑i), (5, vI ↑j), (6, vP b6 0), (7, vP b7 0), (8, vP b8 0), (9, vP b9 0), (13, vI (orZ (pr a i j) (pr b i j) (pr c i j))), (14, vI (orZ (pr a i j) (pr b i j) (pr d i j))), (15, vI (orZ (pr c i j) (pr d i j) (pr a i j))), (16, vI (orZ (pr c i j) (pr d i j) (pr b i j)))] [.var b9 33 cs9, .var b8 33 cs8, .var b7 33 cs7, .var b6 33 cs6] h6
 refine gl_cut (ι := Unit) 4 (fun _ => True) (fun _ => [(79, vB ((((orZ (pr a i j) (pr b i j) (pr c i j)) = (0 : Int)) ∧ ((orZ (pr a i j) (pr b i j) (pr d i j)) = (0 : Int))) ∧ ((orZ (pr c i j) (pr d i j) (pr a i j)) = (0 : Int)))), (4, vI ↑i), (5, vI ↑j), (6, vP b6 0), (7, vP b7 0), (8, vP b8 0), (9, vP b9 0), (13, vI (orZ (pr a i j) (pr b i j) (pr c i j))), (14, vI (orZ (pr a i j) (pr b i j) (pr d i j))), (15, vI (orZ (pr c i j) (pr d i j) (pr a i j))), (16, vI (orZ (pr c i j) (pr d i j) (pr b i j)))]) (fun _ => [.var b9 33 cs9, .var b8 33 cs8, .var b7 33 cs7, .var b6 33 cs6]) (fun _ => h6) ?_ ?_
 ·
  refine gl_cases (((orZ (pr a i j) (pr b i j) (pr c i j)) = (0 : Int)) ∧ ((orZ (pr a i j) (pr b i j) (pr d i j)) = (0 : Int))) (fun hg => ?_) (fun hg => ?_)
  ·
   refine yG (zF (v := .bool true) (congrArg some (yI hg))) rfl rfl rfl (zT rfl rfl rfl (mv rfl rfl (zT rfl rfl rfl (gv (ov_eql_i (q := 0) rfl rfl) rfl (gv (yF rfl rfl) rfl (zD ?_))))))
   refine zU () trivial ⟨?_, rfl, rfl, rfl, rfl, rfl, rfl, rfl, rfl, rfl, rfl, trivial⟩ rfl rfl
   exact congrArg some (vB_and_t hg)
  refine yG (zF (v := .bool false) (congrArg some (yA hg))) rfl rfl rfl (zK rfl rfl rfl rfl rfl rfl (zK rfl rfl rfl rfl rfl rfl (gv (yD rfl rfl) rfl (zD ?_))))
  refine zU () trivial ⟨?_, rfl, rfl, rfl, rfl, rfl, rfl, rfl, rfl, rfl, rfl, trivial⟩ rfl rfl
  exact congrArg some (vB_and_f hg)
 intro _ _
 show GL _ _ _ _ _ _ _ [(79, vB ((((orZ (pr a i j) (pr b i j) (pr c i j)) = (0 : Int)) ∧ ((orZ (pr a i j) (pr b i j) (pr d i j)) = (0 : Int))) ∧ ((orZ (pr c i j) (pr d i j) (pr a i j)) = (0 : Int)))), (4, vI ↑i), (5, vI ↑j), (6, vP b6 0), (7, vP b7 0), (8, vP b8 0), (9, vP b9 0), (13, vI (orZ (pr a i j) (pr b i j) (pr c i j))), (14, vI (orZ (pr a i j) (pr b i j) (pr d i j))), (15, vI (orZ (pr c i j) (pr d i j) (pr a i j))), (16, vI (orZ (pr c i j) (pr d i j) (pr b i j)))] [.var b9 33 cs9, .var b8 33 cs8, .var b7 33 cs7, .var b6 33 cs6] h6
 refine gl_cut (ι := Unit) 4 (fun _ => True) (fun _ => [(83, vB (((((orZ (pr a i j) (pr b i j) (pr c i j)) = (0 : Int)) ∧ ((orZ (pr a i j) (pr b i j) (pr d i j)) = (0 : Int))) ∧ ((orZ (pr c i j) (pr d i j) (pr a i j)) = (0 : Int))) ∧ ((orZ (pr c i j) (pr d i j) (pr b i j)) = (0 : Int)))), (4, vI ↑i), (5, vI ↑j), (6, vP b6 0), (7, vP b7 0), (8, vP b8 0), (9, vP b9 0), (13, vI (orZ (pr a i j) (pr b i j) (pr c i j))), (14, vI (orZ (pr a i j) (pr b i j) (pr d i j))), (15, vI (orZ (pr c i j) (pr d i j) (pr a i j))), (16, vI (orZ (pr c i j) (pr d i j) (pr b i j)))]) (fun _ => [.var b9 33 cs9, .var b8 33 cs8, .var b7 33 cs7, .var b6 33 cs6]) (fun _ => h6) ?_ ?_
 ·
  refine gl_cases ((((orZ (pr a i j) (pr b i j) (pr c i j)) = (0 : Int)) ∧ ((orZ (pr a i j) (pr b i j) (pr d i j)) = (0 : Int))) ∧ ((orZ (pr c i j) (pr d i j) (pr a i j)) = (0 : Int))) (fun hg => ?_) (fun hg => ?_)
  ·
   refine yG (zF (v := .bool true) (congrArg some (yI hg))) rfl rfl rfl (zT rfl rfl rfl (mv rfl rfl (zT rfl rfl rfl (gv (ov_eql_i (q := 0) rfl rfl) rfl (gv (yF rfl rfl) rfl (zD ?_))))))
   refine zU () trivial ⟨?_, rfl, rfl, rfl, rfl, rfl, rfl, rfl, rfl, rfl, rfl, trivial⟩ rfl rfl
   exact congrArg some (vB_and_t hg)
  refine yG (zF (v := .bool false) (congrArg some (yA hg))) rfl rfl rfl (zK rfl rfl rfl rfl rfl rfl (zK rfl rfl rfl rfl rfl rfl (gv (yD rfl rfl) rfl (zD ?_))))
  refine zU () trivial ⟨?_, rfl, rfl, rfl, rfl, rfl, rfl, rfl, rfl, rfl, rfl, trivial⟩ rfl rfl
  exact congrArg some (vB_and_f hg)
 intro _ _
 show GL _ _ _ _ _ _ _ [(83, vB (((((orZ (pr a i j) (pr b i j) (pr c i j)) = (0 : Int)) ∧ ((orZ (pr a i j) (pr b i j) (pr d i j)) = (0 : Int))) ∧ ((orZ (pr c i j) (pr d i j) (pr a i j)) = (0 : Int))) ∧ ((orZ (pr c i j) (pr d i j) (pr b i j)) = (0 : Int)))), (4, vI ↑i), (5, vI ↑j), (6, vP b6 0), (7, vP b7 0), (8, vP b8 0), (9, vP b9 0), (13, vI (orZ (pr a i j) (pr b i j) (pr c i j))), (14, vI (orZ (pr a i j) (pr b i j) (pr d i j))), (15, vI (orZ (pr c i j) (pr d i j) (pr a i j))), (16, vI (orZ (pr c i j) (pr d i j) (pr b i j)))] [.var b9 33 cs9, .var b8 33 cs8, .var b7 33 cs7, .var b6 33 cs6] h6
 refine asg rfl rfl (zD (zB ?_))
 refine zH rfl (fun hc69 => ?_) (fun hc69 => ?_)
 ·
  refine zC (zA ?_)
  replace rb6 := rb6.mono (hh5.trans hh6)
  refine gl_x (F := fun v_ => (rpT (rpQ k)).Is h6 v_ a) (zE ty33 (Pc.here _) rfl rfl rb6 rfl) (mem1 (.tail _ (.tail _ (.tail _ (.head _))))) rfl ?_
  intro v84 r84
  replace rb7 := rb7.mono (hh5.trans hh6)
  refine gl_x (F := fun v_ => (rpT (rpQ k)).Is h6 v_ b) (zE ty33 (Pc.here _) rfl rfl rb7 rfl) (mem1 (.tail _ (.tail _ (.head _)))) rfl ?_
  intro v85 r85
  replace rb8 := rb8.mono (hh5.trans hh6)
  refine gl_x (F := fun v_ => (rpT (rpQ k)).Is h6 v_ c) (zE ty33 (Pc.here _) rfl rfl rb8 rfl) (mem1 (.tail _ (.head _))) rfl ?_
  intro v86 r86
  replace rb9 := rb9.mono (hh5.trans hh6)
  refine gl_x (F := fun v_ => (rpT (rpQ k)).Is h6 v_ d) (zE ty33 (Pc.here _) rfl rfl rb9 rfl) (mem1 (.head _)) rfl ?_
  intro v87 r87
  refine mv rfl rfl (mv rfl rfl ?_)
  refine zJ (vs := [_, _, _, _, _, _]) rfl rfl rfl rfl Tryz.call83 ⟨rfl, rfl, rfl, rfl, rfl, rfl, trivial⟩ (fun w hs => o_pl_along (i := i) (j := j) hs r84 r85 r86 r87 (by omega) (by omega) (by omega)) ?_
  intro v90 h7 hh7 r90
  obtain rfl : v90 = vI (along2 (pr a i j) (pr b i j) (pr c i j) (pr d i j)) := r90
  refine asg rfl rfl (zD (zL (e' := [(12, _)]) ⟨rfl, trivial⟩ (zB (zN (gr_in (zO (zW rfl rfl ?_)))))))
  unfold touch2; refine congrArg vI ?_; simp only [pr] at *; grind
 refine zC (zA (mv rfl rfl (mv rfl rfl (gv (ov_mul_i rfl rfl (by have := mul_range hor50 hor56; omega) (by have := mul_range hor50 hor56; omega)) rfl (gv (ov_gtr_i (q := 0) rfl rfl) rfl ?_)))))
 refine gl_cut (ι := Unit) 6 (fun _ => True) (fun _ => [(101, vB (((0 : Int) < ((orZ (pr a i j) (pr b i j) (pr c i j)) * (orZ (pr a i j) (pr b i j) (pr d i j)))) ∨ ((0 : Int) < ((orZ (pr c i j) (pr d i j) (pr a i j)) * (orZ (pr c i j) (pr d i j) (pr b i j)))))), (13, vI (orZ (pr a i j) (pr b i j) (pr c i j))), (14, vI (orZ (pr a i j) (pr b i j) (pr d i j))), (15, vI (orZ (pr c i j) (pr d i j) (pr a i j))), (16, vI (orZ (pr c i j) (pr d i j) (pr b i j)))]) (fun _ => [.var b9 33 cs9, .var b8 33 cs8, .var b7 33 cs7, .var b6 33 cs6]) (fun _ => h6) ?_ ?_
 ·
  refine gl_cases ((0 : Int) < ((orZ (pr a i j) (pr b i j) (pr c i j)) * (orZ (pr a i j) (pr b i j) (pr d i j)))) (fun hg => ?_) (fun hg => ?_)
  ·
   refine yG (zF (v := .bool true) (congrArg some (yI hg))) rfl rfl rfl (zK rfl rfl rfl rfl rfl rfl (zK rfl rfl rfl rfl rfl rfl (zK rfl rfl rfl rfl rfl rfl (zK rfl rfl rfl rfl rfl rfl (gv (yF rfl rfl) rfl (zD ?_))))))
   refine zU () trivial ⟨?_, rfl, rfl, rfl, rfl, trivial⟩ rfl rfl
   exact congrArg some (vB_or_t hg)
  refine yG (zF (v := .bool false) (congrArg some (yA hg))) rfl rfl rfl (zT rfl rfl rfl (mv rfl rfl (zT rfl rfl rfl (mv rfl rfl (zT rfl rfl rfl (gv (ov_mul_i rfl rfl (by have := mul_range hor62 hor68; omega) (by have := mul_range hor62 hor68; omega)) rfl (zT rfl rfl rfl (gv (ov_gtr_i (q := 0) rfl rfl) rfl (gv (yD rfl rfl) rfl (zD ?_))))))))))
  refine zU () trivial ⟨?_, rfl, rfl, rfl, rfl, trivial⟩ rfl rfl
  exact congrArg some (vB_or_f hg)
 intro _ _
 show GL _ _ _ _ _ _ _ [(101, vB (((0 : Int) < ((orZ (pr a i j) (pr b i j) (pr c i j)) * (orZ (pr a i j) (pr b i j) (pr d i j)))) ∨ ((0 : Int) < ((orZ (pr c i j) (pr d i j) (pr a i j)) * (orZ (pr c i j) (pr d i j) (pr b i j)))))), (13, vI (orZ (pr a i j) (pr b i j) (pr c i j))), (14, vI (orZ (pr a i j) (pr b i j) (pr d i j))), (15, vI (orZ (pr c i j) (pr d i j) (pr a i j))), (16, vI (orZ (pr c i j) (pr d i j) (pr b i j)))] [.var b9 33 cs9, .var b8 33 cs8, .var b7 33 cs7, .var b6 33 cs6] h6
 refine asg rfl rfl (zD (zB ?_))
 refine zH rfl (fun hc91 => ?_) (fun hc91 => ?_)
 ·
  refine zC (zA (asg (v := vI (0)) rfl rfl (zD (zB (zN (gr_in (zO (zW rfl rfl ?_))))))))
  unfold touch2; refine congrArg vI ?_; simp only [pr] at *; grind
 refine zC (zA (mv rfl rfl (gv (ov_eql_i (q := 0) rfl rfl) rfl ?_)))
 refine gl_cut (ι := Unit) 4 (fun _ => True) (fun _ => [(108, vB (((orZ (pr a i j) (pr b i j) (pr c i j)) = (0 : Int)) ∨ ((orZ (pr a i j) (pr b i j) (pr d i j)) = (0 : Int)))), (15, vI (orZ (pr c i j) (pr d i j) (pr a i j))), (16, vI (orZ (pr c i j) (pr d i j) (pr b i j)))]) (fun _ => [.var b9 33 cs9, .var b8 33 cs8, .var b7 33 cs7, .var b6 33 cs6]) (fun _ => h6) ?_ ?_
 ·
  refine gl_cases ((orZ (pr a i j) (pr b i j) (pr c i j)) = (0 : Int)) (fun hg => ?_) (fun hg => ?_)
  ·
   refine yG (zF (v := .bool true) (congrArg some (yI hg))) rfl rfl rfl (zK rfl rfl rfl rfl rfl rfl (zK rfl rfl rfl rfl rfl rfl (gv (yF rfl rfl) rfl (zD ?_))))
   refine zU () trivial ⟨?_, rfl, rfl, trivial⟩ rfl rfl
   exact congrArg some (vB_or_t hg)
  refine yG (zF (v := .bool false) (congrArg some (yA hg))) rfl rfl rfl (zT rfl rfl rfl (mv rfl rfl (zT rfl rfl rfl (gv (ov_eql_i (q := 0) rfl rfl) rfl (gv (yD rfl rfl) rfl (zD ?_))))))
  refine zU () trivial ⟨?_, rfl, rfl, trivial⟩ rfl rfl
  exact congrArg some (vB_or_f hg)
 intro _ _
 show GL _ _ _ _ _ _ _ [(108, vB (((orZ (pr a i j) (pr b i j) (pr c i j)) = (0 : Int)) ∨ ((orZ (pr a i j) (pr b i j) (pr d i j)) = (0 : Int)))), (15, vI (orZ (pr c i j) (pr d i j) (pr a i j))), (16, vI (orZ (pr c i j) (pr d i j) (pr b i j)))] [.var b9 33 cs9, .var b8 33 cs8, .var b7 33 cs7, .var b6 33 cs6] h6
 refine gl_cut (ι := Unit) 8 (fun _ => True) (fun _ => [(116, vB ((((orZ (pr a i j) (pr b i j) (pr c i j)) = (0 : Int)) ∨ ((orZ (pr a i j) (pr b i j) (pr d i j)) = (0 : Int))) ∧ (((orZ (pr c i j) (pr d i j) (pr a i j)) = (0 : Int)) ∨ ((orZ (pr c i j) (pr d i j) (pr b i j)) = (0 : Int)))))]) (fun _ => [.var b9 33 cs9, .var b8 33 cs8, .var b7 33 cs7, .var b6 33 cs6]) (fun _ => h6) ?_ ?_
 ·
  refine gl_cases (((orZ (pr a i j) (pr b i j) (pr c i j)) = (0 : Int)) ∨ ((orZ (pr a i j) (pr b i j) (pr d i j)) = (0 : Int))) (fun hg => ?_) (fun hg => ?_)
  ·
   refine yG (zF (v := .bool true) (congrArg some (yI hg))) rfl rfl rfl (zT rfl rfl rfl (mv rfl rfl (zT rfl rfl rfl (gv (ov_eql_i (q := 0) rfl rfl) rfl ?_))))
   refine gl_cut (ι := Unit) 4 (fun _ => True) (fun _ => [(115, vB (((orZ (pr c i j) (pr d i j) (pr a i j)) = (0 : Int)) ∨ ((orZ (pr c i j) (pr d i j) (pr b i j)) = (0 : Int)))), (109, .bool true)]) (fun _ => [.var b9 33 cs9, .var b8 33 cs8, .var b7 33 cs7, .var b6 33 cs6]) (fun _ => h6) ?_ ?_
   ·
    refine gl_cases ((orZ (pr c i j) (pr d i j) (pr a i j)) = (0 : Int)) (fun hg => ?_) (fun hg => ?_)
    ·
     refine zT rfl rfl rfl (yG (zF (v := .bool true) (congrArg some (yI hg))) rfl rfl rfl (zK rfl rfl rfl rfl rfl rfl (zK rfl rfl rfl rfl rfl rfl (zT rfl rfl rfl (gv (yF rfl rfl) rfl (zD ?_))))))
     refine zU () trivial ⟨?_, rfl, trivial⟩ rfl rfl
     exact congrArg some (vB_or_t hg)
    refine zT rfl rfl rfl (yG (zF (v := .bool false) (congrArg some (yA hg))) rfl rfl rfl (zT rfl rfl rfl (mv rfl rfl (zT rfl rfl rfl (gv (ov_eql_i (q := 0) rfl rfl) rfl (zT rfl rfl rfl (gv (yD rfl rfl) rfl (zD ?_))))))))
    refine zU () trivial ⟨?_, rfl, trivial⟩ rfl rfl
    exact congrArg some (vB_or_f hg)
   intro _ _
   show GL _ _ _ _ _ _ _ [(115, vB (((orZ (pr c i j) (pr d i j) (pr a i j)) = (0 : Int)) ∨ ((orZ (pr c i j) (pr d i j) (pr b i j)) = (0 : Int)))), (109, .bool true)] [.var b9 33 cs9, .var b8 33 cs8, .var b7 33 cs7, .var b6 33 cs6] h6
   refine gv (yF rfl rfl) rfl (zD ?_)
   refine zU () trivial ⟨?_, trivial⟩ rfl rfl
   exact congrArg some (vB_and_t hg)
  refine yG (zF (v := .bool false) (congrArg some (yA hg))) rfl rfl rfl (zK rfl rfl rfl rfl rfl rfl (zK rfl rfl rfl rfl rfl rfl (zK rfl rfl rfl rfl rfl rfl (gl_offu rfl rfl rfl rfl rfl (gl_offu rfl rfl rfl rfl rfl (zK rfl rfl rfl rfl rfl rfl (gv (yD rfl rfl) rfl (zD ?_))))))))
  refine zU () trivial ⟨?_, trivial⟩ rfl rfl
  exact congrArg some (vB_and_f hg)
 intro _ _
 show GL _ _ _ _ _ _ _ [(116, vB ((((orZ (pr a i j) (pr b i j) (pr c i j)) = (0 : Int)) ∨ ((orZ (pr a i j) (pr b i j) (pr d i j)) = (0 : Int))) ∧ (((orZ (pr c i j) (pr d i j) (pr a i j)) = (0 : Int)) ∨ ((orZ (pr c i j) (pr d i j) (pr b i j)) = (0 : Int)))))] [.var b9 33 cs9, .var b8 33 cs8, .var b7 33 cs7, .var b6 33 cs6] h6
 refine asg rfl rfl (zD (zB ?_))
 refine zH rfl (fun hc102 => ?_) (fun hc102 => ?_)
 ·
  refine zC (zA (asg (v := vI (1)) rfl rfl (zD (zB (zN (gr_in (zO (zW rfl rfl ?_))))))))
  unfold touch2; refine congrArg vI ?_; simp only [pr] at *; grind
 refine zI (gq_in (zB (zC (zA (asg (v := vI (2)) rfl rfl (zD (zB (zN (zW rfl rfl ?_)))))))))
 unfold touch2; refine congrArg vI ?_; simp only [pr] at *; grind

theorem o_pl_area {w0 : World} {h0 : Mem}  (hs : MLe h0 (mem w0)) {k : Nat} {vl : Value} {l : (List (T3 Rat))} (rl : (rpS (rpT (rpQ k))).Is h0 vl l) {i : Nat} {j : Nat} (hcd0 : i < 3) (hcd1 : j < 3) (hcd2 : k ≤ 100000) (hcd3 : l.length ≤ 1000)  :
    Calls Tryz.prog 48 #[vl, vI ↑i, vI ↑j] w0 (Ret w0 h0 (fun h r => (rpQ 1000000000).Is h r (areaTo l i j l.length))) := by
 refine zR (n := 45) (e := [(0, vl), (1, vI ↑i), (2, vI ↑j)]) (vs := [vl, vI ↑i, vI ↑j]) Tryz.func48 rfl rfl (Nat.le_of_ble_eq_true rfl) hs ⟨rfl, rfl, rfl, trivial⟩ (zC (zA (zP (new_allocx (ρ := (rpQ 1)) (X := (0 : Rat)) info31 rfl rfl (zr_q (by decide))) rfl rfl rfl ?_)))
 intro v6 q6 hq6
 obtain ⟨b6, cs6, rfl, rfl, rb6⟩ := hq6
 refine zD (zB (zC (zA (zP (new_allocx (ρ := (rpQ 1)) (X := (0 : Rat)) info31 rfl rfl (zr_q (by decide))) rfl rfl rfl ?_))))
 intro v7 q7 hq7
 obtain ⟨b7, cs7, rfl, rfl, rb7⟩ := hq7
 refine zD (zB (zC (zC (zA (mv rfl rfl (gv (ov_len_sr Tryz.underlying36 rfl rl) rfl (mv (v := vI (0)) rfl rfl (zD (zB (zQ ?_))))))))))
 refine gc_loop (ι := Nat × Nat × List Value × Mem) (fun (m, q, cs_38, ma) => MLe h0 ma ∧ ((rpQ q).R ma cs_38 (areaTo l i j m) ∧ m ≤ l.length ∧ q ≤ (4 * k + 9) * m + 1)) (fun (m, q, cs_38, ma) => [(0, vl), (1, vI ↑i), (2, vI ↑j), (6, vP b6 0), (7, vP b7 0), (11, vl), (12, vI (↑(l).length : Int)), (13, vI ↑m)]) (fun (m, q, cs_38, ma) => [.var b7 31 cs_38, .var b6 31 cs6]) (fun (m, q, cs_38, ma) => ma) (fun (m, q, cs_38, ma) => l.length - m) (0, 1, cs7, h0) ?_ ⟨rfl, rfl, rfl, rfl, rfl, rfl, rfl, rfl, trivial⟩ rfl rfl ?_
 ·
  refine ⟨MLe.refl _, ?_⟩
  refine ⟨rb7, ?_⟩
  exact ⟨by omega, by omega⟩
 intro x hx
 obtain ⟨m, q, cs_38, ma⟩ := x
 obtain ⟨hmma, hinv⟩ := hx
 show GC _ _ _ _ _ _ [(0, vl), (1, vI ↑i), (2, vI ↑j), (6, vP b6 0), (7, vP b7 0), (11, vl), (12, vI (↑(l).length : Int)), (13, vI ↑m)] [.var b7 31 cs_38, .var b6 31 cs6] ma
 obtain ⟨rb_39, hinv⟩ := hinv
 obtain ⟨hm1, hq1⟩ := hinv
 have hq2 := Nat.mul_le_mul_left (4 * k + 9) (show m ≤ 1000 by omega)
 refine zC (zA (gv (yH rfl rfl) rfl (zD (zB (zC ?_)))))
 refine zH rfl (fun hc14 => ?_) (fun hc14 => ?_)
 ·
  refine zI (zB (zC (zQ (zC (zA (mv rfl rfl ?_))))))
  replace rl := rl.mono hmma
  refine gl_x (F := fun v_ => AtP (rpT (rpQ k)) ma v_ (l.getD m (T3.mk (0 : Rat) (0 : Rat) (0 : Rat)))) (ox_idx_s (T3.mk (0 : Rat) (0 : Rat) (0 : Rat)) m Tryz.underlying36 ty33 rfl rfl rl rfl (by omega) (show 0 < 9 from by decide)) mem0 rfl ?_
  intro v16 r16
  refine gl_x (F := fun v_ => (rpT (rpQ k)).Is ma v_ (l.getD m (T3.mk (0 : Rat) (0 : Rat) (0 : Rat)))) (yK ty33 rfl r16) mem0 rfl ?_
  intro v17 r17
  refine zP (new_allocx (ρ := (rpT (rpQ 1))) (X := (T3.mk (0 : Rat) (0 : Rat) (0 : Rat))) info33 rfl rfl (zr_t (zr_q (by decide)))) rfl rfl rfl ?_
  intro v9 q9 hq9
  obtain ⟨b9, cs9, rfl, rfl, rb9⟩ := hq9
  refine asg rfl rfl ?_
  have rw_40 := (Le.t (Le.q (l := k + 1) (by omega))).R rb9
  refine gl_updx (A := []) (F := fun c_ => (rpT (rpQ (k + 1))).R ma c_ (l.getD m (T3.mk (0 : Rat) (0 : Rat) (0 : Rat)))) (upd_box Tryz.sizeOf33 (Pc.here _) rfl rfl rfl rw_40 (r17.le (Le.t (Le.q (l := k + 1) (by omega)))) rfl) ?_
  intro cs_41 rb_42
  refine zD (zB (zC (zA (mv rfl rfl (mv rfl rfl (gv (zV (q := 1) rfl rfl (by omega) (by omega)) rfl (mv rfl rfl (gv (ov_len_sr Tryz.underlying36 rfl rl) rfl (gv (ov_rem_i rfl rfl (by omega) (by omega)) rfl (gl_x (F := fun v_ => AtP (rpT (rpQ k)) ma v_ (l.getD ((m + 1) % l.length) (T3.mk (0 : Rat) (0 : Rat) (0 : Rat)))) (ox_idx_s (T3.mk (0 : Rat) (0 : Rat) (0 : Rat)) ((m + 1) % l.length) Tryz.underlying36 ty33 rfl rfl rl (by first | rfl | (push_cast; rfl)) (by exact Nat.mod_lt _ (by omega)) (show 0 < 9 from by decide)) mem0 rfl ?_))))))))))
  intro v24 r24
  refine gl_x (F := fun v_ => (rpT (rpQ k)).Is ma v_ (l.getD ((m + 1) % l.length) (T3.mk (0 : Rat) (0 : Rat) (0 : Rat)))) (yK ty33 rfl r24) mem0 rfl ?_
  intro v25 r25
  refine zP (new_allocx (ρ := (rpT (rpQ 1))) (X := (T3.mk (0 : Rat) (0 : Rat) (0 : Rat))) info33 rfl rfl (zr_t (zr_q (by decide)))) rfl rfl rfl ?_
  intro v10 q10 hq10
  obtain ⟨b10, cs10, rfl, rfl, rb10⟩ := hq10
  have rw_43 := (Le.t (Le.q (l := k + 1) (by omega))).R rb10
  refine gl_updx (A := []) (F := fun c_ => (rpT (rpQ (k + 1))).R ma c_ (l.getD ((m + 1) % l.length) (T3.mk (0 : Rat) (0 : Rat) (0 : Rat)))) (upd_box Tryz.sizeOf33 (Pc.here _) rfl rfl rfl rw_43 (r25.le (Le.t (Le.q (l := k + 1) (by omega)))) rfl) ?_
  intro cs_44 rb_45
  refine zD (zL (e' := [(0, _), (1, _), (2, _), (6, _), (7, _), (11, _), (12, _), (13, _), (9, _), (10, _)]) ⟨rfl, rfl, rfl, rfl, rfl, rfl, rfl, rfl, rfl, rfl, trivial⟩ (zB ?_))
  refine gc_draw 17 _ [] [(0, .q), (1, .q), (2, .q), (3, .q), (4, .q), (5, .q), (6, .q), (8, .q), (9, .q), (10, .q), (11, .q), (12, .q), (13, .q), (7, .c), (14, .c), (15, .c), (16, .c), (17, .t)] mixed (fun x hx => by cases hx) (chk_of [0, 0, 2, 4, 0, 16, 32, 72, 0, 256, 512, 0, 2048, 4096, 9344, 16512, 32769, 131071] [262143, 262143, 262141, 262139, 262143, 262127, 262111, 262071, 262143, 261887, 261631, 262143, 260095, 258047, 252927, 245631, 229374, 196607] (by kernel_rfl)) (fun x hx => by cases hx) (fun r hr => hr) (w_qx (F := fun v_ => (rpQ q).Is ma v_ (areaTo l i j m)) rfl (zE ty31 (Pc.here _) rfl rfl rb_39 rfl) (mem1 (.tail _ (.tail _ (.head _)))) rfl ?_)
  intro v26 r26
  refine w_q rfl (fun h' L' hh hR => zF rfl) rfl (w_q rfl (fun h' L' hh hR => (zY (sz := 3) i Tryz.underlying33 Tryz.sizeOf31 rfl rfl rfl (by omega)).cv (show _ = vP b9 ((i * 3 + 0)) from congrArg (vP b9) (by omega))) rfl (w_qx (F := fun v_ => (rpQ (k + 1)).Is ma v_ ((l.getD m (T3.mk (0 : Rat) (0 : Rat) (0 : Rat))).at i)) rfl (zE ty31 (Pc.ta (Pc.here _) i (by omega)) rfl rfl rb_42 rfl) (mem1 (.tail _ (.head _))) rfl ?_))
  intro v29 r29
  refine w_q rfl (fun h' L' hh hR => zF rfl) rfl (w_q rfl (fun h' L' hh hR => (zY (sz := 3) j Tryz.underlying33 Tryz.sizeOf31 rfl rfl rfl (by omega)).cv (show _ = vP b10 ((j * 3 + 0)) from congrArg (vP b10) (by omega))) rfl (w_qx (F := fun v_ => (rpQ (k + 1)).Is ma v_ ((l.getD ((m + 1) % l.length) (T3.mk (0 : Rat) (0 : Rat) (0 : Rat))).at j)) rfl (zE ty31 (Pc.ta (Pc.here _) j (by omega)) rfl rfl rb_45 rfl) (mem1 (.head _)) rfl ?_))
  intro v32 r32
  refine w_q rfl (fun h' L' hh hR => zF rfl) rfl (w_q rfl (fun h' L' hh hR => (zY (sz := 3) i Tryz.underlying33 Tryz.sizeOf31 rfl rfl rfl (by omega)).cv (show _ = vP b10 ((i * 3 + 0)) from congrArg (vP b10) (by omega))) rfl (w_qx (F := fun v_ => (rpQ (k + 1)).Is ma v_ ((l.getD ((m + 1) % l.length) (T3.mk (0 : Rat) (0 : Rat) (0 : Rat))).at i)) rfl (zE ty31 (Pc.ta (Pc.here _) i (by omega)) rfl rfl rb_45 rfl) (mem1 (.head _)) rfl ?_))
  intro v36 r36
  refine w_q rfl (fun h' L' hh hR => zF rfl) rfl (w_q rfl (fun h' L' hh hR => (zY (sz := 3) j Tryz.underlying33 Tryz.sizeOf31 rfl rfl rfl (by omega)).cv (show _ = vP b9 ((j * 3 + 0)) from congrArg (vP b9) (by omega))) rfl (w_qx (F := fun v_ => (rpQ (k + 1)).Is ma v_ ((l.getD m (T3.mk (0 : Rat) (0 : Rat) (0 : Rat))).at j)) rfl (zE ty31 (Pc.ta (Pc.here _) j (by omega)) rfl rfl rb_42 rfl) (mem1 (.tail _ (.head _))) rfl ?_))
  intro v39 r39
  refine w_c rfl ?_
  refine yO (vs := [_, _]) Tryz.call73 ⟨rfl, rfl, trivial⟩ (fun w hs => o_rat_mul hs r29 r32 (by omega)) rfl ?_
  intro v33 h1 hh1 r33
  change (rpQ ((k + 1) + (k + 1))).Is h1 v33 (((l.getD m (T3.mk (0 : Rat) (0 : Rat) (0 : Rat))).at i) * ((l.getD ((m + 1) % l.length) (T3.mk (0 : Rat) (0 : Rat) (0 : Rat))).at j)) at r33
  replace r33 := Rp.Is.le r33 (Le.q (l := 2 * k + 2) (by omega))
  refine w_c rfl ?_
  replace r36 := r36.mono hh1
  replace r39 := r39.mono hh1
  refine yO (vs := [_, _]) Tryz.call73 ⟨rfl, rfl, trivial⟩ (fun w hs => o_rat_mul hs r36 r39 (by omega)) rfl ?_
  intro v40 h2 hh2 r40
  change (rpQ ((k + 1) + (k + 1))).Is h2 v40 (((l.getD ((m + 1) % l.length) (T3.mk (0 : Rat) (0 : Rat) (0 : Rat))).at i) * ((l.getD m (T3.mk (0 : Rat) (0 : Rat) (0 : Rat))).at j)) at r40
  replace r40 := Rp.Is.le r40 (Le.q (l := 2 * k + 2) (by omega))
  refine w_c rfl ?_
  replace r33 := r33.mono hh2
  refine yO (vs := [_, _]) Tryz.call72 ⟨rfl, rfl, trivial⟩ (fun w hs => o_rat_sub hs r33 r40 (by omega)) rfl ?_
  intro v41 h3 hh3 r41
  change (rpQ ((2 * k + 2) + (2 * k + 2) + 1)).Is h3 v41 ((((l.getD m (T3.mk (0 : Rat) (0 : Rat) (0 : Rat))).at i) * ((l.getD ((m + 1) % l.length) (T3.mk (0 : Rat) (0 : Rat) (0 : Rat))).at j)) - (((l.getD ((m + 1) % l.length) (T3.mk (0 : Rat) (0 : Rat) (0 : Rat))).at i) * ((l.getD m (T3.mk (0 : Rat) (0 : Rat) (0 : Rat))).at j))) at r41
  replace r41 := Rp.Is.le r41 (Le.q (l := 4 * k + 5) (by omega))
  refine w_c rfl ?_
  replace r26 := r26.mono ((hh1.trans hh2).trans hh3)
  refine yO (vs := [_, _]) Tryz.call71 ⟨rfl, rfl, trivial⟩ (fun w hs => o_rat_add hs r26 r41 (by omega)) rfl ?_
  intro v42 h4 hh4 r42
  change (rpQ (q + (4 * k + 5) + 1)).Is h4 v42 ((areaTo l i j m) + ((((l.getD m (T3.mk (0 : Rat) (0 : Rat) (0 : Rat))).at i) * ((l.getD ((m + 1) % l.length) (T3.mk (0 : Rat) (0 : Rat) (0 : Rat))).at j)) - (((l.getD ((m + 1) % l.length) (T3.mk (0 : Rat) (0 : Rat) (0 : Rat))).at i) * ((l.getD m (T3.mk (0 : Rat) (0 : Rat) (0 : Rat))).at j)))) at r42
  replace r42 := Rp.Is.le r42 (Le.q (l := 4 * k + q + 6) (by omega))
  replace rb_39 := rb_39.mono (((hh1.trans hh2).trans hh3).trans hh4)
  have rw_46 := (Le.q (l := 4 * k + q + 6) (by omega)).R rb_39
  refine w_tx_upd (A := [_, _]) (F := fun c_ => (rpQ (4 * k + q + 6)).R h4 c_ ((areaTo l i j m) + ((((l.getD m (T3.mk (0 : Rat) (0 : Rat) (0 : Rat))).at i) * ((l.getD ((m + 1) % l.length) (T3.mk (0 : Rat) (0 : Rat) (0 : Rat))).at j)) - (((l.getD ((m + 1) % l.length) (T3.mk (0 : Rat) (0 : Rat) (0 : Rat))).at i) * ((l.getD m (T3.mk (0 : Rat) (0 : Rat) (0 : Rat))).at j))))) rfl (upd_box Tryz.sizeOf31 (Pc.here _) rfl rfl rfl rw_46 r42 rfl) ?_
  intro cs_47 rb_48
  refine w_nil (gq_in (zL (e' := [(0, _), (1, _), (2, _), (6, _), (7, _), (11, _), (12, _), (13, _)]) ⟨rfl, rfl, rfl, rfl, rfl, rfl, rfl, rfl, trivial⟩ (zB (zA (gv (zV (q := 1) rfl rfl (by omega) (by omega)) rfl (mv rfl rfl (zD (gq_drop (A := []) (gq_drop (A := []) ?_)))))))))
  refine yJ ((m + 1), (q + (4 * k + 9)), cs_47, h4) ?_ ?_ ⟨rfl, rfl, rfl, rfl, rfl, rfl, rfl, rfl, trivial⟩ rfl rfl
  ·
   refine ⟨((((hmma.trans hh1).trans hh2).trans hh3).trans hh4), ?_⟩
   refine ⟨(Rp.castR (Le.R (Le.q (l := q + (4 * k + 9)) (by omega)) rb_48) rfl), ?_⟩
   exact ⟨by omega, by rw [Nat.mul_succ]; omega⟩
  dsimp only
  omega
 have em : m = l.length := by omega
 have hq2 := Nat.mul_le_mul_left (4 * k + 9) (show m ≤ 1000 by omega)
 refine gc_exit (zZ (zZ (gx_here (zB (zC (zA (gl_x (F := fun v_ => (rpQ q).Is ma v_ (areaTo l i j m)) (zE ty31 (Pc.here _) rfl rfl rb_39 rfl) (mem1 (.head _)) rfl ?_)))))))
 intro v44 r44
 replace rb6 := rb6.mono hmma
 have rw_49 := (Le.q (l := q + 1) (by omega)).R rb6
 refine gl_updx (A := [_]) (F := fun c_ => (rpQ (q + 1)).R ma c_ (areaTo l i j m)) (upd_box Tryz.sizeOf31 (Pc.here _) rfl rfl rfl rw_49 (r44.le (Le.q (l := q + 1) (by omega))) rfl) ?_
 intro cs_50 rb_51
 refine zD (zB (zN (gq_exv (rv_o (t := 6) ty31 (.tail _ (.head _)) rfl rb_51) ?_)))
 intro w_52 hvw_52 rr_53
 refine gq_res (fun E S => run_res1 rfl hvw_52 E S) ?_
 exact (Rp.Is.cast (Rp.Is.le rr_53 (Le.q (l := 1000000000) (by omega))) (by rw [em]))

theorem o_pl_inside {w0 : World} {h0 : Mem}  (hs : MLe h0 (mem w0)) {k : Nat} {vl : Value} {l : (List (T3 Rat))} (rl : (rpS (rpT (rpQ k))).Is h0 vl l) {vp : Value} {p : (T3 Rat)} (rp : (rpT (rpQ k)).Is h0 vp p) {i : Nat} {j : Nat} (hcd0 : i < 3) (hcd1 : j < 3) (hcd2 : k ≤ 100000) (hcd3 : l.length ≤ 1000)  :
    Calls Tryz.prog 41 #[vl, vp, vI ↑i, vI ↑j] w0 (Ret w0 h0 (fun _ r => r = vI (insZ l (pr p i j) i j))) := by
 refine zR (n := 78) (e := [(0, vl), (1, vp), (2, vI ↑i), (3, vI ↑j)]) (vs := [vl, vp, vI ↑i, vI ↑j]) Tryz.func41 rfl rfl (Nat.le_of_ble_eq_true rfl) hs ⟨rfl, rfl, rfl, rfl, trivial⟩ (zC (zA (zP (new_boxx (ρ := (rpT (rpQ k))) rfl rp) rfl rfl rfl ?_)))
 intro v5 q5 hq5
 obtain ⟨b5, cs5, rfl, rfl, rb5⟩ := hq5
 refine asg (v := vI (0)) rfl rfl (zD (zB (zC (zA (asg rfl rfl (zD (zB (zC (zC (zA (mv rfl rfl (gv (ov_len_sr Tryz.underlying36 rfl rl) rfl (mv (v := vI (0)) rfl rfl ?_)))))))))))))
 refine zD (zB (zQ ?_))
 refine gc_loop (ι := Nat × Mem) (fun (m, ma) => MLe h0 ma ∧ (m ≤ l.length ∧ ∀ q, q < m → ¬ onS (edgeA l i j q) (edgeB l i j q) (pr p i j))) (fun (m, ma) => [(0, vl), (2, vI ↑i), (3, vI ↑j), (5, vP b5 0), (9, vB (oddTo l (pr p i j) i j m)), (16, vl), (17, vI (↑(l).length : Int)), (18, vI ↑m)]) (fun (m, ma) => [.var b5 33 cs5]) (fun (m, ma) => ma) (fun (m, ma) => l.length - m) (0, h0) ?_ ⟨?_, ?_, ?_, ?_, ?_, ?_, ?_, ?_, trivial⟩ rfl rfl ?_
 ·
  refine ⟨MLe.refl _, ?_⟩
  exact ⟨by omega, fun q hq => by omega⟩
 · exact rfl
 · exact rfl
 · exact rfl
 · exact rfl
 · exact congrArg some (yA id).symm
 · exact rfl
 · exact rfl
 · exact rfl
 intro x hx
 obtain ⟨m, ma⟩ := x
 obtain ⟨hmma, hinv⟩ := hx
 show GC _ _ _ _ _ _ [(0, vl), (2, vI ↑i), (3, vI ↑j), (5, vP b5 0), (9, vB (oddTo l (pr p i j) i j m)), (16, vl), (17, vI (↑(l).length : Int)), (18, vI ↑m)] [.var b5 33 cs5] ma
 obtain ⟨hm1, hno⟩ := hinv
 refine zC (zA (gv (yH rfl rfl) rfl (zD (zB (zC ?_)))))
 refine zH rfl (fun hc19 => ?_) (fun hc19 => ?_)
 ·
  refine zI (zB (zC (zQ (zC (zA (mv rfl rfl ?_))))))
  replace rl := rl.mono hmma
  refine gl_x (F := fun v_ => AtP (rpT (rpQ k)) ma v_ (l.getD m (T3.mk (0 : Rat) (0 : Rat) (0 : Rat)))) (ox_idx_s (T3.mk (0 : Rat) (0 : Rat) (0 : Rat)) m Tryz.underlying36 ty33 rfl rfl rl rfl (by omega) (show 0 < 9 from by decide)) mem0 rfl ?_
  intro v21 r21
  refine gl_x (F := fun v_ => (rpT (rpQ k)).Is ma v_ (l.getD m (T3.mk (0 : Rat) (0 : Rat) (0 : Rat)))) (yK ty33 rfl r21) mem0 rfl ?_
  intro v22 r22
  refine zP (new_allocx (ρ := (rpT (rpQ 1))) (X := (T3.mk (0 : Rat) (0 : Rat) (0 : Rat))) info33 rfl rfl (zr_t (zr_q (by decide)))) rfl rfl rfl ?_
  intro v11 q11 hq11
  obtain ⟨b11, cs11, rfl, rfl, rb11⟩ := hq11
  refine asg rfl rfl ?_
  have rw_54 := (Le.t (Le.q (l := k + 1) (by omega))).R rb11
  refine gl_updx (A := []) (F := fun c_ => (rpT (rpQ (k + 1))).R ma c_ (l.getD m (T3.mk (0 : Rat) (0 : Rat) (0 : Rat)))) (upd_box Tryz.sizeOf33 (Pc.here _) rfl rfl rfl rw_54 (r22.le (Le.t (Le.q (l := k + 1) (by omega)))) rfl) ?_
  intro cs_55 rb_56
  refine zD (zB (zC (zA (mv rfl rfl (mv rfl rfl (gv (zV (q := 1) rfl rfl (by omega) (by omega)) rfl (mv rfl rfl (gv (ov_len_sr Tryz.underlying36 rfl rl) rfl (gv (ov_rem_i rfl rfl (by omega) (by omega)) rfl (gl_x (F := fun v_ => AtP (rpT (rpQ k)) ma v_ (l.getD ((m + 1) % l.length) (T3.mk (0 : Rat) (0 : Rat) (0 : Rat)))) (ox_idx_s (T3.mk (0 : Rat) (0 : Rat) (0 : Rat)) ((m + 1) % l.length) Tryz.underlying36 ty33 rfl rfl rl (by first | rfl | (push_cast; rfl)) (by exact Nat.mod_lt _ (by omega)) (show 0 < 9 from by decide)) mem0 rfl ?_))))))))))
  intro v29 r29
  refine gl_x (F := fun v_ => (rpT (rpQ k)).Is ma v_ (l.getD ((m + 1) % l.length) (T3.mk (0 : Rat) (0 : Rat) (0 : Rat)))) (yK ty33 rfl r29) mem0 rfl ?_
  intro v30 r30
  refine zP (new_allocx (ρ := (rpT (rpQ 1))) (X := (T3.mk (0 : Rat) (0 : Rat) (0 : Rat))) info33 rfl rfl (zr_t (zr_q (by decide)))) rfl rfl rfl ?_
  intro v12 q12 hq12
  obtain ⟨b12, cs12, rfl, rfl, rb12⟩ := hq12
  have rw_57 := (Le.t (Le.q (l := k + 1) (by omega))).R rb12
  refine gl_updx (A := []) (F := fun c_ => (rpT (rpQ (k + 1))).R ma c_ (l.getD ((m + 1) % l.length) (T3.mk (0 : Rat) (0 : Rat) (0 : Rat)))) (upd_box Tryz.sizeOf33 (Pc.here _) rfl rfl rfl rw_57 (r30.le (Le.t (Le.q (l := k + 1) (by omega)))) rfl) ?_
  intro cs_58 rb_59
  refine zD (zL (e' := [(0, _), (2, _), (3, _), (5, _), (9, _), (16, _), (17, _), (18, _), (11, _), (12, _)]) ⟨rfl, rfl, rfl, rfl, rfl, rfl, rfl, rfl, rfl, rfl, trivial⟩ (zB (zC (zC (zA (gl_x (F := fun v_ => (rpT (rpQ (k + 1))).Is ma v_ (l.getD m (T3.mk (0 : Rat) (0 : Rat) (0 : Rat)))) (zE ty33 (Pc.here _) rfl rfl rb_56 rfl) (mem1 (.tail _ (.head _))) rfl ?_))))))
  intro v31 r31
  refine gl_x (F := fun v_ => (rpT (rpQ (k + 1))).Is ma v_ (l.getD ((m + 1) % l.length) (T3.mk (0 : Rat) (0 : Rat) (0 : Rat)))) (zE ty33 (Pc.here _) rfl rfl rb_59 rfl) (mem1 (.head _)) rfl ?_
  intro v32 r32
  replace rb5 := rb5.mono hmma
  refine gl_x (F := fun v_ => (rpT (rpQ k)).Is ma v_ p) (zE ty33 (Pc.here _) rfl rfl rb5 rfl) (mem1 (.tail _ (.tail _ (.head _)))) rfl ?_
  intro v33 r33
  refine mv rfl rfl (mv rfl rfl ?_)
  refine zJ (vs := [_, _, _, _, _]) rfl rfl rfl rfl Tryz.call67 ⟨rfl, rfl, rfl, rfl, rfl, trivial⟩ (fun w hs => o_pl_on (i := i) (j := j) hs r31 r32 (r33.le (Le.t (Le.q (l := k + 1) (by omega)))) (by omega) (by omega) (by omega)) ?_
  intro v36 h1 hh1 r36
  obtain rfl : v36 = vB (onS (pr (l.getD m (T3.mk (0 : Rat) (0 : Rat) (0 : Rat))) i j) (pr (l.getD ((m + 1) % l.length) (T3.mk (0 : Rat) (0 : Rat) (0 : Rat))) i j) (pr p i j)) := r36
  refine zD (zB ?_)
  refine zH rfl (fun hc36 => ?_) (fun hc36 => ?_)
  ·
   refine gc_keep (e' := []) trivial (zC (zA (asg (v := vI (0)) rfl rfl (zD (zB (zN (zO (gr_in (zO (zO (gr_in (zO (zW rfl rfl ?_)))))))))))))
   exact congrArg vI (ins_on (by omega) hc36)
  refine zI (zB (zC ?_))
  refine gc_draw 18 _ [] [(0, .q), (1, .q), (2, .q), (3, .q), (4, .q), (5, .q), (8, .q), (9, .q), (10, .q), (11, .q), (12, .q), (13, .q), (6, .c), (7, .q), (14, .c), (15, .q), (16, .q), (17, .q)] mixed (fun x hx => by cases hx) (chk_of [0, 1, 2, 0, 8, 16, 36, 64, 0, 256, 512, 0, 2048, 4096, 9280, 16384, 16639, 131071] [262143, 262142, 262141, 262143, 262135, 262127, 262107, 262079, 262143, 261887, 261631, 262143, 260095, 258047, 252927, 245759, 262015, 229375] (by kernel_rfl)) (fun x hx => by cases hx) (fun r hr => hr) (w_q rfl (fun h' L' hh hR => zF rfl) rfl (w_q rfl (fun h' L' hh hR => (zY (sz := 3) j Tryz.underlying33 Tryz.sizeOf31 rfl rfl rfl (by omega)).cv (show _ = vP b11 ((j * 3 + 0)) from congrArg (vP b11) (by omega))) rfl ?_))
  replace rb_56 := rb_56.mono hh1
  refine w_qx (F := fun v_ => (rpQ (k + 1)).Is h1 v_ ((l.getD m (T3.mk (0 : Rat) (0 : Rat) (0 : Rat))).at j)) rfl (zE ty31 (Pc.ta (Pc.here _) j (by omega)) rfl rfl rb_56 rfl) (mem1 (.tail _ (.head _))) rfl ?_
  intro v39 r39
  refine w_q rfl (fun h' L' hh hR => zF rfl) rfl (w_q rfl (fun h' L' hh hR => (zY (sz := 3) j Tryz.underlying33 Tryz.sizeOf31 rfl rfl rfl (by omega)).cv (show _ = vP b5 ((j * 3 + 0)) from congrArg (vP b5) (by omega))) rfl ?_)
  replace rb5 := rb5.mono hh1
  refine w_qx (F := fun v_ => (rpQ k).Is h1 v_ (p.at j)) rfl (zE ty31 (Pc.ta (Pc.here _) j (by omega)) rfl rfl rb5 rfl) (mem1 (.tail _ (.tail _ (.head _)))) rfl ?_
  intro v42 r42
  refine w_q rfl (fun h' L' hh hR => zF rfl) rfl (w_q rfl (fun h' L' hh hR => (zY (sz := 3) j Tryz.underlying33 Tryz.sizeOf31 rfl rfl rfl (by omega)).cv (show _ = vP b12 ((j * 3 + 0)) from congrArg (vP b12) (by omega))) rfl ?_)
  replace rb_59 := rb_59.mono hh1
  refine w_qx (F := fun v_ => (rpQ (k + 1)).Is h1 v_ ((l.getD ((m + 1) % l.length) (T3.mk (0 : Rat) (0 : Rat) (0 : Rat))).at j)) rfl (zE ty31 (Pc.ta (Pc.here _) j (by omega)) rfl rfl rb_59 rfl) (mem1 (.head _)) rfl ?_
  intro v47 r47
  refine w_q rfl (fun h' L' hh hR => zF rfl) rfl (w_q rfl (fun h' L' hh hR => (zY (sz := 3) j Tryz.underlying33 Tryz.sizeOf31 rfl rfl rfl (by omega)).cv (show _ = vP b5 ((j * 3 + 0)) from congrArg (vP b5) (by omega))) rfl (w_qx (F := fun v_ => (rpQ k).Is h1 v_ (p.at j)) rfl (zE ty31 (Pc.ta (Pc.here _) j (by omega)) rfl rfl rb5 rfl) (mem1 (.tail _ (.tail _ (.head _)))) rfl ?_))
  intro v50 r50
  refine w_c rfl ?_
  refine yO (vs := [_, _]) Tryz.call68 ⟨rfl, rfl, trivial⟩ (fun w hs => o_rat_cmp hs r39 r42 (by omega)) rfl ?_
  intro v43 h2 hh2 r43
  obtain rfl : v43 = vI (cmpQ ((l.getD m (T3.mk (0 : Rat) (0 : Rat) (0 : Rat))).at j) (p.at j)) := r43
  have hcr43 := cmpQ_range ((l.getD m (T3.mk (0 : Rat) (0 : Rat) (0 : Rat))).at j) (p.at j)
  refine w_q rfl (fun h' L' hh hR => ov_leq_i (q := 0) rfl rfl) rfl ?_
  refine w_c rfl ?_
  replace r47 := r47.mono hh2
  replace r50 := r50.mono hh2
  refine yO (vs := [_, _]) Tryz.call68 ⟨rfl, rfl, trivial⟩ (fun w hs => o_rat_cmp hs r47 r50 (by omega)) rfl ?_
  intro v51 h3 hh3 r51
  obtain rfl : v51 = vI (cmpQ ((l.getD ((m + 1) % l.length) (T3.mk (0 : Rat) (0 : Rat) (0 : Rat))).at j) (p.at j)) := r51
  have hcr51 := cmpQ_range ((l.getD ((m + 1) % l.length) (T3.mk (0 : Rat) (0 : Rat) (0 : Rat))).at j) (p.at j)
  refine w_q rfl (fun h' L' hh hR => ov_leq_i (q := 0) rfl rfl) rfl (w_q rfl (fun h' L' hh hR => ov_assign rfl) rfl (w_q rfl (fun h' L' hh hR => ov_assign rfl) rfl (w_nil (zL (e' := [(0, _), (2, _), (3, _), (5, _), (9, _), (16, _), (17, _), (18, _), (11, _), (12, _), (13, _), (14, _)]) ⟨rfl, rfl, rfl, rfl, rfl, rfl, rfl, rfl, rfl, rfl, rfl, rfl, trivial⟩ (zB (zC (zC (zA (mv rfl rfl (mv rfl rfl (gv (ov_eql_b Tryz.underlying4 rfl rfl) rfl (zD (zB ?_)))))))))))))
  refine zH rfl (fun hc55 => ?_) (fun hc55 => ?_)
  ·
   have hsm : (edgeA l i j m).2 ≤ (pr p i j).2 ↔ (edgeB l i j m).2 ≤ (pr p i j).2 := by have h := hc55; rw [cmp_le_iff, cmp_le_iff] at h; exact h
   refine gc_exit (zZ (gx_here (zB (zA (gv (zV (q := 1) rfl rfl (by omega) (by omega)) rfl (mv rfl rfl (zD (gq_drop (A := []) (gq_drop (A := []) ?_)))))))))
   refine yJ ((m + 1), h3) ?_ ?_ ⟨rfl, rfl, rfl, rfl, ?_, rfl, rfl, rfl, trivial⟩ rfl rfl
   ·
    refine ⟨(((hmma.trans hh1).trans hh2).trans hh3), ?_⟩
    exact ⟨by omega, on_next hno hc36⟩
   ·
    dsimp only
    omega
   · exact congrArg (fun z => some (vB z)) (odd_same hsm)
  have hsm : ¬ ((edgeA l i j m).2 ≤ (pr p i j).2 ↔ (edgeB l i j m).2 ≤ (pr p i j).2) := by have h := hc55; rw [cmp_le_iff, cmp_le_iff] at h; exact h
  refine zI (zB (zC (zA ?_)))
  replace rb_56 := rb_56.mono (hh2.trans hh3)
  refine gl_x (F := fun v_ => (rpT (rpQ (k + 1))).Is h3 v_ (l.getD m (T3.mk (0 : Rat) (0 : Rat) (0 : Rat)))) (zE ty33 (Pc.here _) rfl rfl rb_56 rfl) (mem1 (.tail _ (.head _))) rfl ?_
  intro v56 r56
  replace rb_59 := rb_59.mono (hh2.trans hh3)
  refine gl_x (F := fun v_ => (rpT (rpQ (k + 1))).Is h3 v_ (l.getD ((m + 1) % l.length) (T3.mk (0 : Rat) (0 : Rat) (0 : Rat)))) (zE ty33 (Pc.here _) rfl rfl rb_59 rfl) (mem1 (.head _)) rfl ?_
  intro v57 r57
  replace rb5 := rb5.mono (hh2.trans hh3)
  refine gl_x (F := fun v_ => (rpT (rpQ k)).Is h3 v_ p) (zE ty33 (Pc.here _) rfl rfl rb5 rfl) (mem1 (.tail _ (.tail _ (.head _)))) rfl ?_
  intro v58 r58
  refine mv rfl rfl (mv rfl rfl ?_)
  refine zJ (vs := [_, _, _, _, _]) rfl rfl rfl rfl Tryz.call69 ⟨rfl, rfl, rfl, rfl, rfl, trivial⟩ (fun w hs => o_pl_orient (i := i) (j := j) hs r56 r57 (r58.le (Le.t (Le.q (l := k + 1) (by omega)))) (by omega) (by omega) (by omega)) ?_
  intro v61 h4 hh4 r61
  obtain rfl : v61 = vI (orZ (pr (l.getD m (T3.mk (0 : Rat) (0 : Rat) (0 : Rat))) i j) (pr (l.getD ((m + 1) % l.length) (T3.mk (0 : Rat) (0 : Rat) (0 : Rat))) i j) (pr p i j)) := r61
  have hor61 := or_range (pr (l.getD m (T3.mk (0 : Rat) (0 : Rat) (0 : Rat))) i j) (pr (l.getD ((m + 1) % l.length) (T3.mk (0 : Rat) (0 : Rat) (0 : Rat))) i j) (pr p i j)
  refine asg rfl rfl (zD (zL (e' := [(0, _), (2, _), (3, _), (5, _), (9, _), (16, _), (17, _), (18, _), (13, _), (14, _), (15, _)]) ⟨rfl, rfl, rfl, rfl, rfl, rfl, rfl, rfl, rfl, rfl, rfl, trivial⟩ (zB (zC (zA (mv rfl rfl ?_))))))
  refine gl_cut (ι := Unit) 4 (fun _ => True) (fun _ => [(66, vB (((cmpQ ((l.getD m (T3.mk (0 : Rat) (0 : Rat) (0 : Rat))).at j) (p.at j)) ≤ (0 : Int)) ∧ ((0 : Int) < (orZ (pr (l.getD m (T3.mk (0 : Rat) (0 : Rat) (0 : Rat))) i j) (pr (l.getD ((m + 1) % l.length) (T3.mk (0 : Rat) (0 : Rat) (0 : Rat))) i j) (pr p i j))))), (0, vl), (2, vI ↑i), (3, vI ↑j), (5, vP b5 0), (9, vB (oddTo l (pr p i j) i j m)), (16, vl), (17, vI (↑(l).length : Int)), (18, vI ↑m), (14, vB ((cmpQ ((l.getD ((m + 1) % l.length) (T3.mk (0 : Rat) (0 : Rat) (0 : Rat))).at j) (p.at j)) ≤ (0 : Int))), (15, vI (orZ (pr (l.getD m (T3.mk (0 : Rat) (0 : Rat) (0 : Rat))) i j) (pr (l.getD ((m + 1) % l.length) (T3.mk (0 : Rat) (0 : Rat) (0 : Rat))) i j) (pr p i j)))]) (fun _ => [.var b12 33 cs_58, .var b11 33 cs_55, .var b5 33 cs5]) (fun _ => h4) ?_ ?_
  ·
   refine gl_cases ((cmpQ ((l.getD m (T3.mk (0 : Rat) (0 : Rat) (0 : Rat))).at j) (p.at j)) ≤ (0 : Int)) (fun hg => ?_) (fun hg => ?_)
   ·
    refine yG (zF (v := .bool true) (congrArg some (yI hg))) rfl rfl rfl (zT rfl rfl rfl (mv rfl rfl (zT rfl rfl rfl (gv (ov_gtr_i (q := 0) rfl rfl) rfl (gv (yF rfl rfl) rfl (zD ?_))))))
    refine zU () trivial ⟨?_, rfl, rfl, rfl, rfl, rfl, rfl, rfl, rfl, rfl, rfl, trivial⟩ rfl rfl
    exact congrArg some (vB_and_t hg)
   refine yG (zF (v := .bool false) (congrArg some (yA hg))) rfl rfl rfl (zK rfl rfl rfl rfl rfl rfl (zK rfl rfl rfl rfl rfl rfl (gv (yD rfl rfl) rfl (zD ?_))))
   refine zU () trivial ⟨?_, rfl, rfl, rfl, rfl, rfl, rfl, rfl, rfl, rfl, rfl, trivial⟩ rfl rfl
   exact congrArg some (vB_and_f hg)
  intro _ _
  show GL _ _ _ _ _ _ _ [(66, vB (((cmpQ ((l.getD m (T3.mk (0 : Rat) (0 : Rat) (0 : Rat))).at j) (p.at j)) ≤ (0 : Int)) ∧ ((0 : Int) < (orZ (pr (l.getD m (T3.mk (0 : Rat) (0 : Rat) (0 : Rat))) i j) (pr (l.getD ((m + 1) % l.length) (T3.mk (0 : Rat) (0 : Rat) (0 : Rat))) i j) (pr p i j))))), (0, vl), (2, vI ↑i), (3, vI ↑j), (5, vP b5 0), (9, vB (oddTo l (pr p i j) i j m)), (16, vl), (17, vI (↑(l).length : Int)), (18, vI ↑m), (14, vB ((cmpQ ((l.getD ((m + 1) % l.length) (T3.mk (0 : Rat) (0 : Rat) (0 : Rat))).at j) (p.at j)) ≤ (0 : Int))), (15, vI (orZ (pr (l.getD m (T3.mk (0 : Rat) (0 : Rat) (0 : Rat))) i j) (pr (l.getD ((m + 1) % l.length) (T3.mk (0 : Rat) (0 : Rat) (0 : Rat))) i j) (pr p i j)))] [.var b12 33 cs_58, .var b11 33 cs_55, .var b5 33 cs5] h4
  refine gl_cut (ι := Unit) 7 (fun _ => True) (fun _ => [(73, vB ((((cmpQ ((l.getD m (T3.mk (0 : Rat) (0 : Rat) (0 : Rat))).at j) (p.at j)) ≤ (0 : Int)) ∧ ((0 : Int) < (orZ (pr (l.getD m (T3.mk (0 : Rat) (0 : Rat) (0 : Rat))) i j) (pr (l.getD ((m + 1) % l.length) (T3.mk (0 : Rat) (0 : Rat) (0 : Rat))) i j) (pr p i j)))) ∨ (((cmpQ ((l.getD ((m + 1) % l.length) (T3.mk (0 : Rat) (0 : Rat) (0 : Rat))).at j) (p.at j)) ≤ (0 : Int)) ∧ ((orZ (pr (l.getD m (T3.mk (0 : Rat) (0 : Rat) (0 : Rat))) i j) (pr (l.getD ((m + 1) % l.length) (T3.mk (0 : Rat) (0 : Rat) (0 : Rat))) i j) (pr p i j)) < (0 : Int))))), (0, vl), (2, vI ↑i), (3, vI ↑j), (5, vP b5 0), (9, vB (oddTo l (pr p i j) i j m)), (16, vl), (17, vI (↑(l).length : Int)), (18, vI ↑m)]) (fun _ => [.var b12 33 cs_58, .var b11 33 cs_55, .var b5 33 cs5]) (fun _ => h4) ?_ ?_
  ·
   refine gl_cases (((cmpQ ((l.getD m (T3.mk (0 : Rat) (0 : Rat) (0 : Rat))).at j) (p.at j)) ≤ (0 : Int)) ∧ ((0 : Int) < (orZ (pr (l.getD m (T3.mk (0 : Rat) (0 : Rat) (0 : Rat))) i j) (pr (l.getD ((m + 1) % l.length) (T3.mk (0 : Rat) (0 : Rat) (0 : Rat))) i j) (pr p i j)))) (fun hg => ?_) (fun hg => ?_)
   ·
    refine yG (zF (v := .bool true) (congrArg some (yI hg))) rfl rfl rfl (zK rfl rfl rfl rfl rfl rfl (zK rfl rfl rfl rfl rfl rfl (gl_offu rfl rfl rfl rfl rfl (gl_offu rfl rfl rfl rfl rfl (zK rfl rfl rfl rfl rfl rfl (gv (yF rfl rfl) rfl (zD ?_)))))))
    refine zU () trivial ⟨?_, rfl, rfl, rfl, rfl, rfl, rfl, rfl, rfl, trivial⟩ rfl rfl
    exact congrArg some (vB_or_t hg)
   refine yG (zF (v := .bool false) (congrArg some (yA hg))) rfl rfl rfl (zT rfl rfl rfl (mv rfl rfl ?_))
   refine gl_cut (ι := Unit) 4 (fun _ => True) (fun _ => [(72, vB (((cmpQ ((l.getD ((m + 1) % l.length) (T3.mk (0 : Rat) (0 : Rat) (0 : Rat))).at j) (p.at j)) ≤ (0 : Int)) ∧ ((orZ (pr (l.getD m (T3.mk (0 : Rat) (0 : Rat) (0 : Rat))) i j) (pr (l.getD ((m + 1) % l.length) (T3.mk (0 : Rat) (0 : Rat) (0 : Rat))) i j) (pr p i j)) < (0 : Int)))), (0, vl), (2, vI ↑i), (3, vI ↑j), (5, vP b5 0), (9, vB (oddTo l (pr p i j) i j m)), (16, vl), (17, vI (↑(l).length : Int)), (18, vI ↑m), (67, .bool false)]) (fun _ => [.var b12 33 cs_58, .var b11 33 cs_55, .var b5 33 cs5]) (fun _ => h4) ?_ ?_
   ·
    refine gl_cases ((cmpQ ((l.getD ((m + 1) % l.length) (T3.mk (0 : Rat) (0 : Rat) (0 : Rat))).at j) (p.at j)) ≤ (0 : Int)) (fun hg => ?_) (fun hg => ?_)
    ·
     refine zT rfl rfl rfl (yG (zF (v := .bool true) (congrArg some (yI hg))) rfl rfl rfl (zT rfl rfl rfl (mv rfl rfl (zT rfl rfl rfl (gv (yH (q := 0) rfl rfl) rfl (zT rfl rfl rfl (gv (yF rfl rfl) rfl (zD ?_))))))))
     refine zU () trivial ⟨?_, rfl, rfl, rfl, rfl, rfl, rfl, rfl, rfl, rfl, trivial⟩ rfl rfl
     exact congrArg some (vB_and_t hg)
    refine zT rfl rfl rfl (yG (zF (v := .bool false) (congrArg some (yA hg))) rfl rfl rfl (zK rfl rfl rfl rfl rfl rfl (zK rfl rfl rfl rfl rfl rfl (zT rfl rfl rfl (gv (yD rfl rfl) rfl (zD ?_))))))
    refine zU () trivial ⟨?_, rfl, rfl, rfl, rfl, rfl, rfl, rfl, rfl, rfl, trivial⟩ rfl rfl
    exact congrArg some (vB_and_f hg)
   intro _ _
   show GL _ _ _ _ _ _ _ [(72, vB (((cmpQ ((l.getD ((m + 1) % l.length) (T3.mk (0 : Rat) (0 : Rat) (0 : Rat))).at j) (p.at j)) ≤ (0 : Int)) ∧ ((orZ (pr (l.getD m (T3.mk (0 : Rat) (0 : Rat) (0 : Rat))) i j) (pr (l.getD ((m + 1) % l.length) (T3.mk (0 : Rat) (0 : Rat) (0 : Rat))) i j) (pr p i j)) < (0 : Int)))), (0, vl), (2, vI ↑i), (3, vI ↑j), (5, vP b5 0), (9, vB (oddTo l (pr p i j) i j m)), (16, vl), (17, vI (↑(l).length : Int)), (18, vI ↑m), (67, .bool false)] [.var b12 33 cs_58, .var b11 33 cs_55, .var b5 33 cs5] h4
   refine gv (yD rfl rfl) rfl (zD ?_)
   refine zU () trivial ⟨?_, rfl, rfl, rfl, rfl, rfl, rfl, rfl, rfl, trivial⟩ rfl rfl
   exact congrArg some (vB_or_f hg)
  intro _ _
  show GL _ _ _ _ _ _ _ [(73, vB ((((cmpQ ((l.getD m (T3.mk (0 : Rat) (0 : Rat) (0 : Rat))).at j) (p.at j)) ≤ (0 : Int)) ∧ ((0 : Int) < (orZ (pr (l.getD m (T3.mk (0 : Rat) (0 : Rat) (0 : Rat))) i j) (pr (l.getD ((m + 1) % l.length) (T3.mk (0 : Rat) (0 : Rat) (0 : Rat))) i j) (pr p i j)))) ∨ (((cmpQ ((l.getD ((m + 1) % l.length) (T3.mk (0 : Rat) (0 : Rat) (0 : Rat))).at j) (p.at j)) ≤ (0 : Int)) ∧ ((orZ (pr (l.getD m (T3.mk (0 : Rat) (0 : Rat) (0 : Rat))) i j) (pr (l.getD ((m + 1) % l.length) (T3.mk (0 : Rat) (0 : Rat) (0 : Rat))) i j) (pr p i j)) < (0 : Int))))), (0, vl), (2, vI ↑i), (3, vI ↑j), (5, vP b5 0), (9, vB (oddTo l (pr p i j) i j m)), (16, vl), (17, vI (↑(l).length : Int)), (18, vI ↑m)] [.var b12 33 cs_58, .var b11 33 cs_55, .var b5 33 cs5] h4
  refine zD (zB ?_)
  refine zH rfl (fun hc73 => ?_) (fun hc73 => ?_)
  ·
   rw [cmp_le_iff, cmp_le_iff] at hc73
   refine zA (mv rfl rfl (gv (ov_not rfl) rfl (asg rfl rfl (zD (gq_in (zB (zA (gv (zV (q := 1) rfl rfl (by omega) (by omega)) rfl (mv rfl rfl (zD (gq_drop (A := []) (gq_drop (A := []) ?_))))))))))))
   refine yJ ((m + 1), h4) ?_ ?_ ⟨rfl, rfl, rfl, rfl, ?_, rfl, rfl, rfl, trivial⟩ rfl rfl
   ·
    refine ⟨((((hmma.trans hh1).trans hh2).trans hh3).trans hh4), ?_⟩
    exact ⟨by omega, on_next hno hc36⟩
   ·
    dsimp only
    omega
   · exact congrArg (fun z => some (vB z)) (odd_flip hsm hc73)
  rw [cmp_le_iff, cmp_le_iff] at hc73
  refine zI (gq_in (zB (zA (gv (zV (q := 1) rfl rfl (by omega) (by omega)) rfl (mv rfl rfl (zD (gq_drop (A := []) (gq_drop (A := []) ?_))))))))
  refine yJ ((m + 1), h4) ?_ ?_ ⟨rfl, rfl, rfl, rfl, ?_, rfl, rfl, rfl, trivial⟩ rfl rfl
  ·
   refine ⟨((((hmma.trans hh1).trans hh2).trans hh3).trans hh4), ?_⟩
   exact ⟨by omega, on_next hno hc36⟩
  ·
   dsimp only
   omega
  · exact congrArg (fun z => some (vB z)) (odd_stay hc73)
 refine gc_exit (zZ (zZ (gx_here (zB (zC (zC (zA (mv rfl rfl (zD (zB ?_))))))))))
 refine zH rfl (fun hc77 => ?_) (fun hc77 => ?_)
 ·
  refine gc_keep (e' := []) trivial (zC (zA (asg (v := vI (1)) rfl rfl (zD (zB (zN (zO (zW rfl rfl ?_))))))))
  exact congrArg vI (ins_in (by omega) hm1 hno hc77)
 refine gc_keep (e' := []) trivial (zI (zB (zC (zA (asg (v := vI (-1)) rfl rfl (zD (zB (zN (zW rfl rfl ?_)))))))))
 exact congrArg vI (ins_out (by omega) hm1 hno hc77)

theorem o_pg_area {w0 : World} {h0 : Mem}  (hs : MLe h0 (mem w0)) {k : Nat} {vl : Value} {l : (List (T3 Rat))} (rl : (rpS (rpT (rpQ k))).Is h0 vl l) (hcd0 : k ≤ 100000) (hcd1 : l.length ≤ 1000)  :
    Calls Tryz.prog 24 #[vl] w0 (Ret w0 h0 (fun h r => (rpQ 1000000000).Is h r (areaTo l 0 1 l.length))) := by
 refine zR (n := 5) (e := [(0, vl)]) (vs := [vl]) Tryz.func24 rfl rfl (Nat.le_of_ble_eq_true rfl) hs ⟨rfl, trivial⟩ (zC (zA (zP (new_allocx (ρ := (rpQ 1)) (X := (0 : Rat)) info31 rfl rfl (zr_q (by decide))) rfl rfl rfl ?_)))
 intro v2 q2 hq2
 obtain ⟨b2, cs2, rfl, rfl, rb2⟩ := hq2
 refine zD (zB (zC (zA (mv rfl rfl ?_))))
 refine zJ (vs := [_, vI (0), vI (1)]) rfl rfl rfl rfl Tryz.call48 ⟨rfl, rfl, rfl, trivial⟩ (fun w hs => o_pl_area (i := 0) (j := 1) hs rl (by decide) (by decide) (by omega) (by omega)) ?_
 intro v4 h1 hh1 r4
 change (rpQ 1000000000).Is h1 v4 (areaTo l 0 1 l.length) at r4
 replace rb2 := rb2.mono hh1
 have rw_60 := (Le.q (l := 1000000000) (by decide)).R rb2
 refine gl_updx (A := []) (F := fun c_ => (rpQ 1000000000).R h1 c_ (areaTo l 0 1 l.length)) (upd_box Tryz.sizeOf31 (Pc.here _) rfl rfl rfl rw_60 r4 rfl) ?_
 intro cs_61 rb_62
 refine zD (zB (zN (gq_exv (rv_o (t := 2) ty31 (.head _) rfl rb_62) ?_)))
 intro w_63 hvw_63 rr_64
 refine gq_res (fun E S => run_res1 rfl hvw_63 E S) ?_
 exact rr_64

theorem o_pg_inside {w0 : World} {h0 : Mem}  (hs : MLe h0 (mem w0)) {k : Nat} {vl : Value} {l : (List (T3 Rat))} (rl : (rpS (rpT (rpQ k))).Is h0 vl l) {vp : Value} {p : (T3 Rat)} (rp : (rpT (rpQ k)).Is h0 vp p) (hcd0 : k ≤ 100000) (hcd1 : l.length ≤ 1000)  :
    Calls Tryz.prog 19 #[vl, vp] w0 (Ret w0 h0 (fun _ r => r = vI (insZ l (pr p 0 1) 0 1))) := by
 refine zR (n := 8) (e := [(0, vl), (1, vp)]) (vs := [vl, vp]) Tryz.func19 rfl rfl (Nat.le_of_ble_eq_true rfl) hs ⟨rfl, rfl, trivial⟩ (zC (zA (zP (new_boxx (ρ := (rpT (rpQ k))) rfl rp) rfl rfl rfl ?_)))
 intro v3 q3 hq3
 obtain ⟨b3, cs3, rfl, rfl, rb3⟩ := hq3
 refine asg (v := vI (0)) rfl rfl (zD (zB (zC (zA (mv rfl rfl (gl_x (F := fun v_ => (rpT (rpQ k)).Is h0 v_ p) (zE ty33 (Pc.here _) rfl rfl rb3 rfl) (mem1 (.head _)) rfl ?_))))))
 intro v6 r6
 refine zJ (vs := [_, _, vI (0), vI (1)]) rfl rfl rfl rfl Tryz.call41 ⟨rfl, rfl, rfl, rfl, trivial⟩ (fun w hs => o_pl_inside (i := 0) (j := 1) hs rl r6 (by decide) (by decide) (by omega) (by omega)) ?_
 intro v7 h1 hh1 r7
 obtain rfl : v7 = vI (insZ l (pr p 0 1) 0 1) := r7
 refine asg rfl rfl (zD (zB (zN (zW rfl rfl ?_))))
 rfl

theorem o_pg_touch {w0 : World} {h0 : Mem}  (hs : MLe h0 (mem w0)) {k : Nat} {va : Value} {a : (T3 Rat)} (ra : (rpT (rpQ k)).Is h0 va a) {vb : Value} {b : (T3 Rat)} (rb : (rpT (rpQ k)).Is h0 vb b) {vc : Value} {c : (T3 Rat)} (rc : (rpT (rpQ k)).Is h0 vc c) {vd : Value} {d : (T3 Rat)} (rd : (rpT (rpQ k)).Is h0 vd d) (hcd0 : k ≤ 1000000000)  :
    Calls Tryz.prog 33 #[va, vb, vc, vd] w0 (Ret w0 h0 (fun _ r => r = vI (touch2 (pr a 0 1) (pr b 0 1) (pr c 0 1) (pr d 0 1)))) := by
 refine zR (n := 14) (e := [(0, va), (1, vb), (2, vc), (3, vd)]) (vs := [va, vb, vc, vd]) Tryz.func33 rfl rfl (Nat.le_of_ble_eq_true rfl) hs ⟨rfl, rfl, rfl, rfl, trivial⟩ (zC (zA (zP (new_boxx (ρ := (rpT (rpQ k))) rfl ra) rfl rfl rfl ?_)))
 intro v4 q4 hq4
 obtain ⟨b4, cs4, rfl, rfl, rb4⟩ := hq4
 refine zP (new_boxx (ρ := (rpT (rpQ k))) rfl rb) rfl rfl rfl ?_
 intro v5 q5 hq5
 obtain ⟨b5, cs5, rfl, rfl, rb5⟩ := hq5
 refine zP (new_boxx (ρ := (rpT (rpQ k))) rfl rc) rfl rfl rfl ?_
 intro v6 q6 hq6
 obtain ⟨b6, cs6, rfl, rfl, rb6⟩ := hq6
 refine zP (new_boxx (ρ := (rpT (rpQ k))) rfl rd) rfl rfl rfl ?_
 intro v7 q7 hq7
 obtain ⟨b7, cs7, rfl, rfl, rb7⟩ := hq7
 refine asg (v := vI (0)) rfl rfl (zD (zB (zC (zA (gl_x (F := fun v_ => (rpT (rpQ k)).Is h0 v_ a) (zE ty33 (Pc.here _) rfl rfl rb4 rfl) (mem1 (.tail _ (.tail _ (.tail _ (.head _))))) rfl ?_)))))
 intro v9 r9
 refine gl_x (F := fun v_ => (rpT (rpQ k)).Is h0 v_ b) (zE ty33 (Pc.here _) rfl rfl rb5 rfl) (mem1 (.tail _ (.tail _ (.head _)))) rfl ?_
 intro v10 r10
 refine gl_x (F := fun v_ => (rpT (rpQ k)).Is h0 v_ c) (zE ty33 (Pc.here _) rfl rfl rb6 rfl) (mem1 (.tail _ (.head _))) rfl ?_
 intro v11 r11
 refine gl_x (F := fun v_ => (rpT (rpQ k)).Is h0 v_ d) (zE ty33 (Pc.here _) rfl rfl rb7 rfl) (mem1 (.head _)) rfl ?_
 intro v12 r12
 refine zJ (vs := [_, _, _, _, vI (0), vI (1)]) rfl rfl rfl rfl Tryz.call59 ⟨rfl, rfl, rfl, rfl, rfl, rfl, trivial⟩ (fun w hs => o_pl_touch (i := 0) (j := 1) hs r9 r10 r11 r12 (by decide) (by decide) (by omega)) ?_
 intro v13 h1 hh1 r13
 obtain rfl : v13 = vI (touch2 (pr a 0 1) (pr b 0 1) (pr c 0 1) (pr d 0 1)) := r13
 have htr13 := touch_range (pr a 0 1) (pr b 0 1) (pr c 0 1) (pr d 0 1)
 refine asg rfl rfl (zD (zL (e' := [(8, _)]) ⟨rfl, trivial⟩ (zB (zN (zW rfl rfl ?_)))))
 rfl

end Go.Proofs.YtfpjclgbieppeaaGreat


namespace Go.Proofs.YtfpjclgbieppeaaGreat
open Bk Go
set_option linter.unusedVariables false
set_option linter.unusedSimpArgs false
set_option maxRecDepth 10000

theorem o_made_at3 {w0 : World} {h0 : Mem}  (hs : MLe h0 (mem w0)) {x : Int} (hx1 : -9223372036854775808 ≤ x) (hx2 : x < 9223372036854775808) {y : Int} (hy1 : -9223372036854775808 ≤ y) (hy2 : y < 9223372036854775808) {z : Int} (hz1 : -9223372036854775808 ≤ z) (hz2 : z < 9223372036854775808)  :
    Calls Tryz.prog 31 #[vI x, vI y, vI z] w0 (Ret w0 h0 (fun h r => (rpT (rpQ 2)).Is h r (T3.mk ((x : Int) : Rat) ((y : Int) : Rat) ((z : Int) : Rat)))) := by
 refine zR (n := 14) (e := [(0, vI x), (1, vI y), (2, vI z)]) (vs := [vI x, vI y, vI z]) Tryz.func31 rfl rfl (Nat.le_of_ble_eq_true rfl) hs ⟨rfl, rfl, rfl, trivial⟩ (zC (zA (zP (new_allocx (ρ := (rpT (rpQ 1))) (X := (T3.mk (0 : Rat) (0 : Rat) (0 : Rat))) info33 rfl rfl (zr_t (zr_q (by decide)))) rfl rfl rfl ?_)))
 intro v6 q6 hq6
 obtain ⟨b6, cs6, rfl, rfl, rb6⟩ := hq6
 refine zD (zB (zC (zA (mv rfl rfl ?_))))
 refine zJ (vs := [_]) rfl rfl rfl rfl Tryz.call32 ⟨rfl, trivial⟩ (fun w hs => o_rref_int hs (by omega) (by omega)) ?_
 intro v8 h1 hh1 r8
 change (rpQ 2).Is h1 v8 ((x : Int) : Rat) at r8
 refine mv rfl rfl ?_
 refine zJ (vs := [_]) rfl rfl rfl rfl Tryz.call32 ⟨rfl, trivial⟩ (fun w hs => o_rref_int hs (by omega) (by omega)) ?_
 intro v10 h2 hh2 r10
 change (rpQ 2).Is h2 v10 ((y : Int) : Rat) at r10
 refine mv rfl rfl ?_
 refine zJ (vs := [_]) rfl rfl rfl rfl Tryz.call32 ⟨rfl, trivial⟩ (fun w hs => o_rref_int hs (by omega) (by omega)) ?_
 intro v12 h3 hh3 r12
 change (rpQ 2).Is h3 v12 ((z : Int) : Rat) at r12
 replace r8 := r8.mono (hh2.trans hh3)
 replace r10 := r10.mono hh3
 refine gl_x (F := fun v_ => (rpT (rpQ 2)).Is h3 v_ (T3.mk ((x : Int) : Rat) ((y : Int) : Rat) ((z : Int) : Rat))) (ox_build_arr (ps' := [(0, _), (1, _), (2, _)]) Tryz.underlying33 info33 rfl rfl Tryz.sizeOf31 ⟨rfl, rfl, rfl, rfl, rfl, rfl, trivial⟩ rfl (zr_t (zr_q (by decide))) (fx_one rfl (Pc.tx (Pc.here _)) r8 (fx_one rfl (Pc.ty (Pc.here _)) r10 (fx_one rfl (Pc.tz (Pc.here _)) r12 fx_nil)))) mem0 rfl ?_
 intro v13 r13
 replace rb6 := rb6.mono ((hh1.trans hh2).trans hh3)
 have rw_40 := (Le.t (Le.q (l := 2) (by decide))).R rb6
 refine gl_updx (A := []) (F := fun c_ => (rpT (rpQ 2)).R h3 c_ (T3.mk ((x : Int) : Rat) ((y : Int) : Rat) ((z : Int) : Rat))) (upd_box Tryz.sizeOf33 (Pc.here _) rfl rfl rfl rw_40 r13 rfl) ?_
 intro cs_41 rb_42
 refine zD (zL (e' := [(6, _)]) ⟨rfl, trivial⟩ (zB (zN (gq_exv (rv_o (t := 6) ty33 (.head _) rfl rb_42) ?_))))
 intro w_43 hvw_43 rr_44
 refine gq_res (fun E S => run_res1 rfl hvw_43 E S) ?_
 exact rr_44

theorem law25_sane {w0 : World} {h0 : Mem}  (hs : MLe h0 (mem w0))  :
    Calls Tryz.prog 7 #[] w0 (Ret w0 h0 (fun _ r => r = .bool true)) := by
 refine zR (n := 28) (e := []) (vs := []) Tryz.func7 rfl rfl (Nat.le_of_ble_eq_true rfl) hs trivial (zC (zA (asg rfl rfl (zD (zB (zC (zA ?_)))))))
 refine zJ (vs := [vI (0), vI (0), vI (0)]) rfl rfl rfl rfl Tryz.call31 ⟨rfl, rfl, rfl, trivial⟩ (fun w hs => o_made_at3 hs (by decide) (by decide) (by decide) (by decide) (by decide) (by decide)) ?_
 intro v2 h1 hh1 r2
 change (rpT (rpQ 2)).Is h1 v2 (T3.mk (((0 : Int) : Int) : Rat) (((0 : Int) : Int) : Rat) (((0 : Int) : Int) : Rat)) at r2
 refine zJ (vs := [vI (2), vI (0), vI (0)]) rfl rfl rfl rfl Tryz.call31 ⟨rfl, rfl, rfl, trivial⟩ (fun w hs => o_made_at3 hs (by decide) (by decide) (by decide) (by decide) (by decide) (by decide)) ?_
 intro v3 h2 hh2 r3
 change (rpT (rpQ 2)).Is h2 v3 (T3.mk (((2 : Int) : Int) : Rat) (((0 : Int) : Int) : Rat) (((0 : Int) : Int) : Rat)) at r3
 refine zJ (vs := [vI (0), vI (2), vI (0)]) rfl rfl rfl rfl Tryz.call31 ⟨rfl, rfl, rfl, trivial⟩ (fun w hs => o_made_at3 hs (by decide) (by decide) (by decide) (by decide) (by decide) (by decide)) ?_
 intro v4 h3 hh3 r4
 change (rpT (rpQ 2)).Is h3 v4 (T3.mk (((0 : Int) : Int) : Rat) (((2 : Int) : Int) : Rat) (((0 : Int) : Int) : Rat)) at r4
 replace r2 := r2.mono (hh2.trans hh3)
 replace r3 := r3.mono hh3
 refine zP (new_buildx (ρ := (rpT (rpQ 2))) (m := 3) (xs := [(T3.mk (((0 : Int) : Int) : Rat) (((0 : Int) : Int) : Rat) (((0 : Int) : Int) : Rat)), (T3.mk (((2 : Int) : Int) : Rat) (((0 : Int) : Int) : Rat) (((0 : Int) : Int) : Rat)), (T3.mk (((0 : Int) : Int) : Rat) (((2 : Int) : Int) : Rat) (((0 : Int) : Int) : Rat))]) (ps' := [(0, _), (1, _), (2, _)]) Tryz.underlying36 info33 rfl rfl rfl (zr_t (zr_q (by decide))) ⟨rfl, rfl, rfl, rfl, rfl, rfl, trivial⟩ (fx_one rfl (Pc.arr (Pc.here _) (T3.mk (0 : Rat) (0 : Rat) (0 : Rat)) 0 (by decide)) r2 (fx_one rfl (Pc.arr (Pc.here _) (T3.mk (0 : Rat) (0 : Rat) (0 : Rat)) 1 (by decide)) r3 (fx_one rfl (Pc.arr (Pc.here _) (T3.mk (0 : Rat) (0 : Rat) (0 : Rat)) 2 (by decide)) r4 fx_nil))) (show 3 * 9 ≤ 16777216 from by decide) (show 0 < 9 from by decide)) rfl rfl rfl ?_
 intro v5 q5 hq5
 obtain ⟨cs5, rfl, rl5⟩ := hq5
 refine asg rfl rfl (zD (zB (zC (gc_freezex (A := []) (ρ := (rpT (rpQ 2))) rl5 ?_))))
 intro h4 hh4 rs_50
 refine gc_draw 23 _ [] [(0, .q), (1, .c), (2, .c), (3, .c), (4, .q), (5, .q), (6, .c), (7, .c), (8, .q), (9, .q), (10, .q), (11, .q), (12, .q), (13, .q), (14, .q), (15, .q), (16, .q), (17, .c), (18, .c), (19, .c), (20, .q), (21, .q), (22, .q)] mixed (fun x hx => by cases hx) (chk_of [0, 1, 2, 6, 8, 16, 16, 112, 144, 272, 640, 1024, 3072, 5120, 1024, 17408, 33792, 1024, 132096, 467968, 525312, 1049600, 4194303] [8388607, 8388606, 8388607, 8388601, 8388599, 8388591, 8388591, 8388495, 8388463, 8388335, 8388095, 8387583, 8385535, 8383487, 8387583, 8371199, 8354815, 8387583, 8387583, 7920639, 7863295, 7339007, 6291455] (by kernel_rfl)) (fun x hx => by cases hx) (fun r hr => hr) (w_q rfl (fun h' L' hh hR => zF rfl) rfl ?_)
 refine w_c rfl ?_
 refine yO (vs := [_]) Tryz.call24 ⟨rfl, trivial⟩ (fun w hs => o_pg_area hs rs_50 (by decide) (by first | omega | exact (by decide : 3 ≤ 1000))) rfl ?_
 intro v7 h5 hh5 r7
 change (rpQ 1000000000).Is h5 v7 (areaTo [(T3.mk (((0 : Int) : Int) : Rat) (((0 : Int) : Int) : Rat) (((0 : Int) : Int) : Rat)), (T3.mk (((2 : Int) : Int) : Rat) (((0 : Int) : Int) : Rat) (((0 : Int) : Int) : Rat)), (T3.mk (((0 : Int) : Int) : Rat) (((2 : Int) : Int) : Rat) (((0 : Int) : Int) : Rat))] 0 1 [(T3.mk (((0 : Int) : Int) : Rat) (((0 : Int) : Int) : Rat) (((0 : Int) : Int) : Rat)), (T3.mk (((2 : Int) : Int) : Rat) (((0 : Int) : Int) : Rat) (((0 : Int) : Int) : Rat)), (T3.mk (((0 : Int) : Int) : Rat) (((2 : Int) : Int) : Rat) (((0 : Int) : Int) : Rat))].length) at r7
 refine w_c rfl ?_
 refine yO (vs := [vI (4)]) Tryz.call32 ⟨rfl, trivial⟩ (fun w hs => o_rref_int hs (by decide) (by decide)) rfl ?_
 intro v8 h6 hh6 r8
 change (rpQ 2).Is h6 v8 (((4 : Int) : Int) : Rat) at r8
 refine w_c rfl ?_
 replace r7 := r7.mono hh6
 refine yO (vs := [_, _]) Tryz.call23 ⟨rfl, rfl, trivial⟩ (fun w hs => o_rref_same hs r7 r8 (by decide)) rfl ?_
 intro v9 h7 hh7 r9
 obtain rfl : v9 = .bool true := by rw [show v9 = vB ((areaTo [(T3.mk (((0 : Int) : Int) : Rat) (((0 : Int) : Int) : Rat) (((0 : Int) : Int) : Rat)), (T3.mk (((2 : Int) : Int) : Rat) (((0 : Int) : Int) : Rat) (((0 : Int) : Int) : Rat)), (T3.mk (((0 : Int) : Int) : Rat) (((2 : Int) : Int) : Rat) (((0 : Int) : Int) : Rat))] 0 1 [(T3.mk (((0 : Int) : Int) : Rat) (((0 : Int) : Int) : Rat) (((0 : Int) : Int) : Rat)), (T3.mk (((2 : Int) : Int) : Rat) (((0 : Int) : Int) : Rat) (((0 : Int) : Int) : Rat)), (T3.mk (((0 : Int) : Int) : Rat) (((2 : Int) : Int) : Rat) (((0 : Int) : Int) : Rat))].length) = (((4 : Int) : Int) : Rat)) from r9, yI (by exact sane_area)]
 refine w_q rfl (fun h' L' hh hR => zF rfl) rfl (w_q_on rfl rfl rfl (fun h' L' hh hR => zF rfl) rfl ?_)
 refine w_c rfl (s_on rfl rfl ?_)
 refine yO (vs := [vI (1), vI (1), vI (0)]) Tryz.call31 ⟨rfl, rfl, rfl, trivial⟩ (fun w hs => o_made_at3 hs (by decide) (by decide) (by decide) (by decide) (by decide) (by decide)) rfl ?_
 intro v12 h8 hh8 r12
 change (rpT (rpQ 2)).Is h8 v12 (T3.mk (((1 : Int) : Int) : Rat) (((1 : Int) : Int) : Rat) (((0 : Int) : Int) : Rat)) at r12
 refine w_c rfl (s_on rfl rfl ?_)
 replace rs_50 := rs_50.mono (((hh5.trans hh6).trans hh7).trans hh8)
 refine yO (vs := [_, _]) Tryz.call19 ⟨rfl, rfl, trivial⟩ (fun w hs => o_pg_inside hs rs_50 r12 (by decide) (by first | omega | exact (by decide : 3 ≤ 1000))) rfl ?_
 intro v13 h9 hh9 r13
 obtain rfl : v13 = vI (insZ [(T3.mk (((0 : Int) : Int) : Rat) (((0 : Int) : Int) : Rat) (((0 : Int) : Int) : Rat)), (T3.mk (((2 : Int) : Int) : Rat) (((0 : Int) : Int) : Rat) (((0 : Int) : Int) : Rat)), (T3.mk (((0 : Int) : Int) : Rat) (((2 : Int) : Int) : Rat) (((0 : Int) : Int) : Rat))] (pr (T3.mk (((1 : Int) : Int) : Rat) (((1 : Int) : Int) : Rat) (((0 : Int) : Int) : Rat)) 0 1) 0 1) := r13
 refine w_q_on rfl rfl rfl (fun h' L' hh hR => OpV.tr (by exact sane_in) (ov_eql_i (q := 0) rfl rfl)) rfl (w_q rfl (fun h' L' hh hR => yF rfl rfl) rfl (w_q rfl (fun h' L' hh hR => zF rfl) rfl (w_q_on rfl rfl rfl (fun h' L' hh hR => zF rfl) rfl ?_)))
 replace rs_50 := rs_50.mono hh9
 refine w_qx_on (F := fun v_ => AtP (rpT (rpQ 2)) h9 v_ ([(T3.mk (((0 : Int) : Int) : Rat) (((0 : Int) : Int) : Rat) (((0 : Int) : Int) : Rat)), (T3.mk (((2 : Int) : Int) : Rat) (((0 : Int) : Int) : Rat) (((0 : Int) : Int) : Rat)), (T3.mk (((0 : Int) : Int) : Rat) (((2 : Int) : Int) : Rat) (((0 : Int) : Int) : Rat))].getD 0 (T3.mk (0 : Rat) (0 : Rat) (0 : Rat)))) rfl rfl rfl (ox_idx_s (q := 0) (T3.mk (0 : Rat) (0 : Rat) (0 : Rat)) 0 Tryz.underlying36 ty33 rfl rfl rs_50 rfl (by exact (by decide : 0 < 3)) (show 0 < 9 from by decide)) mem0 rfl ?_
 intro v18 r18
 refine w_qx_on (F := fun v_ => (rpT (rpQ 2)).Is h9 v_ ([(T3.mk (((0 : Int) : Int) : Rat) (((0 : Int) : Int) : Rat) (((0 : Int) : Int) : Rat)), (T3.mk (((2 : Int) : Int) : Rat) (((0 : Int) : Int) : Rat) (((0 : Int) : Int) : Rat)), (T3.mk (((0 : Int) : Int) : Rat) (((2 : Int) : Int) : Rat) (((0 : Int) : Int) : Rat))].getD 0 (T3.mk (0 : Rat) (0 : Rat) (0 : Rat)))) rfl rfl rfl (yK ty33 rfl r18) mem0 rfl ?_
 intro v19 r19
 refine w_q_on rfl rfl rfl (fun h' L' hh hR => zF rfl) rfl (w_qx_on (F := fun v_ => AtP (rpT (rpQ 2)) h9 v_ ([(T3.mk (((0 : Int) : Int) : Rat) (((0 : Int) : Int) : Rat) (((0 : Int) : Int) : Rat)), (T3.mk (((2 : Int) : Int) : Rat) (((0 : Int) : Int) : Rat) (((0 : Int) : Int) : Rat)), (T3.mk (((0 : Int) : Int) : Rat) (((2 : Int) : Int) : Rat) (((0 : Int) : Int) : Rat))].getD 1 (T3.mk (0 : Rat) (0 : Rat) (0 : Rat)))) rfl rfl rfl (ox_idx_s (q := 1) (T3.mk (0 : Rat) (0 : Rat) (0 : Rat)) 1 Tryz.underlying36 ty33 rfl rfl rs_50 rfl (by exact (by decide : 1 < 3)) (show 0 < 9 from by decide)) mem0 rfl ?_)
 intro v21 r21
 refine w_qx_on (F := fun v_ => (rpT (rpQ 2)).Is h9 v_ ([(T3.mk (((0 : Int) : Int) : Rat) (((0 : Int) : Int) : Rat) (((0 : Int) : Int) : Rat)), (T3.mk (((2 : Int) : Int) : Rat) (((0 : Int) : Int) : Rat) (((0 : Int) : Int) : Rat)), (T3.mk (((0 : Int) : Int) : Rat) (((2 : Int) : Int) : Rat) (((0 : Int) : Int) : Rat))].getD 1 (T3.mk (0 : Rat) (0 : Rat) (0 : Rat)))) rfl rfl rfl (yK ty33 rfl r21) mem0 rfl ?_
 intro v22 r22
 refine w_c rfl (s_on rfl rfl ?_)
 refine yO (vs := [vI (1), vI (0), vI (0)]) Tryz.call31 ⟨rfl, rfl, rfl, trivial⟩ (fun w hs => o_made_at3 hs (by decide) (by decide) (by decide) (by decide) (by decide) (by decide)) rfl ?_
 intro v23 h10 hh10 r23
 change (rpT (rpQ 2)).Is h10 v23 (T3.mk (((1 : Int) : Int) : Rat) (((0 : Int) : Int) : Rat) (((0 : Int) : Int) : Rat)) at r23
 refine w_c rfl (s_on rfl rfl ?_)
 refine yO (vs := [vI (1), vI (5), vI (0)]) Tryz.call31 ⟨rfl, rfl, rfl, trivial⟩ (fun w hs => o_made_at3 hs (by decide) (by decide) (by decide) (by decide) (by decide) (by decide)) rfl ?_
 intro v24 h11 hh11 r24
 change (rpT (rpQ 2)).Is h11 v24 (T3.mk (((1 : Int) : Int) : Rat) (((5 : Int) : Int) : Rat) (((0 : Int) : Int) : Rat)) at r24
 refine w_c rfl (s_on rfl rfl ?_)
 replace r19 := r19.mono (hh10.trans hh11)
 replace r22 := r22.mono (hh10.trans hh11)
 replace r23 := r23.mono hh11
 refine yO (vs := [_, _, _, _]) Tryz.call33 ⟨rfl, rfl, rfl, rfl, trivial⟩ (fun w hs => o_pg_touch hs r19 r22 r23 r24 (by decide)) rfl ?_
 intro v25 h12 hh12 r25
 obtain rfl : v25 = vI (touch2 (pr ([(T3.mk (((0 : Int) : Int) : Rat) (((0 : Int) : Int) : Rat) (((0 : Int) : Int) : Rat)), (T3.mk (((2 : Int) : Int) : Rat) (((0 : Int) : Int) : Rat) (((0 : Int) : Int) : Rat)), (T3.mk (((0 : Int) : Int) : Rat) (((2 : Int) : Int) : Rat) (((0 : Int) : Int) : Rat))].getD 0 (T3.mk (0 : Rat) (0 : Rat) (0 : Rat))) 0 1) (pr ([(T3.mk (((0 : Int) : Int) : Rat) (((0 : Int) : Int) : Rat) (((0 : Int) : Int) : Rat)), (T3.mk (((2 : Int) : Int) : Rat) (((0 : Int) : Int) : Rat) (((0 : Int) : Int) : Rat)), (T3.mk (((0 : Int) : Int) : Rat) (((2 : Int) : Int) : Rat) (((0 : Int) : Int) : Rat))].getD 1 (T3.mk (0 : Rat) (0 : Rat) (0 : Rat))) 0 1) (pr (T3.mk (((1 : Int) : Int) : Rat) (((0 : Int) : Int) : Rat) (((0 : Int) : Int) : Rat)) 0 1) (pr (T3.mk (((1 : Int) : Int) : Rat) (((5 : Int) : Int) : Rat) (((0 : Int) : Int) : Rat)) 0 1)) := r25
 refine w_q_on rfl rfl rfl (fun h' L' hh hR => OpV.tr (by exact sane_touch) (ov_eql_i (q := 2) rfl rfl)) rfl (w_q rfl (fun h' L' hh hR => yF rfl rfl) rfl (w_q rfl (fun h' L' hh hR => ov_assign rfl) rfl (w_nil (zL (e' := [(0, _)]) ⟨rfl, trivial⟩ (zB (zN (zW rfl rfl ?_)))))))
 rfl

end Go.Proofs.YtfpjclgbieppeaaGreat


namespace Bk
set_option linter.unusedVariables false
open Classical
def pairsTo (R : Nat → Nat → Prop) (n a : Nat) : Prop := ∀ p q, p < a → p < q → q < n → R p q
def rowTo (R : Nat → Nat → Prop) (a b : Nat) : Prop := ∀ q, a < q → q < b → R a q
theorem pairs_zero {R : Nat → Nat → Prop} {n : Nat} : pairsTo R n 0 := fun p q h => by omega
theorem row_start {R : Nat → Nat → Prop} {a : Nat} : rowTo R a (a + 1) := fun q h1 h2 => by omega
theorem row_next {R : Nat → Nat → Prop} {a b : Nat} (h : rowTo R a b) (h1 : R a b) : rowTo R a (b + 1) := fun q h2 h3 => by
  rcases Nat.lt_succ_iff_lt_or_eq.1 h3 with h4 | h4
  · exact h q h2 h4
  · subst h4; exact h1
theorem pairs_next {R : Nat → Nat → Prop} {n a b : Nat} (h : pairsTo R n a) (h1 : rowTo R a b) (hb : n ≤ b) : pairsTo R n (a + 1) := fun p q h2 h3 h4 => by
  rcases Nat.lt_succ_iff_lt_or_eq.1 h2 with h5 | h5
  · exact h p q h5 h3 h4
  · subst h5; exact h1 q h3 (by omega)
def difR (l : List Pt) (i j p q : Nat) : Prop := ¬ pr (gp l p) i j = pr (gp l q) i j
noncomputable def wantZ (n p q : Nat) : Int := if q = p + 1 ∨ (p = 0 ∧ q + 1 = n) then 1 else 0
def okT (l : List Pt) (i j p q : Nat) : Prop := touch2 (edgeA l i j p) (edgeB l i j p) (edgeA l i j q) (edgeB l i j q) = wantZ l.length p q
def simP (l : List Pt) (i j : Nat) : Prop := 3 ≤ l.length ∧ pairsTo (difR l i j) l.length l.length ∧ pairsTo (okT l i j) l.length l.length
theorem want_t {n p q : Nat} (h : q = p + 1 ∨ (p = 0 ∧ q + 1 = n)) : (1 : Int) = wantZ n p q := (if_pos h).symm
theorem want_f {n p q : Nat} (h : ¬ (q = p + 1 ∨ (p = 0 ∧ q + 1 = n))) : (0 : Int) = wantZ n p q := (if_neg h).symm
end Bk


namespace Bk
set_option linter.unusedVariables false
set_option linter.unusedSimpArgs false
open Classical
def addT (a b : Pt) : Pt := T3.mk (a.x + b.x) (a.y + b.y) (a.z + b.z)
def moved (l l' : List Pt) (v : Pt) : Prop := l'.length = l.length ∧ ∀ q, q < l.length → gp l' q = addT (gp l q) v
theorem area_step {l l' : List Pt} {v : Pt} (h : moved l l' v) : ∀ m, m ≤ l.length →
    areaTo l' 0 1 m = areaTo l 0 1 m + (v.x * (gp l (m % l.length)).y - v.y * (gp l (m % l.length)).x) - (v.x * (gp l 0).y - v.y * (gp l 0).x)
  | 0, _ => by rw [Nat.zero_mod]; show (0 : Rat) = 0 + _ - _; grind
  | m + 1, hm => by
    have ih := area_step h m (by omega)
    have e1 := h.2 m (by omega)
    have e2 := h.2 ((m + 1) % l.length) (Nat.mod_lt _ (by omega))
    have e3 : m % l.length = m := Nat.mod_eq_of_lt (by omega)
    rw [e3] at ih
    show areaTo l' 0 1 m + ((gp l' m).x * (gp l' ((m + 1) % l'.length)).y - (gp l' ((m + 1) % l'.length)).x * (gp l' m).y) = areaTo l 0 1 m + ((gp l m).x * (gp l ((m + 1) % l.length)).y - (gp l ((m + 1) % l.length)).x * (gp l m).y) + _ - _
    rw [h.1, ih, e1, e2]
    unfold addT
    grind
theorem area_moved {l l' : List Pt} {v : Pt} (h : moved l l' v) : areaTo l' 0 1 l'.length = areaTo l 0 1 l.length := by
  rw [h.1, area_step h _ (Nat.le_refl _), Nat.mod_self]
  grind
def sh (a v : P2) : P2 := (a.1 + v.1, a.2 + v.2)
theorem cr_sh (a b c v : P2) : cr (sh a v) (sh b v) (sh c v) = cr a b c := by unfold cr sh; grind
theorem or_sh (a b c v : P2) : orZ (sh a v) (sh b v) (sh c v) = orZ a b c := by unfold orZ; rw [cr_sh]
theorem lx_sh (a b v : P2) : lx (sh a v) (sh b v) ↔ lx a b := by unfold lx sh; grind
theorem eq_sh (a b v : P2) : sh a v = sh b v ↔ a = b := by
  obtain ⟨a1, a2⟩ := a; obtain ⟨b1, b2⟩ := b
  unfold sh; rw [Prod.mk.injEq, Prod.mk.injEq]; grind
theorem apart_sh (a b c d v : Rat) : apartP (a + v) (b + v) (c + v) (d + v) ↔ apartP a b c d := by unfold apartP; grind
theorem sh_ite {c : Prop} [Decidable c] (a b v : P2) : (if c then sh a v else sh b v) = sh (if c then a else b) v := by split <;> rfl
theorem touch_sh (a b c d v : P2) : touch2 (sh a v) (sh b v) (sh c v) (sh d v) = touch2 a b c d := by
  have h1 : apartP (sh a v).1 (sh b v).1 (sh c v).1 (sh d v).1 ↔ apartP a.1 b.1 c.1 d.1 := apart_sh _ _ _ _ _
  have h2 : apartP (sh a v).2 (sh b v).2 (sh c v).2 (sh d v).2 ↔ apartP a.2 b.2 c.2 d.2 := apart_sh _ _ _ _ _
  unfold touch2 along2 alongS lo2 hi2
  simp only [lx_sh, sh_ite, or_sh, h1, h2, eq_sh]
theorem gp_moved {l l' : List Pt} {v : Pt} (h : moved l l' v) {m : Nat} (hm : m < l.length) : edgeA l' 0 1 m = sh (edgeA l 0 1 m) (pr v 0 1) ∧ edgeB l' 0 1 m = sh (edgeB l 0 1 m) (pr v 0 1) := by
  unfold edgeA edgeB
  rw [h.1, h.2 m hm, h.2 _ (Nat.mod_lt _ (by omega))]
  exact ⟨rfl, rfl⟩
theorem sim_moved {l l' : List Pt} {v : Pt} (h : moved l l' v) : simP l 0 1 ↔ simP l' 0 1 := by
  have hd : ∀ p q, p < l.length → q < l.length → (difR l' 0 1 p q ↔ difR l 0 1 p q) := fun p q hp hq => by
    have e1 := (gp_moved h hp).1
    have e2 := (gp_moved h hq).1
    unfold edgeA at e1 e2
    unfold difR
    rw [e1, e2, eq_sh]
  have ho : ∀ p q, p < l.length → q < l.length → (okT l' 0 1 p q ↔ okT l 0 1 p q) := fun p q hp hq => by
    unfold okT
    rw [(gp_moved h hp).1, (gp_moved h hp).2, (gp_moved h hq).1, (gp_moved h hq).2, touch_sh, h.1]
  unfold simP pairsTo
  rw [h.1]
  constructor
  · rintro ⟨a, b, c⟩
    exact ⟨a, fun p q h1 h2 h3 => (hd p q h1 h3).2 (b p q h1 h2 h3), fun p q h1 h2 h3 => (ho p q h1 h3).2 (c p q h1 h2 h3)⟩
  · rintro ⟨a, b, c⟩
    exact ⟨a, fun p q h1 h2 h3 => (hd p q h1 h3).1 (b p q h1 h2 h3), fun p q h1 h2 h3 => (ho p q h1 h3).1 (c p q h1 h2 h3)⟩
end Bk


namespace Bk
set_option linter.unusedVariables false
set_option linter.unusedSimpArgs false
open Classical
def reved (l z : List Pt) : Prop := z.length = l.length ∧ ∀ q, q < l.length → gp z q = gp l (l.length - 1 - q)
theorem reved_symm {l z : List Pt} (h : reved l z) : reved z l := ⟨h.1.symm, fun q hq => by
  have h1 := h.1
  have h2 := h.2 (l.length - 1 - q) (by omega)
  rw [h1, h2]; congr 1; omega⟩
def sN (n m : Nat) : Nat := if m + 1 = n then m else n - 2 - m
theorem gp_rev {l z : List Pt} (h : reved l z) {m : Nat} (hm : m < l.length) : gp z m = gp l ((sN l.length m + 1) % l.length) ∧ gp z ((m + 1) % z.length) = gp l (sN l.length m) := by
  rw [h.1]
  by_cases e : m + 1 = l.length
  · have e1 : sN l.length m = m := if_pos e
    rw [e1, e, Nat.mod_self, h.2 m hm, h.2 0 (by omega)]
    constructor <;> (congr 1; omega)
  · have e1 : sN l.length m = l.length - 2 - m := if_neg e
    rw [e1, Nat.mod_eq_of_lt (show m + 1 < l.length by omega), Nat.mod_eq_of_lt (show l.length - 2 - m + 1 < l.length by omega), h.2 m hm, h.2 (m + 1) (by omega)]
    constructor <;> (congr 1; omega)
theorem edge_rev {l z : List Pt} (h : reved l z) {m : Nat} (hm : m < l.length) : edgeA z 0 1 m = edgeB l 0 1 (sN l.length m) ∧ edgeB z 0 1 m = edgeA l 0 1 (sN l.length m) := by
  unfold edgeA edgeB
  rw [(gp_rev h hm).1, (gp_rev h hm).2]
  exact ⟨rfl, rfl⟩
theorem area_rev_step {l z : List Pt} (h : reved l z) : ∀ m, m + 1 ≤ l.length → areaTo z 0 1 m = areaTo l 0 1 (l.length - 1 - m) - areaTo l 0 1 (l.length - 1)
  | 0, _ => by rw [Nat.sub_zero]; show (0 : Rat) = _; grind
  | m + 1, hm => by
    have ih := area_rev_step h m (by omega)
    have e := gp_rev h (m := m) (by omega)
    have es : sN l.length m = l.length - 2 - m := if_neg (by omega)
    have e2 : l.length - 1 - m = (l.length - 2 - m) + 1 := by omega
    have e3 : l.length - 1 - (m + 1) = l.length - 2 - m := by omega
    rw [e2] at ih
    rw [e3]
    show areaTo z 0 1 m + ((gp z m).x * (gp z ((m + 1) % z.length)).y - (gp z ((m + 1) % z.length)).x * (gp z m).y) = _
    rw [ih, e.1, e.2, es]
    show (areaTo l 0 1 (l.length - 2 - m) + ((gp l (l.length - 2 - m)).x * (gp l ((l.length - 2 - m + 1) % l.length)).y - (gp l ((l.length - 2 - m + 1) % l.length)).x * (gp l (l.length - 2 - m)).y)) - _ + _ = _
    grind
theorem area_rev {l z : List Pt} (h : reved l z) : areaTo z 0 1 z.length = -areaTo l 0 1 l.length := by
  rw [h.1]
  rcases Nat.eq_zero_or_pos l.length with h0 | h0
  · rw [h0]; show (0 : Rat) = -0; grind
  · obtain ⟨n, hn⟩ : ∃ n, l.length = n + 1 := ⟨l.length - 1, by omega⟩
    have h1 := area_rev_step h n (by omega)
    have e := gp_rev h (m := n) (by omega)
    have es : sN l.length n = n := if_pos (by omega)
    have e2 : l.length - 1 - n = 0 := by omega
    have e3 : l.length - 1 = n := by omega
    rw [e2, e3] at h1
    rw [es] at e
    rw [hn]
    show areaTo z 0 1 n + ((gp z n).x * (gp z ((n + 1) % z.length)).y - (gp z ((n + 1) % z.length)).x * (gp z n).y) = -(areaTo l 0 1 n + ((gp l n).x * (gp l ((n + 1) % l.length)).y - (gp l ((n + 1) % l.length)).x * (gp l n).y))
    rw [h1, e.1, e.2]
    show (0 : Rat) - _ + _ = _
    grind
theorem touch_rev (a b c d : P2) : touch2 b a d c = touch2 c d a b := by rw [touch_swap1, touch_swap2, touch_comm]
theorem sim_rev1 {l z : List Pt} (h : reved l z) (hl : simP l 0 1) : simP z 0 1 := by
  obtain ⟨h3, hd, ho⟩ := hl
  unfold simP
  rw [h.1]
  refine ⟨h3, fun p q h1 h2 h4 => ?_, fun p q h1 h2 h4 => ?_⟩
  · unfold difR
    rw [h.2 p h1, h.2 q h4]
    exact fun e => hd (l.length - 1 - q) (l.length - 1 - p) (by omega) (by omega) (by omega) e.symm
  · unfold okT
    rw [(edge_rev h h1).1, (edge_rev h h1).2, (edge_rev h h4).1, (edge_rev h h4).2, h.1]
    have sp : sN l.length p = l.length - 2 - p := if_neg (by omega)
    by_cases e : q + 1 = l.length
    · have sq : sN l.length q = q := if_pos e
      rw [sp, sq, touch_rev, touch_comm]
      have := ho (l.length - 2 - p) q (by omega) (by omega) (by omega)
      unfold okT at this
      rw [this]
      unfold wantZ
      by_cases e2 : p = 0
      · rw [if_pos (by omega), if_pos (by omega)]
      · by_cases e3 : q = p + 1
        · rw [if_pos (by omega), if_pos (by omega)]
        · rw [if_neg (by omega), if_neg (by omega)]
    · have sq : sN l.length q = l.length - 2 - q := if_neg e
      rw [sp, sq, touch_rev]
      have := ho (l.length - 2 - q) (l.length - 2 - p) (by omega) (by omega) (by omega)
      unfold okT at this
      rw [this]
      unfold wantZ
      by_cases e3 : q = p + 1
      · rw [if_pos (by omega), if_pos (by omega)]
      · rw [if_neg (by omega), if_neg (by omega)]
theorem sim_rev {l z : List Pt} (h : reved l z) : simP z 0 1 ↔ simP l 0 1 := ⟨sim_rev1 (reved_symm h), sim_rev1 h⟩
theorem gp_app {l : List Pt} {a : Pt} {q : Nat} : gp (l ++ [a]) q = if q = l.length then a else gp l q := by
  unfold gp
  rw [List.getD_eq_getElem?_getD, List.getD_eq_getElem?_getD]
  split
  · rename_i h; subst h; simp
  · rename_i h
    rcases Nat.lt_or_ge q l.length with h1 | h1
    · rw [List.getElem?_append_left h1]
    · rw [List.getElem?_eq_none (by simp; omega), List.getElem?_eq_none h1]
def movTo (l y : List Pt) (v : Pt) (m : Nat) : Prop := y.length = m ∧ ∀ q, q < m → gp y q = addT (gp l q) v
def revTo (l z : List Pt) (m : Nat) : Prop := z.length = m ∧ ∀ q, q < m → gp z q = gp l (l.length - 1 - q)
end Bk


namespace Bk
set_option linter.unusedVariables false
set_option linter.unusedSimpArgs false
open Classical
def fineL (l : List Pt) : Prop := simP l 0 1 → ¬ areaTo l 0 1 l.length = 0
theorem fine_rev {l z : List Pt} (h : reved l z) (hl : fineL l) : fineL z := fun hs e => hl ((sim_rev h).1 hs) (by rw [area_rev h] at e; grind)
theorem fine_area {l : List Pt} (h : ¬ areaTo l 0 1 l.length = 0) : fineL l := fun _ => h
theorem fine_moved {l l' : List Pt} {v : Pt} (h : moved l l' v) (hl : fineL l) : fineL l' := fun hs e => hl ((sim_moved h).2 hs) (by rw [area_moved h] at e; exact e)
abbrev PI := Int × Int
def crI (u v w : PI) : Int := (v.1 - u.1) * (w.2 - u.2) - (v.2 - u.2) * (w.1 - u.1)
def sgI (n : Int) : Int := if 0 < n then 1 else if n < 0 then -1 else 0
def orI (u v w : PI) : Int := sgI (crI u v w)
def lxI (u v : PI) : Bool := decide (u.1 < v.1 ∨ (u.1 = v.1 ∧ u.2 < v.2))
def apI (a b c d : Int) : Bool := decide ((a < c ∧ a < d ∧ b < c ∧ b < d) ∨ (c < a ∧ d < a ∧ c < b ∧ d < b))
def alS (a b c d : PI) : Int :=
  if lxI (if lxI d b then d else b) (if lxI a c then c else a) then 0 else if lxI (if lxI a c then c else a) (if lxI d b then d else b) then 3
  else if ((if lxI a c then c else a) = a ∨ (if lxI a c then c else a) = b) ∧ ((if lxI a c then c else a) = c ∨ (if lxI a c then c else a) = d) then 1 else 2
def alI (a b c d : PI) : Int := alS (if lxI b a then b else a) (if lxI b a then a else b) (if lxI d c then d else c) (if lxI d c then c else d)
def toI (a b c d : PI) : Int :=
  if apI a.1 b.1 c.1 d.1 ∨ apI a.2 b.2 c.2 d.2 then 0
  else if orI a b c = 0 ∧ orI a b d = 0 ∧ orI c d a = 0 ∧ orI c d b = 0 then alI a b c d
  else if 0 < orI a b c * orI a b d ∨ 0 < orI c d a * orI c d b then 0
  else if (orI a b c = 0 ∨ orI a b d = 0) ∧ (orI c d a = 0 ∨ orI c d b = 0) then 1 else 2
def af (x y r : Int) (u : PI) : P2 := (((x + r * u.1 : Int) : Rat), ((y + r * u.2 : Int) : Rat))
theorem aff_lt {x r u v : Int} (hr : 0 < r) : (((x + r * u : Int) : Rat) < ((x + r * v : Int) : Rat)) ↔ u < v := by
  rw [Rat.intCast_lt_intCast]
  constructor
  · intro h
    refine Int.not_le.1 fun e => ?_
    have := Int.mul_le_mul_of_nonneg_left e (Int.le_of_lt hr)
    omega
  · intro h
    have := Int.mul_lt_mul_of_pos_left h hr
    omega
theorem aff_eq {x r u v : Int} (hr : 0 < r) : (((x + r * u : Int) : Rat) = ((x + r * v : Int) : Rat)) ↔ u = v := by
  rw [Rat.intCast_inj]
  constructor
  · intro h
    have h1 : r * u = r * v := by omega
    exact Int.eq_of_mul_eq_mul_left (by omega) h1
  · rintro rfl; rfl
theorem af_cr (x y r : Int) (u v w : PI) : cr (af x y r u) (af x y r v) (af x y r w) = ((r * r * crI u v w : Int) : Rat) := by
  unfold cr af crI
  rw [← Rat.intCast_sub, ← Rat.intCast_sub, ← Rat.intCast_sub, ← Rat.intCast_sub, ← Rat.intCast_mul, ← Rat.intCast_mul, ← Rat.intCast_sub]
  congr 1
  grind
theorem pos_of_mul {a b : Int} (ha : 0 < a) (h : 0 < a * b) : 0 < b := Int.not_le.1 fun e => by
  have := Int.mul_le_mul_of_nonneg_left e (Int.le_of_lt ha)
  omega
theorem af_or {x y r : Int} (hr : 0 < r) (u v w : PI) : orZ (af x y r u) (af x y r v) (af x y r w) = orI u v w := by
  unfold orZ orI
  rw [af_cr, sgn_cast]
  unfold sgnZ sgI
  have h2 : 0 < r * r := Int.mul_pos hr hr
  have e1 : (0 < r * r * crI u v w) ↔ 0 < crI u v w := by
    constructor
    · intro h
      exact pos_of_mul h2 h
    · intro h; exact Int.mul_pos h2 h
  have e2 : (r * r * crI u v w < 0) ↔ crI u v w < 0 := by
    have e3 : (0 < r * r * (-crI u v w)) ↔ 0 < -crI u v w := by
      constructor
      · intro h; exact pos_of_mul h2 h
      · intro h; exact Int.mul_pos h2 h
    rw [Int.mul_neg] at e3
    omega
  simp only [e1, e2]
theorem af_lx {x y r : Int} (hr : 0 < r) (u v : PI) : lx (af x y r u) (af x y r v) ↔ lxI u v = true := by
  unfold lx lxI
  rw [decide_eq_true_iff]
  show (_ < _ ∨ (_ = _ ∧ _ < _)) ↔ _
  unfold af
  simp only [aff_lt hr, aff_eq hr]
theorem af_eq {x y r : Int} (hr : 0 < r) (u v : PI) : af x y r u = af x y r v ↔ u = v := by
  obtain ⟨u1, u2⟩ := u; obtain ⟨v1, v2⟩ := v
  unfold af
  rw [Prod.mk.injEq, Prod.mk.injEq, aff_eq hr, aff_eq hr]
theorem af_ap {x r a b c d : Int} (hr : 0 < r) : apartP ((x + r * a : Int) : Rat) ((x + r * b : Int) : Rat) ((x + r * c : Int) : Rat) ((x + r * d : Int) : Rat) ↔ apI a b c d = true := by
  unfold apartP apI
  rw [decide_eq_true_iff]
  simp only [aff_lt hr]
theorem af_ite {x y r : Int} {c : Prop} [Decidable c] (u v : PI) : (if c then af x y r u else af x y r v) = af x y r (if c then u else v) := by split <;> rfl
theorem af_al {x y r : Int} (hr : 0 < r) (a b c d : PI) : alongS (af x y r a) (af x y r b) (af x y r c) (af x y r d) = alS a b c d := by
  unfold alongS alS
  simp only [af_lx hr, af_ite, af_eq hr]
theorem af_touch {x y r : Int} (hr : 0 < r) (a b c d : PI) : touch2 (af x y r a) (af x y r b) (af x y r c) (af x y r d) = toI a b c d := by
  have e1 : apartP (af x y r a).1 (af x y r b).1 (af x y r c).1 (af x y r d).1 ↔ apI a.1 b.1 c.1 d.1 = true := af_ap hr
  have e2 : apartP (af x y r a).2 (af x y r b).2 (af x y r c).2 (af x y r d).2 ↔ apI a.2 b.2 c.2 d.2 = true := af_ap hr
  unfold touch2 toI along2 alI lo2 hi2
  simp only [af_or hr, e1, e2, af_lx hr, af_ite, af_al hr]
def rg (k : Nat) : PI := ([(2, 0), (2, 1), (1, 2), (-1, 2), (-2, 0), (-2, -1), (0, -2), (1, -1)] : List PI).getD k (0, 0)
def gi (s : List Nat) (m : Nat) : PI := rg (s.getD m 0)
def arI (s : List Nat) : Nat → Int
  | 0 => 0
  | m + 1 => arI s m + ((gi s m).1 * (gi s ((m + 1) % s.length)).2 - (gi s ((m + 1) % s.length)).1 * (gi s m).2)
def waI (n p q : Nat) : Int := if q = p + 1 ∨ (p = 0 ∧ q + 1 = n) then 1 else 0
def badI (s : List Nat) : Bool := (List.range s.length).any fun q => (List.range q).any fun p => !decide (toI (gi s p) (gi s ((p + 1) % s.length)) (gi s q) (gi s ((q + 1) % s.length)) = waI s.length p q)
def okI (s : List Nat) : Bool := decide (s.length < 3) || !decide (arI s s.length = 0) || badI s
def swI : List Nat → List Nat
  | a :: b :: l => b :: a :: l
  | l => l
def subs : List Nat → List (List Nat)
  | [] => [[]]
  | a :: l => subs l ++ (subs l).map (a :: ·)
theorem sub_subs : ∀ {l s : List Nat}, s.Sublist l → s ∈ subs l
  | _, _, .slnil => List.mem_singleton.2 rfl
  | _, _, .cons a h => List.mem_append.2 (.inl (sub_subs h))
  | _, _, .cons_cons a h => List.mem_append.2 (.inr (List.mem_map.2 ⟨_, sub_subs h, rfl⟩))
theorem ring_ok : ∀ s, s ∈ subs [0, 1, 2, 3, 4, 5, 6, 7] ++ subs [7, 6, 5, 4, 3, 2, 1, 0] → okI s = true ∧ okI (swI s) = true := by decide +kernel
def rp3 (x y r : Int) (k : Nat) : Pt := T3.mk (((x + r * (rg k).1 : Int)) : Rat) (((y + r * (rg k).2 : Int)) : Rat) (0 : Rat)
theorem gp_map {s : List Nat} {x y r : Int} {m : Nat} (hm : m < s.length) : pr (gp (s.map (rp3 x y r)) m) 0 1 = af x y r (gi s m) := by
  unfold gp gi
  rw [List.getD_eq_getElem?_getD, List.getD_eq_getElem?_getD, List.getElem?_map, List.getElem?_eq_getElem hm]
  rfl
theorem ring_sh (x y r : Int) (a b : PI) : ((((x + r * a.1 : Int) : Rat)) * (((y + r * b.2 : Int) : Rat)) - (((x + r * b.1 : Int) : Rat)) * (((y + r * a.2 : Int) : Rat)))
    = ((r * r * (a.1 * b.2 - b.1 * a.2) : Int) : Rat) + (x : Rat) * ((r : Rat) * ((b.2 : Rat) - (a.2 : Rat))) - (y : Rat) * ((r : Rat) * ((b.1 : Rat) - (a.1 : Rat))) := by
  simp only [Rat.intCast_add, Rat.intCast_mul, Rat.intCast_sub]
  grind
theorem ring_area (x y r : Int) (s : List Nat) : ∀ m, m ≤ s.length → areaTo (s.map (rp3 x y r)) 0 1 m = ((r * r * arI s m : Int) : Rat) + (x : Rat) * ((r : Rat) * (((gi s (m % s.length)).2 : Rat) - ((gi s 0).2 : Rat))) - (y : Rat) * ((r : Rat) * (((gi s (m % s.length)).1 : Rat) - ((gi s 0).1 : Rat)))
  | 0, _ => by
    rw [Nat.zero_mod]
    show (0 : Rat) = ((r * r * 0 : Int) : Rat) + _ - _
    rw [Int.mul_zero]
    have : ((0 : Int) : Rat) = 0 := rfl
    rw [this]
    grind
  | m + 1, hm => by
    have ih := ring_area x y r s m (by omega)
    have e3 : m % s.length = m := Nat.mod_eq_of_lt (by omega)
    rw [e3] at ih
    have g1 : ∀ k, k < s.length → (gp (s.map (rp3 x y r)) k).at 0 = ((x + r * (gi s k).1 : Int) : Rat) ∧ (gp (s.map (rp3 x y r)) k).at 1 = ((y + r * (gi s k).2 : Int) : Rat) := fun k hk => by
      have := gp_map (x := x) (y := y) (r := r) hk
      unfold pr af at this
      rw [Prod.mk.injEq] at this
      exact this
    have hk := Nat.mod_lt (m + 1) (show 0 < s.length by omega)
    show areaTo _ 0 1 m + ((gp _ m).at 0 * (gp _ ((m + 1) % (s.map (rp3 x y r)).length)).at 1 - (gp _ ((m + 1) % (s.map (rp3 x y r)).length)).at 0 * (gp _ m).at 1) = _
    rw [List.length_map, (g1 m (by omega)).1, (g1 m (by omega)).2, (g1 _ hk).1, (g1 _ hk).2, ring_sh, ih]
    show _ = ((r * r * (arI s m + ((gi s m).1 * (gi s ((m + 1) % s.length)).2 - (gi s ((m + 1) % s.length)).1 * (gi s m).2)) : Int) : Rat) + _ - _
    rw [Int.mul_add (r * r), Rat.intCast_add]
    grind
theorem ring_fine {s : List Nat} {x y r : Int} (hr : 0 < r) (h : okI s = true) : fineL (s.map (rp3 x y r)) := by
  intro hs he
  have hl : (s.map (rp3 x y r)).length = s.length := List.length_map ..
  have h3 := hs.1
  rw [hl] at h3
  rw [hl, ring_area x y r s _ (Nat.le_refl _), Nat.mod_self] at he
  have he2 : ((r * r * arI s s.length : Int) : Rat) = 0 := by grind
  have he3 : r * r * arI s s.length = 0 := by
    have e : (0 : Rat) = ((0 : Int) : Rat) := rfl
    rw [e, Rat.intCast_inj] at he2
    exact he2
  have hp : 0 < r * r := Int.mul_pos hr hr
  have he4 : arI s s.length = 0 := by
    rcases Int.mul_eq_zero.1 he3 with h1 | h1
    · omega
    · exact h1
  unfold okI at h
  rw [decide_eq_false (by omega), decide_eq_true he4] at h
  simp only [Bool.not_true, Bool.or_false, Bool.false_or] at h
  unfold badI at h
  rw [List.any_eq_true] at h
  obtain ⟨q, hq, h⟩ := h
  rw [List.any_eq_true] at h
  obtain ⟨p, hp2, h⟩ := h
  rw [List.mem_range] at hq hp2
  have ho := hs.2.2 p q (by omega) hp2 (by omega)
  unfold okT edgeA edgeB at ho
  rw [hl, gp_map (by omega), gp_map (Nat.mod_lt _ (by omega)), gp_map (by omega), gp_map (Nat.mod_lt _ (by omega)), af_touch hr] at ho
  have hw : wantZ s.length p q = waI s.length p q := rfl
  rw [hw] at ho
  rw [decide_eq_true ho] at h
  exact absurd h (by decide)
noncomputable def rgK (t : Prop) (i : Nat) : Nat := if t then 7 - i else i
theorem rgK_t {t : Prop} {i : Nat} (h : t) : 7 - i = rgK t i := (if_pos h).symm
theorem rgK_f {t : Prop} {i : Nat} (h : ¬ t) : i = rgK t i := (if_neg h).symm
def rgF (x y r : Int) (t : Prop) (i : Nat) (l : List Pt) : Prop := ∃ s : List Nat, s.Sublist ((List.range i).map (rgK t)) ∧ l = s.map (rp3 x y r)
theorem ring_at (k : Nat) (hk : k < 8) : ([[(2 : Int), (0 : Int)], [(2 : Int), (1 : Int)], [(1 : Int), (2 : Int)], [(-1 : Int), (2 : Int)], [(-2 : Int), (0 : Int)], [(-2 : Int), (-1 : Int)], [(0 : Int), (-2 : Int)], [(1 : Int), (-1 : Int)]].getD k (List.replicate 2 (0 : Int))).getD 0 (0 : Int) = (rg k).1 ∧ ([[(2 : Int), (0 : Int)], [(2 : Int), (1 : Int)], [(1 : Int), (2 : Int)], [(-1 : Int), (2 : Int)], [(-2 : Int), (0 : Int)], [(-2 : Int), (-1 : Int)], [(0 : Int), (-2 : Int)], [(1 : Int), (-1 : Int)]].getD k (List.replicate 2 (0 : Int))).getD 1 (0 : Int) = (rg k).2 :=
  (by decide : ∀ k, k < 8 → ([[(2 : Int), (0 : Int)], [(2 : Int), (1 : Int)], [(1 : Int), (2 : Int)], [(-1 : Int), (2 : Int)], [(-2 : Int), (0 : Int)], [(-2 : Int), (-1 : Int)], [(0 : Int), (-2 : Int)], [(1 : Int), (-1 : Int)]].getD k (List.replicate 2 (0 : Int))).getD 0 (0 : Int) = (rg k).1 ∧ ([[(2 : Int), (0 : Int)], [(2 : Int), (1 : Int)], [(1 : Int), (2 : Int)], [(-1 : Int), (2 : Int)], [(-2 : Int), (0 : Int)], [(-2 : Int), (-1 : Int)], [(0 : Int), (-2 : Int)], [(1 : Int), (-1 : Int)]].getD k (List.replicate 2 (0 : Int))).getD 1 (0 : Int) = (rg k).2) k hk
theorem ring_rp {x y r : Int} {k : Nat} (hk : k < 8) : T3.mk (((x + r * (([[(2 : Int), (0 : Int)], [(2 : Int), (1 : Int)], [(1 : Int), (2 : Int)], [(-1 : Int), (2 : Int)], [(-2 : Int), (0 : Int)], [(-2 : Int), (-1 : Int)], [(0 : Int), (-2 : Int)], [(1 : Int), (-1 : Int)]].getD k (List.replicate 2 (0 : Int))).getD 0 (0 : Int)) : Int)) : Rat) (((y + r * (([[(2 : Int), (0 : Int)], [(2 : Int), (1 : Int)], [(1 : Int), (2 : Int)], [(-1 : Int), (2 : Int)], [(-2 : Int), (0 : Int)], [(-2 : Int), (-1 : Int)], [(0 : Int), (-2 : Int)], [(1 : Int), (-1 : Int)]].getD k (List.replicate 2 (0 : Int))).getD 1 (0 : Int)) : Int)) : Rat) (0 : Rat) = rp3 x y r k := by
  rw [(ring_at k hk).1, (ring_at k hk).2]; rfl
theorem rg_zero {x y r : Int} {t : Prop} : rgF x y r t 0 [] := ⟨[], List.nil_sublist _, rfl⟩
theorem rg_skip {x y r : Int} {t : Prop} {i : Nat} {l : List Pt} (h : rgF x y r t i l) : rgF x y r t (i + 1) l := by
  obtain ⟨s, hs, e⟩ := h
  refine ⟨s, ?_, e⟩
  rw [List.range_succ, List.map_append]
  exact hs.trans (List.sublist_append_left _ _)
theorem rg_next {x y r : Int} {t : Prop} {i kk : Nat} {l : List Pt} {a : Pt} (h : rgF x y r t i l) (hk : kk = rgK t i) (ha : a = rp3 x y r kk) : rgF x y r t (i + 1) (l ++ [a]) := by
  obtain ⟨s, hs, e⟩ := h
  refine ⟨s ++ [kk], ?_, by rw [List.map_append, e, ha]; rfl⟩
  rw [List.range_succ, List.map_append, List.map_singleton, ← hk]
  exact hs.append (List.Sublist.refl _)
theorem rg_all {x y r : Int} {t : Prop} {l : List Pt} (h : rgF x y r t 8 l) : ∃ s : List Nat, (okI s = true ∧ okI (swI s) = true) ∧ l = s.map (rp3 x y r) := by
  obtain ⟨s, hs, e⟩ := h
  refine ⟨s, ring_ok s (List.mem_append.2 ?_), e⟩
  by_cases ht : t
  · have e : rgK t = fun k => 7 - k := funext fun k => if_pos ht
    rw [e] at hs
    exact .inr (sub_subs hs)
  · have e : rgK t = fun k => k := funext fun k => if_neg ht
    rw [e] at hs
    exact .inl (sub_subs hs)
theorem rg_fine {x y r : Int} {t : Prop} {l : List Pt} (hr : 0 < r) (h : rgF x y r t 8 l) : fineL l := by
  obtain ⟨s, hs, rfl⟩ := rg_all h
  exact ring_fine hr hs.1
theorem rg_swap {x y r : Int} {t : Prop} {l : List Pt} {d : Pt} (hr : 0 < r) (h : rgF x y r t 8 l) : fineL ((l.set 0 (l.getD 1 d)).set 1 (l.getD 0 d)) := by
  obtain ⟨s, hs, rfl⟩ := rg_all h
  match s, hs with
  | [], hs => exact ring_fine (s := []) (x := x) (y := y) hr hs.1
  | [a], hs => intro h3; exact absurd h3.1 (by simp)
  | a :: b :: s, hs => exact ring_fine (s := b :: a :: s) (x := x) (y := y) hr hs.2
def rvP (l0 l : List Pt) (i : Nat) : Prop := l.length = l0.length ∧ ∀ q, q < l0.length → gp l q = if q < i ∨ l0.length ≤ q + i then gp l0 (l0.length - 1 - q) else gp l0 q
theorem rv_zero {l : List Pt} : rvP l l 0 := ⟨rfl, fun q hq => (if_neg (by omega)).symm⟩
theorem rv_next {l0 l : List Pt} {i k : Nat} {x y : Pt} (h : rvP l0 l i) (hk : k = l.length - 1 - i) (hi : i < k) (hx : x = gp l k) (hy : y = gp l i) : rvP l0 ((l.set i x).set k y) (i + 1) := by
  have h1 := h.1
  refine ⟨by rw [List.length_set, List.length_set]; exact h1, fun q hq => ?_⟩
  have hs : gp ((l.set i x).set k y) q = if q = k then y else if q = i then x else gp l q := by
    unfold gp
    rw [List.getD_eq_getElem?_getD, List.getD_eq_getElem?_getD, List.getElem?_set, List.getElem?_set, List.length_set]
    by_cases e1 : k = q
    · rw [if_pos e1, if_pos (by omega), if_pos e1.symm]; rfl
    · rw [if_neg e1]
      have e1' : ¬ q = k := fun e => e1 e.symm
      by_cases e2 : i = q
      · rw [if_pos e2, if_pos (by omega), if_neg e1', if_pos e2.symm]; rfl
      · rw [if_neg e2, if_neg e1', if_neg (fun e => e2 e.symm)]
  rw [hs]
  by_cases e1 : q = k
  · rw [if_pos e1, if_pos (by omega), hy, h.2 i (by omega), if_neg (by omega)]
    congr 1; omega
  · rw [if_neg e1]
    by_cases e2 : q = i
    · rw [if_pos e2, if_pos (by omega), hx, h.2 k (by omega), if_neg (by omega)]
      congr 1; omega
    · rw [if_neg e2, h.2 q hq]
      by_cases e3 : q < i ∨ l0.length ≤ q + i
      · rw [if_pos e3, if_pos (by omega)]
      · rw [if_neg e3, if_neg (by omega)]
theorem rv_all {l0 l : List Pt} {i : Nat} (h : rvP l0 l i) (hi : l.length ≤ 2 * i + 1) : reved l0 l := by
  have h1 := h.1
  refine ⟨h1, fun q hq => ?_⟩
  rw [h.2 q hq]
  split
  · rfl
  · congr 1; omega
end Bk


namespace Bk
set_option linter.unusedVariables false
theorem five_mul {u v : Int} (h1 : 0 ≤ u) (h2 : u ≤ 5) (hv : -2 ≤ v ∧ v ≤ 2) : -10 ≤ u * v ∧ u * v ≤ 10 := by
  have a := Int.mul_nonneg h1 (show 0 ≤ v + 2 by omega)
  have b := Int.mul_nonneg h1 (show 0 ≤ 2 - v by omega)
  rw [Int.mul_add] at a
  rw [Int.mul_sub] at b
  omega
theorem ring_b (k : Nat) (hk : k < 8) (j : Nat) (hj : j < 2) : -2 ≤ ([[(2 : Int), (0 : Int)], [(2 : Int), (1 : Int)], [(1 : Int), (2 : Int)], [(-1 : Int), (2 : Int)], [(-2 : Int), (0 : Int)], [(-2 : Int), (-1 : Int)], [(0 : Int), (-2 : Int)], [(1 : Int), (-1 : Int)]].getD k (List.replicate 2 (0 : Int))).getD j (0 : Int) ∧ ([[(2 : Int), (0 : Int)], [(2 : Int), (1 : Int)], [(1 : Int), (2 : Int)], [(-1 : Int), (2 : Int)], [(-2 : Int), (0 : Int)], [(-2 : Int), (-1 : Int)], [(0 : Int), (-2 : Int)], [(1 : Int), (-1 : Int)]].getD k (List.replicate 2 (0 : Int))).getD j (0 : Int) ≤ 2 :=
  (by decide : ∀ k, k < 8 → ∀ j, j < 2 → -2 ≤ ([[(2 : Int), (0 : Int)], [(2 : Int), (1 : Int)], [(1 : Int), (2 : Int)], [(-1 : Int), (2 : Int)], [(-2 : Int), (0 : Int)], [(-2 : Int), (-1 : Int)], [(0 : Int), (-2 : Int)], [(1 : Int), (-1 : Int)]].getD k (List.replicate 2 (0 : Int))).getD j (0 : Int) ∧ ([[(2 : Int), (0 : Int)], [(2 : Int), (1 : Int)], [(1 : Int), (2 : Int)], [(-1 : Int), (2 : Int)], [(-2 : Int), (0 : Int)], [(-2 : Int), (-1 : Int)], [(0 : Int), (-2 : Int)], [(1 : Int), (-1 : Int)]].getD k (List.replicate 2 (0 : Int))).getD j (0 : Int) ≤ 2) k hk j hj
def corn (x y : Int) (l : List Int) : Nat → List (T3 Rat)
  | 0 => []
  | m + 1 => corn x y l m ++ [T3.mk (((x + l.getD (2 * m) (0 : Int)) : Int) : Rat) (((y + l.getD (2 * m + 1) (0 : Int)) : Int) : Rat) (0 : Rat)]
theorem corn_len (x y : Int) (l : List Int) : ∀ m, (corn x y l m).length = m
  | 0 => rfl
  | m + 1 => by show (corn x y l m ++ [_]).length = _; rw [List.length_append, corn_len x y l m]; rfl
theorem gp_corn (x y : Int) (l : List Int) : ∀ m q, q < m → gp (corn x y l m) q = T3.mk (((x + l.getD (2 * q) (0 : Int)) : Int) : Rat) (((y + l.getD (2 * q + 1) (0 : Int)) : Int) : Rat) (0 : Rat)
  | 0, q, h => by omega
  | m + 1, q, h => by
    show gp (corn x y l m ++ [_]) q = _
    rw [gp_app, corn_len]
    split
    · rename_i e; rw [e]
    · exact gp_corn x y l m q (by omega)
theorem corn_moved (x y : Int) (l : List Int) (m : Nat) : moved (corn 0 0 l m) (corn x y l m) (T3.mk ((x : Int) : Rat) ((y : Int) : Rat) (0 : Rat)) :=
  ⟨by rw [corn_len, corn_len], fun q hq => by
    rw [corn_len] at hq
    rw [gp_corn x y l m q hq, gp_corn 0 0 l m q hq]
    unfold addT
    rw [Int.zero_add, Int.zero_add, Rat.intCast_add, Rat.intCast_add]
    congr 1
    · show _ = ((l.getD (2 * q) 0 : Int) : Rat) + _; grind
    · show _ = ((l.getD (2 * q + 1) 0 : Int) : Rat) + _; grind
    · show (0 : Rat) = 0 + 0; grind⟩
theorem corn_fine {x y : Int} {l : List Int} {m : Nat} (h : ¬ areaTo (corn 0 0 l m) 0 1 m = 0) : fineL (corn x y l m) := fine_moved (corn_moved x y l m) (fine_area (by rw [corn_len]; exact h))
theorem tri_fine {x y a b c : Int} (ha : 0 ≤ a) (ha2 : a < 3) (hb : 0 ≤ b) (hb2 : b < 2) (hc : 0 ≤ c) (hc2 : c < 2) {m : Nat} (hm : m = 3) : fineL (corn x y [(0 : Int), (0 : Int), (1 : Int) + a, (0 : Int), b, (1 : Int) + c] m) := by
  subst hm
  refine corn_fine ?_
  have h1 : a = 0 ∨ a = 1 ∨ a = 2 := by omega
  have h2 : b = 0 ∨ b = 1 := by omega
  have h3 : c = 0 ∨ c = 1 := by omega
  rcases h1 with rfl | rfl | rfl <;> rcases h2 with rfl | rfl <;> rcases h3 with rfl | rfl <;> decide +kernel
theorem getD_b {l : List Int} (h : ∀ v, v ∈ l → -9 ≤ v ∧ v ≤ 9) (k : Nat) : -9 ≤ l.getD k (0 : Int) ∧ l.getD k (0 : Int) ≤ 9 := by
  rw [List.getD_eq_getElem?_getD]
  rcases Nat.lt_or_ge k l.length with h1 | h1
  · rw [List.getElem?_eq_getElem h1]
    exact h _ (List.getElem_mem h1)
  · rw [List.getElem?_eq_none h1]
    exact ⟨by decide, by decide⟩
def okL (n : Nat) (M : List (List (T3 Rat))) : Prop := M.length ≤ n ∧ 0 < M.length ∧ ∀ x, x ∈ M → x.length ≤ 8 ∧ fineL x
theorem okL.mono {n k : Nat} {M : List (List (T3 Rat))} (h : okL n M) (hk : n ≤ k) : okL k M := ⟨Nat.le_trans h.1 hk, h.2.1, h.2.2⟩
theorem okL.app {n : Nat} {M : List (List (T3 Rat))} {x : List (T3 Rat)} (h : okL n M) (hx : x.length ≤ 8 ∧ fineL x) : okL (n + 1) (M ++ [x]) := by
  refine ⟨by have := h.1; simp only [List.length_append, List.length_cons, List.length_nil]; omega, by simp, fun y hy => ?_⟩
  rcases List.mem_append.1 hy with h1 | h1
  · exact h.2.2 y h1
  · rw [List.mem_singleton.1 h1]; exact hx
theorem okL.put {n : Nat} {M : List (List (T3 Rat))} {x : List (T3 Rat)} (h : okL n M) (hx : x.length ≤ 8 ∧ fineL x) : okL n (M.set 0 x) := by
  refine ⟨by rw [List.length_set]; exact h.1, by rw [List.length_set]; exact h.2.1, fun y hy => ?_⟩
  rcases List.mem_or_eq_of_mem_set hy with h1 | h1
  · exact h.2.2 y h1
  · rw [h1]; exact hx
theorem fine_nil : fineL [] := fun h => absurd h.1 (by decide)
theorem okL.fit {n : Nat} {M : List (List (T3 Rat))} (h : okL n M) (m : Nat) : (M.getD m []).length ≤ 8 ∧ fineL (M.getD m []) := by
  rw [List.getD_eq_getElem?_getD]
  rcases Nat.lt_or_ge m M.length with h1 | h1
  · rw [List.getElem?_eq_getElem h1]
    exact h.2.2 _ (List.getElem_mem h1)
  · rw [List.getElem?_eq_none h1]
    exact ⟨Nat.zero_le _, fine_nil⟩
theorem okL.get {n : Nat} {M : List (List (T3 Rat))} (h : okL n M) (m : Nat) : (M.getD m []).length ≤ 8 := (h.fit m).1
end Bk


namespace Go.Proofs.YtfpjclgbieppeaaGreat
open Bk Go
set_option linter.unusedVariables false
set_option linter.unusedSimpArgs false
set_option maxRecDepth 10000

theorem o_dice_loop {w0 w : World} {h0 h : Mem} {b k : Nat} {vl : Value} {xs : List Int} (hl : Is h vl xs) (hk : k ≤ xs.length) {L : List Res} (hs : St w0 h0 (.var b 57 [vl, vI ↑k] :: L) h w) :
    Calls Tryz.prog 21 #[vP b 0] w (RetMut w0 h0 h L (fun g r q' => ∃ k' : Nat, ∃ m : List (T3 Rat), q' = .var b 57 [vl, vI ↑k'] ∧ k' ≤ xs.length ∧ (m.length ≤ 8 ∧ fineL m) ∧ (rpS (rpT (rpQ 2))).Is g r m)) := by
 have hlen := hl.lt63
 refine calls_begin_st (n := 84) (e := [(0, vP b 0)]) (vs := [vP b 0]) Tryz.func21 rfl rfl (Nat.le_of_ble_eq_true rfl) hs ⟨rfl, trivial⟩ (zC (zA (asg rfl rfl (zD (zB (zC (zA (mv rfl rfl ?_))))))))
 refine gl_call_mut2 (A := []) (vs := [_, vI (9)]) Tryz.call15 ⟨rfl, rfl, trivial⟩ (fun X w hs => dice_next hl (by first | omega | exact Nat.zero_le _) (by omega) (by omega) hs) rfl ?_
 intro v12 g12 q12 hg12 hr12
 obtain ⟨k12, z12, rfl, hk12, rfl, hz12, hy12⟩ := hr12
 refine gv (ov_sub_i (q := 4) rfl rfl (by omega) (by omega)) rfl (mv rfl rfl ?_)
 replace hl := hl.mono hg12
 refine gl_call_mut2 (A := []) (vs := [_, vI (9)]) Tryz.call15 ⟨rfl, rfl, trivial⟩ (fun X w hs => dice_next hl (by first | omega | exact Nat.zero_le _) (by omega) (by omega) hs) rfl ?_
 intro v15 g15 q15 hg15 hr15
 obtain ⟨k15, z15, rfl, hk15, rfl, hz15, hy15⟩ := hr15
 refine gv (ov_sub_i (q := 4) rfl rfl (by omega) (by omega)) rfl (asg rfl rfl (asg rfl rfl (zD (zB (zC (zA (mv rfl rfl ?_)))))))
 replace hl := hl.mono hg15
 refine gl_call_mut2 (A := []) (vs := [_, vI (5)]) Tryz.call15 ⟨rfl, rfl, trivial⟩ (fun X w hs => dice_next hl (by first | omega | exact Nat.zero_le _) (by omega) (by omega) hs) rfl ?_
 intro v18 g18 q18 hg18 hr18
 obtain ⟨k18, z18, rfl, hk18, rfl, hz18, hy18⟩ := hr18
 refine gv (zV (p := 1) rfl rfl (by omega) (by omega)) rfl (asg rfl rfl (zD (zL (e' := [(0, _), (3, _), (4, _), (5, _)]) ⟨rfl, rfl, rfl, rfl, trivial⟩ (zB (zC (zA (gl_x (F := fun v_ => (rpA 2 rpI).Is g18 v_ [(2 : Int), (0 : Int)]) (ox_build_arr (ps' := [(0, _), (1, _)]) Tryz.underlying67 info67 rfl rfl Tryz.sizeOf2 ⟨rfl, rfl, rfl, rfl, trivial⟩ rfl (zr_a 2 zr_i) (fx_one rfl (Pc.arr (Pc.here _) (0 : Int) 0 (by decide)) (is_i (by decide) (by decide)) (fx_one rfl (Pc.arr (Pc.here _) (0 : Int) 1 (by decide)) (is_i (by decide) (by decide)) fx_nil))) mem0 rfl ?_)))))))
 intro v20 r20
 refine gl_x (F := fun v_ => (rpA 2 rpI).Is g18 v_ [(2 : Int), (1 : Int)]) (ox_build_arr (ps' := [(0, _), (1, _)]) Tryz.underlying67 info67 rfl rfl Tryz.sizeOf2 ⟨rfl, rfl, rfl, rfl, trivial⟩ rfl (zr_a 2 zr_i) (fx_one rfl (Pc.arr (Pc.here _) (0 : Int) 0 (by decide)) (is_i (by decide) (by decide)) (fx_one rfl (Pc.arr (Pc.here _) (0 : Int) 1 (by decide)) (is_i (by decide) (by decide)) fx_nil))) mem0 rfl ?_
 intro v21 r21
 refine gl_x (F := fun v_ => (rpA 2 rpI).Is g18 v_ [(1 : Int), (2 : Int)]) (ox_build_arr (ps' := [(0, _), (1, _)]) Tryz.underlying67 info67 rfl rfl Tryz.sizeOf2 ⟨rfl, rfl, rfl, rfl, trivial⟩ rfl (zr_a 2 zr_i) (fx_one rfl (Pc.arr (Pc.here _) (0 : Int) 0 (by decide)) (is_i (by decide) (by decide)) (fx_one rfl (Pc.arr (Pc.here _) (0 : Int) 1 (by decide)) (is_i (by decide) (by decide)) fx_nil))) mem0 rfl ?_
 intro v22 r22
 refine gl_x (F := fun v_ => (rpA 2 rpI).Is g18 v_ [(-1 : Int), (2 : Int)]) (ox_build_arr (ps' := [(0, _), (1, _)]) Tryz.underlying67 info67 rfl rfl Tryz.sizeOf2 ⟨rfl, rfl, rfl, rfl, trivial⟩ rfl (zr_a 2 zr_i) (fx_one rfl (Pc.arr (Pc.here _) (0 : Int) 0 (by decide)) (is_i (by decide) (by decide)) (fx_one rfl (Pc.arr (Pc.here _) (0 : Int) 1 (by decide)) (is_i (by decide) (by decide)) fx_nil))) mem0 rfl ?_
 intro v23 r23
 refine gl_x (F := fun v_ => (rpA 2 rpI).Is g18 v_ [(-2 : Int), (0 : Int)]) (ox_build_arr (ps' := [(0, _), (1, _)]) Tryz.underlying67 info67 rfl rfl Tryz.sizeOf2 ⟨rfl, rfl, rfl, rfl, trivial⟩ rfl (zr_a 2 zr_i) (fx_one rfl (Pc.arr (Pc.here _) (0 : Int) 0 (by decide)) (is_i (by decide) (by decide)) (fx_one rfl (Pc.arr (Pc.here _) (0 : Int) 1 (by decide)) (is_i (by decide) (by decide)) fx_nil))) mem0 rfl ?_
 intro v24 r24
 refine gl_x (F := fun v_ => (rpA 2 rpI).Is g18 v_ [(-2 : Int), (-1 : Int)]) (ox_build_arr (ps' := [(0, _), (1, _)]) Tryz.underlying67 info67 rfl rfl Tryz.sizeOf2 ⟨rfl, rfl, rfl, rfl, trivial⟩ rfl (zr_a 2 zr_i) (fx_one rfl (Pc.arr (Pc.here _) (0 : Int) 0 (by decide)) (is_i (by decide) (by decide)) (fx_one rfl (Pc.arr (Pc.here _) (0 : Int) 1 (by decide)) (is_i (by decide) (by decide)) fx_nil))) mem0 rfl ?_
 intro v25 r25
 refine gl_x (F := fun v_ => (rpA 2 rpI).Is g18 v_ [(0 : Int), (-2 : Int)]) (ox_build_arr (ps' := [(0, _), (1, _)]) Tryz.underlying67 info67 rfl rfl Tryz.sizeOf2 ⟨rfl, rfl, rfl, rfl, trivial⟩ rfl (zr_a 2 zr_i) (fx_one rfl (Pc.arr (Pc.here _) (0 : Int) 0 (by decide)) (is_i (by decide) (by decide)) (fx_one rfl (Pc.arr (Pc.here _) (0 : Int) 1 (by decide)) (is_i (by decide) (by decide)) fx_nil))) mem0 rfl ?_
 intro v26 r26
 refine gl_x (F := fun v_ => (rpA 2 rpI).Is g18 v_ [(1 : Int), (-1 : Int)]) (ox_build_arr (ps' := [(0, _), (1, _)]) Tryz.underlying67 info67 rfl rfl Tryz.sizeOf2 ⟨rfl, rfl, rfl, rfl, trivial⟩ rfl (zr_a 2 zr_i) (fx_one rfl (Pc.arr (Pc.here _) (0 : Int) 0 (by decide)) (is_i (by decide) (by decide)) (fx_one rfl (Pc.arr (Pc.here _) (0 : Int) 1 (by decide)) (is_i (by decide) (by decide)) fx_nil))) mem0 rfl ?_
 intro v27 r27
 refine gl_x (F := fun v_ => (rpA 8 (rpA 2 rpI)).Is g18 v_ [[(2 : Int), (0 : Int)], [(2 : Int), (1 : Int)], [(1 : Int), (2 : Int)], [(-1 : Int), (2 : Int)], [(-2 : Int), (0 : Int)], [(-2 : Int), (-1 : Int)], [(0 : Int), (-2 : Int)], [(1 : Int), (-1 : Int)]]) (ox_build_arr (ps' := [(0, _), (1, _), (2, _), (3, _), (4, _), (5, _), (6, _), (7, _)]) Tryz.underlying68 info68 rfl rfl Tryz.sizeOf67 ⟨rfl, rfl, rfl, rfl, rfl, rfl, rfl, rfl, rfl, rfl, rfl, rfl, rfl, rfl, rfl, rfl, trivial⟩ rfl (zr_a 8 (zr_a 2 zr_i)) (fx_one rfl (Pc.arr (Pc.here _) (List.replicate 2 (0 : Int)) 0 (by decide)) r20 (fx_one rfl (Pc.arr (Pc.here _) (List.replicate 2 (0 : Int)) 1 (by decide)) r21 (fx_one rfl (Pc.arr (Pc.here _) (List.replicate 2 (0 : Int)) 2 (by decide)) r22 (fx_one rfl (Pc.arr (Pc.here _) (List.replicate 2 (0 : Int)) 3 (by decide)) r23 (fx_one rfl (Pc.arr (Pc.here _) (List.replicate 2 (0 : Int)) 4 (by decide)) r24 (fx_one rfl (Pc.arr (Pc.here _) (List.replicate 2 (0 : Int)) 5 (by decide)) r25 (fx_one rfl (Pc.arr (Pc.here _) (List.replicate 2 (0 : Int)) 6 (by decide)) r26 (fx_one rfl (Pc.arr (Pc.here _) (List.replicate 2 (0 : Int)) 7 (by decide)) r27 fx_nil))))))))) mem0 rfl ?_
 intro v28 r28
 refine zP (new_allocx (ρ := (rpA 8 (rpA 2 rpI))) (X := (List.replicate 8 (List.replicate 2 (0 : Int)))) info68 rfl rfl (zr_a 8 (zr_a 2 zr_i))) rfl rfl rfl ?_
 intro v6 q6 hq6
 obtain ⟨b6, cs6, rfl, rfl, rb6⟩ := hq6
 refine gl_updx (A := []) (F := fun c_ => (rpA 8 (rpA 2 rpI)).R g18 c_ [[(2 : Int), (0 : Int)], [(2 : Int), (1 : Int)], [(1 : Int), (2 : Int)], [(-1 : Int), (2 : Int)], [(-2 : Int), (0 : Int)], [(-2 : Int), (-1 : Int)], [(0 : Int), (-2 : Int)], [(1 : Int), (-1 : Int)]]) (upd_box Tryz.sizeOf68 (Pc.here _) rfl rfl rfl rb6 r28 rfl) ?_
 intro cs_1 rb_2
 refine zD (zB (zC (zA (asg rfl rfl (zD (zB (zC (zA (mv rfl rfl ?_)))))))))
 replace hl := hl.mono hg18
 refine gl_call_mut2 (A := [_]) (vs := [_, vI (3)]) Tryz.call15 ⟨rfl, rfl, trivial⟩ (fun X w hs => dice_next hl (by first | omega | exact Nat.zero_le _) (by omega) (by omega) hs) rfl ?_
 intro v30 g30 q30 hg30 hr30
 obtain ⟨k30, z30, rfl, hk30, rfl, hz30, hy30⟩ := hr30
 refine gv (ov_eql_i (q := 2) rfl rfl) rfl (asg rfl rfl (zD (zL (e' := [(0, _), (3, _), (4, _), (5, _), (6, _), (7, _), (8, _)]) ⟨rfl, rfl, rfl, rfl, rfl, rfl, rfl, trivial⟩ (zB (zC (zC (zA (asg (v := vI (0)) rfl rfl (zD (zB (zQ (gc_nilown 33 9 ?_))))))))))))
 have rl_3 : RL (rpT (rpQ 2)) g30 [] ([] : List (T3 Rat)) := RL.nil
 refine gc_loop (ι := Nat × List (T3 Rat) × Value × List Value × Nat × Mem) (fun (i, l, s7_4, cs_5, kd_7, ma) => MLe g30 ma ∧ (RL (rpT (rpQ 2)) ma cs_5 l ∧ kd_7 ≤ xs.length ∧ (i ≤ 8 ∧ l.length ≤ i) ∧ rgF (z12 - (4 : Int)) (z15 - (4 : Int)) ((1 : Int) + z18) (z30 = (2 : Int)) i l)) (fun (i, l, s7_4, cs_5, kd_7, ma) => [(0, vP b 0), (3, vI (z12 - (4 : Int))), (4, vI (z15 - (4 : Int))), (5, vI ((1 : Int) + z18)), (6, vP b6 0), (7, s7_4), (8, vB (z30 = (2 : Int))), (9, vI ↑i)]) (fun (i, l, s7_4, cs_5, kd_7, ma) => (.gs 33 9 s7_4 l.length cs_5 :: .var b6 68 cs_1 :: .var b 57 [vl, vI ↑kd_7] :: L)) (fun (i, l, s7_4, cs_5, kd_7, ma) => ma) (fun (i, l, s7_4, cs_5, kd_7, ma) => 8 - i) (0, [], (.slice none 0 0), [], k30, g30) ?_ ⟨rfl, rfl, rfl, rfl, rfl, rfl, rfl, rfl, trivial⟩ rfl rfl ?_
 ·
  refine ⟨MLe.refl _, ?_⟩
  refine ⟨rl_3, (by omega), ?_⟩
  exact ⟨⟨by omega, by decide⟩, rg_zero⟩
 intro x hx
 obtain ⟨i, l, s7_4, cs_5, kd_7, ma⟩ := x
 obtain ⟨hmma, hinv⟩ := hx
 show GC _ _ _ _ _ _ [(0, vP b 0), (3, vI (z12 - (4 : Int))), (4, vI (z15 - (4 : Int))), (5, vI ((1 : Int) + z18)), (6, vP b6 0), (7, s7_4), (8, vB (z30 = (2 : Int))), (9, vI ↑i)] (.gs 33 9 s7_4 l.length cs_5 :: .var b6 68 cs_1 :: .var b 57 [vl, vI ↑kd_7] :: L) ma
 obtain ⟨rl_6, hkd_8, hinv⟩ := hinv
 obtain ⟨⟨hi8, hll⟩, hrf⟩ := hinv
 refine zC (zC (zA (mv rfl rfl (gv (yH (q := 8) rfl rfl) rfl (zD (zB ?_))))))
 refine zH rfl (fun hc33 => ?_) (fun hc33 => ?_)
 ·
  refine zI (zB (zC (zQ (zC (zC (zA (mv rfl rfl ?_)))))))
  replace hl := hl.mono (hg30.trans hmma)
  refine gl_call_mut2 (A := [_, _]) (vs := [_, vI (4)]) Tryz.call15 ⟨rfl, rfl, trivial⟩ (fun X w hs => dice_next hl (by first | omega | exact Nat.zero_le _) (by omega) (by omega) hs) rfl ?_
  intro v37 g37 q37 hg37 hr37
  obtain ⟨k37, z37, rfl, hk37, rfl, hz37, hy37⟩ := hr37
  refine gv (ov_eql_i (q := 3) rfl rfl) rfl (zD (zB ?_))
  refine zH rfl (fun hc38 => ?_) (fun hc38 => ?_)
  ·
   refine gc_exit (zZ (gx_here (zB (zA (mv rfl rfl (gv (zV (q := 1) rfl rfl (by omega) (by omega)) rfl (asg rfl rfl (zD ?_))))))))
   refine yJ ((i + 1), l, s7_4, cs_5, k37, g37) ?_ ?_ ⟨rfl, rfl, rfl, rfl, rfl, rfl, rfl, rfl, trivial⟩ rfl rfl
   ·
    refine ⟨(hmma.trans hg37), ?_⟩
    replace rl_6 := rl_6.mono hg37
    refine ⟨rl_6, (by omega), ?_⟩
    exact ⟨⟨by omega, by omega⟩, rg_skip hrf⟩
   dsimp only
   omega
  refine zI (zB (zC (zA (mv rfl rfl (asg rfl rfl (zD (zB ?_)))))))
  refine gc_cut (ι := Nat × Nat × Mem) (fun (kk, kd_9, mc) => MLe g37 mc ∧ (kd_9 ≤ xs.length ∧ kk < 8 ∧ kk = rgK (z30 = (2 : Int)) i)) (fun (kk, kd_9, mc) => [(0, vP b 0), (3, vI (z12 - (4 : Int))), (4, vI (z15 - (4 : Int))), (5, vI ((1 : Int) + z18)), (6, vP b6 0), (7, s7_4), (8, vB (z30 = (2 : Int))), (9, vI ↑i), (10, vI ↑kk)]) (fun (kk, kd_9, mc) => (.gs 33 9 s7_4 l.length cs_5 :: .var b6 68 cs_1 :: .var b 57 [vl, vI ↑kd_9] :: L)) (fun (kk, kd_9, mc) => mc) ?_ ?_
  ·
   refine zC (zA (mv rfl rfl (zD (zB ?_))))
   refine zH rfl (fun hc40 => ?_) (fun hc40 => ?_)
   ·
    refine zA (mv rfl rfl (gv (ov_sub_i (p := 7) rfl rfl (by omega) (by omega)) rfl (asg rfl rfl (zD ?_))))
    refine zU ((7 - i), k37, g37) ?_ ⟨rfl, rfl, rfl, rfl, rfl, rfl, rfl, rfl, ?_, trivial⟩ rfl rfl
    ·
     refine ⟨MLe.refl _, ?_⟩
     refine ⟨(by omega), ?_⟩
     exact ⟨by omega, rgK_t hc40⟩
    · exact congrArg (fun z => some (vI z)) (by omega)
   refine zI ?_
   refine zU (i, k37, g37) ?_ ⟨rfl, rfl, rfl, rfl, rfl, rfl, rfl, rfl, rfl, trivial⟩ rfl rfl
   refine ⟨MLe.refl _, ?_⟩
   refine ⟨(by omega), ?_⟩
   exact ⟨by omega, rgK_f hc40⟩
  intro x hx
  obtain ⟨kk, kd_9, mc⟩ := x
  obtain ⟨hmmc, hcut⟩ := hx
  show GC _ _ _ _ _ _ [(0, vP b 0), (3, vI (z12 - (4 : Int))), (4, vI (z15 - (4 : Int))), (5, vI ((1 : Int) + z18)), (6, vP b6 0), (7, s7_4), (8, vB (z30 = (2 : Int))), (9, vI ↑i), (10, vI ↑kk)] (.gs 33 9 s7_4 l.length cs_5 :: .var b6 68 cs_1 :: .var b 57 [vl, vI ↑kd_9] :: L) mc
  obtain ⟨hkd_10, hcut⟩ := hcut
  obtain ⟨hk8, hkk⟩ := hcut
  refine gc_draw1 (A := []) 23 [] [(0, .q), (1, .q), (2, .q), (3, .q), (4, .q), (5, .q), (6, .q), (7, .q), (8, .q), (10, .q), (11, .q), (12, .q), (13, .q), (14, .q), (15, .q), (16, .q), (17, .q), (9, .c), (18, .c), (19, .q), (20, .c), (21, .c), (22, .q)] mixed (fun x hx => by cases hx) (chk_of [0, 0, 0, 0, 8, 16, 32, 68, 130, 256, 0, 0, 0, 4096, 8192, 16384, 34816, 66560, 131584, 262656, 524288, 1310721, 4194303] [8388607, 8388607, 8388607, 8388607, 8388599, 8388591, 8388575, 8388539, 8388477, 8388351, 8388607, 8388607, 8388607, 8384511, 8380415, 8372223, 8353791, 8322047, 8257535, 8125951, 7864319, 7340030, 6291454] (by kernel_rfl)) (fun x hx => by cases hx) (w_q rfl (fun h' L' hh hR => zF rfl) rfl (w_q rfl (fun h' L' hh hR => zF rfl) rfl (w_q rfl (fun h' L' hh hR => zF rfl) rfl (w_q rfl (fun h' L' hh hR => zF rfl) rfl (w_q rfl (fun h' L' hh hR => (zY (sz := 2) kk Tryz.underlying68 Tryz.sizeOf67 rfl rfl rfl (by omega)).cv (show _ = vP b6 ((kk * 2 + 0)) from congrArg (vP b6) (by omega))) rfl (w_q rfl (fun h' L' hh hR => (zY (sz := 1) (q := 0) 0 Tryz.underlying67 Tryz.sizeOf2 rfl rfl rfl (by decide)).cv (show _ = vP b6 ((kk * 2 + 0)) from congrArg (vP b6) (by omega))) rfl ?_))))))
  replace rb_2 := rb_2.mono (((hg30.trans hmma).trans hg37).trans hmmc)
  refine w_qx (F := fun v_ => rpI.Is mc v_ (([[(2 : Int), (0 : Int)], [(2 : Int), (1 : Int)], [(1 : Int), (2 : Int)], [(-1 : Int), (2 : Int)], [(-2 : Int), (0 : Int)], [(-2 : Int), (-1 : Int)], [(0 : Int), (-2 : Int)], [(1 : Int), (-1 : Int)]].getD kk (List.replicate 2 (0 : Int))).getD 0 (0 : Int))) rfl (zE ty2 (Pc.arr (Pc.arr (Pc.here _) (0 : Int) 0 (by decide)) (List.replicate 2 (0 : Int)) kk (by omega)) rfl rfl rb_2 rfl) (mem1 (.head _)) rfl ?_
  intro v49 r49
  obtain ⟨rfl, hl49, hu49⟩ := of_i r49
  refine w_q rfl (fun h' L' hh hR => ov_mul_i rfl rfl (by have h := five_mul (u := 1 + z18) (by omega) (by omega) (ring_b kk (by omega) 0 (by omega)); omega) (by have h := five_mul (u := 1 + z18) (by omega) (by omega) (ring_b kk (by omega) 0 (by omega)); omega)) rfl (w_q rfl (fun h' L' hh hR => zV rfl rfl (by have h := five_mul (u := 1 + z18) (by omega) (by omega) (ring_b kk (by omega) 0 (by omega)); omega) (by have h := five_mul (u := 1 + z18) (by omega) (by omega) (ring_b kk (by omega) 0 (by omega)); omega)) rfl (w_q rfl (fun h' L' hh hR => zF rfl) rfl (w_q rfl (fun h' L' hh hR => zF rfl) rfl (w_q rfl (fun h' L' hh hR => zF rfl) rfl (w_q rfl (fun h' L' hh hR => (zY (sz := 2) kk Tryz.underlying68 Tryz.sizeOf67 rfl rfl rfl (by omega)).cv (show _ = vP b6 ((kk * 2 + 0)) from congrArg (vP b6) (by omega))) rfl (w_q rfl (fun h' L' hh hR => (zY (sz := 1) (q := 1) 1 Tryz.underlying67 Tryz.sizeOf2 rfl rfl rfl (by decide)).cv (show _ = vP b6 ((kk * 2 + 1)) from congrArg (vP b6) (by omega))) rfl (w_qx (F := fun v_ => rpI.Is mc v_ (([[(2 : Int), (0 : Int)], [(2 : Int), (1 : Int)], [(1 : Int), (2 : Int)], [(-1 : Int), (2 : Int)], [(-2 : Int), (0 : Int)], [(-2 : Int), (-1 : Int)], [(0 : Int), (-2 : Int)], [(1 : Int), (-1 : Int)]].getD kk (List.replicate 2 (0 : Int))).getD 1 (0 : Int))) rfl (zE ty2 (Pc.arr (Pc.arr (Pc.here _) (0 : Int) 1 (by decide)) (List.replicate 2 (0 : Int)) kk (by omega)) rfl rfl rb_2 rfl) (mem1 (.head _)) rfl ?_)))))))
  intro v58 r58
  obtain ⟨rfl, hl58, hu58⟩ := of_i r58
  refine w_q rfl (fun h' L' hh hR => ov_mul_i rfl rfl (by have h := five_mul (u := 1 + z18) (by omega) (by omega) (ring_b kk (by omega) 1 (by omega)); omega) (by have h := five_mul (u := 1 + z18) (by omega) (by omega) (ring_b kk (by omega) 1 (by omega)); omega)) rfl (w_q rfl (fun h' L' hh hR => zV rfl rfl (by have h := five_mul (u := 1 + z18) (by omega) (by omega) (ring_b kk (by omega) 1 (by omega)); omega) (by have h := five_mul (u := 1 + z18) (by omega) (by omega) (ring_b kk (by omega) 1 (by omega)); omega)) rfl ?_)
  refine w_c rfl ?_
  refine yO (vs := [_]) Tryz.call32 ⟨rfl, trivial⟩ (fun w hs => o_rref_int hs (by have h := five_mul (u := 1 + z18) (by omega) (by omega) (ring_b kk (by omega) 0 (by omega)); omega) (by have h := five_mul (u := 1 + z18) (by omega) (by omega) (ring_b kk (by omega) 0 (by omega)); omega)) rfl ?_
  intro v52 h1 hh1 r52
  change (rpQ 2).Is h1 v52 ((((z12 - (4 : Int)) + (((1 : Int) + z18) * (([[(2 : Int), (0 : Int)], [(2 : Int), (1 : Int)], [(1 : Int), (2 : Int)], [(-1 : Int), (2 : Int)], [(-2 : Int), (0 : Int)], [(-2 : Int), (-1 : Int)], [(0 : Int), (-2 : Int)], [(1 : Int), (-1 : Int)]].getD kk (List.replicate 2 (0 : Int))).getD 0 (0 : Int)))) : Int) : Rat) at r52
  refine w_c rfl ?_
  refine yO (vs := [_]) Tryz.call32 ⟨rfl, trivial⟩ (fun w hs => o_rref_int hs (by have h := five_mul (u := 1 + z18) (by omega) (by omega) (ring_b kk (by omega) 1 (by omega)); omega) (by have h := five_mul (u := 1 + z18) (by omega) (by omega) (ring_b kk (by omega) 1 (by omega)); omega)) rfl ?_
  intro v61 h2 hh2 r61
  change (rpQ 2).Is h2 v61 ((((z15 - (4 : Int)) + (((1 : Int) + z18) * (([[(2 : Int), (0 : Int)], [(2 : Int), (1 : Int)], [(1 : Int), (2 : Int)], [(-1 : Int), (2 : Int)], [(-2 : Int), (0 : Int)], [(-2 : Int), (-1 : Int)], [(0 : Int), (-2 : Int)], [(1 : Int), (-1 : Int)]].getD kk (List.replicate 2 (0 : Int))).getD 1 (0 : Int)))) : Int) : Rat) at r61
  replace r52 := r52.mono hh2
  refine w_qx (F := fun v_ => (rpT (rpQ 2)).Is h2 v_ (T3.mk ((((z12 - (4 : Int)) + (((1 : Int) + z18) * (([[(2 : Int), (0 : Int)], [(2 : Int), (1 : Int)], [(1 : Int), (2 : Int)], [(-1 : Int), (2 : Int)], [(-2 : Int), (0 : Int)], [(-2 : Int), (-1 : Int)], [(0 : Int), (-2 : Int)], [(1 : Int), (-1 : Int)]].getD kk (List.replicate 2 (0 : Int))).getD 0 (0 : Int)))) : Int) : Rat) ((((z15 - (4 : Int)) + (((1 : Int) + z18) * (([[(2 : Int), (0 : Int)], [(2 : Int), (1 : Int)], [(1 : Int), (2 : Int)], [(-1 : Int), (2 : Int)], [(-2 : Int), (0 : Int)], [(-2 : Int), (-1 : Int)], [(0 : Int), (-2 : Int)], [(1 : Int), (-1 : Int)]].getD kk (List.replicate 2 (0 : Int))).getD 1 (0 : Int)))) : Int) : Rat) (0 : Rat))) rfl (ox_build_arr (ps' := [(0, _), (1, _)]) Tryz.underlying33 info33 rfl rfl Tryz.sizeOf31 ⟨rfl, rfl, rfl, rfl, trivial⟩ rfl (zr_t (zr_q (by decide))) (fx_one rfl (Pc.tx (Pc.here _)) r52 (fx_one rfl (Pc.ty (Pc.here _)) r61 fx_nil))) mem0 rfl ?_
  intro v62 r62
  refine w_c rfl (s_new (fun X => new_buildx (ρ := (rpT (rpQ 2))) (m := 1) (xs := [(T3.mk ((((z12 - (4 : Int)) + (((1 : Int) + z18) * (([[(2 : Int), (0 : Int)], [(2 : Int), (1 : Int)], [(1 : Int), (2 : Int)], [(-1 : Int), (2 : Int)], [(-2 : Int), (0 : Int)], [(-2 : Int), (-1 : Int)], [(0 : Int), (-2 : Int)], [(1 : Int), (-1 : Int)]].getD kk (List.replicate 2 (0 : Int))).getD 0 (0 : Int)))) : Int) : Rat) ((((z15 - (4 : Int)) + (((1 : Int) + z18) * (([[(2 : Int), (0 : Int)], [(2 : Int), (1 : Int)], [(1 : Int), (2 : Int)], [(-1 : Int), (2 : Int)], [(-2 : Int), (0 : Int)], [(-2 : Int), (-1 : Int)], [(0 : Int), (-2 : Int)], [(1 : Int), (-1 : Int)]].getD kk (List.replicate 2 (0 : Int))).getD 1 (0 : Int)))) : Int) : Rat) (0 : Rat))]) (ps' := [(0, _)]) Tryz.underlying36 info33 rfl rfl rfl (zr_t (zr_q (by decide))) ⟨rfl, rfl, trivial⟩ (fx_one rfl (Pc.arr (Pc.here _) (T3.mk (0 : Rat) (0 : Rat) (0 : Rat)) 0 (by decide)) r62 fx_nil) (show 1 * 9 ≤ 16777216 from by decide) (show 0 < 9 from by decide)) rfl ?_)
  intro v63 q63 hq63
  obtain ⟨cs63, rfl, rl63⟩ := hq63
  refine w_c rfl (s_freezex (A := []) (ρ := (rpT (rpQ 2))) rl63 (drop_kept (by first | (simp; done) | grind)) ?_)
  intro h3 hh3 rs_11
  replace rl_6 := rl_6.mono ((((hg37.trans hmmc).trans hh1).trans hh2).trans hh3)
  refine s_rep (A := []) (fun X => rep_appendx (ρ := (rpT (rpQ 2))) (bytes := 168) Tryz.underlying36 info33 rfl rfl rfl rfl (by decide) rfl rfl rl_6 rs_11 (by first | omega | (simp only [List.length_append, List.length_cons, List.length_nil, List.length_replicate, List.length_set]; omega)) (by first | omega | (simp only [List.length_append, List.length_cons, List.length_nil, List.length_replicate, List.length_set]; omega))) rfl (mem_kept (by first | (simp; done) | grind)) ?_
  intro v64 q64 hq64
  obtain ⟨cs64, rfl, rl64⟩ := hq64
  refine w_q rfl (fun h' L' hh hR => ov_assign rfl) rfl (w_nil (gq_in (zL (e' := [(0, _), (3, _), (4, _), (5, _), (6, _), (8, _), (9, _), (7, _)]) ⟨rfl, rfl, rfl, rfl, rfl, rfl, rfl, rfl, trivial⟩ (zB (zA (mv rfl rfl (gv (zV (q := 1) rfl rfl (by omega) (by omega)) rfl (asg rfl rfl (zD ?_)))))))))
  refine yJ ((i + 1), (l ++ [(T3.mk ((((z12 - (4 : Int)) + (((1 : Int) + z18) * (([[(2 : Int), (0 : Int)], [(2 : Int), (1 : Int)], [(1 : Int), (2 : Int)], [(-1 : Int), (2 : Int)], [(-2 : Int), (0 : Int)], [(-2 : Int), (-1 : Int)], [(0 : Int), (-2 : Int)], [(1 : Int), (-1 : Int)]].getD kk (List.replicate 2 (0 : Int))).getD 0 (0 : Int)))) : Int) : Rat) ((((z15 - (4 : Int)) + (((1 : Int) + z18) * (([[(2 : Int), (0 : Int)], [(2 : Int), (1 : Int)], [(1 : Int), (2 : Int)], [(-1 : Int), (2 : Int)], [(-2 : Int), (0 : Int)], [(-2 : Int), (-1 : Int)], [(0 : Int), (-2 : Int)], [(1 : Int), (-1 : Int)]].getD kk (List.replicate 2 (0 : Int))).getD 1 (0 : Int)))) : Int) : Rat) (0 : Rat))]), v64, cs64, kd_9, h3) ?_ ?_ ⟨rfl, rfl, rfl, rfl, rfl, rfl, rfl, rfl, trivial⟩ rfl rfl
  ·
   refine ⟨(((((hmma.trans hg37).trans hmmc).trans hh1).trans hh2).trans hh3), ?_⟩
   refine ⟨rl64, (by omega), ?_⟩
   exact ⟨⟨by omega, by simp only [List.length_append, List.length_cons, List.length_nil]; omega⟩, rg_next hrf hkk (ring_rp hk8)⟩
  dsimp only
  omega
 have ei8 : i = 8 := by omega
 have hr8 : 0 < (1 : Int) + z18 := by omega
 have hrg := hrf
 rw [ei8] at hrg
 refine gc_exit (zZ (zZ (gx_here (zB (zC (zC (zA (mv rfl rfl ?_))))))))
 replace hl := hl.mono (hg30.trans hmma)
 refine gl_call_mut2 (A := [_, _]) (vs := [_, vI (7)]) Tryz.call15 ⟨rfl, rfl, trivial⟩ (fun X w hs => dice_next hl (by first | omega | exact Nat.zero_le _) (by omega) (by omega) hs) rfl ?_
 intro v66 g66 q66 hg66 hr66
 obtain ⟨k66, z66, rfl, hk66, rfl, hz66, hy66⟩ := hr66
 refine gv (ov_eql_i (q := 6) rfl rfl) rfl ?_
 refine gl_cut (ι := Unit) 5 (fun _ => True) (fun _ => [(72, vB ((z66 = (6 : Int)) ∧ ((1 : Int) < (↑l.length : Int)))), (7, s7_4)]) (fun _ => (.gs 33 9 s7_4 l.length cs_5 :: .var b6 68 cs_1 :: .var b 57 [vl, vI ↑k66] :: L)) (fun _ => g66) ?_ ?_
 ·
  refine gl_cases (z66 = (6 : Int)) (fun hg => ?_) (fun hg => ?_)
  ·
   refine yG (zF (v := .bool true) (congrArg some (yI hg))) rfl rfl rfl (zT rfl rfl rfl (mv rfl rfl (zT rfl rfl rfl (gv (ov_len_os (.head _) Tryz.underlying36 rfl) rfl (zT rfl rfl rfl (gv (ov_gtr_i (q := 1) rfl rfl) rfl (gv (yF rfl rfl) rfl (zD ?_))))))))
   refine zU () trivial ⟨?_, rfl, trivial⟩ rfl rfl
   exact congrArg some (vB_and_t hg)
  refine yG (zF (v := .bool false) (congrArg some (yA hg))) rfl rfl rfl (zK rfl rfl rfl rfl rfl rfl (zK rfl rfl rfl rfl rfl rfl (zK rfl rfl rfl rfl rfl rfl (gv (yD rfl rfl) rfl (zD ?_)))))
  refine zU () trivial ⟨?_, rfl, trivial⟩ rfl rfl
  exact congrArg some (vB_and_f hg)
 intro _ _
 show GL _ _ _ _ _ _ _ [(72, vB ((z66 = (6 : Int)) ∧ ((1 : Int) < (↑l.length : Int)))), (7, s7_4)] (.gs 33 9 s7_4 l.length cs_5 :: .var b6 68 cs_1 :: .var b 57 [vl, vI ↑k66] :: L) g66
 refine zD (zB ?_)
 refine zH rfl (fun hc72 => ?_) (fun hc72 => ?_)
 ·
  refine gc_draw 9 _ [] [(0, .q), (1, .p), (2, .q), (3, .q), (4, .q), (5, .q), (6, .q), (7, .q), (8, .q), (9, .t), (10, .t), (11, .t)] mixed (fun x hx => by cases hx) (chk_of [0, 0, 0, 4, 8, 0, 32, 64, 157, 413, 1023, 2047] [4095, 4095, 4095, 4091, 4087, 4095, 4063, 4031, 4094, 3823, 4093, 2943] (by kernel_rfl)) (fun x hx => by cases hx) (fun r hr => hr) (w_q rfl (fun h' L' hh hR => zF rfl) rfl (w_p (⟨.inl rfl,  rfl⟩) rfl rfl (w_q rfl (fun h' L' hh hR => zF rfl) rfl (w_q rfl (fun h' L' hh hR => (ov_index_os (q := 1) 1 (hR _ (.head _)) Tryz.underlying36 Tryz.sizeOf33 rfl rfl rfl (by first | omega | (simp only [List.length_append, List.length_cons, List.length_nil, List.length_replicate, List.length_set]; omega)) (by decide)).cv (show _ = elemPtr 1 s7_4 9 from congrArg (elemPtr 1 s7_4) (by rfl))) rfl ?_))))
  replace rl_6 := rl_6.mono hg66
  refine w_qx (F := fun v_ => (rpT (rpQ 2)).Is g66 v_ (l.getD 1 (T3.mk (0 : Rat) (0 : Rat) (0 : Rat)))) rfl (ox_load_os ty33 (Pc.arr (Pc.here _) (T3.mk (0 : Rat) (0 : Rat) (0 : Rat)) 1 (by first | omega | (simp only [List.length_append, List.length_cons, List.length_nil, List.length_replicate, List.length_set]; omega))) rfl (by decide) rfl rl_6 rfl) (mem1 (.head _)) rfl ?_
  intro v77 r77
  refine w_q rfl (fun h' L' hh hR => zF rfl) rfl (w_q rfl (fun h' L' hh hR => (ov_index_os (q := 0) 0 (hR _ (.head _)) Tryz.underlying36 Tryz.sizeOf33 rfl rfl rfl (by first | omega | (simp only [List.length_append, List.length_cons, List.length_nil, List.length_replicate, List.length_set]; omega)) (by decide)).cv (show _ = elemPtr 1 s7_4 0 from congrArg (elemPtr 1 s7_4) (by rfl))) rfl (w_qx (F := fun v_ => (rpT (rpQ 2)).Is g66 v_ (l.getD 0 (T3.mk (0 : Rat) (0 : Rat) (0 : Rat)))) rfl (ox_load_os ty33 (Pc.arr (Pc.here _) (T3.mk (0 : Rat) (0 : Rat) (0 : Rat)) 0 (by first | omega | (simp only [List.length_append, List.length_cons, List.length_nil, List.length_replicate, List.length_set]; omega))) rfl (by decide) rfl rl_6 rfl) (mem1 (.head _)) rfl ?_))
  intro v80 r80
  refine w_q rfl (fun h' L' hh hR => (ov_index_os (q := 0) 0 (hR _ (.head _)) Tryz.underlying36 Tryz.sizeOf33 rfl rfl rfl (by first | omega | (simp only [List.length_append, List.length_cons, List.length_nil, List.length_replicate, List.length_set]; omega)) (by decide)).cv (show _ = elemPtr 1 s7_4 0 from congrArg (elemPtr 1 s7_4) (by rfl))) rfl (w_t_updos (A := []) (F := fun c_ => RL (rpT (rpQ 2)) g66 c_ (l.set 0 (l.getD 1 (T3.mk (0 : Rat) (0 : Rat) (0 : Rat))))) rfl (upd_os Tryz.sizeOf33 (Pc.arr (Pc.here _) (T3.mk (0 : Rat) (0 : Rat) (0 : Rat)) 0 (by first | omega | (simp only [List.length_append, List.length_cons, List.length_nil, List.length_replicate, List.length_set]; omega))) rfl (by decide) rfl rfl rl_6 r77 rfl) ?_)
  intro cs_12 rl_13
  refine w_t_val rfl ((ov_index_os (q := 1) 1 (.head _) Tryz.underlying36 Tryz.sizeOf33 rfl rfl rfl (by first | omega | (simp only [List.length_append, List.length_cons, List.length_nil, List.length_replicate, List.length_set]; omega)) (by decide)).cv (show _ = elemPtr 1 s7_4 9 from congrArg (elemPtr 1 s7_4) (by rfl))) rfl (w_t_updos (A := []) (F := fun c_ => RL (rpT (rpQ 2)) g66 c_ ((l.set 0 (l.getD 1 (T3.mk (0 : Rat) (0 : Rat) (0 : Rat)))).set 1 (l.getD 0 (T3.mk (0 : Rat) (0 : Rat) (0 : Rat))))) rfl (upd_os Tryz.sizeOf33 (Pc.arr (Pc.here _) (T3.mk (0 : Rat) (0 : Rat) (0 : Rat)) 1 (by first | omega | (simp only [List.length_append, List.length_cons, List.length_nil, List.length_replicate, List.length_set]; omega))) rfl (by decide) rfl rfl rl_13 r80 rfl) ?_)
  intro cs_14 rl_15
  refine w_nil (zL (e' := [(7, _)]) ⟨rfl, trivial⟩ (zB (zC (zA (mv rfl rfl (asg rfl rfl (zD (zB (zN (gq_freezex (A := []) (ρ := (rpT (rpQ 2))) rl_15 ?_))))))))))
  intro h1 hh1 rs_16
  refine gq_body1_own rfl rfl ?_
  exact ⟨_, (.cons _ (List.Sublist.refl _)), ((((((hg12.trans hg15).trans hg18).trans hg30).trans hmma).trans hg66).trans hh1), _, _, rfl, by omega, (by first | exact ⟨by omega, rg_fine hr8 hrg⟩ | exact ⟨by simp only [List.length_set]; omega, rg_swap hr8 hrg⟩), rs_16⟩
 refine zI (zB (zC (zA (mv rfl rfl (asg rfl rfl (zD (zB (zN ?_))))))))
 replace rl_6 := rl_6.mono hg66
 refine gq_freezex (A := []) (ρ := (rpT (rpQ 2))) rl_6 ?_
 intro h1 hh1 rs_17
 refine gq_body1_own rfl rfl ?_
 exact ⟨_, (.cons _ (List.Sublist.refl _)), ((((((hg12.trans hg15).trans hg18).trans hg30).trans hmma).trans hg66).trans hh1), _, _, rfl, by omega, (by first | exact ⟨by omega, rg_fine hr8 hrg⟩ | exact ⟨by simp only [List.length_set]; omega, rg_swap hr8 hrg⟩), rs_17⟩

end Go.Proofs.YtfpjclgbieppeaaGreat


namespace Bk
set_option linter.unusedVariables false
set_option linter.unusedSimpArgs false
open Go Go.RowKit
def RetMutO (w0 : World) (h0 : Mem) (h : Mem) (L : List Res) (G : Mem → Value → Res → Res → Prop) : Ending → World → Prop :=
  RetOwn w0 h0 (fun g v K => ∃ q' o, (o :: q' :: L).Sublist K ∧ MLe h g ∧ G g v q' o)
section
variable {P : Program} {n : Nat} {w0 : World} {h0 : Mem} {e : List (Nat × Value)} {L : List Res} {h : Mem} {Q : Exit → Act → World → Prop}
variable {ty : TypeId} {ps : String} {af : Array Edge}
theorem gl_call_mutO {ops : Array Oper} {rest : List Oper} {d f : Nat} {xs : List Operand} {ts : Array TypeId} {vs : List Value} {A B : List Res} {q : Res} {G : Mem → Value → Res → Res → Prop} (hcall : ∀ args w, (callFunc f args).run P w = .ok (.enter f args) w) (hvs : Evals e xs vs)
    (hc : ∀ X w, St w0 h0 (q :: X) h w → Calls P f vs.toArray w (RetMutO w0 h0 h X G)) (hn : Nat.ble (d + 1) n = true) (k : ∀ v g q' o, MLe h g → G g v q' o → GL P n w0 h0 ops Q rest ((d, v) :: e) (o :: (A ++ q' :: B)) g) :
    GL P n w0 h0 ops Q (⟨some d, .call { callee := .value (.func f), args := xs.toArray, argTypes := ts }, ty, ps, af, none⟩ :: rest) e (A ++ q :: B) h := by
  refine gl_front ?_
  refine gl_call_mut rfl rfl rfl hn hcall hvs (hc (A ++ B)) ?_
  rintro v g K ⟨q', o, hK, hle, hG⟩
  have := k v g q' o hle hG
  exact fun a w Ev S => this a w Ev ((S.sublist hK).perm (List.Perm.cons _ List.perm_middle.symm))
end
end Bk
