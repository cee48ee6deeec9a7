/- Texts that the proof needs, part 4. -/
import Derived.Test.YtghhjjmjpeehdaaGreatK3


namespace Bk
set_option linter.unusedVariables false
set_option linter.unusedSimpArgs false
open Go Go.RowKit
open Classical

abbrev Pt := T3 Rat
abbrev P2 := Rat × Rat
def pr (p : Pt) (i j : Nat) : P2 := (p.at i, p.at j)
def cr (u v w : P2) : Rat := (v.1 - u.1) * (w.2 - u.2) - (v.2 - u.2) * (w.1 - u.1)
noncomputable def orZ (u v w : P2) : Int := sgnQ (cr u v w)
def betwP (a b x : Rat) : Prop := (a ≤ x ∧ x ≤ b) ∨ (x ≤ a ∧ b ≤ x)
def onS (u v p : P2) : Prop := betwP u.1 v.1 p.1 ∧ betwP u.2 v.2 p.2 ∧ cr u v p = 0
def apartP (a b c d : Rat) : Prop := (a < c ∧ a < d ∧ b < c ∧ b < d) ∨ (c < a ∧ d < a ∧ c < b ∧ d < b)
def lx (u v : P2) : Prop := u.1 < v.1 ∨ (u.1 = v.1 ∧ u.2 < v.2)
noncomputable def lo2 (u v : P2) : P2 := if lx v u then v else u
noncomputable def hi2 (u v : P2) : P2 := if lx v u then u else v
noncomputable def alongS (a b c d : P2) : Int :=
  if lx (if lx d b then d else b) (if lx a c then c else a) then 0 else if lx (if lx a c then c else a) (if lx d b then d else b) then 3
  else if ((if lx a c then c else a) = a ∨ (if lx a c then c else a) = b) ∧ ((if lx a c then c else a) = c ∨ (if lx a c then c else a) = d) then 1 else 2
noncomputable def along2 (a b c d : P2) : Int := alongS (lo2 a b) (hi2 a b) (lo2 c d) (hi2 c d)
noncomputable def touch2 (a b c d : P2) : Int :=
  if apartP a.1 b.1 c.1 d.1 ∨ apartP a.2 b.2 c.2 d.2 then 0
  else if orZ a b c = 0 ∧ orZ a b d = 0 ∧ orZ c d a = 0 ∧ orZ c d b = 0 then along2 a b c d
  else if 0 < orZ a b c * orZ a b d ∨ 0 < orZ c d a * orZ c d b then 0
  else if (orZ a b c = 0 ∨ orZ a b d = 0) ∧ (orZ c d a = 0 ∨ orZ c d b = 0) then 1 else 2
noncomputable def lineR (a b c d : P2) : Int :=
  if lx (if lx d b then d else b) (if lx a c then c else a) then 0 else if (if lx a c then c else a) ≠ (if lx d b then d else b) then 3
  else if ((if lx a c then c else a) = a ∨ (if lx a c then c else a) = b) ∧ ((if lx a c then c else a) = c ∨ (if lx a c then c else a) = d) ∧ onS a b (if lx a c then c else a) ∧ onS c d (if lx a c then c else a) then 1
  else if onS a b (if lx a c then c else a) ∧ onS c d (if lx a c then c else a) then 2 else 0
noncomputable def singleR (a b c d : P2) : Int := if (a = b ∧ onS c d a) ∨ (c = d ∧ onS a b c) then 2 else 0
noncomputable def touchS (a b c d : P2) : Int :=
  if orZ a b c = 0 ∧ orZ a b d = 0 ∧ orZ c d a = 0 ∧ orZ c d b = 0 then lineR a b c d
  else if a = b ∨ c = d then singleR a b c d
  else if 0 < orZ a b c * orZ a b d ∨ 0 < orZ c d a * orZ c d b then 0
  else if a = c ∨ a = d ∨ b = c ∨ b = d then 1 else 2
noncomputable def touchR (a b c d : P2) : Int := touchS (lo2 a b) (hi2 a b) (lo2 c d) (hi2 c d)

def cr2 (ax ay bx by' cx cy : Rat) : Rat := (bx - ax) * (cy - ay) - (by' - ay) * (cx - ax)
def lex (ax ay bx by' : Rat) : Prop := ax < bx ∨ (ax = bx ∧ ay < by')
theorem cr_self (a c : P2) : cr a a c = 0 := by unfold cr; grind
theorem cr_end' (a c : P2) : cr a c a = 0 := by unfold cr; grind
end Bk


namespace Bk
set_option linter.unusedVariables false
set_option linter.unusedSimpArgs false
open Go Go.RowKit
open Classical

def smZ (q : Rat) : Int := if q.den ≠ 1 ∨ 1 < (zF q.num.natAbs).length then 0 else q.num
def smB (q : Rat) : Prop := q.den = 1 ∧ q.num.natAbs < 268435456
theorem len_le_one {n : Nat} (h : n < 4294967296) : (zF n).length ≤ 1 := uB (by rw [Nat.pow_one]; exact h)
theorem smB_len {q : Rat} (h : smB q) : (zF q.num.natAbs).length ≤ 1 := len_le_one (by have := h.2; omega)
theorem sm_eq {q : Rat} (h : smB q) : q = ((smZ q : Int) : Rat) ∧ -268435456 < smZ q ∧ smZ q < 268435456 := by
  have h1 := smB_len h
  have e : smZ q = q.num := by unfold smZ; rw [if_neg]; rintro (e | e); exact e h.1; omega
  have h2 := h.2
  refine ⟨?_, by rw [e]; omega, by rw [e]; omega⟩
  rw [e]
  have h3 := Rat.divInt_eq_div q.num q.den
  rw [Rat.num_divInt_den, h.1] at h3
  rw [h3]
  have e1 : ((1 : Nat) : Int) = 1 := rfl
  have : ((q.num : Rat) / ((((1 : Nat) : Int)) : Rat)) = (q.num : Rat) := by rw [e1]; have e2 : ((1 : Int) : Rat) = 1 := rfl; rw [e2]; grind
  rw [this]
  rw [h3] at *
  simp
theorem sm_e1 {q : Rat} (h : (0 : Int) < ↑(zF (denN q.den)).length ∨ (1 : Int) < ↑(zF q.num.natAbs).length) : smZ q = 0 ∧ ¬ smB q := by
  have h1 : q.den ≠ 1 ∨ 1 < (zF q.num.natAbs).length := by
    rcases h with h | h
    · left; intro e; rw [e, denN_one, wA] at h; simp at h
    · right; omega
  refine ⟨if_pos h1, fun hb => ?_⟩
  rcases h1 with e | e
  · exact e hb.1
  · have := smB_len hb; omega
theorem sm_den {q : Rat} (h : ¬ ((0 : Int) < ↑(zF (denN q.den)).length ∨ (1 : Int) < ↑(zF q.num.natAbs).length)) : q.den = 1 ∧ (zF q.num.natAbs).length ≤ 1 := by
  refine ⟨(denL_nil_iff q.den_nz).1 ?_, by omega⟩
  have : (zF (denN q.den)).length = 0 := by omega
  exact List.eq_nil_of_length_eq_zero this
theorem sm_num {q : Rat} (h : ¬ ((0 : Int) < ↑(zF (denN q.den)).length ∨ (1 : Int) < ↑(zF q.num.natAbs).length)) : smZ q = q.num := by
  obtain ⟨h1, h2⟩ := sm_den h
  unfold smZ
  rw [if_neg]
  rintro (e | e)
  · exact e h1
  · omega
theorem sm_e2 {q : Rat} (h : ¬ ((0 : Int) < ↑(zF (denN q.den)).length ∨ (1 : Int) < ↑(zF q.num.natAbs).length)) (h0 : (↑(zF q.num.natAbs).length : Int) = 0) : smZ q = 0 ∧ smB q := by
  obtain ⟨h1, h2⟩ := sm_den h
  have hn : q.num.natAbs = 0 := by
    refine Classical.byContradiction fun e => ?_
    have := wD.2 e
    omega
  refine ⟨by rw [sm_num h]; omega, h1, by omega⟩
theorem sm_limb {q : Rat} (h : ¬ ((0 : Int) < ↑(zF (denN q.den)).length ∨ (1 : Int) < ↑(zF q.num.natAbs).length)) (h0 : ¬ (↑(zF q.num.natAbs).length : Int) = 0) : (zF q.num.natAbs).getD 0 0 = q.num.natAbs ∧ q.num.natAbs < 4294967296 ∧ (smB q ↔ q.num.natAbs < 268435456) := by
  obtain ⟨h1, h2⟩ := sm_den h
  have h3 := val_one (xs := zF q.num.natAbs) (by omega)
  rw [zV] at h3
  have h4 := vX q.num.natAbs
  have h5 : (zF q.num.natAbs).length = 1 := by omega
  rw [h5, Nat.pow_one] at h4
  exact ⟨h3.symm, h4, fun e => e.2, fun e => ⟨h1, e⟩⟩
theorem tup_small {x y : Int} {p q : Prop} (h1 : x = y) (h2 : p ↔ q) : Value.tuple #[vI x, vB p] = .tuple #[vI y, vB q] := by subst h1; rw [vB_iff h2]
def sgnZ (n : Int) : Int := if 0 < n then 1 else if n < 0 then -1 else 0
theorem sgn_cast (n : Int) : sgnQ (n : Rat) = sgnZ n := by
  rw [sgnQ_lt]
  unfold sgnZ
  have h0 : ((n : Rat) = 0) ↔ n = 0 := by
    have e : (0 : Rat) = ((0 : Int) : Rat) := rfl
    rw [e, Rat.intCast_inj]
  have h1 : ((n : Rat) < 0) ↔ n < 0 := by
    have e : (0 : Rat) = ((0 : Int) : Rat) := rfl
    rw [e, Rat.intCast_lt_intCast]
  simp only [h0, h1]
  split
  · rename_i h; subst h; simp
  · split
    · rw [if_neg (by omega)]
    · rw [if_pos (by omega)]
noncomputable def loT (a b : Pt) (i j : Nat) : Pt := if lx (pr b i j) (pr a i j) then b else a
noncomputable def hiT (a b : Pt) (i j : Nat) : Pt := if lx (pr b i j) (pr a i j) then a else b
noncomputable def mxT (a c : Pt) (i j : Nat) : Pt := if lx (pr a i j) (pr c i j) then c else a
noncomputable def mnT (b d : Pt) (i j : Nat) : Pt := if lx (pr d i j) (pr b i j) then d else b
end Bk


namespace Bk
set_option linter.unusedVariables false
set_option linter.unusedSimpArgs false
open Go Go.RowKit
open Classical

def gp (l : List Pt) (m : Nat) : Pt := l.getD m (T3.mk (0 : Rat) (0 : Rat) (0 : Rat))
def areaTo (l : List Pt) (i j : Nat) : Nat → Rat
  | 0 => 0
  | m + 1 => areaTo l i j m + ((gp l m).at i * (gp l ((m + 1) % l.length)).at j - (gp l ((m + 1) % l.length)).at i * (gp l m).at j)
def crossP (a b p : P2) : Prop := ¬ (a.2 ≤ p.2 ↔ b.2 ≤ p.2) ∧ ((a.2 ≤ p.2 ∧ 0 < orZ a b p) ∨ (b.2 ≤ p.2 ∧ orZ a b p < 0))
def edgeA (l : List Pt) (i j m : Nat) : P2 := pr (gp l m) i j
def edgeB (l : List Pt) (i j m : Nat) : P2 := pr (gp l ((m + 1) % l.length)) i j
def oddTo (l : List Pt) (p : P2) (i j : Nat) : Nat → Prop
  | 0 => False
  | m + 1 => (crossP (edgeA l i j m) (edgeB l i j m) p ∧ ¬ oddTo l p i j m) ∨ (¬ crossP (edgeA l i j m) (edgeB l i j m) p ∧ oddTo l p i j m)
noncomputable def insZ (l : List Pt) (p : P2) (i j : Nat) : Int :=
  if ∃ m, m < l.length ∧ onS (edgeA l i j m) (edgeB l i j m) p then 0 else if oddTo l p i j l.length then 1 else -1
noncomputable def lineT (a b c d lo hi : Pt) : Int :=
  if lx (pr hi 0 1) (pr lo 0 1) then 0 else if ¬ pr lo 0 1 = pr hi 0 1 then 3
  else if (((pr lo 0 1 = pr a 0 1 ∨ pr lo 0 1 = pr b 0 1) ∧ (pr lo 0 1 = pr c 0 1 ∨ pr lo 0 1 = pr d 0 1)) ∧ onS (pr a 0 1) (pr b 0 1) (pr lo 0 1)) ∧ onS (pr c 0 1) (pr d 0 1) (pr lo 0 1) then 1
  else if onS (pr a 0 1) (pr b 0 1) (pr lo 0 1) ∧ onS (pr c 0 1) (pr d 0 1) (pr lo 0 1) then 2 else 0
noncomputable def touchT (a b c d : Pt) : Int :=
  if ((orZ (pr a 0 1) (pr b 0 1) (pr c 0 1) = 0 ∧ orZ (pr a 0 1) (pr b 0 1) (pr d 0 1) = 0) ∧ orZ (pr c 0 1) (pr d 0 1) (pr a 0 1) = 0) ∧ orZ (pr c 0 1) (pr d 0 1) (pr b 0 1) = 0 then lineR (pr a 0 1) (pr b 0 1) (pr c 0 1) (pr d 0 1)
  else if pr a 0 1 = pr b 0 1 ∨ pr c 0 1 = pr d 0 1 then singleR (pr a 0 1) (pr b 0 1) (pr c 0 1) (pr d 0 1)
  else if 0 < orZ (pr a 0 1) (pr b 0 1) (pr c 0 1) * orZ (pr a 0 1) (pr b 0 1) (pr d 0 1) ∨ 0 < orZ (pr c 0 1) (pr d 0 1) (pr a 0 1) * orZ (pr c 0 1) (pr d 0 1) (pr b 0 1) then 0
  else if ((pr a 0 1 = pr c 0 1 ∨ pr a 0 1 = pr d 0 1) ∨ pr b 0 1 = pr c 0 1) ∨ pr b 0 1 = pr d 0 1 then 1 else 2
end Bk


namespace Go.Proofs.YtghhjjmjpeehdaaGreat
open Bk Go
set_option linter.unusedVariables false
set_option linter.unusedSimpArgs false
set_option maxRecDepth 10000

theorem pl_small {w0 : World} {h0 : Mem}  (hs : MLe h0 (mem w0)) {qa : Rat} {vna vda : Value} (hna : Us .u32 h0 vna (zF qa.num.natAbs)) (hda : Us .u32 h0 vda (zF (denN qa.den))) :
    Calls Tryz.prog 98 #[.agg #[vB (qa.num < 0), vna, vda]] w0 (Ret w0 h0 (fun _ r => r = .tuple #[vI (smZ qa), vB (smB qa)])) := by
 refine zP (n := 33) (e := [(0, .agg #[vB (qa.num < 0), vna, vda])]) (vs := [.agg #[vB (qa.num < 0), vna, vda]]) Tryz.func98 rfl rfl (Nat.le_of_ble_eq_true rfl) hs ⟨rfl, trivial⟩ (zC (zA (zL (wQ (cs := [_, _, _]) rfl rfl) rfl rfl rfl ?_)))
 intro v1 r1 hr1
 obtain ⟨b1, rfl, rfl⟩ := hr1
 refine asg (v := vI (0)) rfl rfl (asg rfl rfl (zD (zB (zC (zC (zA (gv (zH Tryz.underlying30 rfl Tryz.sizeOf28 rfl) rfl (gv (zU (.head _) Tryz.isAgg28 rfl rfl) rfl (gv (zZ Tryz.underlying28 rfl hda) rfl (gv (vD (q := 0) rfl rfl) rfl ?_))))))))))
 refine vM (ι := Unit) 6 (fun _ => True) (fun _ => [(14, vB (((0 : Int) < (↑(zF (denN qa.den)).length : Int)) ∨ ((1 : Int) < (↑(zF qa.num.natAbs).length : Int)))), (1, vP b1 0)]) (fun _ => [.var b1 30 [vB (qa.num < 0), vna, vda]]) (fun _ => h0) ?_ ?_
 ·
  refine wI ((0 : Int) < (↑(zF (denN qa.den)).length : Int)) (fun hg => ?_) (fun hg => ?_)
  ·
   refine xK (zG (v := .bool true) (congrArg some (xT hg))) rfl rfl rfl (yM rfl rfl rfl rfl rfl rfl (yM rfl rfl rfl rfl rfl rfl (yM rfl rfl rfl rfl rfl rfl (yM rfl rfl rfl rfl rfl rfl (gv (xR rfl rfl) rfl (zD ?_))))))
   refine yP () trivial ⟨?_, rfl, trivial⟩ rfl rfl
   exact congrArg some (vB_or_t hg)
  refine xK (zG (v := .bool false) (congrArg some (xD hg))) rfl rfl rfl (yW rfl rfl rfl (gv (zH Tryz.underlying30 rfl Tryz.sizeOf28 rfl) rfl (yW rfl rfl rfl (gv (zU (.head _) Tryz.isAgg28 rfl rfl) rfl (yW rfl rfl rfl (gv (zZ Tryz.underlying28 rfl hna) rfl (yW rfl rfl rfl (gv (vD (q := 1) rfl rfl) rfl (gv (xU rfl rfl) rfl (zD ?_))))))))))
  refine yP () trivial ⟨?_, rfl, trivial⟩ rfl rfl
  exact congrArg some (vB_or_f hg)
 intro _ _
 show GL _ _ _ _ _ _ _ [(14, vB (((0 : Int) < (↑(zF (denN qa.den)).length : Int)) ∨ ((1 : Int) < (↑(zF qa.num.natAbs).length : Int)))), (1, vP b1 0)] [.var b1 30 [vB (qa.num < 0), vna, vda]] h0
 refine zD (zB ?_)
 refine zN rfl (fun hc14 => ?_) (fun hc14 => ?_)
 ·
  refine zC (zA (asg (v := vI (0)) rfl rfl (asg rfl rfl (zD (zB (zQ (yE (vN rfl rfl rfl ?_))))))))
  obtain ⟨e1, e2⟩ := sm_e1 hc14
  rw [e1, xD e2]
 refine zK (zB (zC (zC (zA (gv (zH Tryz.underlying30 rfl Tryz.sizeOf28 rfl) rfl (gv (zU (.head _) Tryz.isAgg28 rfl rfl) rfl (gv (zZ Tryz.underlying28 rfl hna) rfl (gv (wC (q := 0) rfl rfl) rfl (zD (zB ?_))))))))))
 refine zN rfl (fun hc18 => ?_) (fun hc18 => ?_)
 ·
  refine zC (zA (asg (v := vI (0)) rfl rfl (asg rfl rfl (zD (zB (zQ (yE (vN rfl rfl rfl ?_))))))))
  obtain ⟨e1, e2⟩ := sm_e2 hc14 hc18
  rw [e1, xT e2]
 obtain ⟨hs1, hs2, hs3⟩ := sm_limb hc14 hc18
 have hs4 := sm_num hc14
 refine zK (zB (zC (zA (gv (zH Tryz.underlying30 rfl Tryz.sizeOf28 rfl) rfl (gv (zU (.head _) Tryz.isAgg28 rfl rfl) rfl (gv (yN (q := 0) (0) Tryz.underlying28 Tryz.sizeOf124 rfl rfl hna rfl (by omega)) rfl (gv (yS Tryz.isAgg124 rfl hna (by omega)) rfl ?_)))))))
 rw [hs1]
 refine gv (ov_conv_ui (k := .u32) Tryz.underlying124 Tryz.underlying2 rfl (by omega)) rfl (asg rfl rfl (zD (zJ (e' := [(1, _), (4, _)]) ⟨rfl, rfl, trivial⟩ (zB (zC (zC (zA (gv (zH Tryz.underlying30 rfl Tryz.sizeOf4 rfl) rfl (gv (zU (.head _) Tryz.isAgg4 rfl rfl) rfl (zD (zB ?_)))))))))))
 refine zN rfl (fun hc25 => ?_) (fun hc25 => ?_)
 ·
  have hneg := hc25
  refine zC (zA (mv rfl rfl (gv (ov_neg_i rfl (by omega) (by omega)) rfl (mv rfl rfl (gv (zW (q := 268435456) rfl rfl) rfl (asg rfl rfl (asg rfl rfl (zD (zB (zQ (yE (vN rfl rfl rfl ?_))))))))))))
  exact tup_small (by omega) (Iff.trans (by omega) hs3.symm)
 have hneg := hc25
 refine zK (zB (zC (zA (mv rfl rfl (mv rfl rfl (gv (zW (q := 268435456) rfl rfl) rfl (asg rfl rfl (asg rfl rfl (zD (zB (zQ (vN rfl rfl rfl ?_))))))))))))
 exact tup_small (by omega) (Iff.trans (by omega) hs3.symm)

theorem o_pl_small {w0 : World} {h0 : Mem} (hs : MLe h0 (mem w0)) {k : Nat} {va : Value} {a : Rat} (ra : (rpQ k).Is h0 va a) : Calls Tryz.prog 98 #[va] w0 (Ret w0 h0 (fun _ r => r = .tuple #[vI (smZ a), vB (smB a)])) := by
  obtain ⟨vna, vda, rfl, hna, hda, hla⟩ := open_q ra
  exact pl_small hs hna hda

theorem o_pl_sign {w0 : World} {h0 : Mem}  (hs : MLe h0 (mem w0)) {n : Int} (hn1 : -9223372036854775808 ≤ n) (hn2 : n < 9223372036854775808)  :
    Calls Tryz.prog 100 #[vI n] w0 (Ret w0 h0 (fun _ r => r = vI (sgnZ n))) := by
 refine zP (n := 9) (e := [(0, vI n)]) (vs := [vI n]) Tryz.func100 rfl rfl (Nat.le_of_ble_eq_true rfl) hs ⟨rfl, trivial⟩ (zC (zA (asg (v := vI (0)) rfl rfl (zD (zB (zC (zR (zC (zA (mv rfl rfl (gv (vD (q := 0) rfl rfl) rfl (asg rfl rfl (zD ?_)))))))))))))
 refine zB ?_
 refine zN rfl (fun hc3 => ?_) (fun hc3 => ?_)
 ·
  refine zC (zA (asg (v := vI (1)) rfl rfl (zD (zB (zQ (gr_in (yE (yG rfl rfl ?_))))))))
  unfold sgnZ; rw [if_pos hc3]
 refine zC (zA (mv rfl rfl (gv (zW (q := 0) rfl rfl) rfl (asg rfl rfl (zD (zB ?_))))))
 refine zN rfl (fun hc6 => ?_) (fun hc6 => ?_)
 ·
  refine zC (zA (asg (v := vI (-1)) rfl rfl (zD (zB (zQ (gr_in (yE (yG rfl rfl ?_))))))))
  unfold sgnZ; rw [if_neg hc3, if_pos hc6]
 refine zK (yV (zB (zC (zA (asg (v := vI (0)) rfl rfl (zD (zB (zQ (yG rfl rfl ?_)))))))))
 unfold sgnZ; rw [if_neg hc3, if_neg hc6]

end Go.Proofs.YtghhjjmjpeehdaaGreat


namespace Go.Proofs.YtghhjjmjpeehdaaGreat
open Bk Go
set_option linter.unusedVariables false
set_option linter.unusedSimpArgs false
set_option maxRecDepth 10000

theorem o_r4_add {w0 : World} {h0 : Mem}  (hs : MLe h0 (mem w0)) {k l : Nat} {va : Value} {a : (T3 Rat)} (ra : (rpT (rpQ k)).Is h0 va a) {vb : Value} {b : (T3 Rat)} (rb : (rpT (rpQ l)).Is h0 vb b) (hcd0 : k + l ≤ 1000000000)  :
    Calls Tryz.prog 19 #[va, vb] w0 (Ret w0 h0 (fun h r => (rpT (rpQ (k + 3 * l + 3))).Is h r (T3.mk (a.x + b.x) (a.y + b.y) (a.z + b.z)))) := by
 refine zP (n := 20) (e := [(0, va), (1, vb)]) (vs := [va, vb]) Tryz.func19 rfl rfl (Nat.le_of_ble_eq_true rfl) hs ⟨rfl, rfl, trivial⟩ (zC (zA (zL (xL (ρ := (rpT (rpQ k))) rfl ra) rfl rfl rfl ?_)))
 intro v2 q2 hq2
 obtain ⟨b2, cs2, rfl, rfl, rb2⟩ := hq2
 refine zL (xL (ρ := (rpT (rpQ l))) rfl rb) rfl rfl rfl ?_
 intro v3 q3 hq3
 obtain ⟨b3, cs3, rfl, rfl, rb3⟩ := hq3
 refine zL (xE (ρ := (rpT (rpQ (k + 3 * l + 3)))) (X := (T3.mk (0 : Rat) (0 : Rat) (0 : Rat))) yC rfl rfl (zr_t (zr_q (by omega)))) rfl rfl rfl ?_
 intro v4 q4 hq4
 obtain ⟨b4, cs4, rfl, rfl, rb4⟩ := hq4
 refine zD (zB (zC (zC (zA (asg (v := vI (0)) rfl rfl (zD (zB (zR (gc_loop1 (zC (zC (zA (mv rfl rfl ?_)))))))))))))
 refine gv (OpV.tr (by decide) (zW (q := 3) rfl rfl)) rfl (zD (zB (xX rfl (zK (zB (zC (zR ?_)))))))
 refine yK 9 _ [] [(0, .q), (1, .q), (2, .q), (3, .q), (4, .q), (5, .q), (6, .q), (7, .c), (8, .q), (9, .t)] xN (fun x hx => by cases hx) (by kernel_rfl) (fun x hx => by cases hx) (fun r hr => hr) (w_q rfl (fun h' L' hh hR => zG rfl) rfl (w_q rfl (fun h' L' hh hR => zG rfl) rfl (w_q rfl (fun h' L' hh hR => (zI (sz := 3) 0 Tryz.underlying32 Tryz.sizeOf30 rfl rfl rfl (by decide)).cv (show _ = vP b2 0 from congrArg (vP b2) (by rfl))) rfl (w_qx (F := fun v_ => (rpQ k).Is h0 v_ a.x) rfl (zE ty30 (Pc.tx (Pc.here _)) rfl rfl rb2 rfl) (mem1 (.tail _ (.tail _ (.head _)))) rfl ?_))))
 intro v13u1 r13u1
 refine w_q rfl (fun h' L' hh hR => zG rfl) rfl (w_q rfl (fun h' L' hh hR => (zI (sz := 3) 0 Tryz.underlying32 Tryz.sizeOf30 rfl rfl rfl (by decide)).cv (show _ = vP b3 0 from congrArg (vP b3) (by rfl))) rfl (w_qx (F := fun v_ => (rpQ l).Is h0 v_ b.x) rfl (zE ty30 (Pc.tx (Pc.here _)) rfl rfl rb3 rfl) (mem1 (.tail _ (.head _))) rfl ?_))
 intro v16u1 r16u1
 refine w_c rfl ?_
 refine yI (vs := [_, _]) Tryz.call53 ⟨rfl, rfl, trivial⟩ (fun w hs => o_rref_add hs r13u1 r16u1 (by omega)) rfl ?_
 intro v17u1 h1 hh1 r17u1
 change (rpQ (k + l + 1)).Is h1 v17u1 (a.x + b.x) at r17u1
 refine w_q rfl (fun h' L' hh hR => (zI (sz := 3) 0 Tryz.underlying32 Tryz.sizeOf30 rfl rfl rfl (by decide)).cv (show _ = vP b2 0 from congrArg (vP b2) (by rfl))) rfl ?_
 replace rb2 := rb2.mono hh1
 have rw_1 := (Le.t (Le.q (l := k + l + 1) (by omega))).R rb2
 refine wB (A := [_, _]) (F := fun c_ => (rpT (rpQ (k + l + 1))).R h1 c_ (T3.mk (a.x + b.x) a.y a.z)) rfl (yJ Tryz.sizeOf30 (Pc.tx (Pc.here _)) rfl rfl rfl rw_1 r17u1 rfl) ?_
 intro cs_2 rb_3
 refine yZ (yV (zJ (e' := [(2, _), (3, _), (4, _), (5, _)]) ⟨rfl, rfl, rfl, rfl, trivial⟩ (zB (zA (mv rfl rfl (gv ((zS (q := 1) rfl rfl (by omega) (by omega)).cv (show _ = vI (1) from rfl)) rfl (asg rfl rfl (zD (xY (zC (zC (zA (mv rfl rfl ?_)))))))))))))
 refine gv (OpV.tr (by decide) (zW (q := 3) rfl rfl)) rfl (zD (zB (xX rfl (zK (zB (zC (zR ?_)))))))
 refine yK 9 _ [] [(0, .q), (1, .q), (2, .q), (3, .q), (4, .q), (5, .q), (6, .q), (7, .c), (8, .q), (9, .t)] xN (fun x hx => by cases hx) (by kernel_rfl) (fun x hx => by cases hx) (fun r hr => hr) (w_q rfl (fun h' L' hh hR => zG rfl) rfl (w_q rfl (fun h' L' hh hR => zG rfl) rfl (w_q rfl (fun h' L' hh hR => (zI (sz := 3) 1 Tryz.underlying32 Tryz.sizeOf30 rfl rfl rfl (by decide)).cv (show _ = vP b2 3 from congrArg (vP b2) (by rfl))) rfl (w_qx (F := fun v_ => (rpQ (k + l + 1)).Is h1 v_ a.y) rfl (zE ty30 (Pc.ty (Pc.here _)) rfl rfl rb_3 rfl) (mem1 (.tail _ (.tail _ (.head _)))) rfl ?_))))
 intro v13u2 r13u2
 refine w_q rfl (fun h' L' hh hR => zG rfl) rfl (w_q rfl (fun h' L' hh hR => (zI (sz := 3) 1 Tryz.underlying32 Tryz.sizeOf30 rfl rfl rfl (by decide)).cv (show _ = vP b3 3 from congrArg (vP b3) (by rfl))) rfl ?_)
 replace rb3 := rb3.mono hh1
 refine w_qx (F := fun v_ => (rpQ l).Is h1 v_ b.y) rfl (zE ty30 (Pc.ty (Pc.here _)) rfl rfl rb3 rfl) (mem1 (.tail _ (.head _))) rfl ?_
 intro v16u2 r16u2
 refine w_c rfl ?_
 refine yI (vs := [_, _]) Tryz.call53 ⟨rfl, rfl, trivial⟩ (fun w hs => o_rref_add hs r13u2 r16u2 (by omega)) rfl ?_
 intro v17u2 h2 hh2 r17u2
 change (rpQ ((k + l + 1) + l + 1)).Is h2 v17u2 (a.y + b.y) at r17u2
 replace r17u2 := Rp.Is.le r17u2 (Le.q (l := k + 2 * l + 2) (by omega))
 refine w_q rfl (fun h' L' hh hR => (zI (sz := 3) 1 Tryz.underlying32 Tryz.sizeOf30 rfl rfl rfl (by decide)).cv (show _ = vP b2 3 from congrArg (vP b2) (by rfl))) rfl ?_
 replace rb_3 := rb_3.mono hh2
 have rw_4 := (Le.t (Le.q (l := k + 2 * l + 2) (by omega))).R rb_3
 refine wB (A := [_, _]) (F := fun c_ => (rpT (rpQ (k + 2 * l + 2))).R h2 c_ (T3.mk (a.x + b.x) (a.y + b.y) a.z)) rfl (yJ Tryz.sizeOf30 (Pc.ty (Pc.here _)) rfl rfl rfl rw_4 r17u2 rfl) ?_
 intro cs_5 rb_6
 refine yZ (yV (zJ (e' := [(2, _), (3, _), (4, _), (5, _)]) ⟨rfl, rfl, rfl, rfl, trivial⟩ (zB (zA (mv rfl rfl (gv ((zS (q := 1) rfl rfl (by omega) (by omega)).cv (show _ = vI (2) from rfl)) rfl (asg rfl rfl (zD (xY (zC (zC (zA (mv rfl rfl ?_)))))))))))))
 refine gv (OpV.tr (by decide) (zW (q := 3) rfl rfl)) rfl (zD (zB (xX rfl (zK (zB (zC (zR ?_)))))))
 refine yK 9 _ [] [(0, .q), (1, .q), (2, .q), (3, .q), (4, .q), (5, .q), (6, .q), (7, .c), (8, .q), (9, .t)] xN (fun x hx => by cases hx) (by kernel_rfl) (fun x hx => by cases hx) (fun r hr => hr) (w_q rfl (fun h' L' hh hR => zG rfl) rfl (w_q rfl (fun h' L' hh hR => zG rfl) rfl (w_q rfl (fun h' L' hh hR => (zI (sz := 3) 2 Tryz.underlying32 Tryz.sizeOf30 rfl rfl rfl (by decide)).cv (show _ = vP b2 6 from congrArg (vP b2) (by rfl))) rfl (w_qx (F := fun v_ => (rpQ (k + 2 * l + 2)).Is h2 v_ a.z) rfl (zE ty30 (Pc.tz (Pc.here _)) rfl rfl rb_6 rfl) (mem1 (.tail _ (.tail _ (.head _)))) rfl ?_))))
 intro v13u3 r13u3
 refine w_q rfl (fun h' L' hh hR => zG rfl) rfl (w_q rfl (fun h' L' hh hR => (zI (sz := 3) 2 Tryz.underlying32 Tryz.sizeOf30 rfl rfl rfl (by decide)).cv (show _ = vP b3 6 from congrArg (vP b3) (by rfl))) rfl ?_)
 replace rb3 := rb3.mono hh2
 refine w_qx (F := fun v_ => (rpQ l).Is h2 v_ b.z) rfl (zE ty30 (Pc.tz (Pc.here _)) rfl rfl rb3 rfl) (mem1 (.tail _ (.head _))) rfl ?_
 intro v16u3 r16u3
 refine w_c rfl ?_
 refine yI (vs := [_, _]) Tryz.call53 ⟨rfl, rfl, trivial⟩ (fun w hs => o_rref_add hs r13u3 r16u3 (by omega)) rfl ?_
 intro v17u3 h3 hh3 r17u3
 change (rpQ ((k + 2 * l + 2) + l + 1)).Is h3 v17u3 (a.z + b.z) at r17u3
 replace r17u3 := Rp.Is.le r17u3 (Le.q (l := k + 3 * l + 3) (by omega))
 refine w_q rfl (fun h' L' hh hR => (zI (sz := 3) 2 Tryz.underlying32 Tryz.sizeOf30 rfl rfl rfl (by decide)).cv (show _ = vP b2 6 from congrArg (vP b2) (by rfl))) rfl ?_
 replace rb_6 := rb_6.mono hh3
 have rw_7 := (Le.t (Le.q (l := k + 3 * l + 3) (by omega))).R rb_6
 refine wB (A := [_, _]) (F := fun c_ => (rpT (rpQ (k + 3 * l + 3))).R h3 c_ (T3.mk (a.x + b.x) (a.y + b.y) (a.z + b.z))) rfl (yJ Tryz.sizeOf30 (Pc.tz (Pc.here _)) rfl rfl rfl rw_7 r17u3 rfl) ?_
 intro cs_8 rb_9
 refine yZ (yV (zJ (e' := [(2, _), (3, _), (4, _), (5, _)]) ⟨rfl, rfl, rfl, rfl, trivial⟩ (zB (zA (mv rfl rfl (gv ((zS (q := 1) rfl rfl (by omega) (by omega)).cv (show _ = vI (3) from rfl)) rfl (asg rfl rfl (zD (xY (zC (zC (zA (mv rfl rfl ?_)))))))))))))
 refine gv (OpV.fa (by decide) (zW (q := 3) rfl rfl)) rfl (zD (zB (vW rfl (xG (yB (yB (xF (zB (zC (zA (gl_x (F := fun v_ => (rpT (rpQ (k + 3 * l + 3))).Is h3 v_ (T3.mk (a.x + b.x) (a.y + b.y) (a.z + b.z))) (zE ty32 (Pc.here _) rfl rfl rb_9 rfl) (mem1 (.tail _ (.tail _ (.head _)))) rfl ?_)))))))))))
 intro v19u4 r19u4
 replace rb4 := rb4.mono ((hh1.trans hh2).trans hh3)
 refine wE (A := []) (F := fun c_ => (rpT (rpQ (k + 3 * l + 3))).R h3 c_ (T3.mk (a.x + b.x) (a.y + b.y) (a.z + b.z))) (yJ Tryz.sizeOf32 (Pc.here _) rfl rfl rfl rb4 r19u4 rfl) ?_
 intro cs_10 rb_11
 refine zD (zB (zQ (gq_exv (rv_o (t := 4) ty32 (.head _) rfl rb_11) ?_)))
 intro w_12 hvw_12 rr_13
 refine xS (fun E S => yR rfl hvw_12 E S) ?_
 exact rr_13

theorem o_r4_sub {w0 : World} {h0 : Mem}  (hs : MLe h0 (mem w0)) {k l : Nat} {va : Value} {a : (T3 Rat)} (ra : (rpT (rpQ k)).Is h0 va a) {vb : Value} {b : (T3 Rat)} (rb : (rpT (rpQ l)).Is h0 vb b) (hcd0 : k + l ≤ 1000000000)  :
    Calls Tryz.prog 23 #[va, vb] w0 (Ret w0 h0 (fun h r => (rpT (rpQ (k + 3 * l + 3))).Is h r (T3.mk (a.x - b.x) (a.y - b.y) (a.z - b.z)))) := by
 refine zP (n := 20) (e := [(0, va), (1, vb)]) (vs := [va, vb]) Tryz.func23 rfl rfl (Nat.le_of_ble_eq_true rfl) hs ⟨rfl, rfl, trivial⟩ (zC (zA (zL (xL (ρ := (rpT (rpQ k))) rfl ra) rfl rfl rfl ?_)))
 intro v2 q2 hq2
 obtain ⟨b2, cs2, rfl, rfl, rb2⟩ := hq2
 refine zL (xL (ρ := (rpT (rpQ l))) rfl rb) rfl rfl rfl ?_
 intro v3 q3 hq3
 obtain ⟨b3, cs3, rfl, rfl, rb3⟩ := hq3
 refine zL (xE (ρ := (rpT (rpQ (k + 3 * l + 3)))) (X := (T3.mk (0 : Rat) (0 : Rat) (0 : Rat))) yC rfl rfl (zr_t (zr_q (by omega)))) rfl rfl rfl ?_
 intro v4 q4 hq4
 obtain ⟨b4, cs4, rfl, rfl, rb4⟩ := hq4
 refine zD (zB (zC (zC (zA (asg (v := vI (0)) rfl rfl (zD (zB (zR (gc_loop1 (zC (zC (zA (mv rfl rfl ?_)))))))))))))
 refine gv (OpV.tr (by decide) (zW (q := 3) rfl rfl)) rfl (zD (zB (xX rfl (zK (zB (zC (zR ?_)))))))
 refine yK 9 _ [] [(0, .q), (1, .q), (2, .q), (3, .q), (4, .q), (5, .q), (6, .q), (7, .c), (8, .q), (9, .t)] xN (fun x hx => by cases hx) (by kernel_rfl) (fun x hx => by cases hx) (fun r hr => hr) (w_q rfl (fun h' L' hh hR => zG rfl) rfl (w_q rfl (fun h' L' hh hR => zG rfl) rfl (w_q rfl (fun h' L' hh hR => (zI (sz := 3) 0 Tryz.underlying32 Tryz.sizeOf30 rfl rfl rfl (by decide)).cv (show _ = vP b2 0 from congrArg (vP b2) (by rfl))) rfl (w_qx (F := fun v_ => (rpQ k).Is h0 v_ a.x) rfl (zE ty30 (Pc.tx (Pc.here _)) rfl rfl rb2 rfl) (mem1 (.tail _ (.tail _ (.head _)))) rfl ?_))))
 intro v13u5 r13u5
 refine w_q rfl (fun h' L' hh hR => zG rfl) rfl (w_q rfl (fun h' L' hh hR => (zI (sz := 3) 0 Tryz.underlying32 Tryz.sizeOf30 rfl rfl rfl (by decide)).cv (show _ = vP b3 0 from congrArg (vP b3) (by rfl))) rfl (w_qx (F := fun v_ => (rpQ l).Is h0 v_ b.x) rfl (zE ty30 (Pc.tx (Pc.here _)) rfl rfl rb3 rfl) (mem1 (.tail _ (.head _))) rfl ?_))
 intro v16u5 r16u5
 refine w_c rfl ?_
 refine yI (vs := [_, _]) Tryz.call56 ⟨rfl, rfl, trivial⟩ (fun w hs => o_rref_sub hs r13u5 r16u5 (by omega)) rfl ?_
 intro v17u5 h1 hh1 r17u5
 change (rpQ (k + l + 1)).Is h1 v17u5 (a.x - b.x) at r17u5
 refine w_q rfl (fun h' L' hh hR => (zI (sz := 3) 0 Tryz.underlying32 Tryz.sizeOf30 rfl rfl rfl (by decide)).cv (show _ = vP b2 0 from congrArg (vP b2) (by rfl))) rfl ?_
 replace rb2 := rb2.mono hh1
 have rw_14 := (Le.t (Le.q (l := k + l + 1) (by omega))).R rb2
 refine wB (A := [_, _]) (F := fun c_ => (rpT (rpQ (k + l + 1))).R h1 c_ (T3.mk (a.x - b.x) a.y a.z)) rfl (yJ Tryz.sizeOf30 (Pc.tx (Pc.here _)) rfl rfl rfl rw_14 r17u5 rfl) ?_
 intro cs_15 rb_16
 refine yZ (yV (zJ (e' := [(2, _), (3, _), (4, _), (5, _)]) ⟨rfl, rfl, rfl, rfl, trivial⟩ (zB (zA (mv rfl rfl (gv ((zS (q := 1) rfl rfl (by omega) (by omega)).cv (show _ = vI (1) from rfl)) rfl (asg rfl rfl (zD (xY (zC (zC (zA (mv rfl rfl ?_)))))))))))))
 refine gv (OpV.tr (by decide) (zW (q := 3) rfl rfl)) rfl (zD (zB (xX rfl (zK (zB (zC (zR ?_)))))))
 refine yK 9 _ [] [(0, .q), (1, .q), (2, .q), (3, .q), (4, .q), (5, .q), (6, .q), (7, .c), (8, .q), (9, .t)] xN (fun x hx => by cases hx) (by kernel_rfl) (fun x hx => by cases hx) (fun r hr => hr) (w_q rfl (fun h' L' hh hR => zG rfl) rfl (w_q rfl (fun h' L' hh hR => zG rfl) rfl (w_q rfl (fun h' L' hh hR => (zI (sz := 3) 1 Tryz.underlying32 Tryz.sizeOf30 rfl rfl rfl (by decide)).cv (show _ = vP b2 3 from congrArg (vP b2) (by rfl))) rfl (w_qx (F := fun v_ => (rpQ (k + l + 1)).Is h1 v_ a.y) rfl (zE ty30 (Pc.ty (Pc.here _)) rfl rfl rb_16 rfl) (mem1 (.tail _ (.tail _ (.head _)))) rfl ?_))))
 intro v13u6 r13u6
 refine w_q rfl (fun h' L' hh hR => zG rfl) rfl (w_q rfl (fun h' L' hh hR => (zI (sz := 3) 1 Tryz.underlying32 Tryz.sizeOf30 rfl rfl rfl (by decide)).cv (show _ = vP b3 3 from congrArg (vP b3) (by rfl))) rfl ?_)
 replace rb3 := rb3.mono hh1
 refine w_qx (F := fun v_ => (rpQ l).Is h1 v_ b.y) rfl (zE ty30 (Pc.ty (Pc.here _)) rfl rfl rb3 rfl) (mem1 (.tail _ (.head _))) rfl ?_
 intro v16u6 r16u6
 refine w_c rfl ?_
 refine yI (vs := [_, _]) Tryz.call56 ⟨rfl, rfl, trivial⟩ (fun w hs => o_rref_sub hs r13u6 r16u6 (by omega)) rfl ?_
 intro v17u6 h2 hh2 r17u6
 change (rpQ ((k + l + 1) + l + 1)).Is h2 v17u6 (a.y - b.y) at r17u6
 replace r17u6 := Rp.Is.le r17u6 (Le.q (l := k + 2 * l + 2) (by omega))
 refine w_q rfl (fun h' L' hh hR => (zI (sz := 3) 1 Tryz.underlying32 Tryz.sizeOf30 rfl rfl rfl (by decide)).cv (show _ = vP b2 3 from congrArg (vP b2) (by rfl))) rfl ?_
 replace rb_16 := rb_16.mono hh2
 have rw_17 := (Le.t (Le.q (l := k + 2 * l + 2) (by omega))).R rb_16
 refine wB (A := [_, _]) (F := fun c_ => (rpT (rpQ (k + 2 * l + 2))).R h2 c_ (T3.mk (a.x - b.x) (a.y - b.y) a.z)) rfl (yJ Tryz.sizeOf30 (Pc.ty (Pc.here _)) rfl rfl rfl rw_17 r17u6 rfl) ?_
 intro cs_18 rb_19
 refine yZ (yV (zJ (e' := [(2, _), (3, _), (4, _), (5, _)]) ⟨rfl, rfl, rfl, rfl, trivial⟩ (zB (zA (mv rfl rfl (gv ((zS (q := 1) rfl rfl (by omega) (by omega)).cv (show _ = vI (2) from rfl)) rfl (asg rfl rfl (zD (xY (zC (zC (zA (mv rfl rfl ?_)))))))))))))
 refine gv (OpV.tr (by decide) (zW (q := 3) rfl rfl)) rfl (zD (zB (xX rfl (zK (zB (zC (zR ?_)))))))
 refine yK 9 _ [] [(0, .q), (1, .q), (2, .q), (3, .q), (4, .q), (5, .q), (6, .q), (7, .c), (8, .q), (9, .t)] xN (fun x hx => by cases hx) (by kernel_rfl) (fun x hx => by cases hx) (fun r hr => hr) (w_q rfl (fun h' L' hh hR => zG rfl) rfl (w_q rfl (fun h' L' hh hR => zG rfl) rfl (w_q rfl (fun h' L' hh hR => (zI (sz := 3) 2 Tryz.underlying32 Tryz.sizeOf30 rfl rfl rfl (by decide)).cv (show _ = vP b2 6 from congrArg (vP b2) (by rfl))) rfl (w_qx (F := fun v_ => (rpQ (k + 2 * l + 2)).Is h2 v_ a.z) rfl (zE ty30 (Pc.tz (Pc.here _)) rfl rfl rb_19 rfl) (mem1 (.tail _ (.tail _ (.head _)))) rfl ?_))))
 intro v13u7 r13u7
 refine w_q rfl (fun h' L' hh hR => zG rfl) rfl (w_q rfl (fun h' L' hh hR => (zI (sz := 3) 2 Tryz.underlying32 Tryz.sizeOf30 rfl rfl rfl (by decide)).cv (show _ = vP b3 6 from congrArg (vP b3) (by rfl))) rfl ?_)
 replace rb3 := rb3.mono hh2
 refine w_qx (F := fun v_ => (rpQ l).Is h2 v_ b.z) rfl (zE ty30 (Pc.tz (Pc.here _)) rfl rfl rb3 rfl) (mem1 (.tail _ (.head _))) rfl ?_
 intro v16u7 r16u7
 refine w_c rfl ?_
 refine yI (vs := [_, _]) Tryz.call56 ⟨rfl, rfl, trivial⟩ (fun w hs => o_rref_sub hs r13u7 r16u7 (by omega)) rfl ?_
 intro v17u7 h3 hh3 r17u7
 change (rpQ ((k + 2 * l + 2) + l + 1)).Is h3 v17u7 (a.z - b.z) at r17u7
 replace r17u7 := Rp.Is.le r17u7 (Le.q (l := k + 3 * l + 3) (by omega))
 refine w_q rfl (fun h' L' hh hR => (zI (sz := 3) 2 Tryz.underlying32 Tryz.sizeOf30 rfl rfl rfl (by decide)).cv (show _ = vP b2 6 from congrArg (vP b2) (by rfl))) rfl ?_
 replace rb_19 := rb_19.mono hh3
 have rw_20 := (Le.t (Le.q (l := k + 3 * l + 3) (by omega))).R rb_19
 refine wB (A := [_, _]) (F := fun c_ => (rpT (rpQ (k + 3 * l + 3))).R h3 c_ (T3.mk (a.x - b.x) (a.y - b.y) (a.z - b.z))) rfl (yJ Tryz.sizeOf30 (Pc.tz (Pc.here _)) rfl rfl rfl rw_20 r17u7 rfl) ?_
 intro cs_21 rb_22
 refine yZ (yV (zJ (e' := [(2, _), (3, _), (4, _), (5, _)]) ⟨rfl, rfl, rfl, rfl, trivial⟩ (zB (zA (mv rfl rfl (gv ((zS (q := 1) rfl rfl (by omega) (by omega)).cv (show _ = vI (3) from rfl)) rfl (asg rfl rfl (zD (xY (zC (zC (zA (mv rfl rfl ?_)))))))))))))
 refine gv (OpV.fa (by decide) (zW (q := 3) rfl rfl)) rfl (zD (zB (vW rfl (xG (yB (yB (xF (zB (zC (zA (gl_x (F := fun v_ => (rpT (rpQ (k + 3 * l + 3))).Is h3 v_ (T3.mk (a.x - b.x) (a.y - b.y) (a.z - b.z))) (zE ty32 (Pc.here _) rfl rfl rb_22 rfl) (mem1 (.tail _ (.tail _ (.head _)))) rfl ?_)))))))))))
 intro v19u8 r19u8
 replace rb4 := rb4.mono ((hh1.trans hh2).trans hh3)
 refine wE (A := []) (F := fun c_ => (rpT (rpQ (k + 3 * l + 3))).R h3 c_ (T3.mk (a.x - b.x) (a.y - b.y) (a.z - b.z))) (yJ Tryz.sizeOf32 (Pc.here _) rfl rfl rfl rb4 r19u8 rfl) ?_
 intro cs_23 rb_24
 refine zD (zB (zQ (gq_exv (rv_o (t := 4) ty32 (.head _) rfl rb_24) ?_)))
 intro w_25 hvw_25 rr_26
 refine xS (fun E S => yR rfl hvw_25 E S) ?_
 exact rr_26

theorem o_r4_scale {w0 : World} {h0 : Mem}  (hs : MLe h0 (mem w0)) {l k : Nat} {vq : Value} {q : Rat} (rq : (rpQ l).Is h0 vq q) {va : Value} {a : (T3 Rat)} (ra : (rpT (rpQ k)).Is h0 va a) (hcd0 : k + l ≤ 1000000000)  :
    Calls Tryz.prog 20 #[vq, va] w0 (Ret w0 h0 (fun h r => (rpT (rpQ (k + 3 * l + 1))).Is h r (T3.mk (q * a.x) (q * a.y) (q * a.z)))) := by
 refine zP (n := 18) (e := [(0, vq), (1, va)]) (vs := [vq, va]) Tryz.func20 rfl rfl (Nat.le_of_ble_eq_true rfl) hs ⟨rfl, rfl, trivial⟩ (zC (zA (zL (xL (ρ := (rpQ l)) rfl rq) rfl rfl rfl ?_)))
 intro v2 q2 hq2
 obtain ⟨b2, cs2, rfl, rfl, rb2⟩ := hq2
 refine zL (xL (ρ := (rpT (rpQ k))) rfl ra) rfl rfl rfl ?_
 intro v3 q3 hq3
 obtain ⟨b3, cs3, rfl, rfl, rb3⟩ := hq3
 refine zL (xE (ρ := (rpT (rpQ (k + 3 * l + 1)))) (X := (T3.mk (0 : Rat) (0 : Rat) (0 : Rat))) yC rfl rfl (zr_t (zr_q (by omega)))) rfl rfl rfl ?_
 intro v4 q4 hq4
 obtain ⟨b4, cs4, rfl, rfl, rb4⟩ := hq4
 refine zD (zB (zC (zC (zA (asg (v := vI (0)) rfl rfl (zD (zB (zR (gc_loop1 (zC (zC (zA (mv rfl rfl ?_)))))))))))))
 refine gv (OpV.tr (by decide) (zW (q := 3) rfl rfl)) rfl (zD (zB (xX rfl (zK (zB (zC (zR ?_)))))))
 refine yK 7 _ [] [(0, .q), (1, .q), (2, .q), (3, .q), (4, .q), (5, .c), (6, .q), (7, .t)] xN (fun x hx => by cases hx) (by kernel_rfl) (fun x hx => by cases hx) (fun r hr => hr) (w_q rfl (fun h' L' hh hR => zG rfl) rfl (w_qx (F := fun v_ => (rpQ l).Is h0 v_ q) rfl (zE ty30 (Pc.here _) rfl rfl rb2 rfl) (mem1 (.tail _ (.tail _ (.head _)))) rfl ?_))
 intro v11u9 r11u9
 refine w_q rfl (fun h' L' hh hR => zG rfl) rfl (w_q rfl (fun h' L' hh hR => (zI (sz := 3) 0 Tryz.underlying32 Tryz.sizeOf30 rfl rfl rfl (by decide)).cv (show _ = vP b3 0 from congrArg (vP b3) (by rfl))) rfl (w_qx (F := fun v_ => (rpQ k).Is h0 v_ a.x) rfl (zE ty30 (Pc.tx (Pc.here _)) rfl rfl rb3 rfl) (mem1 (.tail _ (.head _))) rfl ?_))
 intro v14u9 r14u9
 refine w_c rfl ?_
 refine yI (vs := [_, _]) Tryz.call54 ⟨rfl, rfl, trivial⟩ (fun w hs => o_rref_mul hs r11u9 r14u9 (by omega)) rfl ?_
 intro v15u9 h1 hh1 r15u9
 change (rpQ (l + k)).Is h1 v15u9 (q * a.x) at r15u9
 replace r15u9 := Rp.Is.le r15u9 (Le.q (l := k + l) (by omega))
 refine w_q rfl (fun h' L' hh hR => (zI (sz := 3) 0 Tryz.underlying32 Tryz.sizeOf30 rfl rfl rfl (by decide)).cv (show _ = vP b3 0 from congrArg (vP b3) (by rfl))) rfl ?_
 replace rb3 := rb3.mono hh1
 have rw_27 := (Le.t (Le.q (l := k + l) (by omega))).R rb3
 refine wB (A := [_]) (F := fun c_ => (rpT (rpQ (k + l))).R h1 c_ (T3.mk (q * a.x) a.y a.z)) rfl (yJ Tryz.sizeOf30 (Pc.tx (Pc.here _)) rfl rfl rfl rw_27 r15u9 rfl) ?_
 intro cs_28 rb_29
 refine yZ (yV (zJ (e' := [(2, _), (3, _), (4, _), (5, _)]) ⟨rfl, rfl, rfl, rfl, trivial⟩ (zB (zA (mv rfl rfl (gv ((zS (q := 1) rfl rfl (by omega) (by omega)).cv (show _ = vI (1) from rfl)) rfl (asg rfl rfl (zD (xY (zC (zC (zA (mv rfl rfl ?_)))))))))))))
 refine gv (OpV.tr (by decide) (zW (q := 3) rfl rfl)) rfl (zD (zB (xX rfl (zK (zB (zC (zR ?_)))))))
 refine yK 7 _ [] [(0, .q), (1, .q), (2, .q), (3, .q), (4, .q), (5, .c), (6, .q), (7, .t)] xN (fun x hx => by cases hx) (by kernel_rfl) (fun x hx => by cases hx) (fun r hr => hr) (w_q rfl (fun h' L' hh hR => zG rfl) rfl ?_)
 replace rb2 := rb2.mono hh1
 refine w_qx (F := fun v_ => (rpQ l).Is h1 v_ q) rfl (zE ty30 (Pc.here _) rfl rfl rb2 rfl) (mem1 (.tail _ (.tail _ (.head _)))) rfl ?_
 intro v11u10 r11u10
 refine w_q rfl (fun h' L' hh hR => zG rfl) rfl (w_q rfl (fun h' L' hh hR => (zI (sz := 3) 1 Tryz.underlying32 Tryz.sizeOf30 rfl rfl rfl (by decide)).cv (show _ = vP b3 3 from congrArg (vP b3) (by rfl))) rfl (w_qx (F := fun v_ => (rpQ (k + l)).Is h1 v_ a.y) rfl (zE ty30 (Pc.ty (Pc.here _)) rfl rfl rb_29 rfl) (mem1 (.tail _ (.head _))) rfl ?_))
 intro v14u10 r14u10
 refine w_c rfl ?_
 refine yI (vs := [_, _]) Tryz.call54 ⟨rfl, rfl, trivial⟩ (fun w hs => o_rref_mul hs r11u10 r14u10 (by omega)) rfl ?_
 intro v15u10 h2 hh2 r15u10
 change (rpQ (l + (k + l))).Is h2 v15u10 (q * a.y) at r15u10
 replace r15u10 := Rp.Is.le r15u10 (Le.q (l := k + 2 * l) (by omega))
 refine w_q rfl (fun h' L' hh hR => (zI (sz := 3) 1 Tryz.underlying32 Tryz.sizeOf30 rfl rfl rfl (by decide)).cv (show _ = vP b3 3 from congrArg (vP b3) (by rfl))) rfl ?_
 replace rb_29 := rb_29.mono hh2
 have rw_30 := (Le.t (Le.q (l := k + 2 * l) (by omega))).R rb_29
 refine wB (A := [_]) (F := fun c_ => (rpT (rpQ (k + 2 * l))).R h2 c_ (T3.mk (q * a.x) (q * a.y) a.z)) rfl (yJ Tryz.sizeOf30 (Pc.ty (Pc.here _)) rfl rfl rfl rw_30 r15u10 rfl) ?_
 intro cs_31 rb_32
 refine yZ (yV (zJ (e' := [(2, _), (3, _), (4, _), (5, _)]) ⟨rfl, rfl, rfl, rfl, trivial⟩ (zB (zA (mv rfl rfl (gv ((zS (q := 1) rfl rfl (by omega) (by omega)).cv (show _ = vI (2) from rfl)) rfl (asg rfl rfl (zD (xY (zC (zC (zA (mv rfl rfl ?_)))))))))))))
 refine gv (OpV.tr (by decide) (zW (q := 3) rfl rfl)) rfl (zD (zB (xX rfl (zK (zB (zC (zR ?_)))))))
 refine yK 7 _ [] [(0, .q), (1, .q), (2, .q), (3, .q), (4, .q), (5, .c), (6, .q), (7, .t)] xN (fun x hx => by cases hx) (by kernel_rfl) (fun x hx => by cases hx) (fun r hr => hr) (w_q rfl (fun h' L' hh hR => zG rfl) rfl ?_)
 replace rb2 := rb2.mono hh2
 refine w_qx (F := fun v_ => (rpQ l).Is h2 v_ q) rfl (zE ty30 (Pc.here _) rfl rfl rb2 rfl) (mem1 (.tail _ (.tail _ (.head _)))) rfl ?_
 intro v11u11 r11u11
 refine w_q rfl (fun h' L' hh hR => zG rfl) rfl (w_q rfl (fun h' L' hh hR => (zI (sz := 3) 2 Tryz.underlying32 Tryz.sizeOf30 rfl rfl rfl (by decide)).cv (show _ = vP b3 6 from congrArg (vP b3) (by rfl))) rfl (w_qx (F := fun v_ => (rpQ (k + 2 * l)).Is h2 v_ a.z) rfl (zE ty30 (Pc.tz (Pc.here _)) rfl rfl rb_32 rfl) (mem1 (.tail _ (.head _))) rfl ?_))
 intro v14u11 r14u11
 refine w_c rfl ?_
 refine yI (vs := [_, _]) Tryz.call54 ⟨rfl, rfl, trivial⟩ (fun w hs => o_rref_mul hs r11u11 r14u11 (by omega)) rfl ?_
 intro v15u11 h3 hh3 r15u11
 change (rpQ (l + (k + 2 * l))).Is h3 v15u11 (q * a.z) at r15u11
 replace r15u11 := Rp.Is.le r15u11 (Le.q (l := k + 3 * l) (by omega))
 refine w_q rfl (fun h' L' hh hR => (zI (sz := 3) 2 Tryz.underlying32 Tryz.sizeOf30 rfl rfl rfl (by decide)).cv (show _ = vP b3 6 from congrArg (vP b3) (by rfl))) rfl ?_
 replace rb_32 := rb_32.mono hh3
 have rw_33 := (Le.t (Le.q (l := k + 3 * l) (by omega))).R rb_32
 refine wB (A := [_]) (F := fun c_ => (rpT (rpQ (k + 3 * l))).R h3 c_ (T3.mk (q * a.x) (q * a.y) (q * a.z))) rfl (yJ Tryz.sizeOf30 (Pc.tz (Pc.here _)) rfl rfl rfl rw_33 r15u11 rfl) ?_
 intro cs_34 rb_35
 refine yZ (yV (zJ (e' := [(2, _), (3, _), (4, _), (5, _)]) ⟨rfl, rfl, rfl, rfl, trivial⟩ (zB (zA (mv rfl rfl (gv ((zS (q := 1) rfl rfl (by omega) (by omega)).cv (show _ = vI (3) from rfl)) rfl (asg rfl rfl (zD (xY (zC (zC (zA (mv rfl rfl ?_)))))))))))))
 refine gv (OpV.fa (by decide) (zW (q := 3) rfl rfl)) rfl (zD (zB (vW rfl (xG (yB (yB (xF (zB (zC (zA (gl_x (F := fun v_ => (rpT (rpQ (k + 3 * l))).Is h3 v_ (T3.mk (q * a.x) (q * a.y) (q * a.z))) (zE ty32 (Pc.here _) rfl rfl rb_35 rfl) (mem1 (.tail _ (.head _))) rfl ?_)))))))))))
 intro v17u12 r17u12
 replace rb4 := rb4.mono ((hh1.trans hh2).trans hh3)
 refine wE (A := []) (F := fun c_ => (rpT (rpQ (k + 3 * l + 1))).R h3 c_ (T3.mk (q * a.x) (q * a.y) (q * a.z))) (yJ Tryz.sizeOf32 (Pc.here _) rfl rfl rfl rb4 (r17u12.le (Le.t (Le.q (l := k + 3 * l + 1) (by omega)))) rfl) ?_
 intro cs_36 rb_37
 refine zD (zB (zQ (gq_exv (rv_o (t := 4) ty32 (.head _) rfl rb_37) ?_)))
 intro w_38 hvw_38 rr_39
 refine xS (fun E S => yR rfl hvw_38 E S) ?_
 exact rr_39

theorem o_made_at3 {w0 : World} {h0 : Mem}  (hs : MLe h0 (mem w0)) {x : Int} (hx1 : -9223372036854775808 ≤ x) (hx2 : x < 9223372036854775808) {y : Int} (hy1 : -9223372036854775808 ≤ y) (hy2 : y < 9223372036854775808) {z : Int} (hz1 : -9223372036854775808 ≤ z) (hz2 : z < 9223372036854775808)  :
    Calls Tryz.prog 44 #[vI x, vI y, vI z] w0 (Ret w0 h0 (fun h r => (rpT (rpQ 2)).Is h r (T3.mk ((x : Int) : Rat) ((y : Int) : Rat) ((z : Int) : Rat)))) := by
 refine zP (n := 14) (e := [(0, vI x), (1, vI y), (2, vI z)]) (vs := [vI x, vI y, vI z]) Tryz.func44 rfl rfl (Nat.le_of_ble_eq_true rfl) hs ⟨rfl, rfl, rfl, trivial⟩ (zC (zA (zL (xE (ρ := (rpT (rpQ 1))) (X := (T3.mk (0 : Rat) (0 : Rat) (0 : Rat))) yC rfl rfl (zr_t (zr_q (by decide)))) rfl rfl rfl ?_)))
 intro v6 q6 hq6
 obtain ⟨b6, cs6, rfl, rfl, rb6⟩ := hq6
 refine zD (zB (zC (zA (mv rfl rfl ?_))))
 refine zM (vs := [_]) rfl rfl rfl rfl Tryz.call45 ⟨rfl, trivial⟩ (fun w hs => o_rref_int hs (by omega) (by omega)) ?_
 intro v8 h1 hh1 r8
 change (rpQ 2).Is h1 v8 ((x : Int) : Rat) at r8
 refine mv rfl rfl ?_
 refine zM (vs := [_]) rfl rfl rfl rfl Tryz.call45 ⟨rfl, trivial⟩ (fun w hs => o_rref_int hs (by omega) (by omega)) ?_
 intro v10 h2 hh2 r10
 change (rpQ 2).Is h2 v10 ((y : Int) : Rat) at r10
 refine mv rfl rfl ?_
 refine zM (vs := [_]) rfl rfl rfl rfl Tryz.call45 ⟨rfl, trivial⟩ (fun w hs => o_rref_int hs (by omega) (by omega)) ?_
 intro v12 h3 hh3 r12
 change (rpQ 2).Is h3 v12 ((z : Int) : Rat) at r12
 replace r8 := r8.mono (hh2.trans hh3)
 replace r10 := r10.mono hh3
 refine gl_x (F := fun v_ => (rpT (rpQ 2)).Is h3 v_ (T3.mk ((x : Int) : Rat) ((y : Int) : Rat) ((z : Int) : Rat))) (wU (ps' := [(0, _), (1, _), (2, _)]) Tryz.underlying32 yC rfl rfl Tryz.sizeOf30 ⟨rfl, rfl, rfl, rfl, rfl, rfl, trivial⟩ rfl (zr_t (zr_q (by decide))) (yQ rfl (Pc.tx (Pc.here _)) r8 (yQ rfl (Pc.ty (Pc.here _)) r10 (yQ rfl (Pc.tz (Pc.here _)) r12 xM)))) mem0 rfl ?_
 intro v13 r13
 replace rb6 := rb6.mono ((hh1.trans hh2).trans hh3)
 have rw_40 := (Le.t (Le.q (l := 2) (by decide))).R rb6
 refine wE (A := []) (F := fun c_ => (rpT (rpQ 2)).R h3 c_ (T3.mk ((x : Int) : Rat) ((y : Int) : Rat) ((z : Int) : Rat))) (yJ Tryz.sizeOf32 (Pc.here _) rfl rfl rfl rw_40 r13 rfl) ?_
 intro cs_41 rb_42
 refine zD (zJ (e' := [(6, _)]) ⟨rfl, trivial⟩ (zB (zQ (gq_exv (rv_o (t := 6) ty32 (.head _) rfl rb_42) ?_))))
 intro w_43 hvw_43 rr_44
 refine xS (fun E S => yR rfl hvw_43 E S) ?_
 exact rr_44

end Go.Proofs.YtghhjjmjpeehdaaGreat


namespace Bk
set_option linter.unusedVariables false
set_option linter.unusedSimpArgs false
open Go Go.RowKit
open Classical

abbrev Pl := Pt × Rat
theorem sgn_one {x : Rat} : sgnQ x = 1 ↔ 0 < x := by
  have h2 := sgnQ_range x; rw [← sgn_pos]; omega
theorem sgn_mone {x : Rat} : sgnQ x = -1 ↔ x < 0 := by
  have h2 := sgnQ_range x; rw [← sgn_neg]; omega
theorem t3_eq {a b : Pt} : a = b ↔ a.x = b.x ∧ a.y = b.y ∧ a.z = b.z := by cases a; cases b; exact T3.mk.injEq .. ▸ Iff.rfl
noncomputable def axI (n : Pt) : Nat := if 0 < n.z then 0 else if n.z < 0 then 1 else if 0 < n.y then 2 else if n.y < 0 then 0 else if 0 < n.x then 1 else if n.x < 0 then 2 else 1
noncomputable def axJ (n : Pt) : Nat := if 0 < n.z then 1 else if n.z < 0 then 0 else if 0 < n.y then 0 else if n.y < 0 then 2 else if 0 < n.x then 2 else if n.x < 0 then 1 else 2
noncomputable def axK (n : Pt) : Nat := if n.z ≠ 0 then 2 else if n.y ≠ 0 then 1 else 0
theorem ax_cases (n : Pt) : (0 < n.z ∧ axI n = 0 ∧ axJ n = 1 ∧ axK n = 2) ∨ (n.z < 0 ∧ axI n = 1 ∧ axJ n = 0 ∧ axK n = 2) ∨ (n.z = 0 ∧ 0 < n.y ∧ axI n = 2 ∧ axJ n = 0 ∧ axK n = 1) ∨ (n.z = 0 ∧ n.y < 0 ∧ axI n = 0 ∧ axJ n = 2 ∧ axK n = 1) ∨
    (n.z = 0 ∧ n.y = 0 ∧ 0 < n.x ∧ axI n = 1 ∧ axJ n = 2 ∧ axK n = 0) ∨ (n.z = 0 ∧ n.y = 0 ∧ n.x < 0 ∧ axI n = 2 ∧ axJ n = 1 ∧ axK n = 0) ∨ (n.z = 0 ∧ n.y = 0 ∧ n.x = 0 ∧ axI n = 1 ∧ axJ n = 2 ∧ axK n = 0) := by
  have tri : ∀ a : Rat, 0 < a ∨ (a < 0 ∧ ¬ 0 < a) ∨ (a = 0 ∧ ¬ 0 < a ∧ ¬ a < 0) := fun a => by grind
  unfold axI axJ axK
  rcases tri n.z with h | ⟨h, h'⟩ | ⟨h, h', h''⟩
  · left; simp only [if_pos h, if_pos (show n.z ≠ 0 by grind)]; exact ⟨h, trivial, trivial, trivial⟩
  · right; left; simp only [if_neg h', if_pos h, if_pos (show n.z ≠ 0 by grind)]; exact ⟨h, trivial, trivial, trivial⟩
  · simp only [if_neg h', if_neg h'', if_neg (show ¬ n.z ≠ 0 by grind)]
    rcases tri n.y with k | ⟨k, k'⟩ | ⟨k, k', k''⟩
    · right; right; left; simp only [if_pos k, if_pos (show n.y ≠ 0 by grind)]; exact ⟨h, k, trivial, trivial, trivial⟩
    · right; right; right; left; simp only [if_neg k', if_pos k, if_pos (show n.y ≠ 0 by grind)]; exact ⟨h, k, trivial, trivial, trivial⟩
    · simp only [if_neg k', if_neg k'', if_neg (show ¬ n.y ≠ 0 by grind)]
      rcases tri n.x with l | ⟨l, l'⟩ | ⟨l, l', l''⟩
      · right; right; right; right; left; simp only [if_pos l]; exact ⟨h, k, l, trivial, trivial, trivial⟩
      · right; right; right; right; right; left; simp only [if_neg l', if_pos l]; exact ⟨h, k, l, trivial, trivial, trivial⟩
      · right; right; right; right; right; right; simp only [if_neg l', if_neg l'']; exact ⟨h, k, l, trivial, trivial, trivial⟩
theorem ax_sum (n : Pt) : axI n + axJ n ≤ 3 ∧ axI n < 3 ∧ axJ n < 3 ∧ axK n = 3 - axI n - axJ n := by
  rcases ax_cases n with h | h | h | h | h | h | h <;> omega
theorem axI_lt (n : Pt) : axI n < 3 := (ax_sum n).2.1
theorem axJ_lt (n : Pt) : axJ n < 3 := (ax_sum n).2.2.1
theorem axK_lt (n : Pt) : axK n < 3 := by
  rcases ax_cases n with h | h | h | h | h | h | h <;> omega
theorem ax_zero (n : Pt) : n.at (axK n) = 0 ↔ n = T3.mk (0 : Rat) (0 : Rat) (0 : Rat) := by
  obtain ⟨x, y, z⟩ := n
  rw [T3.mk.injEq]
  rcases ax_cases ⟨x, y, z⟩ with h | h | h | h | h | h | h <;> simp only at h <;> obtain ⟨h, h1⟩ := h
  all_goals first | rw [h1.2.2] | rw [h1.2.2.2] | rw [h1.2.2.2.2]
  all_goals simp only [T3.at]
  all_goals grind
noncomputable def flatZ (pl : Pl) (p : Pt) : Pt := T3.mk (p.at (axI pl.1)) (p.at (axJ pl.1)) (0 : Rat)
noncomputable def liftQ (pl : Pl) (q : Pt) : Rat := if pl.1.at (axK pl.1) = 0 then 0 else (pl.2 - (pl.1.at (axI pl.1) * q.x + pl.1.at (axJ pl.1) * q.y)) / pl.1.at (axK pl.1)
noncomputable def liftZ (pl : Pl) (q : Pt) : Pt := if pl.1.at (axK pl.1) = 0 then T3.mk (0 : Rat) (0 : Rat) (0 : Rat) else (((T3.mk (0 : Rat) (0 : Rat) (0 : Rat)).set (axI pl.1) q.x).set (axJ pl.1) q.y).set (axK pl.1) (liftQ pl q)
def dotT (a b : Pt) : Rat := a.x * b.x + a.y * b.y + a.z * b.z
def crossT (a b : Pt) : Pt := T3.mk (a.y * b.z - a.z * b.y) (a.z * b.x - a.x * b.z) (a.x * b.y - a.y * b.x)
def subT (a b : Pt) : Pt := T3.mk (a.x - b.x) (a.y - b.y) (a.z - b.z)
theorem lift_eq {n d m q : Rat} (h : ¬ n = 0) : n * ((d - m) / n) = d - m := by
  rw [Rat.mul_comm, Rat.div_mul_cancel h]
theorem dot_lift (n : Pt) (x y : Rat) : dotT n (((T3.mk (0 : Rat) (0 : Rat) (0 : Rat)).set (axI n) x).set (axJ n) y) = n.at (axI n) * x + n.at (axJ n) * y := by
  obtain ⟨a, b, c⟩ := n
  have h : (axI ⟨a, b, c⟩ = 0 ∧ axJ ⟨a, b, c⟩ = 1) ∨ (axI ⟨a, b, c⟩ = 1 ∧ axJ ⟨a, b, c⟩ = 0) ∨ (axI ⟨a, b, c⟩ = 2 ∧ axJ ⟨a, b, c⟩ = 0) ∨ (axI ⟨a, b, c⟩ = 0 ∧ axJ ⟨a, b, c⟩ = 2) ∨ (axI ⟨a, b, c⟩ = 1 ∧ axJ ⟨a, b, c⟩ = 2) ∨ (axI ⟨a, b, c⟩ = 2 ∧ axJ ⟨a, b, c⟩ = 1) := by
    rcases ax_cases ⟨a, b, c⟩ with h | h | h | h | h | h | h <;> omega
  rcases h with ⟨e1, e2⟩ | ⟨e1, e2⟩ | ⟨e1, e2⟩ | ⟨e1, e2⟩ | ⟨e1, e2⟩ | ⟨e1, e2⟩ <;> rw [e1, e2] <;> simp only [T3.at, T3.set, dotT] <;> grind
theorem ref_lift {s : Pl} {q : Pt} (h : ¬ s.1 = T3.mk (0 : Rat) (0 : Rat) (0 : Rat)) :
    (((T3.mk (0 : Rat) (0 : Rat) (0 : Rat)).set (axI s.1) q.x).set (axJ s.1) q.y).set (axK s.1) (if s.1.at (axK s.1) = 0 then 0 else (s.2 - dotT s.1 (((T3.mk (0 : Rat) (0 : Rat) (0 : Rat)).set (axI s.1) q.x).set (axJ s.1) q.y)) / s.1.at (axK s.1)) = liftZ s q := by
  rw [dot_lift]
  exact (if_neg (fun e => h ((ax_zero _).1 e))).symm
theorem ax_perm (n : Pt) : (axI n = 0 ∧ axJ n = 1 ∧ axK n = 2) ∨ (axI n = 1 ∧ axJ n = 0 ∧ axK n = 2) ∨ (axI n = 2 ∧ axJ n = 0 ∧ axK n = 1) ∨ (axI n = 0 ∧ axJ n = 2 ∧ axK n = 1) ∨ (axI n = 1 ∧ axJ n = 2 ∧ axK n = 0) ∨ (axI n = 2 ∧ axJ n = 1 ∧ axK n = 0) := by
  rcases ax_cases n with h | h | h | h | h | h | h <;> omega
theorem side_lift {s : Pl} {q : Pt} (h : ¬ s.1.at (axK s.1) = 0) : sgnQ (dotT s.1 (liftZ s q) - s.2) = 0 := by
  rw [sgn_zero]
  have hq := lift_eq (d := s.2) (m := s.1.at (axI s.1) * q.x + s.1.at (axJ s.1) * q.y) (q := 0) h
  unfold liftZ liftQ
  rw [if_neg h, if_neg h]
  generalize (s.2 - (s.1.at (axI s.1) * q.x + s.1.at (axJ s.1) * q.y)) / s.1.at (axK s.1) = u at *
  obtain ⟨⟨x, y, z⟩, d⟩ := s
  rcases ax_perm ⟨x, y, z⟩ with ⟨e1, e2, e3⟩ | ⟨e1, e2, e3⟩ | ⟨e1, e2, e3⟩ | ⟨e1, e2, e3⟩ | ⟨e1, e2, e3⟩ | ⟨e1, e2, e3⟩ <;> simp only [e1, e2, e3, T3.at, T3.set, dotT] at * <;> grind
end Bk


namespace Go.Proofs.YtghhjjmjpeehdaaGreat
open Bk Go
set_option linter.unusedVariables false
set_option linter.unusedSimpArgs false
set_option maxRecDepth 10000

theorem own_rat {w0 : World} {h0 : Mem}  (hs : MLe h0 (mem w0)) {qa : Rat} {vna vda : Value} (hna : Us .u32 h0 vna (zF qa.num.natAbs)) (hda : Us .u32 h0 vda (zF (denN qa.den))) (hqa : lq qa ≤ 100000000000) :
    Calls Tryz.prog 111 #[.agg #[vB (qa.num < 0), vna, vda]] w0 (Ret w0 h0 (fun h r => vE h r qa)) := by
 have hlna := wX qa
 have hlda := wZ qa
 have hlDa := wT qa
 refine zP (n := 12) (e := [(0, .agg #[vB (qa.num < 0), vna, vda])]) (vs := [.agg #[vB (qa.num < 0), vna, vda]]) Tryz.func111 rfl rfl (Nat.le_of_ble_eq_true rfl) hs ⟨rfl, trivial⟩ (zC (zA (zL (wQ (cs := [_, _, _]) rfl rfl) rfl rfl rfl ?_)))
 intro v1 r1 hr1
 obtain ⟨b1, rfl, rfl⟩ := hr1
 refine zL (vC (cs := [vB ((0 : Rat).num < 0), .slice none 0 0, .slice none 0 0]) wN rfl (by simp only [zb]; rfl)) rfl rfl rfl ?_
 intro v2 r2 hr2
 obtain ⟨b2, rfl, rfl⟩ := hr2
 refine zD (zB (zC ?_))
 refine yK 9 _ [] [(0, .q), (1, .q), (2, .q), (3, .q), (5, .q), (6, .q), (4, .c), (7, .c), (8, .c), (9, .t)] xN (fun x hx => by cases hx) (by kernel_rfl) (fun x hx => by cases hx) (fun r hr => hr) (w_q rfl (fun h' L' hh hR => zH Tryz.underlying30 rfl Tryz.sizeOf4 rfl) rfl (w_q rfl (fun h' L' hh hR => zU (hR _ (.tail _ (.head _))) Tryz.isAgg4 rfl rfl) rfl (w_q rfl (fun h' L' hh hR => zH Tryz.underlying30 rfl Tryz.sizeOf28 rfl) rfl (w_q rfl (fun h' L' hh hR => zU (hR _ (.tail _ (.head _))) Tryz.isAgg28 rfl rfl) rfl (w_q rfl (fun h' L' hh hR => zH Tryz.underlying30 rfl Tryz.sizeOf28 rfl) rfl (w_q rfl (fun h' L' hh hR => zU (hR _ (.tail _ (.head _))) Tryz.isAgg28 rfl rfl) rfl ?_))))))
 refine w_c rfl ?_
 refine s_call_own (vs := [_]) Tryz.call130 ⟨rfl, trivial⟩ (fun w hs => sl_clone hs hna (by omega)) rfl ?_
 intro v7 h1 L7 hh1 hr7
 obtain rfl := hr7
 refine w_c rfl ?_
 replace hda := hda.mono hh1
 refine s_call_own (vs := [_]) Tryz.call130 ⟨rfl, trivial⟩ (fun w hs => sl_clone hs hda (by omega)) rfl ?_
 intro v10 h2 L10 hh2 hr10
 obtain rfl := hr10
 refine w_c rfl ?_
 replace hna := hna.mono (hh1.trans hh2)
 refine s_freeze (A := [_]) (by exact hna.lt) (by simp only [List.mem_cons, List.not_mem_nil, or_false]; rintro r (rfl | rfl) _ <;> simp) ?_
 intro h3 hh3 hc1
 replace hda := hda.mono (hh2.trans hh3)
 refine s_freeze (A := []) (by exact hda.lt) (by simp only [List.mem_cons, List.not_mem_nil, or_false]; rintro r (rfl | rfl) _ <;> simp) ?_
 intro h4 hh4 hc2
 replace hc1 := hc1.mono hh4
 refine s_val (fun X => wF (ps' := [(0, _), (1, _), (2, _)]) (vs := [vB (qa.num < 0), v7, v10]) Tryz.underlying30 wN rfl (places30 Tryz.underlying30) ⟨rfl, rfl, rfl, rfl, rfl, rfl, trivial⟩ (wP (A := []) (B := [_]) (C := [_, _]) (cs := [_]) (off := 0) (size := 1) rfl rfl rfl rfl rfl (wP (A := [_]) (B := [_]) (C := [_]) (cs := [_]) (off := 1) (size := 1) rfl rfl rfl rfl hc1.cells (wP (A := [_, _]) (B := [_]) (C := []) (cs := [_]) (off := 2) (size := 1) rfl rfl rfl rfl hc2.cells fill_nil)))) rfl (w_t_upd (A := []) (q' := .var b2 30 [vB (qa.num < 0), v7, v10]) rfl (yA (k := 0) (cs := [_, _, _]) (vs := [_, _, _]) rfl rfl rfl (ocr rfl (ocu hc1 (ocu hc2 oc0))) zY (Nat.le_of_ble_eq_true rfl)) rfl (yZ (zJ (e' := [(2, _)]) ⟨rfl, trivial⟩ (zB (zQ (xS (fun E S => yR rfl (wM (cs := [_, _, _]) (.head _) Tryz.underlying30 rfl zY rfl) E S) ?_))))))
 exact ⟨_, _, rfl, hc1, hc2⟩

theorem o_own_rat {w0 : World} {h0 : Mem} (hs : MLe h0 (mem w0)) {k : Nat} {va : Value} {a : Rat} (ra : (rpQ k).Is h0 va a) (hcd0 : k ≤ 10000000000)  :
    Calls Tryz.prog 111 #[va] w0 (Ret w0 h0 (fun h r => (rpQ k).Is h r a)) := by
  obtain ⟨vna, vda, rfl, hna, hda, hla⟩ := open_q ra
  exact (own_rat hs hna hda (by omega) ).mono (ret_imp fun h r x => is_q x (by omega))

theorem o_r4_same {w0 : World} {h0 : Mem}  (hs : MLe h0 (mem w0)) {k l : Nat} {va : Value} {a : (T3 Rat)} (ra : (rpT (rpQ k)).Is h0 va a) {vb : Value} {b : (T3 Rat)} (rb : (rpT (rpQ l)).Is h0 vb b) (hcd0 : k + l ≤ 1000000000)  :
    Calls Tryz.prog 29 #[va, vb] w0 (Ret w0 h0 (fun _ r => r = vB (a = b))) := by
 refine zP (n := 24) (e := [(0, va), (1, vb)]) (vs := [va, vb]) Tryz.func29 rfl rfl (Nat.le_of_ble_eq_true rfl) hs ⟨rfl, rfl, trivial⟩ (zC (zA (zL (xL (ρ := (rpT (rpQ k))) rfl ra) rfl rfl rfl ?_)))
 intro v2 q2 hq2
 obtain ⟨b2, cs2, rfl, rfl, rb2⟩ := hq2
 refine zL (xL (ρ := (rpT (rpQ l))) rfl rb) rfl rfl rfl ?_
 intro v3 q3 hq3
 obtain ⟨b3, cs3, rfl, rfl, rb3⟩ := hq3
 refine asg rfl rfl (zD (zB (zC (zA (gv ((zI (sz := 3) (q := 0) 0 Tryz.underlying32 Tryz.sizeOf30 rfl rfl rfl (by decide)).cv (show _ = vP b2 0 from congrArg (vP b2) (by rfl))) rfl (gl_x (F := fun v_ => (rpQ k).Is h0 v_ a.x) (zE ty30 (Pc.tx (Pc.here _)) rfl rfl rb2 rfl) (mem1 (.tail _ (.head _))) rfl ?_))))))
 intro v6 r6
 refine gv ((zI (sz := 3) (q := 0) 0 Tryz.underlying32 Tryz.sizeOf30 rfl rfl rfl (by decide)).cv (show _ = vP b3 0 from congrArg (vP b3) (by rfl))) rfl (gl_x (F := fun v_ => (rpQ l).Is h0 v_ b.x) (zE ty30 (Pc.tx (Pc.here _)) rfl rfl rb3 rfl) (mem1 (.head _)) rfl ?_)
 intro v8 r8
 refine zM (vs := [_, _]) rfl rfl rfl rfl Tryz.call62 ⟨rfl, rfl, trivial⟩ (fun w hs => o_rref_same hs r6 r8 (by omega)) ?_
 intro v9 h1 hh1 r9
 obtain rfl : v9 = vB (a.x = b.x) := r9
 refine vM (ι := Mem) 7 (fun m_ => MLe h1 m_) (fun _ => [(16, vB ((a.x = b.x) ∧ (a.y = b.y))), (2, vP b2 0), (3, vP b3 0)]) (fun _ => [.var b3 32 cs3, .var b2 32 cs2]) (fun m_ => m_) ?_ ?_
 ·
  refine wI (a.x = b.x) (fun hg => ?_) (fun hg => ?_)
  ·
   refine xK (zG (v := .bool true) (congrArg some (xT hg))) rfl rfl rfl (yW rfl rfl rfl (gv ((zI (sz := 3) (q := 1) 1 Tryz.underlying32 Tryz.sizeOf30 rfl rfl rfl (by decide)).cv (show _ = vP b2 3 from congrArg (vP b2) (by rfl))) rfl (yW rfl rfl rfl ?_)))
   replace rb2 := rb2.mono hh1
   refine gl_x (F := fun v_ => (rpQ k).Is h1 v_ a.y) (zE ty30 (Pc.ty (Pc.here _)) rfl rfl rb2 rfl) (mem1 (.tail _ (.head _))) rfl ?_
   intro v12 r12
   refine yW rfl rfl rfl (gv ((zI (sz := 3) (q := 1) 1 Tryz.underlying32 Tryz.sizeOf30 rfl rfl rfl (by decide)).cv (show _ = vP b3 3 from congrArg (vP b3) (by rfl))) rfl (yW rfl rfl rfl ?_))
   replace rb3 := rb3.mono hh1
   refine gl_x (F := fun v_ => (rpQ l).Is h1 v_ b.y) (zE ty30 (Pc.ty (Pc.here _)) rfl rfl rb3 rfl) (mem1 (.head _)) rfl ?_
   intro v14 r14
   refine yW rfl rfl rfl ?_
   refine zM (vs := [_, _]) rfl rfl rfl rfl Tryz.call62 ⟨rfl, rfl, trivial⟩ (fun w hs => o_rref_same hs r12 r14 (by omega)) ?_
   intro v15 h2 hh2 r15
   obtain rfl : v15 = vB (a.y = b.y) := r15
   refine gv (xR rfl rfl) rfl (zD ?_)
   refine yP h2 hh2 ⟨?_, rfl, rfl, trivial⟩ rfl rfl
   exact congrArg some (vB_and_t hg)
  refine xK (zG (v := .bool false) (congrArg some (xD hg))) rfl rfl rfl (yM rfl rfl rfl rfl rfl rfl (yM rfl rfl rfl rfl rfl rfl (yM rfl rfl rfl rfl rfl rfl (yM rfl rfl rfl rfl rfl rfl (yM rfl rfl rfl rfl rfl rfl (gv (xU rfl rfl) rfl (zD ?_)))))))
  refine yP h1 (MLe.refl _) ⟨?_, rfl, rfl, trivial⟩ rfl rfl
  exact congrArg some (vB_and_f hg)
 intro mg1_5 hmmg1_5
 show GL _ _ _ _ _ _ _ [(16, vB ((a.x = b.x) ∧ (a.y = b.y))), (2, vP b2 0), (3, vP b3 0)] [.var b3 32 cs3, .var b2 32 cs2] mg1_5
 refine vM (ι := Mem) 7 (fun m_ => MLe mg1_5 m_) (fun _ => [(23, vB (((a.x = b.x) ∧ (a.y = b.y)) ∧ (a.z = b.z)))]) (fun _ => [.var b3 32 cs3, .var b2 32 cs2]) (fun m_ => m_) ?_ ?_
 ·
  refine wI ((a.x = b.x) ∧ (a.y = b.y)) (fun hg => ?_) (fun hg => ?_)
  ·
   refine xK (zG (v := .bool true) (congrArg some (xT hg))) rfl rfl rfl (yW rfl rfl rfl (gv ((zI (sz := 3) (q := 2) 2 Tryz.underlying32 Tryz.sizeOf30 rfl rfl rfl (by decide)).cv (show _ = vP b2 6 from congrArg (vP b2) (by rfl))) rfl (yW rfl rfl rfl ?_)))
   replace rb2 := rb2.mono (hh1.trans hmmg1_5)
   refine gl_x (F := fun v_ => (rpQ k).Is mg1_5 v_ a.z) (zE ty30 (Pc.tz (Pc.here _)) rfl rfl rb2 rfl) (mem1 (.tail _ (.head _))) rfl ?_
   intro v19 r19
   refine yW rfl rfl rfl (gv ((zI (sz := 3) (q := 2) 2 Tryz.underlying32 Tryz.sizeOf30 rfl rfl rfl (by decide)).cv (show _ = vP b3 6 from congrArg (vP b3) (by rfl))) rfl (yW rfl rfl rfl ?_))
   replace rb3 := rb3.mono (hh1.trans hmmg1_5)
   refine gl_x (F := fun v_ => (rpQ l).Is mg1_5 v_ b.z) (zE ty30 (Pc.tz (Pc.here _)) rfl rfl rb3 rfl) (mem1 (.head _)) rfl ?_
   intro v21 r21
   refine yW rfl rfl rfl ?_
   refine zM (vs := [_, _]) rfl rfl rfl rfl Tryz.call62 ⟨rfl, rfl, trivial⟩ (fun w hs => o_rref_same hs r19 r21 (by omega)) ?_
   intro v22 h2 hh2 r22
   obtain rfl : v22 = vB (a.z = b.z) := r22
   refine gv (xR rfl rfl) rfl (zD ?_)
   refine yP h2 hh2 ⟨?_, trivial⟩ rfl rfl
   exact congrArg some (vB_and_t hg)
  refine xK (zG (v := .bool false) (congrArg some (xD hg))) rfl rfl rfl (yM rfl rfl rfl rfl rfl rfl (yM rfl rfl rfl rfl rfl rfl (yM rfl rfl rfl rfl rfl rfl (yM rfl rfl rfl rfl rfl rfl (yM rfl rfl rfl rfl rfl rfl (gv (xU rfl rfl) rfl (zD ?_)))))))
  refine yP mg1_5 (MLe.refl _) ⟨?_, trivial⟩ rfl rfl
  exact congrArg some (vB_and_f hg)
 intro mg1_12 hmmg1_12
 show GL _ _ _ _ _ _ _ [(23, vB (((a.x = b.x) ∧ (a.y = b.y)) ∧ (a.z = b.z)))] [.var b3 32 cs3, .var b2 32 cs2] mg1_12
 refine asg rfl rfl (zD (zB (zQ (yG rfl rfl ?_))))
 first | exact vB_iff (by rw [t3_eq]; grind) | exact (xT (by rw [t3_eq]; grind)).symm | exact (xD (by rw [t3_eq]; grind)).symm

theorem o_r4_zero {w0 : World} {h0 : Mem}  (hs : MLe h0 (mem w0)) {k : Nat} {va : Value} {a : (T3 Rat)} (ra : (rpT (rpQ k)).Is h0 va a) (hcd0 : k ≤ 1000000)  :
    Calls Tryz.prog 41 #[va] w0 (Ret w0 h0 (fun _ r => r = vB (a = (T3.mk (0 : Rat) (0 : Rat) (0 : Rat))))) := by
 refine zP (n := 6) (e := [(0, va)]) (vs := [va]) Tryz.func41 rfl rfl (Nat.le_of_ble_eq_true rfl) hs ⟨rfl, trivial⟩ (zC (zA (zL (xL (ρ := (rpT (rpQ k))) rfl ra) rfl rfl rfl ?_)))
 intro v1 q1 hq1
 obtain ⟨b1, cs1, rfl, rfl, rb1⟩ := hq1
 refine asg rfl rfl (zD (zB (zC (zA (gl_x (F := fun v_ => (rpT (rpQ k)).Is h0 v_ a) (zE ty32 (Pc.here _) rfl rfl rb1 rfl) (mem1 (.head _)) rfl ?_)))))
 intro v3 r3
 refine gl_x (F := fun v_ => (rpT (rpQ 1)).Is h0 v_ (T3.mk (0 : Rat) (0 : Rat) (0 : Rat))) (wU (ps' := []) Tryz.underlying32 yC rfl rfl Tryz.sizeOf30 trivial rfl (zr_t (zr_q (by decide))) xM) mem0 rfl ?_
 intro v4 r4
 refine zM (vs := [_, _]) rfl rfl rfl rfl Tryz.call29 ⟨rfl, rfl, trivial⟩ (fun w hs => o_r4_same hs r3 r4 (by omega)) ?_
 intro v5 h1 hh1 r5
 obtain rfl : v5 = vB (a = (T3.mk (0 : Rat) (0 : Rat) (0 : Rat))) := r5
 refine asg rfl rfl (zD (zB (zQ (yG rfl rfl ?_))))
 rfl

theorem o_r4_dot {w0 : World} {h0 : Mem}  (hs : MLe h0 (mem w0)) {k l : Nat} {va : Value} {a : (T3 Rat)} (ra : (rpT (rpQ k)).Is h0 va a) {vb : Value} {b : (T3 Rat)} (rb : (rpT (rpQ l)).Is h0 vb b) (hcd0 : k + l ≤ 1000000000)  :
    Calls Tryz.prog 57 #[va, vb] w0 (Ret w0 h0 (fun h r => (rpQ (3 * k + 3 * l + 9)).Is h r (dotT a b))) := by
 refine zP (n := 21) (e := [(0, va), (1, vb)]) (vs := [va, vb]) Tryz.func57 rfl rfl (Nat.le_of_ble_eq_true rfl) hs ⟨rfl, rfl, trivial⟩ (zC (zA (zL (xL (ρ := (rpT (rpQ k))) rfl ra) rfl rfl rfl ?_)))
 intro v2 q2 hq2
 obtain ⟨b2, cs2, rfl, rfl, rb2⟩ := hq2
 refine zL (xL (ρ := (rpT (rpQ l))) rfl rb) rfl rfl rfl ?_
 intro v3 q3 hq3
 obtain ⟨b3, cs3, rfl, rfl, rb3⟩ := hq3
 refine zL (xE (ρ := (rpQ (3 * k + 3 * l + 9))) (X := (0 : Rat)) wN rfl rfl (zr_q (by omega))) rfl rfl rfl ?_
 intro v4 q4 hq4
 obtain ⟨b4, cs4, rfl, rfl, rb4⟩ := hq4
 refine zD (zB (zC (zA (zL (xE (ρ := (rpQ 1)) (X := (0 : Rat)) wN rfl rfl (zr_q (by decide))) rfl rfl rfl ?_))))
 intro v5 q5 hq5
 obtain ⟨b5, cs5, rfl, rfl, rb5⟩ := hq5
 refine zD (zB (zC (zC (zA (asg (v := vI (0)) rfl rfl (zD (zB (zR (gc_loop1 (zC (zC (zA (mv rfl rfl ?_)))))))))))))
 refine gv (OpV.tr (by decide) (zW (q := 3) rfl rfl)) rfl (zD (zB (xX rfl (zK (zB (zC (zR ?_)))))))
 refine yK 9 _ [] [(0, .q), (1, .q), (2, .q), (3, .q), (4, .q), (5, .q), (6, .q), (7, .c), (8, .c), (9, .t)] xN (fun x hx => by cases hx) (by kernel_rfl) (fun x hx => by cases hx) (fun r hr => hr) (w_qx (F := fun v_ => (rpQ 1).Is h0 v_ (0 : Rat)) rfl (zE ty30 (Pc.here _) rfl rfl rb5 rfl) (mem1 (.head _)) rfl ?_)
 intro v11u5 r11u5
 refine w_q rfl (fun h' L' hh hR => zG rfl) rfl (w_q rfl (fun h' L' hh hR => (zI (sz := 3) 0 Tryz.underlying32 Tryz.sizeOf30 rfl rfl rfl (by decide)).cv (show _ = vP b2 0 from congrArg (vP b2) (by rfl))) rfl (w_qx (F := fun v_ => (rpQ k).Is h0 v_ a.x) rfl (zE ty30 (Pc.tx (Pc.here _)) rfl rfl rb2 rfl) (mem1 (.tail _ (.tail _ (.tail _ (.head _))))) rfl ?_))
 intro v14u5 r14u5
 refine w_q rfl (fun h' L' hh hR => zG rfl) rfl (w_q rfl (fun h' L' hh hR => (zI (sz := 3) 0 Tryz.underlying32 Tryz.sizeOf30 rfl rfl rfl (by decide)).cv (show _ = vP b3 0 from congrArg (vP b3) (by rfl))) rfl (w_qx (F := fun v_ => (rpQ l).Is h0 v_ b.x) rfl (zE ty30 (Pc.tx (Pc.here _)) rfl rfl rb3 rfl) (mem1 (.tail _ (.tail _ (.head _)))) rfl ?_))
 intro v17u5 r17u5
 refine w_c rfl ?_
 refine yI (vs := [_, _]) Tryz.call54 ⟨rfl, rfl, trivial⟩ (fun w hs => o_rref_mul hs r14u5 r17u5 (by omega)) rfl ?_
 intro v18u5 h1 hh1 r18u5
 change (rpQ (k + l)).Is h1 v18u5 (a.x * b.x) at r18u5
 refine w_c rfl ?_
 replace r11u5 := r11u5.mono hh1
 refine yI (vs := [_, _]) Tryz.call53 ⟨rfl, rfl, trivial⟩ (fun w hs => o_rref_add hs r11u5 r18u5 (by omega)) rfl ?_
 intro v19u5 h2 hh2 r19u5
 change (rpQ (1 + (k + l) + 1)).Is h2 v19u5 ((0 : Rat) + (a.x * b.x)) at r19u5
 replace r19u5 := Rp.Is.le r19u5 (Le.q (l := k + l + 2) (by omega))
 replace rb5 := rb5.mono (hh1.trans hh2)
 have rw_19 := (Le.q (l := k + l + 2) (by omega)).R rb5
 refine wB (A := []) (F := fun c_ => (rpQ (k + l + 2)).R h2 c_ ((0 : Rat) + (a.x * b.x))) rfl (yJ Tryz.sizeOf30 (Pc.here _) rfl rfl rfl rw_19 r19u5 rfl) ?_
 intro cs_20 rb_21
 refine yZ (yV (zJ (e' := [(2, _), (3, _), (4, _), (5, _), (6, _)]) ⟨rfl, rfl, rfl, rfl, rfl, trivial⟩ (zB (zA (mv rfl rfl (gv ((zS (q := 1) rfl rfl (by omega) (by omega)).cv (show _ = vI (1) from rfl)) rfl (asg rfl rfl (zD (xY (zC (zC (zA (mv rfl rfl ?_)))))))))))))
 refine gv (OpV.tr (by decide) (zW (q := 3) rfl rfl)) rfl (zD (zB (xX rfl (zK (zB (zC (zR ?_)))))))
 refine yK 9 _ [] [(0, .q), (1, .q), (2, .q), (3, .q), (4, .q), (5, .q), (6, .q), (7, .c), (8, .c), (9, .t)] xN (fun x hx => by cases hx) (by kernel_rfl) (fun x hx => by cases hx) (fun r hr => hr) (w_qx (F := fun v_ => (rpQ (k + l + 2)).Is h2 v_ ((0 : Rat) + (a.x * b.x))) rfl (zE ty30 (Pc.here _) rfl rfl rb_21 rfl) (mem1 (.head _)) rfl ?_)
 intro v11u6 r11u6
 refine w_q rfl (fun h' L' hh hR => zG rfl) rfl (w_q rfl (fun h' L' hh hR => (zI (sz := 3) 1 Tryz.underlying32 Tryz.sizeOf30 rfl rfl rfl (by decide)).cv (show _ = vP b2 3 from congrArg (vP b2) (by rfl))) rfl ?_)
 replace rb2 := rb2.mono (hh1.trans hh2)
 refine w_qx (F := fun v_ => (rpQ k).Is h2 v_ a.y) rfl (zE ty30 (Pc.ty (Pc.here _)) rfl rfl rb2 rfl) (mem1 (.tail _ (.tail _ (.tail _ (.head _))))) rfl ?_
 intro v14u6 r14u6
 refine w_q rfl (fun h' L' hh hR => zG rfl) rfl (w_q rfl (fun h' L' hh hR => (zI (sz := 3) 1 Tryz.underlying32 Tryz.sizeOf30 rfl rfl rfl (by decide)).cv (show _ = vP b3 3 from congrArg (vP b3) (by rfl))) rfl ?_)
 replace rb3 := rb3.mono (hh1.trans hh2)
 refine w_qx (F := fun v_ => (rpQ l).Is h2 v_ b.y) rfl (zE ty30 (Pc.ty (Pc.here _)) rfl rfl rb3 rfl) (mem1 (.tail _ (.tail _ (.head _)))) rfl ?_
 intro v17u6 r17u6
 refine w_c rfl ?_
 refine yI (vs := [_, _]) Tryz.call54 ⟨rfl, rfl, trivial⟩ (fun w hs => o_rref_mul hs r14u6 r17u6 (by omega)) rfl ?_
 intro v18u6 h3 hh3 r18u6
 change (rpQ (k + l)).Is h3 v18u6 (a.y * b.y) at r18u6
 refine w_c rfl ?_
 replace r11u6 := r11u6.mono hh3
 refine yI (vs := [_, _]) Tryz.call53 ⟨rfl, rfl, trivial⟩ (fun w hs => o_rref_add hs r11u6 r18u6 (by omega)) rfl ?_
 intro v19u6 h4 hh4 r19u6
 change (rpQ ((k + l + 2) + (k + l) + 1)).Is h4 v19u6 (((0 : Rat) + (a.x * b.x)) + (a.y * b.y)) at r19u6
 replace r19u6 := Rp.Is.le r19u6 (Le.q (l := 2 * k + 2 * l + 3) (by omega))
 replace rb_21 := rb_21.mono (hh3.trans hh4)
 have rw_22 := (Le.q (l := 2 * k + 2 * l + 3) (by omega)).R rb_21
 refine wB (A := []) (F := fun c_ => (rpQ (2 * k + 2 * l + 3)).R h4 c_ (((0 : Rat) + (a.x * b.x)) + (a.y * b.y))) rfl (yJ Tryz.sizeOf30 (Pc.here _) rfl rfl rfl rw_22 r19u6 rfl) ?_
 intro cs_23 rb_24
 refine yZ (yV (zJ (e' := [(2, _), (3, _), (4, _), (5, _), (6, _)]) ⟨rfl, rfl, rfl, rfl, rfl, trivial⟩ (zB (zA (mv rfl rfl (gv ((zS (q := 1) rfl rfl (by omega) (by omega)).cv (show _ = vI (2) from rfl)) rfl (asg rfl rfl (zD (xY (zC (zC (zA (mv rfl rfl ?_)))))))))))))
 refine gv (OpV.tr (by decide) (zW (q := 3) rfl rfl)) rfl (zD (zB (xX rfl (zK (zB (zC (zR ?_)))))))
 refine yK 9 _ [] [(0, .q), (1, .q), (2, .q), (3, .q), (4, .q), (5, .q), (6, .q), (7, .c), (8, .c), (9, .t)] xN (fun x hx => by cases hx) (by kernel_rfl) (fun x hx => by cases hx) (fun r hr => hr) (w_qx (F := fun v_ => (rpQ (2 * k + 2 * l + 3)).Is h4 v_ (((0 : Rat) + (a.x * b.x)) + (a.y * b.y))) rfl (zE ty30 (Pc.here _) rfl rfl rb_24 rfl) (mem1 (.head _)) rfl ?_)
 intro v11u7 r11u7
 refine w_q rfl (fun h' L' hh hR => zG rfl) rfl (w_q rfl (fun h' L' hh hR => (zI (sz := 3) 2 Tryz.underlying32 Tryz.sizeOf30 rfl rfl rfl (by decide)).cv (show _ = vP b2 6 from congrArg (vP b2) (by rfl))) rfl ?_)
 replace rb2 := rb2.mono (hh3.trans hh4)
 refine w_qx (F := fun v_ => (rpQ k).Is h4 v_ a.z) rfl (zE ty30 (Pc.tz (Pc.here _)) rfl rfl rb2 rfl) (mem1 (.tail _ (.tail _ (.tail _ (.head _))))) rfl ?_
 intro v14u7 r14u7
 refine w_q rfl (fun h' L' hh hR => zG rfl) rfl (w_q rfl (fun h' L' hh hR => (zI (sz := 3) 2 Tryz.underlying32 Tryz.sizeOf30 rfl rfl rfl (by decide)).cv (show _ = vP b3 6 from congrArg (vP b3) (by rfl))) rfl ?_)
 replace rb3 := rb3.mono (hh3.trans hh4)
 refine w_qx (F := fun v_ => (rpQ l).Is h4 v_ b.z) rfl (zE ty30 (Pc.tz (Pc.here _)) rfl rfl rb3 rfl) (mem1 (.tail _ (.tail _ (.head _)))) rfl ?_
 intro v17u7 r17u7
 refine w_c rfl ?_
 refine yI (vs := [_, _]) Tryz.call54 ⟨rfl, rfl, trivial⟩ (fun w hs => o_rref_mul hs r14u7 r17u7 (by omega)) rfl ?_
 intro v18u7 h5 hh5 r18u7
 change (rpQ (k + l)).Is h5 v18u7 (a.z * b.z) at r18u7
 refine w_c rfl ?_
 replace r11u7 := r11u7.mono hh5
 refine yI (vs := [_, _]) Tryz.call53 ⟨rfl, rfl, trivial⟩ (fun w hs => o_rref_add hs r11u7 r18u7 (by omega)) rfl ?_
 intro v19u7 h6 hh6 r19u7
 change (rpQ ((2 * k + 2 * l + 3) + (k + l) + 1)).Is h6 v19u7 ((((0 : Rat) + (a.x * b.x)) + (a.y * b.y)) + (a.z * b.z)) at r19u7
 replace r19u7 := Rp.Is.le r19u7 (Le.q (l := 3 * k + 3 * l + 4) (by omega))
 replace rb_24 := rb_24.mono (hh5.trans hh6)
 have rw_25 := (Le.q (l := 3 * k + 3 * l + 4) (by omega)).R rb_24
 refine wB (A := []) (F := fun c_ => (rpQ (3 * k + 3 * l + 4)).R h6 c_ ((((0 : Rat) + (a.x * b.x)) + (a.y * b.y)) + (a.z * b.z))) rfl (yJ Tryz.sizeOf30 (Pc.here _) rfl rfl rfl rw_25 r19u7 rfl) ?_
 intro cs_26 rb_27
 refine yZ (yV (zJ (e' := [(2, _), (3, _), (4, _), (5, _), (6, _)]) ⟨rfl, rfl, rfl, rfl, rfl, trivial⟩ (zB (zA (mv rfl rfl (gv ((zS (q := 1) rfl rfl (by omega) (by omega)).cv (show _ = vI (3) from rfl)) rfl (asg rfl rfl (zD (xY (zC (zC (zA (mv rfl rfl ?_)))))))))))))
 refine gv (OpV.fa (by decide) (zW (q := 3) rfl rfl)) rfl (zD (zB (vW rfl (xG (yB (yB (xF (zB (zC (zA (gl_x (F := fun v_ => (rpQ (3 * k + 3 * l + 4)).Is h6 v_ ((((0 : Rat) + (a.x * b.x)) + (a.y * b.y)) + (a.z * b.z))) (zE ty30 (Pc.here _) rfl rfl rb_27 rfl) (mem1 (.head _)) rfl ?_)))))))))))
 intro v20u8 r20u8
 replace rb4 := rb4.mono (((((hh1.trans hh2).trans hh3).trans hh4).trans hh5).trans hh6)
 refine wE (A := [_]) (F := fun c_ => (rpQ (3 * k + 3 * l + 9)).R h6 c_ ((((0 : Rat) + (a.x * b.x)) + (a.y * b.y)) + (a.z * b.z))) (yJ Tryz.sizeOf30 (Pc.here _) rfl rfl rfl rb4 (r20u8.le (Le.q (l := 3 * k + 3 * l + 9) (by omega))) rfl) ?_
 intro cs_28 rb_29
 refine zD (zB (zQ (gq_exv (rv_o (t := 4) ty30 (.tail _ (.head _)) rfl rb_29) ?_)))
 intro w_30 hvw_30 rr_31
 refine xS (fun E S => yR rfl hvw_30 E S) ?_
 exact (Rp.Is.cast rr_31 (by unfold dotT; grind))

theorem o_dice_bool {w0 w : World} {h0 h : Mem} {b k : Nat} {vl : Value} {xs : List Int} (hl : Is h vl xs) (hk : k ≤ xs.length) {n : Int} (hn : 0 < n) (hn2 : n < 4611686018427387904) {L : List Res} (hs : St w0 h0 (.var b 65 [vl, vI ↑k] :: L) h w) :
    Calls Tryz.prog 24 #[vP b 0, vI n] w (RetMut w0 h0 h L (fun g r q' => ∃ k' : Nat, ∃ p : Prop, q' = .var b 65 [vl, vI ↑k'] ∧ k' ≤ xs.length ∧ r = vB p)) := by
 have hlen := hl.lt63
 refine calls_begin_st (n := 11) (e := [(0, vP b 0), (1, vI n)]) (vs := [vP b 0, vI n]) Tryz.func24 rfl rfl (Nat.le_of_ble_eq_true rfl) hs ⟨rfl, rfl, trivial⟩ (zC (zA (asg rfl rfl (zD (zB (zC (zA (mv rfl rfl (mv rfl rfl ?_)))))))))
 refine xO (A := []) (vs := [_, _]) Tryz.call22 ⟨rfl, rfl, trivial⟩ (fun X w hs => uC hl (by first | omega | exact Nat.zero_le _) (by omega) (by omega) hs) rfl ?_
 intro v7 g7 q7 hg7 hr7
 obtain ⟨k7, z7, rfl, hk7, rfl, hz7, hy7⟩ := hr7
 refine mv rfl rfl (gv (xW (q := 1) rfl rfl (by omega) (by omega)) rfl (gv (wC rfl rfl) rfl (asg rfl rfl (zD (zB (zQ (gq_body1_own rfl rfl ?_)))))))
 exact ⟨_, (List.Sublist.refl _), hg7, _, _, rfl, by omega, rfl⟩

theorem o_dice_plane {w0 w : World} {h0 h : Mem} {b k : Nat} {vl : Value} {xs : List Int} (hl : Is h vl xs) (hk : k ≤ xs.length) {L : List Res} (hs : St w0 h0 (.var b 65 [vl, vI ↑k] :: L) h w) :
    Calls Tryz.prog 13 #[vP b 0] w (RetMut w0 h0 h L (fun g r q' => ∃ k' : Nat, ∃ m : (T3 Rat) × Rat, q' = .var b 65 [vl, vI ↑k'] ∧ k' ≤ xs.length ∧ (rpP (rpT (rpQ 2)) (rpQ 2)).Is g r m)) := by
 have hlen := hl.lt63
 refine calls_begin_st (n := 30) (e := [(0, vP b 0)]) (vs := [vP b 0]) Tryz.func13 rfl rfl (Nat.le_of_ble_eq_true rfl) hs ⟨rfl, trivial⟩ (zC (zA (zL (xE (ρ := (rpP (rpT (rpQ 2)) (rpQ 2))) (X := ((T3.mk (0 : Rat) (0 : Rat) (0 : Rat)), (0 : Rat))) info34 rfl rfl (zr_p (zr_t (zr_q (by decide))) (zr_q (by decide)))) rfl rfl rfl ?_)))
 intro v2 q2 hq2
 obtain ⟨b2, cs2, rfl, rfl, rb2⟩ := hq2
 refine zD (zB (zC (zC (zA (mv rfl rfl ?_)))))
 refine xO (A := [_]) (vs := [_, vI (20)]) Tryz.call24 ⟨rfl, rfl, trivial⟩ (fun X w hs => o_dice_bool hl (by first | omega | exact Nat.zero_le _) (by omega) (by omega) hs) rfl ?_
 intro v5 g5 q5 hg5 hr5
 obtain ⟨k5, P5, rfl, hk5, rfl⟩ := hr5
 refine zD (zB ?_)
 refine zN rfl (fun hc5 => ?_) (fun hc5 => ?_)
 ·
  refine zC (zA (gl_x (F := fun v_ => (rpP (rpT (rpQ 1)) (rpQ 1)).Is g5 v_ ((T3.mk (0 : Rat) (0 : Rat) (0 : Rat)), (0 : Rat))) (ox_build (ps' := []) Tryz.underlying34 info34 rfl rfl (places34 Tryz.underlying34) trivial rfl (zr_p (zr_t (zr_q (by decide))) (zr_q (by decide))) xM) mem0 rfl ?_))
  intro v6 r6
  replace rb2 := rb2.mono hg5
  refine wE (A := []) (F := fun c_ => (rpP (rpT (rpQ 2)) (rpQ 2)).R g5 c_ ((T3.mk (0 : Rat) (0 : Rat) (0 : Rat)), (0 : Rat))) (yJ Tryz.sizeOf34 (Pc.here _) rfl rfl rfl rb2 (r6.le (Le.p (Le.t (Le.q (l := 2) (by decide))) (Le.q (l := 2) (by decide)))) rfl) ?_
  intro cs_42 rb_43
  refine zD (zB (zQ (yE (gq_exv (rv_o (t := 2) ty34 (.head _) rfl rb_43) ?_))))
  intro w_44 hvw_44 rr_45
  refine gq_res_own (fun E S => yR rfl hvw_44 E S) ?_
  exact ⟨_, (.cons _ (List.Sublist.refl _)), hg5, _, _, rfl, by omega, rr_45⟩
 refine zK (zB (zC (zA (gl_x (F := fun v_ => (rpT rpI).Is g5 v_ (T3.mk (1 : Int) (0 : Int) (0 : Int))) (wU (ps' := [(0, _), (1, _), (2, _)]) Tryz.underlying66 info66 rfl rfl Tryz.sizeOf3 ⟨rfl, rfl, rfl, rfl, rfl, rfl, trivial⟩ rfl (zr_t zr_i) (yQ rfl (Pc.tx (Pc.here _)) (is_i (by decide) (by decide)) (yQ rfl (Pc.ty (Pc.here _)) (is_i (by decide) (by decide)) (yQ rfl (Pc.tz (Pc.here _)) (is_i (by decide) (by decide)) xM)))) mem0 rfl ?_))))
 intro v7 r7
 refine gl_x (F := fun v_ => (rpT rpI).Is g5 v_ (T3.mk (0 : Int) (1 : Int) (0 : Int))) (wU (ps' := [(0, _), (1, _), (2, _)]) Tryz.underlying66 info66 rfl rfl Tryz.sizeOf3 ⟨rfl, rfl, rfl, rfl, rfl, rfl, trivial⟩ rfl (zr_t zr_i) (yQ rfl (Pc.tx (Pc.here _)) (is_i (by decide) (by decide)) (yQ rfl (Pc.ty (Pc.here _)) (is_i (by decide) (by decide)) (yQ rfl (Pc.tz (Pc.here _)) (is_i (by decide) (by decide)) xM)))) mem0 rfl ?_
 intro v8 r8
 refine gl_x (F := fun v_ => (rpT rpI).Is g5 v_ (T3.mk (0 : Int) (0 : Int) (1 : Int))) (wU (ps' := [(0, _), (1, _), (2, _)]) Tryz.underlying66 info66 rfl rfl Tryz.sizeOf3 ⟨rfl, rfl, rfl, rfl, rfl, rfl, trivial⟩ rfl (zr_t zr_i) (yQ rfl (Pc.tx (Pc.here _)) (is_i (by decide) (by decide)) (yQ rfl (Pc.ty (Pc.here _)) (is_i (by decide) (by decide)) (yQ rfl (Pc.tz (Pc.here _)) (is_i (by decide) (by decide)) xM)))) mem0 rfl ?_
 intro v9 r9
 refine gl_x (F := fun v_ => (rpT rpI).Is g5 v_ (T3.mk (1 : Int) (1 : Int) (0 : Int))) (wU (ps' := [(0, _), (1, _), (2, _)]) Tryz.underlying66 info66 rfl rfl Tryz.sizeOf3 ⟨rfl, rfl, rfl, rfl, rfl, rfl, trivial⟩ rfl (zr_t zr_i) (yQ rfl (Pc.tx (Pc.here _)) (is_i (by decide) (by decide)) (yQ rfl (Pc.ty (Pc.here _)) (is_i (by decide) (by decide)) (yQ rfl (Pc.tz (Pc.here _)) (is_i (by decide) (by decide)) xM)))) mem0 rfl ?_
 intro v10 r10
 refine gl_x (F := fun v_ => (rpT rpI).Is g5 v_ (T3.mk (-1 : Int) (0 : Int) (0 : Int))) (wU (ps' := [(0, _), (1, _), (2, _)]) Tryz.underlying66 info66 rfl rfl Tryz.sizeOf3 ⟨rfl, rfl, rfl, rfl, rfl, rfl, trivial⟩ rfl (zr_t zr_i) (yQ rfl (Pc.tx (Pc.here _)) (is_i (by decide) (by decide)) (yQ rfl (Pc.ty (Pc.here _)) (is_i (by decide) (by decide)) (yQ rfl (Pc.tz (Pc.here _)) (is_i (by decide) (by decide)) xM)))) mem0 rfl ?_
 intro v11 r11
 refine gl_x (F := fun v_ => (rpT rpI).Is g5 v_ (T3.mk (1 : Int) (-1 : Int) (2 : Int))) (wU (ps' := [(0, _), (1, _), (2, _)]) Tryz.underlying66 info66 rfl rfl Tryz.sizeOf3 ⟨rfl, rfl, rfl, rfl, rfl, rfl, trivial⟩ rfl (zr_t zr_i) (yQ rfl (Pc.tx (Pc.here _)) (is_i (by decide) (by decide)) (yQ rfl (Pc.ty (Pc.here _)) (is_i (by decide) (by decide)) (yQ rfl (Pc.tz (Pc.here _)) (is_i (by decide) (by decide)) xM)))) mem0 rfl ?_
 intro v12 r12
 refine gl_x (F := fun v_ => (rpT rpI).Is g5 v_ (T3.mk (0 : Int) (2 : Int) (1 : Int))) (wU (ps' := [(0, _), (1, _), (2, _)]) Tryz.underlying66 info66 rfl rfl Tryz.sizeOf3 ⟨rfl, rfl, rfl, rfl, rfl, rfl, trivial⟩ rfl (zr_t zr_i) (yQ rfl (Pc.tx (Pc.here _)) (is_i (by decide) (by decide)) (yQ rfl (Pc.ty (Pc.here _)) (is_i (by decide) (by decide)) (yQ rfl (Pc.tz (Pc.here _)) (is_i (by decide) (by decide)) xM)))) mem0 rfl ?_
 intro v13 r13
 refine gl_x (F := fun v_ => (rpA 7 (rpT rpI)).Is g5 v_ [(T3.mk (1 : Int) (0 : Int) (0 : Int)), (T3.mk (0 : Int) (1 : Int) (0 : Int)), (T3.mk (0 : Int) (0 : Int) (1 : Int)), (T3.mk (1 : Int) (1 : Int) (0 : Int)), (T3.mk (-1 : Int) (0 : Int) (0 : Int)), (T3.mk (1 : Int) (-1 : Int) (2 : Int)), (T3.mk (0 : Int) (2 : Int) (1 : Int))]) (wU (ps' := [(0, _), (1, _), (2, _), (3, _), (4, _), (5, _), (6, _)]) Tryz.underlying67 info67 rfl rfl Tryz.sizeOf66 ⟨rfl, rfl, rfl, rfl, rfl, rfl, rfl, rfl, rfl, rfl, rfl, rfl, rfl, rfl, trivial⟩ rfl (zr_a 7 (zr_t zr_i)) (yQ rfl (Pc.arr (Pc.here _) (T3.mk (0 : Int) (0 : Int) (0 : Int)) 0 (by decide)) r7 (yQ rfl (Pc.arr (Pc.here _) (T3.mk (0 : Int) (0 : Int) (0 : Int)) 1 (by decide)) r8 (yQ rfl (Pc.arr (Pc.here _) (T3.mk (0 : Int) (0 : Int) (0 : Int)) 2 (by decide)) r9 (yQ rfl (Pc.arr (Pc.here _) (T3.mk (0 : Int) (0 : Int) (0 : Int)) 3 (by decide)) r10 (yQ rfl (Pc.arr (Pc.here _) (T3.mk (0 : Int) (0 : Int) (0 : Int)) 4 (by decide)) r11 (yQ rfl (Pc.arr (Pc.here _) (T3.mk (0 : Int) (0 : Int) (0 : Int)) 5 (by decide)) r12 (yQ rfl (Pc.arr (Pc.here _) (T3.mk (0 : Int) (0 : Int) (0 : Int)) 6 (by decide)) r13 xM)))))))) mem0 rfl ?_
 intro v14 r14
 refine mv rfl rfl ?_
 replace hl := hl.mono hg5
 refine xO (A := [_]) (vs := [_, vI (7)]) Tryz.call22 ⟨rfl, rfl, trivial⟩ (fun X w hs => uC hl (by first | omega | exact Nat.zero_le _) (by omega) (by omega) hs) rfl ?_
 intro v16 g16 q16 hg16 hr16
 obtain ⟨k16, z16, rfl, hk16, rfl, hz16, hy16⟩ := hr16
 replace r14 := r14.mono hg16
 refine gl_x (F := fun v_ => (rpT rpI).Is g16 v_ ([(T3.mk (1 : Int) (0 : Int) (0 : Int)), (T3.mk (0 : Int) (1 : Int) (0 : Int)), (T3.mk (0 : Int) (0 : Int) (1 : Int)), (T3.mk (1 : Int) (1 : Int) (0 : Int)), (T3.mk (-1 : Int) (0 : Int) (0 : Int)), (T3.mk (1 : Int) (-1 : Int) (2 : Int)), (T3.mk (0 : Int) (2 : Int) (1 : Int))].getD z16.toNat (T3.mk (0 : Int) (0 : Int) (0 : Int)))) (ox_index z16.toNat Tryz.underlying67 ty66 (Pc.arr (Pc.here _) (T3.mk (0 : Int) (0 : Int) (0 : Int)) z16.toNat (by omega)) rfl rfl rfl rfl r14 (by omega) (by omega) rfl) mem0 rfl ?_
 intro v17 r17
 refine zL (xE (ρ := (rpT rpI)) (X := (T3.mk (0 : Int) (0 : Int) (0 : Int))) info66 rfl rfl (zr_t zr_i)) rfl rfl rfl ?_
 intro v3 q3 hq3
 obtain ⟨b3, cs3, rfl, rfl, rb3⟩ := hq3
 refine wE (A := []) (F := fun c_ => (rpT rpI).R g16 c_ ([(T3.mk (1 : Int) (0 : Int) (0 : Int)), (T3.mk (0 : Int) (1 : Int) (0 : Int)), (T3.mk (0 : Int) (0 : Int) (1 : Int)), (T3.mk (1 : Int) (1 : Int) (0 : Int)), (T3.mk (-1 : Int) (0 : Int) (0 : Int)), (T3.mk (1 : Int) (-1 : Int) (2 : Int)), (T3.mk (0 : Int) (2 : Int) (1 : Int))].getD z16.toNat (T3.mk (0 : Int) (0 : Int) (0 : Int)))) (yJ Tryz.sizeOf66 (Pc.here _) rfl rfl rfl rb3 r17 rfl) ?_
 intro cs_46 rb_47
 refine zD (zJ (e' := [(0, _), (2, _), (3, _)]) ⟨rfl, rfl, rfl, trivial⟩ (zB (zC (zA (gv ((zI (sz := 1) (q := 0) 0 Tryz.underlying66 Tryz.sizeOf3 rfl rfl rfl (by decide)).cv (show _ = vP b3 0 from congrArg (vP b3) (by rfl))) rfl (gl_x (F := fun v_ => rpI.Is g16 v_ (([(T3.mk (1 : Int) (0 : Int) (0 : Int)), (T3.mk (0 : Int) (1 : Int) (0 : Int)), (T3.mk (0 : Int) (0 : Int) (1 : Int)), (T3.mk (1 : Int) (1 : Int) (0 : Int)), (T3.mk (-1 : Int) (0 : Int) (0 : Int)), (T3.mk (1 : Int) (-1 : Int) (2 : Int)), (T3.mk (0 : Int) (2 : Int) (1 : Int))].getD z16.toNat (T3.mk (0 : Int) (0 : Int) (0 : Int))).x)) (zE ty3 (Pc.tx (Pc.here _)) rfl rfl rb_47 rfl) (mem1 (.head _)) rfl ?_))))))
 intro v19 r19
 obtain ⟨rfl, hl19, hu19⟩ := of_i r19
 refine gv ((zI (sz := 1) (q := 1) 1 Tryz.underlying66 Tryz.sizeOf3 rfl rfl rfl (by decide)).cv (show _ = vP b3 1 from congrArg (vP b3) (by rfl))) rfl (gl_x (F := fun v_ => rpI.Is g16 v_ (([(T3.mk (1 : Int) (0 : Int) (0 : Int)), (T3.mk (0 : Int) (1 : Int) (0 : Int)), (T3.mk (0 : Int) (0 : Int) (1 : Int)), (T3.mk (1 : Int) (1 : Int) (0 : Int)), (T3.mk (-1 : Int) (0 : Int) (0 : Int)), (T3.mk (1 : Int) (-1 : Int) (2 : Int)), (T3.mk (0 : Int) (2 : Int) (1 : Int))].getD z16.toNat (T3.mk (0 : Int) (0 : Int) (0 : Int))).y)) (zE ty3 (Pc.ty (Pc.here _)) rfl rfl rb_47 rfl) (mem1 (.head _)) rfl ?_)
 intro v21 r21
 obtain ⟨rfl, hl21, hu21⟩ := of_i r21
 refine gv ((zI (sz := 1) (q := 2) 2 Tryz.underlying66 Tryz.sizeOf3 rfl rfl rfl (by decide)).cv (show _ = vP b3 2 from congrArg (vP b3) (by rfl))) rfl (gl_x (F := fun v_ => rpI.Is g16 v_ (([(T3.mk (1 : Int) (0 : Int) (0 : Int)), (T3.mk (0 : Int) (1 : Int) (0 : Int)), (T3.mk (0 : Int) (0 : Int) (1 : Int)), (T3.mk (1 : Int) (1 : Int) (0 : Int)), (T3.mk (-1 : Int) (0 : Int) (0 : Int)), (T3.mk (1 : Int) (-1 : Int) (2 : Int)), (T3.mk (0 : Int) (2 : Int) (1 : Int))].getD z16.toNat (T3.mk (0 : Int) (0 : Int) (0 : Int))).z)) (zE ty3 (Pc.tz (Pc.here _)) rfl rfl rb_47 rfl) (mem1 (.head _)) rfl ?_)
 intro v23 r23
 obtain ⟨rfl, hl23, hu23⟩ := of_i r23
 refine zM (vs := [_, _, _]) rfl rfl rfl rfl Tryz.call44 ⟨rfl, rfl, rfl, trivial⟩ (fun w hs => o_made_at3 hs (by omega) (by omega) (by omega) (by omega) (by omega) (by omega)) ?_
 intro v24 h1 hh1 r24
 change (rpT (rpQ 2)).Is h1 v24 (T3.mk (((([(T3.mk (1 : Int) (0 : Int) (0 : Int)), (T3.mk (0 : Int) (1 : Int) (0 : Int)), (T3.mk (0 : Int) (0 : Int) (1 : Int)), (T3.mk (1 : Int) (1 : Int) (0 : Int)), (T3.mk (-1 : Int) (0 : Int) (0 : Int)), (T3.mk (1 : Int) (-1 : Int) (2 : Int)), (T3.mk (0 : Int) (2 : Int) (1 : Int))].getD z16.toNat (T3.mk (0 : Int) (0 : Int) (0 : Int))).x) : Int) : Rat) (((([(T3.mk (1 : Int) (0 : Int) (0 : Int)), (T3.mk (0 : Int) (1 : Int) (0 : Int)), (T3.mk (0 : Int) (0 : Int) (1 : Int)), (T3.mk (1 : Int) (1 : Int) (0 : Int)), (T3.mk (-1 : Int) (0 : Int) (0 : Int)), (T3.mk (1 : Int) (-1 : Int) (2 : Int)), (T3.mk (0 : Int) (2 : Int) (1 : Int))].getD z16.toNat (T3.mk (0 : Int) (0 : Int) (0 : Int))).y) : Int) : Rat) (((([(T3.mk (1 : Int) (0 : Int) (0 : Int)), (T3.mk (0 : Int) (1 : Int) (0 : Int)), (T3.mk (0 : Int) (0 : Int) (1 : Int)), (T3.mk (1 : Int) (1 : Int) (0 : Int)), (T3.mk (-1 : Int) (0 : Int) (0 : Int)), (T3.mk (1 : Int) (-1 : Int) (2 : Int)), (T3.mk (0 : Int) (2 : Int) (1 : Int))].getD z16.toNat (T3.mk (0 : Int) (0 : Int) (0 : Int))).z) : Int) : Rat)) at r24
 refine mv rfl rfl ?_
 replace hl := hl.mono (hg16.trans hh1)
 refine xO (A := [_, _]) (vs := [_, vI (9)]) Tryz.call22 ⟨rfl, rfl, trivial⟩ (fun X w hs => uC hl (by first | omega | exact Nat.zero_le _) (by omega) (by omega) hs) rfl ?_
 intro v26 g26 q26 hg26 hr26
 obtain ⟨k26, z26, rfl, hk26, rfl, hz26, hy26⟩ := hr26
 refine gv (xW (q := 1) rfl rfl (by omega) (by omega)) rfl ?_
 refine zM (vs := [_, vI (2)]) rfl rfl rfl rfl Tryz.call46 ⟨rfl, rfl, trivial⟩ (fun w hs => o_rref_frac hs (by omega) (by omega) (by decide) (by decide)) ?_
 intro v28 h2 hh2 r28
 change (rpQ 2).Is h2 v28 (wW (z26 - (1 : Int)) (2 : Int)) at r28
 replace r24 := r24.mono (hg26.trans hh2)
 refine gl_x (F := fun v_ => (rpP (rpT (rpQ 2)) (rpQ 2)).Is h2 v_ ((T3.mk (((([(T3.mk (1 : Int) (0 : Int) (0 : Int)), (T3.mk (0 : Int) (1 : Int) (0 : Int)), (T3.mk (0 : Int) (0 : Int) (1 : Int)), (T3.mk (1 : Int) (1 : Int) (0 : Int)), (T3.mk (-1 : Int) (0 : Int) (0 : Int)), (T3.mk (1 : Int) (-1 : Int) (2 : Int)), (T3.mk (0 : Int) (2 : Int) (1 : Int))].getD z16.toNat (T3.mk (0 : Int) (0 : Int) (0 : Int))).x) : Int) : Rat) (((([(T3.mk (1 : Int) (0 : Int) (0 : Int)), (T3.mk (0 : Int) (1 : Int) (0 : Int)), (T3.mk (0 : Int) (0 : Int) (1 : Int)), (T3.mk (1 : Int) (1 : Int) (0 : Int)), (T3.mk (-1 : Int) (0 : Int) (0 : Int)), (T3.mk (1 : Int) (-1 : Int) (2 : Int)), (T3.mk (0 : Int) (2 : Int) (1 : Int))].getD z16.toNat (T3.mk (0 : Int) (0 : Int) (0 : Int))).y) : Int) : Rat) (((([(T3.mk (1 : Int) (0 : Int) (0 : Int)), (T3.mk (0 : Int) (1 : Int) (0 : Int)), (T3.mk (0 : Int) (0 : Int) (1 : Int)), (T3.mk (1 : Int) (1 : Int) (0 : Int)), (T3.mk (-1 : Int) (0 : Int) (0 : Int)), (T3.mk (1 : Int) (-1 : Int) (2 : Int)), (T3.mk (0 : Int) (2 : Int) (1 : Int))].getD z16.toNat (T3.mk (0 : Int) (0 : Int) (0 : Int))).z) : Int) : Rat)), wW (z26 - (1 : Int)) (2 : Int))) (ox_build (ps' := [(0, _), (1, _)]) Tryz.underlying34 info34 rfl rfl (places34 Tryz.underlying34) ⟨rfl, rfl, rfl, rfl, trivial⟩ rfl (zr_p (zr_t (zr_q (by decide))) (zr_q (by decide))) (yQ rfl (Pc.fst (Pc.here _)) r24 (yQ rfl (Pc.snd (Pc.here _)) r28 xM))) mem0 rfl ?_
 intro v29 r29
 replace rb2 := rb2.mono ((((hg5.trans hg16).trans hh1).trans hg26).trans hh2)
 refine wE (A := [_]) (F := fun c_ => (rpP (rpT (rpQ 2)) (rpQ 2)).R h2 c_ ((T3.mk (((([(T3.mk (1 : Int) (0 : Int) (0 : Int)), (T3.mk (0 : Int) (1 : Int) (0 : Int)), (T3.mk (0 : Int) (0 : Int) (1 : Int)), (T3.mk (1 : Int) (1 : Int) (0 : Int)), (T3.mk (-1 : Int) (0 : Int) (0 : Int)), (T3.mk (1 : Int) (-1 : Int) (2 : Int)), (T3.mk (0 : Int) (2 : Int) (1 : Int))].getD z16.toNat (T3.mk (0 : Int) (0 : Int) (0 : Int))).x) : Int) : Rat) (((([(T3.mk (1 : Int) (0 : Int) (0 : Int)), (T3.mk (0 : Int) (1 : Int) (0 : Int)), (T3.mk (0 : Int) (0 : Int) (1 : Int)), (T3.mk (1 : Int) (1 : Int) (0 : Int)), (T3.mk (-1 : Int) (0 : Int) (0 : Int)), (T3.mk (1 : Int) (-1 : Int) (2 : Int)), (T3.mk (0 : Int) (2 : Int) (1 : Int))].getD z16.toNat (T3.mk (0 : Int) (0 : Int) (0 : Int))).y) : Int) : Rat) (((([(T3.mk (1 : Int) (0 : Int) (0 : Int)), (T3.mk (0 : Int) (1 : Int) (0 : Int)), (T3.mk (0 : Int) (0 : Int) (1 : Int)), (T3.mk (1 : Int) (1 : Int) (0 : Int)), (T3.mk (-1 : Int) (0 : Int) (0 : Int)), (T3.mk (1 : Int) (-1 : Int) (2 : Int)), (T3.mk (0 : Int) (2 : Int) (1 : Int))].getD z16.toNat (T3.mk (0 : Int) (0 : Int) (0 : Int))).z) : Int) : Rat)), wW (z26 - (1 : Int)) (2 : Int))) (yJ Tryz.sizeOf34 (Pc.here _) rfl rfl rfl rb2 r29 rfl) ?_
 intro cs_48 rb_49
 refine zD (zJ (e' := [(2, _)]) ⟨rfl, trivial⟩ (zB (zQ (gq_exv (rv_o (t := 2) ty34 (.tail _ (.head _)) rfl rb_49) ?_))))
 intro w_50 hvw_50 rr_51
 refine gq_res_own (fun E S => yR rfl hvw_50 E S) ?_
 exact ⟨_, (.cons _ (.cons _ (List.Sublist.refl _))), ((((hg5.trans hg16).trans hh1).trans hg26).trans hh2), _, _, rfl, by omega, rr_51⟩

end Go.Proofs.YtghhjjmjpeehdaaGreat


namespace Go.Proofs.YtghhjjmjpeehdaaGreat
open Bk Go
set_option linter.unusedVariables false
set_option linter.unusedSimpArgs false
set_option maxRecDepth 10000

theorem o_dice_spot {w0 w : World} {h0 h : Mem} {b k : Nat} {vl : Value} {xs : List Int} (hl : Is h vl xs) (hk : k ≤ xs.length) {L : List Res} (hs : St w0 h0 (.var b 65 [vl, vI ↑k] :: L) h w) :
    Calls Tryz.prog 33 #[vP b 0] w (RetMut w0 h0 h L (fun g r q' => ∃ k' : Nat, ∃ m : T3 Rat, q' = .var b 65 [vl, vI ↑k'] ∧ k' ≤ xs.length ∧ (rpT (rpQ 2)).Is g r m)) := by
 have hlen := hl.lt63
 refine calls_begin_st (n := 22) (e := [(0, vP b 0)]) (vs := [vP b 0]) Tryz.func33 rfl rfl (Nat.le_of_ble_eq_true rfl) hs ⟨rfl, trivial⟩ (zC (zA (zL (xE (ρ := (rpT (rpQ 2))) (X := (T3.mk (0 : Rat) (0 : Rat) (0 : Rat))) yC rfl rfl (zr_t (zr_q (by decide)))) rfl rfl rfl ?_)))
 intro v2 q2 hq2
 obtain ⟨b2, cs2, rfl, rfl, rb2⟩ := hq2
 refine zD (zB (zC (zA (zL (xE (ρ := (rpT (rpQ 2))) (X := (T3.mk (0 : Rat) (0 : Rat) (0 : Rat))) yC rfl rfl (zr_t (zr_q (by decide)))) rfl rfl rfl ?_))))
 intro v3 q3 hq3
 obtain ⟨b3, cs3, rfl, rfl, rb3⟩ := hq3
 refine zD (zB (zC (zC (zA (asg (v := vI (0)) rfl rfl (zD (zB (zR (gc_loop1 (zC (zC (zA (mv rfl rfl ?_)))))))))))))
 refine gv (OpV.tr (by decide) (zW (q := 3) rfl rfl)) rfl (zD (zB (xX rfl (zK (zB (zC (zR (zC (zA (mv rfl rfl (mv rfl rfl ?_)))))))))))
 refine xO (A := [_, _]) (vs := [_, vI (5)]) Tryz.call22 ⟨rfl, rfl, trivial⟩ (fun X w hs => uC hl (by first | omega | exact Nat.zero_le _) (by omega) (by omega) hs) rfl ?_
 intro v11u1 g11u1 q11u1 hg11u1 hr11u1
 obtain ⟨k11u1, z11u1, rfl, hk11u1, rfl, hz11u1, hy11u1⟩ := hr11u1
 refine zM (vs := [_]) rfl rfl rfl rfl Tryz.call45 ⟨rfl, trivial⟩ (fun w hs => o_rref_int hs (by omega) (by omega)) ?_
 intro v12u1 h1 hh1 r12u1
 change (rpQ 2).Is h1 v12u1 ((z11u1 : Int) : Rat) at r12u1
 refine gv ((zI (sz := 3) 0 Tryz.underlying32 Tryz.sizeOf30 rfl rfl rfl (by decide)).cv (show _ = vP b3 0 from congrArg (vP b3) (by rfl))) rfl ?_
 replace rb3 := rb3.mono (hg11u1.trans hh1)
 refine wE (A := []) (F := fun c_ => (rpT (rpQ 2)).R h1 c_ (T3.mk ((z11u1 : Int) : Rat) (0 : Rat) (0 : Rat))) (yJ Tryz.sizeOf30 (Pc.tx (Pc.here _)) rfl rfl rfl rb3 r12u1 rfl) ?_
 intro cs_1 rb_2
 refine zD (zB (zC (zA (mv rfl rfl ?_))))
 replace hl := hl.mono (hg11u1.trans hh1)
 refine xO (A := [_, _]) (vs := [_, vI (4)]) Tryz.call24 ⟨rfl, rfl, trivial⟩ (fun X w hs => o_dice_bool hl (by first | omega | exact Nat.zero_le _) (by omega) (by omega) hs) rfl ?_
 intro v15u1 g15u1 q15u1 hg15u1 hr15u1
 obtain ⟨k15u1, P15u1, rfl, hk15u1, rfl⟩ := hr15u1
 refine zD (zB ?_)
 refine zN rfl (fun hc15 => ?_) (fun hc15 => ?_)
 ·
  refine zA (mv rfl rfl (mv rfl rfl ?_))
  replace hl := hl.mono hg15u1
  refine xO (A := [_, _]) (vs := [_, vI (9)]) Tryz.call22 ⟨rfl, rfl, trivial⟩ (fun X w hs => uC hl (by first | omega | exact Nat.zero_le _) (by omega) (by omega) hs) rfl ?_
  intro v18u1 g18u1 q18u1 hg18u1 hr18u1
  obtain ⟨k18u1, z18u1, rfl, hk18u1, rfl, hz18u1, hy18u1⟩ := hr18u1
  refine zM (vs := [_, vI (2)]) rfl rfl rfl rfl Tryz.call46 ⟨rfl, rfl, trivial⟩ (fun w hs => o_rref_frac hs (by omega) (by omega) (by decide) (by decide)) ?_
  intro v19u1 h2 hh2 r19u1
  change (rpQ 2).Is h2 v19u1 (wW z18u1 (2 : Int)) at r19u1
  refine gv ((zI (sz := 3) 0 Tryz.underlying32 Tryz.sizeOf30 rfl rfl rfl (by decide)).cv (show _ = vP b3 0 from congrArg (vP b3) (by rfl))) rfl ?_
  replace rb_2 := rb_2.mono ((hg15u1.trans hg18u1).trans hh2)
  refine wE (A := []) (F := fun c_ => (rpT (rpQ 2)).R h2 c_ (T3.mk (wW z18u1 (2 : Int)) (0 : Rat) (0 : Rat))) (yJ Tryz.sizeOf30 (Pc.tx (Pc.here _)) rfl rfl rfl rb_2 r19u1 rfl) ?_
  intro cs_3 rb_4
  refine zD (yV (zJ (e' := [(0, _), (2, _), (3, _), (4, _)]) ⟨rfl, rfl, rfl, rfl, trivial⟩ (zB (zA (mv rfl rfl (gv ((zS (q := 1) rfl rfl (by omega) (by omega)).cv (show _ = vI (1) from rfl)) rfl (asg rfl rfl (zD (xY (zC (zC (zA (mv rfl rfl ?_)))))))))))))
  refine gv (OpV.tr (by decide) (zW (q := 3) rfl rfl)) rfl (zD (zB (xX rfl (zK (zB (zC (zR (zC (zA (mv rfl rfl (mv rfl rfl ?_)))))))))))
  replace hl := hl.mono (hg18u1.trans hh2)
  refine xO (A := [_, _]) (vs := [_, vI (5)]) Tryz.call22 ⟨rfl, rfl, trivial⟩ (fun X w hs => uC hl (by first | omega | exact Nat.zero_le _) (by omega) (by omega) hs) rfl ?_
  intro v11u2 g11u2 q11u2 hg11u2 hr11u2
  obtain ⟨k11u2, z11u2, rfl, hk11u2, rfl, hz11u2, hy11u2⟩ := hr11u2
  refine zM (vs := [_]) rfl rfl rfl rfl Tryz.call45 ⟨rfl, trivial⟩ (fun w hs => o_rref_int hs (by omega) (by omega)) ?_
  intro v12u2 h3 hh3 r12u2
  change (rpQ 2).Is h3 v12u2 ((z11u2 : Int) : Rat) at r12u2
  refine gv ((zI (sz := 3) 1 Tryz.underlying32 Tryz.sizeOf30 rfl rfl rfl (by decide)).cv (show _ = vP b3 3 from congrArg (vP b3) (by rfl))) rfl ?_
  replace rb_4 := rb_4.mono (hg11u2.trans hh3)
  refine wE (A := []) (F := fun c_ => (rpT (rpQ 2)).R h3 c_ (T3.mk (wW z18u1 (2 : Int)) ((z11u2 : Int) : Rat) (0 : Rat))) (yJ Tryz.sizeOf30 (Pc.ty (Pc.here _)) rfl rfl rfl rb_4 r12u2 rfl) ?_
  intro cs_5 rb_6
  refine zD (zB (zC (zA (mv rfl rfl ?_))))
  replace hl := hl.mono (hg11u2.trans hh3)
  refine xO (A := [_, _]) (vs := [_, vI (4)]) Tryz.call24 ⟨rfl, rfl, trivial⟩ (fun X w hs => o_dice_bool hl (by first | omega | exact Nat.zero_le _) (by omega) (by omega) hs) rfl ?_
  intro v15u2 g15u2 q15u2 hg15u2 hr15u2
  obtain ⟨k15u2, P15u2, rfl, hk15u2, rfl⟩ := hr15u2
  refine zD (zJ (e' := [(0, _), (2, _), (3, _), (4, _), (15, _)]) ⟨rfl, rfl, rfl, rfl, rfl, trivial⟩ (zB ?_))
  refine zN rfl (fun hc15 => ?_) (fun hc15 => ?_)
  ·
   refine zA (mv rfl rfl (mv rfl rfl ?_))
   replace hl := hl.mono hg15u2
   refine xO (A := [_, _]) (vs := [_, vI (9)]) Tryz.call22 ⟨rfl, rfl, trivial⟩ (fun X w hs => uC hl (by first | omega | exact Nat.zero_le _) (by omega) (by omega) hs) rfl ?_
   intro v18u2 g18u2 q18u2 hg18u2 hr18u2
   obtain ⟨k18u2, z18u2, rfl, hk18u2, rfl, hz18u2, hy18u2⟩ := hr18u2
   refine zM (vs := [_, vI (2)]) rfl rfl rfl rfl Tryz.call46 ⟨rfl, rfl, trivial⟩ (fun w hs => o_rref_frac hs (by omega) (by omega) (by decide) (by decide)) ?_
   intro v19u2 h4 hh4 r19u2
   change (rpQ 2).Is h4 v19u2 (wW z18u2 (2 : Int)) at r19u2
   refine gv ((zI (sz := 3) 1 Tryz.underlying32 Tryz.sizeOf30 rfl rfl rfl (by decide)).cv (show _ = vP b3 3 from congrArg (vP b3) (by rfl))) rfl ?_
   replace rb_6 := rb_6.mono ((hg15u2.trans hg18u2).trans hh4)
   refine wE (A := []) (F := fun c_ => (rpT (rpQ 2)).R h4 c_ (T3.mk (wW z18u1 (2 : Int)) (wW z18u2 (2 : Int)) (0 : Rat))) (yJ Tryz.sizeOf30 (Pc.ty (Pc.here _)) rfl rfl rfl rb_6 r19u2 rfl) ?_
   intro cs_7 rb_8
   refine zD (yV (zB (zA (mv rfl rfl (gv ((zS (q := 1) rfl rfl (by omega) (by omega)).cv (show _ = vI (2) from rfl)) rfl (asg rfl rfl (zD (xY (zC (zC (zA (mv rfl rfl (gv (OpV.tr (by decide) (zW (q := 3) rfl rfl)) rfl ?_)))))))))))))
   refine zD (zB (xX rfl (zK (zJ (e' := [(0, _), (2, _), (3, _), (4, _)]) ⟨rfl, rfl, rfl, rfl, trivial⟩ (zB (zC (zR (zC (zA (mv rfl rfl (mv rfl rfl ?_)))))))))))
   replace hl := hl.mono (hg18u2.trans hh4)
   refine xO (A := [_, _]) (vs := [_, vI (5)]) Tryz.call22 ⟨rfl, rfl, trivial⟩ (fun X w hs => uC hl (by first | omega | exact Nat.zero_le _) (by omega) (by omega) hs) rfl ?_
   intro v11u3 g11u3 q11u3 hg11u3 hr11u3
   obtain ⟨k11u3, z11u3, rfl, hk11u3, rfl, hz11u3, hy11u3⟩ := hr11u3
   refine zM (vs := [_]) rfl rfl rfl rfl Tryz.call45 ⟨rfl, trivial⟩ (fun w hs => o_rref_int hs (by omega) (by omega)) ?_
   intro v12u3 h5 hh5 r12u3
   change (rpQ 2).Is h5 v12u3 ((z11u3 : Int) : Rat) at r12u3
   refine gv ((zI (sz := 3) 2 Tryz.underlying32 Tryz.sizeOf30 rfl rfl rfl (by decide)).cv (show _ = vP b3 6 from congrArg (vP b3) (by rfl))) rfl ?_
   replace rb_8 := rb_8.mono (hg11u3.trans hh5)
   refine wE (A := []) (F := fun c_ => (rpT (rpQ 2)).R h5 c_ (T3.mk (wW z18u1 (2 : Int)) (wW z18u2 (2 : Int)) ((z11u3 : Int) : Rat))) (yJ Tryz.sizeOf30 (Pc.tz (Pc.here _)) rfl rfl rfl rb_8 r12u3 rfl) ?_
   intro cs_9 rb_10
   refine zD (zB (zC (zA (mv rfl rfl ?_))))
   replace hl := hl.mono (hg11u3.trans hh5)
   refine xO (A := [_, _]) (vs := [_, vI (4)]) Tryz.call24 ⟨rfl, rfl, trivial⟩ (fun X w hs => o_dice_bool hl (by first | omega | exact Nat.zero_le _) (by omega) (by omega) hs) rfl ?_
   intro v15u3 g15u3 q15u3 hg15u3 hr15u3
   obtain ⟨k15u3, P15u3, rfl, hk15u3, rfl⟩ := hr15u3
   refine zD (zB ?_)
   refine zN rfl (fun hc15 => ?_) (fun hc15 => ?_)
   ·
    refine zA (mv rfl rfl (mv rfl rfl ?_))
    replace hl := hl.mono hg15u3
    refine xO (A := [_, _]) (vs := [_, vI (9)]) Tryz.call22 ⟨rfl, rfl, trivial⟩ (fun X w hs => uC hl (by first | omega | exact Nat.zero_le _) (by omega) (by omega) hs) rfl ?_
    intro v18u3 g18u3 q18u3 hg18u3 hr18u3
    obtain ⟨k18u3, z18u3, rfl, hk18u3, rfl, hz18u3, hy18u3⟩ := hr18u3
    refine zM (vs := [_, vI (2)]) rfl rfl rfl rfl Tryz.call46 ⟨rfl, rfl, trivial⟩ (fun w hs => o_rref_frac hs (by omega) (by omega) (by decide) (by decide)) ?_
    intro v19u3 h6 hh6 r19u3
    change (rpQ 2).Is h6 v19u3 (wW z18u3 (2 : Int)) at r19u3
    refine gv ((zI (sz := 3) 2 Tryz.underlying32 Tryz.sizeOf30 rfl rfl rfl (by decide)).cv (show _ = vP b3 6 from congrArg (vP b3) (by rfl))) rfl ?_
    replace rb_10 := rb_10.mono ((hg15u3.trans hg18u3).trans hh6)
    refine wE (A := []) (F := fun c_ => (rpT (rpQ 2)).R h6 c_ (T3.mk (wW z18u1 (2 : Int)) (wW z18u2 (2 : Int)) (wW z18u3 (2 : Int)))) (yJ Tryz.sizeOf30 (Pc.tz (Pc.here _)) rfl rfl rfl rb_10 r19u3 rfl) ?_
    intro cs_11 rb_12
    refine zD (yV (zJ (e' := [(0, _), (2, _), (3, _), (4, _)]) ⟨rfl, rfl, rfl, rfl, trivial⟩ (zB (zA (mv rfl rfl (gv ((zS (q := 1) rfl rfl (by omega) (by omega)).cv (show _ = vI (3) from rfl)) rfl (asg rfl rfl (zD (xY (zC (zC (zA (mv rfl rfl ?_)))))))))))))
    refine gv (OpV.fa (by decide) (zW (q := 3) rfl rfl)) rfl (zD (zB (vW rfl (xG (yB (yB (xF (zB (zC (zA (gl_x (F := fun v_ => (rpT (rpQ 2)).Is h6 v_ (T3.mk (wW z18u1 (2 : Int)) (wW z18u2 (2 : Int)) (wW z18u3 (2 : Int)))) (zE ty32 (Pc.here _) rfl rfl rb_12 rfl) (mem1 (.head _)) rfl ?_)))))))))))
    intro v21u4 r21u4
    replace rb2 := rb2.mono ((((((((((((((hg11u1.trans hh1).trans hg15u1).trans hg18u1).trans hh2).trans hg11u2).trans hh3).trans hg15u2).trans hg18u2).trans hh4).trans hg11u3).trans hh5).trans hg15u3).trans hg18u3).trans hh6)
    refine wE (A := [_]) (F := fun c_ => (rpT (rpQ 2)).R h6 c_ (T3.mk (wW z18u1 (2 : Int)) (wW z18u2 (2 : Int)) (wW z18u3 (2 : Int)))) (yJ Tryz.sizeOf32 (Pc.here _) rfl rfl rfl rb2 r21u4 rfl) ?_
    intro cs_13 rb_14
    refine zD (zB (zQ (gq_exv (rv_o (t := 2) ty32 (.tail _ (.head _)) rfl rb_14) ?_)))
    intro w_15 hvw_15 rr_16
    refine gq_res_own (fun E S => yR rfl hvw_15 E S) ?_
    exact ⟨_, (.cons _ (.cons _ (List.Sublist.refl _))), ((((((((((((((hg11u1.trans hh1).trans hg15u1).trans hg18u1).trans hh2).trans hg11u2).trans hh3).trans hg15u2).trans hg18u2).trans hh4).trans hg11u3).trans hh5).trans hg15u3).trans hg18u3).trans hh6), _, _, rfl, by omega, rr_16⟩
   refine zK (yV (zB (zA (mv rfl rfl (gv ((zS (q := 1) rfl rfl (by omega) (by omega)).cv (show _ = vI (3) from rfl)) rfl (asg rfl rfl (zD (xY (zC (zC (zA (mv rfl rfl (gv (OpV.fa (by decide) (zW (q := 3) rfl rfl)) rfl ?_)))))))))))))
   refine zD (zJ (e' := [(0, _), (2, _), (3, _), (4, _), (6, _)]) ⟨rfl, rfl, rfl, rfl, rfl, trivial⟩ (zB (vW rfl (xG (yB (yB (xF (zB (zC (zA ?_))))))))))
   replace rb_10 := rb_10.mono hg15u3
   refine gl_x (F := fun v_ => (rpT (rpQ 2)).Is g15u3 v_ (T3.mk (wW z18u1 (2 : Int)) (wW z18u2 (2 : Int)) ((z11u3 : Int) : Rat))) (zE ty32 (Pc.here _) rfl rfl rb_10 rfl) (mem1 (.head _)) rfl ?_
   intro v21u5 r21u5
   replace rb2 := rb2.mono ((((((((((((hg11u1.trans hh1).trans hg15u1).trans hg18u1).trans hh2).trans hg11u2).trans hh3).trans hg15u2).trans hg18u2).trans hh4).trans hg11u3).trans hh5).trans hg15u3)
   refine wE (A := [_]) (F := fun c_ => (rpT (rpQ 2)).R g15u3 c_ (T3.mk (wW z18u1 (2 : Int)) (wW z18u2 (2 : Int)) ((z11u3 : Int) : Rat))) (yJ Tryz.sizeOf32 (Pc.here _) rfl rfl rfl rb2 r21u5 rfl) ?_
   intro cs_17 rb_18
   refine zD (zB (zQ (gq_exv (rv_o (t := 2) ty32 (.tail _ (.head _)) rfl rb_18) ?_)))
   intro w_19 hvw_19 rr_20
   refine gq_res_own (fun E S => yR rfl hvw_19 E S) ?_
   exact ⟨_, (.cons _ (.cons _ (List.Sublist.refl _))), ((((((((((((hg11u1.trans hh1).trans hg15u1).trans hg18u1).trans hh2).trans hg11u2).trans hh3).trans hg15u2).trans hg18u2).trans hh4).trans hg11u3).trans hh5).trans hg15u3), _, _, rfl, by omega, rr_20⟩
  refine zK (yV (zB (zA (mv rfl rfl (gv ((zS (q := 1) rfl rfl (by omega) (by omega)).cv (show _ = vI (2) from rfl)) rfl (asg rfl rfl (zD (xY (zC (zC (zA (mv rfl rfl (gv (OpV.tr (by decide) (zW (q := 3) rfl rfl)) rfl ?_)))))))))))))
  refine zD (zB (xX rfl (zK (zB (zC (zR (zC (zA (mv rfl rfl (mv rfl rfl ?_))))))))))
  replace hl := hl.mono hg15u2
  refine xO (A := [_, _]) (vs := [_, vI (5)]) Tryz.call22 ⟨rfl, rfl, trivial⟩ (fun X w hs => uC hl (by first | omega | exact Nat.zero_le _) (by omega) (by omega) hs) rfl ?_
  intro v11u6 g11u6 q11u6 hg11u6 hr11u6
  obtain ⟨k11u6, z11u6, rfl, hk11u6, rfl, hz11u6, hy11u6⟩ := hr11u6
  refine zM (vs := [_]) rfl rfl rfl rfl Tryz.call45 ⟨rfl, trivial⟩ (fun w hs => o_rref_int hs (by omega) (by omega)) ?_
  intro v12u6 h4 hh4 r12u6
  change (rpQ 2).Is h4 v12u6 ((z11u6 : Int) : Rat) at r12u6
  refine gv ((zI (sz := 3) 2 Tryz.underlying32 Tryz.sizeOf30 rfl rfl rfl (by decide)).cv (show _ = vP b3 6 from congrArg (vP b3) (by rfl))) rfl ?_
  replace rb_6 := rb_6.mono ((hg15u2.trans hg11u6).trans hh4)
  refine wE (A := []) (F := fun c_ => (rpT (rpQ 2)).R h4 c_ (T3.mk (wW z18u1 (2 : Int)) ((z11u2 : Int) : Rat) ((z11u6 : Int) : Rat))) (yJ Tryz.sizeOf30 (Pc.tz (Pc.here _)) rfl rfl rfl rb_6 r12u6 rfl) ?_
  intro cs_21 rb_22
  refine zD (zJ (e' := [(0, _), (2, _), (3, _), (4, _)]) ⟨rfl, rfl, rfl, rfl, trivial⟩ (zB (zC (zA (mv rfl rfl ?_)))))
  replace hl := hl.mono (hg11u6.trans hh4)
  refine xO (A := [_, _]) (vs := [_, vI (4)]) Tryz.call24 ⟨rfl, rfl, trivial⟩ (fun X w hs => o_dice_bool hl (by first | omega | exact Nat.zero_le _) (by omega) (by omega) hs) rfl ?_
  intro v15u6 g15u6 q15u6 hg15u6 hr15u6
  obtain ⟨k15u6, P15u6, rfl, hk15u6, rfl⟩ := hr15u6
  refine zD (zB ?_)
  refine zN rfl (fun hc15 => ?_) (fun hc15 => ?_)
  ·
   refine zA (mv rfl rfl (mv rfl rfl ?_))
   replace hl := hl.mono hg15u6
   refine xO (A := [_, _]) (vs := [_, vI (9)]) Tryz.call22 ⟨rfl, rfl, trivial⟩ (fun X w hs => uC hl (by first | omega | exact Nat.zero_le _) (by omega) (by omega) hs) rfl ?_
   intro v18u6 g18u6 q18u6 hg18u6 hr18u6
   obtain ⟨k18u6, z18u6, rfl, hk18u6, rfl, hz18u6, hy18u6⟩ := hr18u6
   refine zM (vs := [_, vI (2)]) rfl rfl rfl rfl Tryz.call46 ⟨rfl, rfl, trivial⟩ (fun w hs => o_rref_frac hs (by omega) (by omega) (by decide) (by decide)) ?_
   intro v19u6 h5 hh5 r19u6
   change (rpQ 2).Is h5 v19u6 (wW z18u6 (2 : Int)) at r19u6
   refine gv ((zI (sz := 3) 2 Tryz.underlying32 Tryz.sizeOf30 rfl rfl rfl (by decide)).cv (show _ = vP b3 6 from congrArg (vP b3) (by rfl))) rfl ?_
   replace rb_22 := rb_22.mono ((hg15u6.trans hg18u6).trans hh5)
   refine wE (A := []) (F := fun c_ => (rpT (rpQ 2)).R h5 c_ (T3.mk (wW z18u1 (2 : Int)) ((z11u2 : Int) : Rat) (wW z18u6 (2 : Int)))) (yJ Tryz.sizeOf30 (Pc.tz (Pc.here _)) rfl rfl rfl rb_22 r19u6 rfl) ?_
   intro cs_23 rb_24
   refine zD (yV (zB (zA (mv rfl rfl (gv ((zS (q := 1) rfl rfl (by omega) (by omega)).cv (show _ = vI (3) from rfl)) rfl (asg rfl rfl (zD (xY (zC (zC (zA (mv rfl rfl (gv (OpV.fa (by decide) (zW (q := 3) rfl rfl)) rfl ?_)))))))))))))
   refine zD (zJ (e' := [(0, _), (2, _), (3, _), (4, _), (6, _)]) ⟨rfl, rfl, rfl, rfl, rfl, trivial⟩ (zB (vW rfl (xG (yB (yB (xF (zB (zC (zA (gl_x (F := fun v_ => (rpT (rpQ 2)).Is h5 v_ (T3.mk (wW z18u1 (2 : Int)) ((z11u2 : Int) : Rat) (wW z18u6 (2 : Int)))) (zE ty32 (Pc.here _) rfl rfl rb_24 rfl) (mem1 (.head _)) rfl ?_)))))))))))
   intro v21u7 r21u7
   replace rb2 := rb2.mono ((((((((((((hg11u1.trans hh1).trans hg15u1).trans hg18u1).trans hh2).trans hg11u2).trans hh3).trans hg15u2).trans hg11u6).trans hh4).trans hg15u6).trans hg18u6).trans hh5)
   refine wE (A := [_]) (F := fun c_ => (rpT (rpQ 2)).R h5 c_ (T3.mk (wW z18u1 (2 : Int)) ((z11u2 : Int) : Rat) (wW z18u6 (2 : Int)))) (yJ Tryz.sizeOf32 (Pc.here _) rfl rfl rfl rb2 r21u7 rfl) ?_
   intro cs_25 rb_26
   refine zD (zB (zQ (gq_exv (rv_o (t := 2) ty32 (.tail _ (.head _)) rfl rb_26) ?_)))
   intro w_27 hvw_27 rr_28
   refine gq_res_own (fun E S => yR rfl hvw_27 E S) ?_
   exact ⟨_, (.cons _ (.cons _ (List.Sublist.refl _))), ((((((((((((hg11u1.trans hh1).trans hg15u1).trans hg18u1).trans hh2).trans hg11u2).trans hh3).trans hg15u2).trans hg11u6).trans hh4).trans hg15u6).trans hg18u6).trans hh5), _, _, rfl, by omega, rr_28⟩
  refine zK (yV (zB (zA (mv rfl rfl (gv ((zS (q := 1) rfl rfl (by omega) (by omega)).cv (show _ = vI (3) from rfl)) rfl (asg rfl rfl (zD (xY (zC (zC (zA (mv rfl rfl (gv (OpV.fa (by decide) (zW (q := 3) rfl rfl)) rfl ?_)))))))))))))
  refine zD (zB (vW rfl (xG (yB (yB (xF (zB (zC (zA ?_)))))))))
  replace rb_22 := rb_22.mono hg15u6
  refine gl_x (F := fun v_ => (rpT (rpQ 2)).Is g15u6 v_ (T3.mk (wW z18u1 (2 : Int)) ((z11u2 : Int) : Rat) ((z11u6 : Int) : Rat))) (zE ty32 (Pc.here _) rfl rfl rb_22 rfl) (mem1 (.head _)) rfl ?_
  intro v21u8 r21u8
  replace rb2 := rb2.mono ((((((((((hg11u1.trans hh1).trans hg15u1).trans hg18u1).trans hh2).trans hg11u2).trans hh3).trans hg15u2).trans hg11u6).trans hh4).trans hg15u6)
  refine wE (A := [_]) (F := fun c_ => (rpT (rpQ 2)).R g15u6 c_ (T3.mk (wW z18u1 (2 : Int)) ((z11u2 : Int) : Rat) ((z11u6 : Int) : Rat))) (yJ Tryz.sizeOf32 (Pc.here _) rfl rfl rfl rb2 r21u8 rfl) ?_
  intro cs_29 rb_30
  refine zD (zJ (e' := [(2, _)]) ⟨rfl, trivial⟩ (zB (zQ (gq_exv (rv_o (t := 2) ty32 (.tail _ (.head _)) rfl rb_30) ?_))))
  intro w_31 hvw_31 rr_32
  refine gq_res_own (fun E S => yR rfl hvw_31 E S) ?_
  exact ⟨_, (.cons _ (.cons _ (List.Sublist.refl _))), ((((((((((hg11u1.trans hh1).trans hg15u1).trans hg18u1).trans hh2).trans hg11u2).trans hh3).trans hg15u2).trans hg11u6).trans hh4).trans hg15u6), _, _, rfl, by omega, rr_32⟩
 refine zK (yV (zB (zA (mv rfl rfl (gv ((zS (q := 1) rfl rfl (by omega) (by omega)).cv (show _ = vI (1) from rfl)) rfl (asg rfl rfl (zD (zJ (e' := [(0, _), (2, _), (3, _), (4, _)]) ⟨rfl, rfl, rfl, rfl, trivial⟩ (xY (zC (zC (zA (mv rfl rfl ?_)))))))))))))
 refine gv (OpV.tr (by decide) (zW (q := 3) rfl rfl)) rfl (zD (zB (xX rfl (zK (zB (zC (zR (zC (zA (mv rfl rfl (mv rfl rfl ?_)))))))))))
 replace hl := hl.mono hg15u1
 refine xO (A := [_, _]) (vs := [_, vI (5)]) Tryz.call22 ⟨rfl, rfl, trivial⟩ (fun X w hs => uC hl (by first | omega | exact Nat.zero_le _) (by omega) (by omega) hs) rfl ?_
 intro v11u9 g11u9 q11u9 hg11u9 hr11u9
 obtain ⟨k11u9, z11u9, rfl, hk11u9, rfl, hz11u9, hy11u9⟩ := hr11u9
 refine zM (vs := [_]) rfl rfl rfl rfl Tryz.call45 ⟨rfl, trivial⟩ (fun w hs => o_rref_int hs (by omega) (by omega)) ?_
 intro v12u9 h2 hh2 r12u9
 change (rpQ 2).Is h2 v12u9 ((z11u9 : Int) : Rat) at r12u9
 refine gv ((zI (sz := 3) 1 Tryz.underlying32 Tryz.sizeOf30 rfl rfl rfl (by decide)).cv (show _ = vP b3 3 from congrArg (vP b3) (by rfl))) rfl ?_
 replace rb_2 := rb_2.mono ((hg15u1.trans hg11u9).trans hh2)
 refine wE (A := []) (F := fun c_ => (rpT (rpQ 2)).R h2 c_ (T3.mk ((z11u1 : Int) : Rat) ((z11u9 : Int) : Rat) (0 : Rat))) (yJ Tryz.sizeOf30 (Pc.ty (Pc.here _)) rfl rfl rfl rb_2 r12u9 rfl) ?_
 intro cs_33 rb_34
 refine zD (zB (zC (zA (mv rfl rfl ?_))))
 replace hl := hl.mono (hg11u9.trans hh2)
 refine xO (A := [_, _]) (vs := [_, vI (4)]) Tryz.call24 ⟨rfl, rfl, trivial⟩ (fun X w hs => o_dice_bool hl (by first | omega | exact Nat.zero_le _) (by omega) (by omega) hs) rfl ?_
 intro v15u9 g15u9 q15u9 hg15u9 hr15u9
 obtain ⟨k15u9, P15u9, rfl, hk15u9, rfl⟩ := hr15u9
 refine zD (zB ?_)
 refine zN rfl (fun hc15 => ?_) (fun hc15 => ?_)
 ·
  refine zA (mv rfl rfl (mv rfl rfl ?_))
  replace hl := hl.mono hg15u9
  refine xO (A := [_, _]) (vs := [_, vI (9)]) Tryz.call22 ⟨rfl, rfl, trivial⟩ (fun X w hs => uC hl (by first | omega | exact Nat.zero_le _) (by omega) (by omega) hs) rfl ?_
  intro v18u9 g18u9 q18u9 hg18u9 hr18u9
  obtain ⟨k18u9, z18u9, rfl, hk18u9, rfl, hz18u9, hy18u9⟩ := hr18u9
  refine zM (vs := [_, vI (2)]) rfl rfl rfl rfl Tryz.call46 ⟨rfl, rfl, trivial⟩ (fun w hs => o_rref_frac hs (by omega) (by omega) (by decide) (by decide)) ?_
  intro v19u9 h3 hh3 r19u9
  change (rpQ 2).Is h3 v19u9 (wW z18u9 (2 : Int)) at r19u9
  refine gv ((zI (sz := 3) 1 Tryz.underlying32 Tryz.sizeOf30 rfl rfl rfl (by decide)).cv (show _ = vP b3 3 from congrArg (vP b3) (by rfl))) rfl ?_
  replace rb_34 := rb_34.mono ((hg15u9.trans hg18u9).trans hh3)
  refine wE (A := []) (F := fun c_ => (rpT (rpQ 2)).R h3 c_ (T3.mk ((z11u1 : Int) : Rat) (wW z18u9 (2 : Int)) (0 : Rat))) (yJ Tryz.sizeOf30 (Pc.ty (Pc.here _)) rfl rfl rfl rb_34 r19u9 rfl) ?_
  intro cs_35 rb_36
  refine zD (yV (zJ (e' := [(0, _), (2, _), (3, _), (4, _)]) ⟨rfl, rfl, rfl, rfl, trivial⟩ (zB (zA (mv rfl rfl (gv ((zS (q := 1) rfl rfl (by omega) (by omega)).cv (show _ = vI (2) from rfl)) rfl (asg rfl rfl (zD (xY (zC (zC (zA (mv rfl rfl ?_)))))))))))))
  refine gv (OpV.tr (by decide) (zW (q := 3) rfl rfl)) rfl (zD (zB (xX rfl (zK (zB (zC (zR (zC (zA (mv rfl rfl (mv rfl rfl ?_)))))))))))
  replace hl := hl.mono (hg18u9.trans hh3)
  refine xO (A := [_, _]) (vs := [_, vI (5)]) Tryz.call22 ⟨rfl, rfl, trivial⟩ (fun X w hs => uC hl (by first | omega | exact Nat.zero_le _) (by omega) (by omega) hs) rfl ?_
  intro v11u10 g11u10 q11u10 hg11u10 hr11u10
  obtain ⟨k11u10, z11u10, rfl, hk11u10, rfl, hz11u10, hy11u10⟩ := hr11u10
  refine zM (vs := [_]) rfl rfl rfl rfl Tryz.call45 ⟨rfl, trivial⟩ (fun w hs => o_rref_int hs (by omega) (by omega)) ?_
  intro v12u10 h4 hh4 r12u10
  change (rpQ 2).Is h4 v12u10 ((z11u10 : Int) : Rat) at r12u10
  refine gv ((zI (sz := 3) 2 Tryz.underlying32 Tryz.sizeOf30 rfl rfl rfl (by decide)).cv (show _ = vP b3 6 from congrArg (vP b3) (by rfl))) rfl ?_
  replace rb_36 := rb_36.mono (hg11u10.trans hh4)
  refine wE (A := []) (F := fun c_ => (rpT (rpQ 2)).R h4 c_ (T3.mk ((z11u1 : Int) : Rat) (wW z18u9 (2 : Int)) ((z11u10 : Int) : Rat))) (yJ Tryz.sizeOf30 (Pc.tz (Pc.here _)) rfl rfl rfl rb_36 r12u10 rfl) ?_
  intro cs_37 rb_38
  refine zD (zB (zC (zA (mv rfl rfl ?_))))
  replace hl := hl.mono (hg11u10.trans hh4)
  refine xO (A := [_, _]) (vs := [_, vI (4)]) Tryz.call24 ⟨rfl, rfl, trivial⟩ (fun X w hs => o_dice_bool hl (by first | omega | exact Nat.zero_le _) (by omega) (by omega) hs) rfl ?_
  intro v15u10 g15u10 q15u10 hg15u10 hr15u10
  obtain ⟨k15u10, P15u10, rfl, hk15u10, rfl⟩ := hr15u10
  refine zD (zJ (e' := [(0, _), (2, _), (3, _), (4, _), (15, _)]) ⟨rfl, rfl, rfl, rfl, rfl, trivial⟩ (zB ?_))
  refine zN rfl (fun hc15 => ?_) (fun hc15 => ?_)
  ·
   refine zA (mv rfl rfl (mv rfl rfl ?_))
   replace hl := hl.mono hg15u10
   refine xO (A := [_, _]) (vs := [_, vI (9)]) Tryz.call22 ⟨rfl, rfl, trivial⟩ (fun X w hs => uC hl (by first | omega | exact Nat.zero_le _) (by omega) (by omega) hs) rfl ?_
   intro v18u10 g18u10 q18u10 hg18u10 hr18u10
   obtain ⟨k18u10, z18u10, rfl, hk18u10, rfl, hz18u10, hy18u10⟩ := hr18u10
   refine zM (vs := [_, vI (2)]) rfl rfl rfl rfl Tryz.call46 ⟨rfl, rfl, trivial⟩ (fun w hs => o_rref_frac hs (by omega) (by omega) (by decide) (by decide)) ?_
   intro v19u10 h5 hh5 r19u10
   change (rpQ 2).Is h5 v19u10 (wW z18u10 (2 : Int)) at r19u10
   refine gv ((zI (sz := 3) 2 Tryz.underlying32 Tryz.sizeOf30 rfl rfl rfl (by decide)).cv (show _ = vP b3 6 from congrArg (vP b3) (by rfl))) rfl ?_
   replace rb_38 := rb_38.mono ((hg15u10.trans hg18u10).trans hh5)
   refine wE (A := []) (F := fun c_ => (rpT (rpQ 2)).R h5 c_ (T3.mk ((z11u1 : Int) : Rat) (wW z18u9 (2 : Int)) (wW z18u10 (2 : Int)))) (yJ Tryz.sizeOf30 (Pc.tz (Pc.here _)) rfl rfl rfl rb_38 r19u10 rfl) ?_
   intro cs_39 rb_40
   refine zD (yV (zB (zA (mv rfl rfl (gv ((zS (q := 1) rfl rfl (by omega) (by omega)).cv (show _ = vI (3) from rfl)) rfl (asg rfl rfl (zD (xY (zC (zC (zA (mv rfl rfl (gv (OpV.fa (by decide) (zW (q := 3) rfl rfl)) rfl ?_)))))))))))))
   refine zD (zB (vW rfl (xG (yB (yB (xF (zJ (e' := [(2, _), (3, _)]) ⟨rfl, rfl, trivial⟩ (zB (zC (zA (gl_x (F := fun v_ => (rpT (rpQ 2)).Is h5 v_ (T3.mk ((z11u1 : Int) : Rat) (wW z18u9 (2 : Int)) (wW z18u10 (2 : Int)))) (zE ty32 (Pc.here _) rfl rfl rb_40 rfl) (mem1 (.head _)) rfl ?_)))))))))))
   intro v21u11 r21u11
   replace rb2 := rb2.mono ((((((((((((hg11u1.trans hh1).trans hg15u1).trans hg11u9).trans hh2).trans hg15u9).trans hg18u9).trans hh3).trans hg11u10).trans hh4).trans hg15u10).trans hg18u10).trans hh5)
   refine wE (A := [_]) (F := fun c_ => (rpT (rpQ 2)).R h5 c_ (T3.mk ((z11u1 : Int) : Rat) (wW z18u9 (2 : Int)) (wW z18u10 (2 : Int)))) (yJ Tryz.sizeOf32 (Pc.here _) rfl rfl rfl rb2 r21u11 rfl) ?_
   intro cs_41 rb_42
   refine zD (zB (zQ (gq_exv (rv_o (t := 2) ty32 (.tail _ (.head _)) rfl rb_42) ?_)))
   intro w_43 hvw_43 rr_44
   refine gq_res_own (fun E S => yR rfl hvw_43 E S) ?_
   exact ⟨_, (.cons _ (.cons _ (List.Sublist.refl _))), ((((((((((((hg11u1.trans hh1).trans hg15u1).trans hg11u9).trans hh2).trans hg15u9).trans hg18u9).trans hh3).trans hg11u10).trans hh4).trans hg15u10).trans hg18u10).trans hh5), _, _, rfl, by omega, rr_44⟩
  refine zK (yV (zB (zA (mv rfl rfl (gv ((zS (q := 1) rfl rfl (by omega) (by omega)).cv (show _ = vI (3) from rfl)) rfl (asg rfl rfl (zD (xY (zC (zC (zA (mv rfl rfl (gv (OpV.fa (by decide) (zW (q := 3) rfl rfl)) rfl ?_)))))))))))))
  refine zD (zB (vW rfl (xG (yB (yB (xF (zB (zC (zA ?_)))))))))
  replace rb_38 := rb_38.mono hg15u10
  refine gl_x (F := fun v_ => (rpT (rpQ 2)).Is g15u10 v_ (T3.mk ((z11u1 : Int) : Rat) (wW z18u9 (2 : Int)) ((z11u10 : Int) : Rat))) (zE ty32 (Pc.here _) rfl rfl rb_38 rfl) (mem1 (.head _)) rfl ?_
  intro v21u12 r21u12
  replace rb2 := rb2.mono ((((((((((hg11u1.trans hh1).trans hg15u1).trans hg11u9).trans hh2).trans hg15u9).trans hg18u9).trans hh3).trans hg11u10).trans hh4).trans hg15u10)
  refine wE (A := [_]) (F := fun c_ => (rpT (rpQ 2)).R g15u10 c_ (T3.mk ((z11u1 : Int) : Rat) (wW z18u9 (2 : Int)) ((z11u10 : Int) : Rat))) (yJ Tryz.sizeOf32 (Pc.here _) rfl rfl rfl rb2 r21u12 rfl) ?_
  intro cs_45 rb_46
  refine zD (zB (zQ (gq_exv (rv_o (t := 2) ty32 (.tail _ (.head _)) rfl rb_46) ?_)))
  intro w_47 hvw_47 rr_48
  refine gq_res_own (fun E S => yR rfl hvw_47 E S) ?_
  exact ⟨_, (.cons _ (.cons _ (List.Sublist.refl _))), ((((((((((hg11u1.trans hh1).trans hg15u1).trans hg11u9).trans hh2).trans hg15u9).trans hg18u9).trans hh3).trans hg11u10).trans hh4).trans hg15u10), _, _, rfl, by omega, rr_48⟩
 refine zK (yV (zB (zA (mv rfl rfl (gv ((zS (q := 1) rfl rfl (by omega) (by omega)).cv (show _ = vI (2) from rfl)) rfl (asg rfl rfl (zD (zJ (e' := [(0, _), (2, _), (3, _), (4, _)]) ⟨rfl, rfl, rfl, rfl, trivial⟩ (xY (zC (zC (zA (mv rfl rfl ?_)))))))))))))
 refine gv (OpV.tr (by decide) (zW (q := 3) rfl rfl)) rfl (zD (zB (xX rfl (zK (zB (zC (zR (zC (zA (mv rfl rfl (mv rfl rfl ?_)))))))))))
 replace hl := hl.mono hg15u9
 refine xO (A := [_, _]) (vs := [_, vI (5)]) Tryz.call22 ⟨rfl, rfl, trivial⟩ (fun X w hs => uC hl (by first | omega | exact Nat.zero_le _) (by omega) (by omega) hs) rfl ?_
 intro v11u13 g11u13 q11u13 hg11u13 hr11u13
 obtain ⟨k11u13, z11u13, rfl, hk11u13, rfl, hz11u13, hy11u13⟩ := hr11u13
 refine zM (vs := [_]) rfl rfl rfl rfl Tryz.call45 ⟨rfl, trivial⟩ (fun w hs => o_rref_int hs (by omega) (by omega)) ?_
 intro v12u13 h3 hh3 r12u13
 change (rpQ 2).Is h3 v12u13 ((z11u13 : Int) : Rat) at r12u13
 refine gv ((zI (sz := 3) 2 Tryz.underlying32 Tryz.sizeOf30 rfl rfl rfl (by decide)).cv (show _ = vP b3 6 from congrArg (vP b3) (by rfl))) rfl ?_
 replace rb_34 := rb_34.mono ((hg15u9.trans hg11u13).trans hh3)
 refine wE (A := []) (F := fun c_ => (rpT (rpQ 2)).R h3 c_ (T3.mk ((z11u1 : Int) : Rat) ((z11u9 : Int) : Rat) ((z11u13 : Int) : Rat))) (yJ Tryz.sizeOf30 (Pc.tz (Pc.here _)) rfl rfl rfl rb_34 r12u13 rfl) ?_
 intro cs_49 rb_50
 refine zD (zB (zC (zA (mv rfl rfl ?_))))
 replace hl := hl.mono (hg11u13.trans hh3)
 refine xO (A := [_, _]) (vs := [_, vI (4)]) Tryz.call24 ⟨rfl, rfl, trivial⟩ (fun X w hs => o_dice_bool hl (by first | omega | exact Nat.zero_le _) (by omega) (by omega) hs) rfl ?_
 intro v15u13 g15u13 q15u13 hg15u13 hr15u13
 obtain ⟨k15u13, P15u13, rfl, hk15u13, rfl⟩ := hr15u13
 refine zD (zB ?_)
 refine zN rfl (fun hc15 => ?_) (fun hc15 => ?_)
 ·
  refine zA (mv rfl rfl (mv rfl rfl ?_))
  replace hl := hl.mono hg15u13
  refine xO (A := [_, _]) (vs := [_, vI (9)]) Tryz.call22 ⟨rfl, rfl, trivial⟩ (fun X w hs => uC hl (by first | omega | exact Nat.zero_le _) (by omega) (by omega) hs) rfl ?_
  intro v18u13 g18u13 q18u13 hg18u13 hr18u13
  obtain ⟨k18u13, z18u13, rfl, hk18u13, rfl, hz18u13, hy18u13⟩ := hr18u13
  refine zM (vs := [_, vI (2)]) rfl rfl rfl rfl Tryz.call46 ⟨rfl, rfl, trivial⟩ (fun w hs => o_rref_frac hs (by omega) (by omega) (by decide) (by decide)) ?_
  intro v19u13 h4 hh4 r19u13
  change (rpQ 2).Is h4 v19u13 (wW z18u13 (2 : Int)) at r19u13
  refine gv ((zI (sz := 3) 2 Tryz.underlying32 Tryz.sizeOf30 rfl rfl rfl (by decide)).cv (show _ = vP b3 6 from congrArg (vP b3) (by rfl))) rfl ?_
  replace rb_50 := rb_50.mono ((hg15u13.trans hg18u13).trans hh4)
  refine wE (A := []) (F := fun c_ => (rpT (rpQ 2)).R h4 c_ (T3.mk ((z11u1 : Int) : Rat) ((z11u9 : Int) : Rat) (wW z18u13 (2 : Int)))) (yJ Tryz.sizeOf30 (Pc.tz (Pc.here _)) rfl rfl rfl rb_50 r19u13 rfl) ?_
  intro cs_51 rb_52
  refine zD (yV (zJ (e' := [(0, _), (2, _), (3, _), (4, _)]) ⟨rfl, rfl, rfl, rfl, trivial⟩ (zB (zA (mv rfl rfl (gv ((zS (q := 1) rfl rfl (by omega) (by omega)).cv (show _ = vI (3) from rfl)) rfl (asg rfl rfl (zD (xY (zC (zC (zA (mv rfl rfl ?_)))))))))))))
  refine gv (OpV.fa (by decide) (zW (q := 3) rfl rfl)) rfl (zD (zB (vW rfl (xG (yB (yB (xF (zB (zC (zA (gl_x (F := fun v_ => (rpT (rpQ 2)).Is h4 v_ (T3.mk ((z11u1 : Int) : Rat) ((z11u9 : Int) : Rat) (wW z18u13 (2 : Int)))) (zE ty32 (Pc.here _) rfl rfl rb_52 rfl) (mem1 (.head _)) rfl ?_)))))))))))
  intro v21u14 r21u14
  replace rb2 := rb2.mono ((((((((((hg11u1.trans hh1).trans hg15u1).trans hg11u9).trans hh2).trans hg15u9).trans hg11u13).trans hh3).trans hg15u13).trans hg18u13).trans hh4)
  refine wE (A := [_]) (F := fun c_ => (rpT (rpQ 2)).R h4 c_ (T3.mk ((z11u1 : Int) : Rat) ((z11u9 : Int) : Rat) (wW z18u13 (2 : Int)))) (yJ Tryz.sizeOf32 (Pc.here _) rfl rfl rfl rb2 r21u14 rfl) ?_
  intro cs_53 rb_54
  refine zD (zB (zQ (gq_exv (rv_o (t := 2) ty32 (.tail _ (.head _)) rfl rb_54) ?_)))
  intro w_55 hvw_55 rr_56
  refine gq_res_own (fun E S => yR rfl hvw_55 E S) ?_
  exact ⟨_, (.cons _ (.cons _ (List.Sublist.refl _))), ((((((((((hg11u1.trans hh1).trans hg15u1).trans hg11u9).trans hh2).trans hg15u9).trans hg11u13).trans hh3).trans hg15u13).trans hg18u13).trans hh4), _, _, rfl, by omega, rr_56⟩
 refine zK (yV (zB (zA (mv rfl rfl (gv ((zS (q := 1) rfl rfl (by omega) (by omega)).cv (show _ = vI (3) from rfl)) rfl (asg rfl rfl (zD (zJ (e' := [(0, _), (2, _), (3, _), (4, _)]) ⟨rfl, rfl, rfl, rfl, trivial⟩ (xY (zC (zC (zA (mv rfl rfl ?_)))))))))))))
 refine gv (OpV.fa (by decide) (zW (q := 3) rfl rfl)) rfl (zD (zB (vW rfl (xG (yB (yB (xF (zB (zC (zA ?_))))))))))
 replace rb_50 := rb_50.mono hg15u13
 refine gl_x (F := fun v_ => (rpT (rpQ 2)).Is g15u13 v_ (T3.mk ((z11u1 : Int) : Rat) ((z11u9 : Int) : Rat) ((z11u13 : Int) : Rat))) (zE ty32 (Pc.here _) rfl rfl rb_50 rfl) (mem1 (.head _)) rfl ?_
 intro v21u15 r21u15
 replace rb2 := rb2.mono ((((((((hg11u1.trans hh1).trans hg15u1).trans hg11u9).trans hh2).trans hg15u9).trans hg11u13).trans hh3).trans hg15u13)
 refine wE (A := [_]) (F := fun c_ => (rpT (rpQ 2)).R g15u13 c_ (T3.mk ((z11u1 : Int) : Rat) ((z11u9 : Int) : Rat) ((z11u13 : Int) : Rat))) (yJ Tryz.sizeOf32 (Pc.here _) rfl rfl rfl rb2 r21u15 rfl) ?_
 intro cs_57 rb_58
 refine zD (zB (zQ (gq_exv (rv_o (t := 2) ty32 (.tail _ (.head _)) rfl rb_58) ?_)))
 intro w_59 hvw_59 rr_60
 refine gq_res_own (fun E S => yR rfl hvw_59 E S) ?_
 exact ⟨_, (.cons _ (.cons _ (List.Sublist.refl _))), ((((((((hg11u1.trans hh1).trans hg15u1).trans hg11u9).trans hh2).trans hg15u9).trans hg11u13).trans hh3).trans hg15u13), _, _, rfl, by omega, rr_60⟩

theorem o_r5_axes {w0 : World} {h0 : Mem}  (hs : MLe h0 (mem w0)) {m l : Nat} {vs : Value} {s : ((T3 Rat) × Rat)} (rs : (rpP (rpT (rpQ m)) (rpQ l)).Is h0 vs s) (hcd0 : m ≤ 1000000000)  :
    Calls Tryz.prog 112 #[vs] w0 (Ret w0 h0 (fun h r => r = .tuple #[vI (↑(axI s.1) : Int), vI (↑(axJ s.1) : Int), vI (↑(axK s.1) : Int)])) := by
 refine zP (n := 29) (e := [(0, vs)]) (vs := [vs]) Tryz.func112 rfl rfl (Nat.le_of_ble_eq_true rfl) hs ⟨rfl, trivial⟩ (zC (zA (zL (xL (ρ := (rpP (rpT (rpQ m)) (rpQ l))) rfl rs) rfl rfl rfl ?_)))
 intro v1 q1 hq1
 obtain ⟨b1, cs1, rfl, rfl, rb1⟩ := hq1
 refine asg (v := vI (0)) rfl rfl (asg (v := vI (0)) rfl rfl (asg (v := vI (0)) rfl rfl (zD (zB (zC (zA (asg (v := vI (0)) rfl rfl (asg (v := vI (1)) rfl rfl (asg (v := vI (2)) rfl rfl (zD (zB (zC (zC ?_)))))))))))))
 refine zA (gv ((zH Tryz.underlying34 rfl Tryz.sizeOf32 rfl).cv (show _ = vP b1 0 from congrArg (vP b1) (by rfl))) rfl (gv ((zI (sz := 3) (q := 2) 2 Tryz.underlying32 Tryz.sizeOf30 rfl rfl rfl (by decide)).cv (show _ = vP b1 6 from congrArg (vP b1) (by rfl))) rfl (gl_x (F := fun v_ => (rpQ m).Is h0 v_ s.1.z) (zE ty30 (Pc.fst (Pc.tz (Pc.here _))) rfl rfl rb1 rfl) (mem1 (.head _)) rfl ?_)))
 intro v10 r10
 refine zM (vs := [_]) rfl rfl rfl rfl Tryz.call50 ⟨rfl, trivial⟩ (fun w hs => o_rref_sign hs r10 (by omega)) ?_
 intro v11 h1 hh1 r11
 obtain rfl : v11 = vI (sgnQ s.1.z) := r11
 have hsr11 := sgnQ_range s.1.z
 refine gv (wC (q := 0) rfl rfl) rfl (zD (zB ?_))
 refine zN rfl (fun hc12 => ?_) (fun hc12 => ?_)
 ·
  refine wL (e' := [(1, _)]) ⟨rfl, trivial⟩ (zC (zA (asg (v := vI (2)) rfl rfl (asg (v := vI (0)) rfl rfl (asg (v := vI (1)) rfl rfl (zD (zB (zC (zA (gv ((zH Tryz.underlying34 rfl Tryz.sizeOf32 rfl).cv (show _ = vP b1 0 from congrArg (vP b1) (by rfl))) rfl (gv ((zI (sz := 3) (q := 1) 1 Tryz.underlying32 Tryz.sizeOf30 rfl rfl rfl (by decide)).cv (show _ = vP b1 3 from congrArg (vP b1) (by rfl))) rfl ?_)))))))))))
  replace rb1 := rb1.mono hh1
  refine gl_x (F := fun v_ => (rpQ m).Is h1 v_ s.1.y) (zE ty30 (Pc.fst (Pc.ty (Pc.here _))) rfl rfl rb1 rfl) (mem1 (.head _)) rfl ?_
  intro v15 r15
  refine zM (vs := [_]) rfl rfl rfl rfl Tryz.call50 ⟨rfl, trivial⟩ (fun w hs => o_rref_sign hs r15 (by omega)) ?_
  intro v16 h2 hh2 r16
  obtain rfl : v16 = vI (sgnQ s.1.y) := r16
  have hsr16 := sgnQ_range s.1.y
  refine gv (wC (q := 0) rfl rfl) rfl (zD (zB ?_))
  refine zN rfl (fun hc17 => ?_) (fun hc17 => ?_)
  ·
   refine zA (asg (v := vI (1)) rfl rfl (asg (v := vI (2)) rfl rfl (asg (v := vI (0)) rfl rfl (zD (zB (zC (zC (zA (mv rfl rfl (gv ((zH Tryz.underlying34 rfl Tryz.sizeOf32 rfl).cv (show _ = vP b1 0 from congrArg (vP b1) (by rfl))) rfl (gv ((zI (sz := 3) 0 Tryz.underlying32 Tryz.sizeOf30 rfl rfl rfl (by decide)).cv (show _ = vP b1 0 from congrArg (vP b1) (by rfl))) rfl ?_)))))))))))
   replace rb1 := rb1.mono hh2
   refine gl_x (F := fun v_ => (rpQ m).Is h2 v_ s.1.x) (zE ty30 (Pc.fst (Pc.tx (Pc.here _))) rfl rfl rb1 rfl) (mem1 (.head _)) rfl ?_
   intro v21 r21
   refine zM (vs := [_]) rfl rfl rfl rfl Tryz.call50 ⟨rfl, trivial⟩ (fun w hs => o_rref_sign hs r21 (by omega)) ?_
   intro v22 h3 hh3 r22
   obtain rfl : v22 = vI (sgnQ s.1.x) := r22
   have hsr22 := sgnQ_range s.1.x
   refine gv (zW (q := 0) rfl rfl) rfl (zD (zJ (e' := [(5, _), (6, _), (7, _), (23, _)]) ⟨rfl, rfl, rfl, rfl, trivial⟩ (zB ?_)))
   refine zN rfl (fun hc23 => ?_) (fun hc23 => ?_)
   ·
    refine zA (mv rfl rfl (mv rfl rfl (asg rfl rfl (asg rfl rfl (zD (zB (zC (zA (mv rfl rfl (mv rfl rfl (mv rfl rfl (asg rfl rfl (asg rfl rfl ?_)))))))))))))
    refine asg rfl rfl (zD (zB (zQ (gq_body3 rfl rfl rfl rfl ?_))))
    have eI : axI s.1 = 2 := by unfold axI; simp only [sgn_zero, sgn_neg] at *; grind
    have eJ : axJ s.1 = 1 := by unfold axJ; simp only [sgn_zero, sgn_neg] at *; grind
    have eK : axK s.1 = 0 := by unfold axK; simp only [sgn_zero, sgn_neg] at *; grind
    rw [eI, eJ, eK]; rfl
   refine zK (zB (zC (zA (mv rfl rfl (mv rfl rfl (mv rfl rfl (asg rfl rfl (asg rfl rfl (asg rfl rfl (zD (zB (zQ (gq_body3 rfl rfl rfl rfl ?_)))))))))))))
   have eI : axI s.1 = 1 := by unfold axI; simp only [sgn_zero, sgn_neg] at *; grind
   have eJ : axJ s.1 = 2 := by unfold axJ; simp only [sgn_zero, sgn_neg] at *; grind
   have eK : axK s.1 = 0 := by unfold axK; simp only [sgn_zero, sgn_neg] at *; grind
   rw [eI, eJ, eK]; rfl
  refine zK (zB (zC (zC (zA (mv rfl rfl (gv ((zH Tryz.underlying34 rfl Tryz.sizeOf32 rfl).cv (show _ = vP b1 0 from congrArg (vP b1) (by rfl))) rfl (gv ((zI (sz := 3) 1 Tryz.underlying32 Tryz.sizeOf30 rfl rfl rfl (by decide)).cv (show _ = vP b1 3 from congrArg (vP b1) (by rfl))) rfl ?_)))))))
  replace rb1 := rb1.mono hh2
  refine gl_x (F := fun v_ => (rpQ m).Is h2 v_ s.1.y) (zE ty30 (Pc.fst (Pc.ty (Pc.here _))) rfl rfl rb1 rfl) (mem1 (.head _)) rfl ?_
  intro v21 r21
  refine zM (vs := [_]) rfl rfl rfl rfl Tryz.call50 ⟨rfl, trivial⟩ (fun w hs => o_rref_sign hs r21 (by omega)) ?_
  intro v22 h3 hh3 r22
  obtain rfl : v22 = vI (sgnQ s.1.y) := r22
  have hsr22 := sgnQ_range s.1.y
  refine gv (zW (q := 0) rfl rfl) rfl (zD (zJ (e' := [(5, _), (6, _), (7, _), (23, _)]) ⟨rfl, rfl, rfl, rfl, trivial⟩ (zB ?_)))
  refine zN rfl (fun hc23 => ?_) (fun hc23 => ?_)
  ·
   refine zA (mv rfl rfl (mv rfl rfl (asg rfl rfl (asg rfl rfl (zD (zB (zC (zA (mv rfl rfl (mv rfl rfl (mv rfl rfl (asg rfl rfl (asg rfl rfl ?_)))))))))))))
   refine asg rfl rfl (zD (zB (zQ (gq_body3 rfl rfl rfl rfl ?_))))
   have eI : axI s.1 = 0 := by unfold axI; simp only [sgn_zero, sgn_neg] at *; grind
   have eJ : axJ s.1 = 2 := by unfold axJ; simp only [sgn_zero, sgn_neg] at *; grind
   have eK : axK s.1 = 1 := by unfold axK; simp only [sgn_zero, sgn_neg] at *; grind
   rw [eI, eJ, eK]; rfl
  refine zK (zB (zC (zA (mv rfl rfl (mv rfl rfl (mv rfl rfl (asg rfl rfl (asg rfl rfl (asg rfl rfl (zD (zB (zQ (gq_body3 rfl rfl rfl rfl ?_)))))))))))))
  have eI : axI s.1 = 2 := by unfold axI; simp only [sgn_zero, sgn_neg] at *; grind
  have eJ : axJ s.1 = 0 := by unfold axJ; simp only [sgn_zero, sgn_neg] at *; grind
  have eK : axK s.1 = 1 := by unfold axK; simp only [sgn_zero, sgn_neg] at *; grind
  rw [eI, eJ, eK]; rfl
 refine zK (zB (zC (zC (zA (mv rfl rfl (gv ((zH Tryz.underlying34 rfl Tryz.sizeOf32 rfl).cv (show _ = vP b1 0 from congrArg (vP b1) (by rfl))) rfl (gv ((zI (sz := 3) 2 Tryz.underlying32 Tryz.sizeOf30 rfl rfl rfl (by decide)).cv (show _ = vP b1 6 from congrArg (vP b1) (by rfl))) rfl ?_)))))))
 replace rb1 := rb1.mono hh1
 refine gl_x (F := fun v_ => (rpQ m).Is h1 v_ s.1.z) (zE ty30 (Pc.fst (Pc.tz (Pc.here _))) rfl rfl rb1 rfl) (mem1 (.head _)) rfl ?_
 intro v21 r21
 refine zM (vs := [_]) rfl rfl rfl rfl Tryz.call50 ⟨rfl, trivial⟩ (fun w hs => o_rref_sign hs r21 (by omega)) ?_
 intro v22 h2 hh2 r22
 obtain rfl : v22 = vI (sgnQ s.1.z) := r22
 have hsr22 := sgnQ_range s.1.z
 refine gv (zW (q := 0) rfl rfl) rfl (zD (zJ (e' := [(5, _), (6, _), (7, _), (23, _)]) ⟨rfl, rfl, rfl, rfl, trivial⟩ (zB ?_)))
 refine zN rfl (fun hc23 => ?_) (fun hc23 => ?_)
 ·
  refine zA (mv rfl rfl (mv rfl rfl (asg rfl rfl (asg rfl rfl (zD (zB (zC (zA (mv rfl rfl (mv rfl rfl (mv rfl rfl (asg rfl rfl (asg rfl rfl ?_)))))))))))))
  refine asg rfl rfl (zD (zB (zQ (gq_body3 rfl rfl rfl rfl ?_))))
  have eI : axI s.1 = 1 := by unfold axI; simp only [sgn_zero, sgn_neg] at *; grind
  have eJ : axJ s.1 = 0 := by unfold axJ; simp only [sgn_zero, sgn_neg] at *; grind
  have eK : axK s.1 = 2 := by unfold axK; simp only [sgn_zero, sgn_neg] at *; grind
  rw [eI, eJ, eK]; rfl
 refine zK (zB (zC (zA (mv rfl rfl (mv rfl rfl (mv rfl rfl (asg rfl rfl (asg rfl rfl (asg rfl rfl (zD (zB (zQ (gq_body3 rfl rfl rfl rfl ?_)))))))))))))
 have eI : axI s.1 = 0 := by unfold axI; simp only [sgn_zero, sgn_neg] at *; grind
 have eJ : axJ s.1 = 1 := by unfold axJ; simp only [sgn_zero, sgn_neg] at *; grind
 have eK : axK s.1 = 2 := by unfold axK; simp only [sgn_zero, sgn_neg] at *; grind
 rw [eI, eJ, eK]; rfl

theorem o_r5_flatten {w0 : World} {h0 : Mem}  (hs : MLe h0 (mem w0)) {m l k : Nat} {vs : Value} {s : ((T3 Rat) × Rat)} (rs : (rpP (rpT (rpQ m)) (rpQ l)).Is h0 vs s) {vp : Value} {p : (T3 Rat)} (rp : (rpT (rpQ k)).Is h0 vp p) (hcd0 : k ≤ 1000000000) (hcd1 : m ≤ 1000000000)  :
    Calls Tryz.prog 73 #[vs, vp] w0 (Ret w0 h0 (fun h r => (rpT (rpQ (k + 1))).Is h r (flatZ s p))) := by
 refine zP (n := 21) (e := [(0, vs), (1, vp)]) (vs := [vs, vp]) Tryz.func73 rfl rfl (Nat.le_of_ble_eq_true rfl) hs ⟨rfl, rfl, trivial⟩ (zC (zA (zL (xL (ρ := (rpP (rpT (rpQ m)) (rpQ l))) rfl rs) rfl rfl rfl ?_)))
 intro v2 q2 hq2
 obtain ⟨b2, cs2, rfl, rfl, rb2⟩ := hq2
 refine zL (xL (ρ := (rpT (rpQ k))) rfl rp) rfl rfl rfl ?_
 intro v3 q3 hq3
 obtain ⟨b3, cs3, rfl, rfl, rb3⟩ := hq3
 refine zL (xE (ρ := (rpT (rpQ (k + 1)))) (X := (T3.mk (0 : Rat) (0 : Rat) (0 : Rat))) yC rfl rfl (zr_t (zr_q (by omega)))) rfl rfl rfl ?_
 intro v4 q4 hq4
 obtain ⟨b4, cs4, rfl, rfl, rb4⟩ := hq4
 refine zD (zB (zC (zA (gl_x (F := fun v_ => (rpP (rpT (rpQ m)) (rpQ l)).Is h0 v_ s) (zE ty34 (Pc.here _) rfl rfl rb2 rfl) (mem1 (.tail _ (.tail _ (.head _)))) rfl ?_))))
 intro v9 r9
 refine zM (vs := [_]) rfl rfl rfl rfl Tryz.call112 ⟨rfl, trivial⟩ (fun w hs => o_r5_axes hs r9 (by omega)) ?_
 intro v10 h1 hh1 r10
 obtain rfl := r10
 refine mv rfl rfl (gv (zO (vs := [_, _, _]) rfl rfl) rfl (gv (zO (vs := [_, _, _]) rfl rfl) rfl (gv (zO (vs := [_, _, _]) rfl rfl) rfl (asg rfl rfl (asg rfl rfl (asg rfl rfl (zD (zJ (e' := [(3, _), (4, _), (5, _), (6, _)]) ⟨rfl, rfl, rfl, rfl, trivial⟩ (zB (zC ?_))))))))))
 refine yK 7 _ [] [(0, .q), (1, .q), (2, .q), (3, .q), (4, .q), (5, .q), (6, .q), (7, .t)] xN (fun x hx => by cases hx) (by kernel_rfl) (fun x hx => by cases hx) (fun r hr => hr) (w_q rfl (fun h' L' hh hR => zG rfl) rfl (w_q rfl (fun h' L' hh hR => (zI (sz := 3) (axI s.1) Tryz.underlying32 Tryz.sizeOf30 rfl rfl (by rfl) (by exact axI_lt _)).cv (show _ = vP b3 (((axI s.1) * 3 + 0)) from congrArg (vP b3) (by omega))) rfl ?_))
 replace rb3 := rb3.mono hh1
 refine w_qx (F := fun v_ => (rpQ k).Is h1 v_ (p.at (axI s.1))) rfl (zE ty30 (Pc.ta (Pc.here _) (axI s.1) (by exact axI_lt _)) rfl rfl rb3 rfl) (mem1 (.tail _ (.head _))) rfl ?_
 intro v16 r16
 refine w_q rfl (fun h' L' hh hR => zG rfl) rfl (w_q rfl (fun h' L' hh hR => (zI (sz := 3) (axJ s.1) Tryz.underlying32 Tryz.sizeOf30 rfl rfl (by rfl) (by exact axJ_lt _)).cv (show _ = vP b3 (((axJ s.1) * 3 + 0)) from congrArg (vP b3) (by omega))) rfl (w_qx (F := fun v_ => (rpQ k).Is h1 v_ (p.at (axJ s.1))) rfl (zE ty30 (Pc.ta (Pc.here _) (axJ s.1) (by exact axJ_lt _)) rfl rfl rb3 rfl) (mem1 (.tail _ (.head _))) rfl ?_))
 intro v19 r19
 refine w_qx (F := fun v_ => (rpT (rpQ (k + 1))).Is h1 v_ (T3.mk (p.at (axI s.1)) (p.at (axJ s.1)) (0 : Rat))) rfl (wU (ps' := [(0, _), (1, _)]) Tryz.underlying32 yC rfl rfl Tryz.sizeOf30 ⟨rfl, rfl, rfl, rfl, trivial⟩ rfl (zr_t (zr_q (by omega))) (yQ rfl (Pc.tx (Pc.here _)) (r16.le (Le.q (l := k + 1) (by omega))) (yQ rfl (Pc.ty (Pc.here _)) (r19.le (Le.q (l := k + 1) (by omega))) xM))) mem0 rfl ?_
 intro v20 r20
 replace rb4 := rb4.mono hh1
 refine wB (A := []) (F := fun c_ => (rpT (rpQ (k + 1))).R h1 c_ (T3.mk (p.at (axI s.1)) (p.at (axJ s.1)) (0 : Rat))) rfl (yJ Tryz.sizeOf32 (Pc.here _) rfl rfl rfl rb4 r20 rfl) ?_
 intro cs_61 rb_62
 refine yZ (zJ (e' := [(4, _)]) ⟨rfl, trivial⟩ (zB (zQ (gq_exv (rv_o (t := 4) ty32 (.head _) rfl rb_62) ?_))))
 intro w_63 hvw_63 rr_64
 refine xS (fun E S => yR rfl hvw_63 E S) ?_
 exact rr_64

theorem o_r5_lift {w0 : World} {h0 : Mem}  (hs : MLe h0 (mem w0)) {m l k : Nat} {vs : Value} {s : ((T3 Rat) × Rat)} (rs : (rpP (rpT (rpQ m)) (rpQ l)).Is h0 vs s) {vq : Value} {q : (T3 Rat)} (rq : (rpT (rpQ k)).Is h0 vq q) (hcd0 : k ≤ 1000000) (hcd1 : l ≤ 1000000) (hcd2 : m ≤ 1000000)  :
    Calls Tryz.prog 114 #[vs, vq] w0 (Ret w0 h0 (fun h r => ∃ u0, r = .tuple #[u0, vB (¬ s.1.at (axK s.1) = 0)] ∧ (rpT (rpQ (3 * k + l + 4 * m + 30))).Is h u0 (liftZ s q))) := by
 have hax := ax_sum s.1
 refine zP (n := 46) (e := [(0, vs), (1, vq)]) (vs := [vs, vq]) Tryz.func114 rfl rfl (Nat.le_of_ble_eq_true rfl) hs ⟨rfl, rfl, trivial⟩ (zC (zA (zL (xL (ρ := (rpP (rpT (rpQ m)) (rpQ l))) rfl rs) rfl rfl rfl ?_)))
 intro v2 q2 hq2
 obtain ⟨b2, cs2, rfl, rfl, rb2⟩ := hq2
 refine zL (xL (ρ := (rpT (rpQ k))) rfl rq) rfl rfl rfl ?_
 intro v3 q3 hq3
 obtain ⟨b3, cs3, rfl, rfl, rb3⟩ := hq3
 refine zL (xE (ρ := (rpT (rpQ (3 * k + l + 4 * m + 30)))) (X := (T3.mk (0 : Rat) (0 : Rat) (0 : Rat))) yC rfl rfl (zr_t (zr_q (by omega)))) rfl rfl rfl ?_
 intro v4 q4 hq4
 obtain ⟨b4, cs4, rfl, rfl, rb4⟩ := hq4
 refine asg rfl rfl (zD (zB (zC (zC (zA (gv ((zH Tryz.underlying34 rfl Tryz.sizeOf32 rfl).cv (show _ = vP b2 0 from congrArg (vP b2) (by rfl))) rfl (gl_x (F := fun v_ => (rpT (rpQ m)).Is h0 v_ s.1) (zE ty32 (Pc.fst (Pc.here _)) rfl rfl rb2 rfl) (mem1 (.tail _ (.tail _ (.head _)))) rfl ?_)))))))
 intro v11 r11
 refine zM (vs := [_]) rfl rfl rfl rfl Tryz.call41 ⟨rfl, trivial⟩ (fun w hs => o_r4_zero hs r11 (by omega)) ?_
 intro v12 h1 hh1 r12
 obtain rfl : v12 = vB (s.1 = (T3.mk (0 : Rat) (0 : Rat) (0 : Rat))) := r12
 refine zD (zB ?_)
 refine zN rfl (fun hc12 => ?_) (fun hc12 => ?_)
 ·
  have hz := (ax_zero s.1).2 hc12
  refine zC (zA (gl_x (F := fun v_ => (rpT (rpQ 1)).Is h1 v_ (T3.mk (0 : Rat) (0 : Rat) (0 : Rat))) (wU (ps' := []) Tryz.underlying32 yC rfl rfl Tryz.sizeOf30 trivial rfl (zr_t (zr_q (by decide))) xM) mem0 rfl ?_))
  intro v13 r13
  replace rb4 := rb4.mono hh1
  refine wE (A := []) (F := fun c_ => (rpT (rpQ (3 * k + l + 4 * m + 30))).R h1 c_ (T3.mk (0 : Rat) (0 : Rat) (0 : Rat))) (yJ Tryz.sizeOf32 (Pc.here _) rfl rfl rfl rb4 (r13.le (Le.t (Le.q (l := 3 * k + l + 4 * m + 30) (by omega)))) rfl) ?_
  intro cs_65 rb_66
  refine asg rfl rfl (zD (zB (zQ (yE (gq_exv (rv_o (t := 4) ty32 (.head _) rfl rb_66) ?_)))))
  intro w_67 hvw_67 rr_68
  refine xS (fun E S => run_res2 rfl hvw_67 (rv_tmp rfl) E S) ?_
  refine ⟨_, ?_, (Rp.Is.cast rr_68 (by exact (if_pos hz).symm))⟩
  rw [xD (fun e => e hz)]
 have hz : ¬ s.1.at (axK s.1) = 0 := fun e => hc12 ((ax_zero s.1).1 e)
 refine zK (zB (zC (zA ?_)))
 replace rb2 := rb2.mono hh1
 refine gl_x (F := fun v_ => (rpP (rpT (rpQ m)) (rpQ l)).Is h1 v_ s) (zE ty34 (Pc.here _) rfl rfl rb2 rfl) (mem1 (.tail _ (.tail _ (.head _)))) rfl ?_
 intro v15 r15
 refine zM (vs := [_]) rfl rfl rfl rfl Tryz.call112 ⟨rfl, trivial⟩ (fun w hs => o_r5_axes hs r15 (by omega)) ?_
 intro v16 h2 hh2 r16
 obtain rfl := r16
 refine mv rfl rfl (gv (zO (vs := [_, _, _]) rfl rfl) rfl (gv (zO (vs := [_, _, _]) rfl rfl) rfl (gv (zO (vs := [_, _, _]) rfl rfl) rfl (asg rfl rfl (asg rfl rfl (asg rfl rfl (zD (zJ (e' := [(2, _), (3, _), (4, _), (6, _), (7, _), (8, _)]) ⟨rfl, rfl, rfl, rfl, rfl, rfl, trivial⟩ (zB (zC (zA (zL (xE (ρ := (rpT (rpQ (k + 1)))) (X := (T3.mk (0 : Rat) (0 : Rat) (0 : Rat))) yC rfl rfl (zr_t (zr_q (by omega)))) rfl rfl rfl ?_))))))))))))
 intro v9 q9 hq9
 obtain ⟨b9, cs9, rfl, rfl, rb9⟩ := hq9
 refine zD (zB (zC ?_))
 refine gc_draw1 (A := []) 10 [] [(0, .q), (1, .q), (2, .q), (3, .q), (4, .q), (5, .q), (6, .q), (7, .c), (8, .q), (9, .c)] xN (fun x hx => by cases hx) (by kernel_rfl) (fun x hx => by cases hx) (w_q rfl (fun h' L' hh hR => zG rfl) rfl (w_q rfl (fun h' L' hh hR => zG rfl) rfl (w_q rfl (fun h' L' hh hR => (zI (sz := 3) (q := 0) 0 Tryz.underlying32 Tryz.sizeOf30 rfl rfl rfl (by decide)).cv (show _ = vP b3 0 from congrArg (vP b3) (by rfl))) rfl ?_)))
 replace rb3 := rb3.mono (hh1.trans hh2)
 refine w_qx (F := fun v_ => (rpQ k).Is h2 v_ q.x) rfl (zE ty30 (Pc.tx (Pc.here _)) rfl rfl rb3 rfl) (mem1 (.tail _ (.head _))) rfl ?_
 intro v23 r23
 refine w_q rfl (fun h' L' hh hR => (zI (sz := 3) (q := 1) 1 Tryz.underlying32 Tryz.sizeOf30 rfl rfl rfl (by decide)).cv (show _ = vP b3 3 from congrArg (vP b3) (by rfl))) rfl (w_qx (F := fun v_ => (rpQ k).Is h2 v_ q.y) rfl (zE ty30 (Pc.ty (Pc.here _)) rfl rfl rb3 rfl) (mem1 (.tail _ (.head _))) rfl ?_)
 intro v25 r25
 refine w_q rfl (fun h' L' hh hR => (zI (sz := 3) (axI s.1) Tryz.underlying32 Tryz.sizeOf30 rfl rfl (by rfl) (by exact axI_lt _)).cv (show _ = vP b9 (((axI s.1) * 3 + 0)) from congrArg (vP b9) (by omega))) rfl ?_
 refine w_c rfl (s_updx (A := []) (F := fun c_ => (rpT (rpQ (k + 1))).R h2 c_ ((T3.mk (0 : Rat) (0 : Rat) (0 : Rat)).set (axI s.1) q.x)) (yJ Tryz.sizeOf30 (Pc.ta (Pc.here _) (axI s.1) (by exact axI_lt _)) rfl rfl rfl rb9 (r23.le (Le.q (l := k + 1) (by omega))) rfl) (xA (by first | (simp; done) | grind)) ?_)
 intro cs_69 rb_70
 refine w_q rfl (fun h' L' hh hR => (zI (sz := 3) (axJ s.1) Tryz.underlying32 Tryz.sizeOf30 rfl rfl (by rfl) (by exact axJ_lt _)).cv (show _ = vP b9 (((axJ s.1) * 3 + 0)) from congrArg (vP b9) (by omega))) rfl ?_
 refine w_c rfl (s_updx (A := []) (F := fun c_ => (rpT (rpQ (k + 1))).R h2 c_ (((T3.mk (0 : Rat) (0 : Rat) (0 : Rat)).set (axI s.1) q.x).set (axJ s.1) q.y)) (yJ Tryz.sizeOf30 (Pc.ta (Pc.here _) (axJ s.1) (by exact axJ_lt _)) rfl rfl rfl rb_70 (r25.le (Le.q (l := k + 1) (by omega))) rfl) (xA (by first | (simp; done) | grind)) ?_)
 intro cs_71 rb_72
 refine yZ (zJ (e' := [(2, _), (4, _), (8, _), (9, _)]) ⟨rfl, rfl, rfl, rfl, trivial⟩ (zB (zC ?_)))
 refine gc_draw1 (A := []) 18 [] [(0, .q), (1, .q), (2, .q), (3, .q), (4, .q), (8, .q), (9, .q), (10, .q), (11, .q), (5, .c), (6, .c), (7, .c), (12, .c), (13, .q), (14, .q), (15, .q), (16, .q), (17, .c)] xN (fun x hx => by cases hx) (chk_of [0, 0, 2, 0, 8, 0, 48, 68, 0, 0, 768, 1024, 2176, 4096, 8192, 8192, 32767, 98303] [262143, 262143, 262141, 262143, 262135, 262143, 262095, 262075, 262143, 262143, 261375, 261119, 259967, 258047, 253951, 253951, 262142, 180223] (by kernel_rfl)) (fun x hx => by cases hx) (w_q rfl (fun h' L' hh hR => zG rfl) rfl (w_q rfl (fun h' L' hh hR => (zH Tryz.underlying34 rfl Tryz.sizeOf30 rfl).cv (show _ = vP b2 9 from congrArg (vP b2) (by rfl))) rfl ?_))
 replace rb2 := rb2.mono hh2
 refine w_qx (F := fun v_ => (rpQ l).Is h2 v_ s.2) rfl (zE ty30 (Pc.snd (Pc.here _)) rfl rfl rb2 rfl) (mem1 (.tail _ (.tail _ (.head _)))) rfl ?_
 intro v31 r31
 refine w_q rfl (fun h' L' hh hR => (zH Tryz.underlying34 rfl Tryz.sizeOf32 rfl).cv (show _ = vP b2 0 from congrArg (vP b2) (by rfl))) rfl (w_qx (F := fun v_ => (rpT (rpQ m)).Is h2 v_ s.1) rfl (zE ty32 (Pc.fst (Pc.here _)) rfl rfl rb2 rfl) (mem1 (.tail _ (.tail _ (.head _)))) rfl ?_)
 intro v33 r33
 refine w_q rfl (fun h' L' hh hR => zG rfl) rfl (w_q rfl (fun h' L' hh hR => (zH Tryz.underlying34 rfl Tryz.sizeOf32 rfl).cv (show _ = vP b2 0 from congrArg (vP b2) (by rfl))) rfl (w_q rfl (fun h' L' hh hR => (zI (sz := 3) (axK s.1) Tryz.underlying32 Tryz.sizeOf30 rfl rfl (by rfl) (by exact axK_lt _)).cv (show _ = vP b2 (((axK s.1) * 3 + 0)) from congrArg (vP b2) (by omega))) rfl (w_qx (F := fun v_ => (rpQ m).Is h2 v_ (s.1.at (axK s.1))) rfl (zE ty30 (Pc.fst (Pc.ta (Pc.here _) (axK s.1) (by exact axK_lt _))) rfl rfl rb2 rfl) (mem1 (.tail _ (.tail _ (.head _)))) rfl ?_)))
 intro v40 r40
 refine w_c rfl (s_x (F := fun v_ => (rpT (rpQ (k + 1))).Is h2 v_ (((T3.mk (0 : Rat) (0 : Rat) (0 : Rat)).set (axI s.1) q.x).set (axJ s.1) q.y)) (zE ty32 (Pc.here _) rfl rfl rb_72 rfl) (mem1 (.head _)) rfl ?_)
 intro v34 r34
 refine w_c rfl ?_
 refine yI (vs := [_, _]) Tryz.call57 ⟨rfl, rfl, trivial⟩ (fun w hs => o_r4_dot hs r33 r34 (by omega)) rfl ?_
 intro v35 h3 hh3 r35
 change (rpQ (3 * m + 3 * (k + 1) + 9)).Is h3 v35 (dotT s.1 (((T3.mk (0 : Rat) (0 : Rat) (0 : Rat)).set (axI s.1) q.x).set (axJ s.1) q.y)) at r35
 replace r35 := Rp.Is.le r35 (Le.q (l := 3 * k + 3 * m + 12) (by omega))
 refine w_c rfl ?_
 replace r31 := r31.mono hh3
 refine yI (vs := [_, _]) Tryz.call56 ⟨rfl, rfl, trivial⟩ (fun w hs => o_rref_sub hs r31 r35 (by omega)) rfl ?_
 intro v36 h4 hh4 r36
 change (rpQ (l + (3 * k + 3 * m + 12) + 1)).Is h4 v36 (s.2 - (dotT s.1 (((T3.mk (0 : Rat) (0 : Rat) (0 : Rat)).set (axI s.1) q.x).set (axJ s.1) q.y))) at r36
 replace r36 := Rp.Is.le r36 (Le.q (l := 3 * k + l + 3 * m + 13) (by omega))
 refine w_c rfl ?_
 replace r40 := r40.mono (hh3.trans hh4)
 refine yI (vs := [_, _]) Tryz.call88 ⟨rfl, rfl, trivial⟩ (fun w hs => o_rref_quo hs r36 r40 (by omega)) rfl ?_
 intro v41 h5 hh5 r41
 obtain ⟨v41_0, rfl, r41_0⟩ := r41
 change (rpQ ((3 * k + l + 3 * m + 13) + m)).Is h5 v41_0 (if (s.1.at (axK s.1)) = 0 then 0 else (s.2 - (dotT s.1 (((T3.mk (0 : Rat) (0 : Rat) (0 : Rat)).set (axI s.1) q.x).set (axJ s.1) q.y))) / (s.1.at (axK s.1))) at r41_0
 replace r41_0 := Rp.Is.le r41_0 (Le.q (l := 3 * k + l + 4 * m + 13) (by omega))
 refine w_q rfl (fun h' L' hh hR => zG rfl) rfl (w_q rfl (fun h' L' hh hR => zO (vs := [_, _]) rfl rfl) rfl (w_q rfl (fun h' L' hh hR => zO (vs := [_, _]) rfl rfl) rfl (w_q rfl (fun h' L' hh hR => (zI (sz := 3) (axK s.1) Tryz.underlying32 Tryz.sizeOf30 rfl rfl (by rfl) (by exact axK_lt _)).cv (show _ = vP b9 (((axK s.1) * 3 + 0)) from congrArg (vP b9) (by omega))) rfl ?_)))
 refine w_c rfl ?_
 replace rb_72 := rb_72.mono ((hh3.trans hh4).trans hh5)
 have rw_73 := (Le.t (Le.q (l := 3 * k + l + 4 * m + 13) (by omega))).R rb_72
 refine s_updx (A := []) (F := fun c_ => (rpT (rpQ (3 * k + l + 4 * m + 13))).R h5 c_ ((((T3.mk (0 : Rat) (0 : Rat) (0 : Rat)).set (axI s.1) q.x).set (axJ s.1) q.y).set (axK s.1) (if (s.1.at (axK s.1)) = 0 then 0 else (s.2 - (dotT s.1 (((T3.mk (0 : Rat) (0 : Rat) (0 : Rat)).set (axI s.1) q.x).set (axJ s.1) q.y))) / (s.1.at (axK s.1))))) (yJ Tryz.sizeOf30 (Pc.ta (Pc.here _) (axK s.1) (by exact axK_lt _)) rfl rfl rfl rw_73 r41_0 rfl) (xA (by first | (simp; done) | grind)) ?_
 intro cs_74 rb_75
 refine yZ (zJ (e' := [(4, _), (9, _)]) ⟨rfl, rfl, trivial⟩ (zB (zC (zA (gl_x (F := fun v_ => (rpT (rpQ (3 * k + l + 4 * m + 13))).Is h5 v_ ((((T3.mk (0 : Rat) (0 : Rat) (0 : Rat)).set (axI s.1) q.x).set (axJ s.1) q.y).set (axK s.1) (if (s.1.at (axK s.1)) = 0 then 0 else (s.2 - (dotT s.1 (((T3.mk (0 : Rat) (0 : Rat) (0 : Rat)).set (axI s.1) q.x).set (axJ s.1) q.y))) / (s.1.at (axK s.1))))) (zE ty32 (Pc.here _) rfl rfl rb_75 rfl) (mem1 (.head _)) rfl ?_)))))
 intro v45 r45
 replace rb4 := rb4.mono ((((hh1.trans hh2).trans hh3).trans hh4).trans hh5)
 refine wE (A := [_]) (F := fun c_ => (rpT (rpQ (3 * k + l + 4 * m + 30))).R h5 c_ ((((T3.mk (0 : Rat) (0 : Rat) (0 : Rat)).set (axI s.1) q.x).set (axJ s.1) q.y).set (axK s.1) (if (s.1.at (axK s.1)) = 0 then 0 else (s.2 - (dotT s.1 (((T3.mk (0 : Rat) (0 : Rat) (0 : Rat)).set (axI s.1) q.x).set (axJ s.1) q.y))) / (s.1.at (axK s.1))))) (yJ Tryz.sizeOf32 (Pc.here _) rfl rfl rfl rb4 (r45.le (Le.t (Le.q (l := 3 * k + l + 4 * m + 30) (by omega)))) rfl) ?_
 intro cs_76 rb_77
 refine asg rfl rfl (zD (zB (zQ (gq_exv (rv_o (t := 4) ty32 (.tail _ (.head _)) rfl rb_77) ?_))))
 intro w_78 hvw_78 rr_79
 refine xS (fun E S => run_res2 rfl hvw_78 (rv_tmp rfl) E S) ?_
 refine ⟨_, ?_, (Rp.Is.cast rr_79 (by exact ref_lift hc12))⟩
 rw [xT hz]

end Go.Proofs.YtghhjjmjpeehdaaGreat


namespace Bk
set_option linter.unusedVariables false
open Classical
def pairsTo (R : Nat → Nat → Prop) (n a : Nat) : Prop := ∀ p q, p < a → p < q → q < n → R p q
def rowTo (R : Nat → Nat → Prop) (a b : Nat) : Prop := ∀ q, a < q → q < b → R a q
def difR (l : List Pt) (i j p q : Nat) : Prop := ¬ pr (gp l p) i j = pr (gp l q) i j
noncomputable def wantZ (n p q : Nat) : Int := if q = p + 1 ∨ (p = 0 ∧ q + 1 = n) then 1 else 0
def okT (l : List Pt) (i j p q : Nat) : Prop := touch2 (edgeA l i j p) (edgeB l i j p) (edgeA l i j q) (edgeB l i j q) = wantZ l.length p q
def simP (l : List Pt) (i j : Nat) : Prop := 3 ≤ l.length ∧ pairsTo (difR l i j) l.length l.length ∧ pairsTo (okT l i j) l.length l.length
end Bk


namespace Bk
set_option linter.unusedVariables false
set_option linter.unusedSimpArgs false
open Classical
def addT (a b : Pt) : Pt := T3.mk (a.x + b.x) (a.y + b.y) (a.z + b.z)
def moved (l l' : List Pt) (v : Pt) : Prop := l'.length = l.length ∧ ∀ q, q < l.length → gp l' q = addT (gp l q) v
def sh (a v : P2) : P2 := (a.1 + v.1, a.2 + v.2)
end Bk


namespace Bk
set_option linter.unusedVariables false
set_option linter.unusedSimpArgs false
open Classical
def reved (l z : List Pt) : Prop := z.length = l.length ∧ ∀ q, q < l.length → gp z q = gp l (l.length - 1 - q)
def sN (n m : Nat) : Nat := if m + 1 = n then m else n - 2 - m
def movTo (l y : List Pt) (v : Pt) (m : Nat) : Prop := y.length = m ∧ ∀ q, q < m → gp y q = addT (gp l q) v
def revTo (l z : List Pt) (m : Nat) : Prop := z.length = m ∧ ∀ q, q < m → gp z q = gp l (l.length - 1 - q)
end Bk


namespace Bk
set_option linter.unusedVariables false
set_option linter.unusedSimpArgs false
open Classical
def hgt (pl : Pl) (p : Pt) : Rat := dotT pl.1 p - pl.2
noncomputable def sdZ (pl : Pl) (p : Pt) : Int := sgnQ (hgt pl p)
theorem sd_range (pl : Pl) (p : Pt) : -1 ≤ sdZ pl p ∧ sdZ pl p ≤ 1 := sgnQ_range _
def lerp (t : Rat) (a b : Pt) : Pt := T3.mk (a.x + t * (b.x - a.x)) (a.y + t * (b.y - a.y)) (a.z + t * (b.z - a.z))
noncomputable def cutT (pl : Pl) (a b : Pt) : Rat := if hgt pl a - hgt pl b = 0 then 0 else hgt pl a / (hgt pl a - hgt pl b)
noncomputable def btw (pl : Pl) (a b : Pt) : Pt := lerp (cutT pl a b) a b
abbrev nx (l : List Pt) (m : Nat) : Pt := gp l ((m + 1) % l.length)
def xP (pl : Pl) (l : List Pt) (m : Nat) : Prop := sdZ pl (gp l m) * sdZ pl (nx l m) < 0
noncomputable def bkTo (pl : Pl) (l : List Pt) : Nat → List Pt
  | 0 => []
  | m + 1 => bkTo pl l m ++ (if sdZ pl (gp l m) ≤ 0 then [gp l m] else []) ++ (if xP pl l m then [btw pl (gp l m) (nx l m)] else [])
noncomputable def frTo (pl : Pl) (l : List Pt) : Nat → List Pt
  | 0 => []
  | m + 1 => frTo pl l m ++ (if 0 ≤ sdZ pl (gp l m) then [gp l m] else []) ++ (if xP pl l m then [btw pl (gp l m) (nx l m)] else [])
def behTo (pl : Pl) (l : List Pt) : Nat → Prop
  | 0 => False
  | m + 1 => behTo pl l m ∨ sdZ pl (gp l m) < 0
def aheTo (pl : Pl) (l : List Pt) : Nat → Prop
  | 0 => False
  | m + 1 => aheTo pl l m ∨ 0 < sdZ pl (gp l m)
noncomputable def cutB (pl : Pl) (l : List Pt) : List Pt := if behTo pl l l.length ∨ ¬ aheTo pl l l.length then bkTo pl l l.length else []
noncomputable def cutF (pl : Pl) (l : List Pt) : List Pt := if aheTo pl l l.length then frTo pl l l.length else []
section
variable {pl : Pl} {l B : List Pt} {m : Nat}
theorem bk_n (hB : B = bkTo pl l m) (h1 : ¬ sdZ pl (gp l m) ≤ 0) (h2 : ¬ xP pl l m) : B = bkTo pl l (m + 1) := by
  show _ = _ ++ _ ++ _; rw [if_neg h1, if_neg h2, hB, List.append_nil, List.append_nil]
theorem bk_a (hB : B = bkTo pl l m) (h1 : sdZ pl (gp l m) ≤ 0) (h2 : ¬ xP pl l m) : B ++ [gp l m] = bkTo pl l (m + 1) := by
  show _ = _ ++ _ ++ _; rw [if_pos h1, if_neg h2, hB, List.append_nil]
theorem bk_x (hB : B = bkTo pl l m) (h1 : ¬ sdZ pl (gp l m) ≤ 0) (h2 : xP pl l m) : B ++ [btw pl (gp l m) (nx l m)] = bkTo pl l (m + 1) := by
  show _ = _ ++ _ ++ _; rw [if_neg h1, if_pos h2, hB, List.append_nil]
theorem bk_ax (hB : B = bkTo pl l m) (h1 : sdZ pl (gp l m) ≤ 0) (h2 : xP pl l m) : B ++ [gp l m] ++ [btw pl (gp l m) (nx l m)] = bkTo pl l (m + 1) := by
  show _ = _ ++ _ ++ _; rw [if_pos h1, if_pos h2, hB]
theorem fr_n (hB : B = frTo pl l m) (h1 : ¬ 0 ≤ sdZ pl (gp l m)) (h2 : ¬ xP pl l m) : B = frTo pl l (m + 1) := by
  show _ = _ ++ _ ++ _; rw [if_neg h1, if_neg h2, hB, List.append_nil, List.append_nil]
theorem fr_a (hB : B = frTo pl l m) (h1 : 0 ≤ sdZ pl (gp l m)) (h2 : ¬ xP pl l m) : B ++ [gp l m] = frTo pl l (m + 1) := by
  show _ = _ ++ _ ++ _; rw [if_pos h1, if_neg h2, hB, List.append_nil]
theorem fr_x (hB : B = frTo pl l m) (h1 : ¬ 0 ≤ sdZ pl (gp l m)) (h2 : xP pl l m) : B ++ [btw pl (gp l m) (nx l m)] = frTo pl l (m + 1) := by
  show _ = _ ++ _ ++ _; rw [if_neg h1, if_pos h2, hB, List.append_nil]
theorem fr_ax (hB : B = frTo pl l m) (h1 : 0 ≤ sdZ pl (gp l m)) (h2 : xP pl l m) : B ++ [gp l m] ++ [btw pl (gp l m) (nx l m)] = frTo pl l (m + 1) := by
  show _ = _ ++ _ ++ _; rw [if_pos h1, if_pos h2, hB]
theorem beh_iff : ∀ m, behTo pl l m ↔ ∃ q, q < m ∧ sdZ pl (gp l q) < 0
  | 0 => ⟨False.elim, fun ⟨q, h, _⟩ => by omega⟩
  | m + 1 => by
    show (_ ∨ _) ↔ _
    rw [beh_iff m]
    constructor
    · rintro (⟨q, h1, h2⟩ | h)
      · exact ⟨q, by omega, h2⟩
      · exact ⟨m, by omega, h⟩
    · rintro ⟨q, h1, h2⟩
      rcases Nat.lt_succ_iff_lt_or_eq.1 h1 with h3 | h3
      · exact .inl ⟨q, h3, h2⟩
      · subst h3; exact .inr h2
theorem ahe_iff : ∀ m, aheTo pl l m ↔ ∃ q, q < m ∧ 0 < sdZ pl (gp l q)
  | 0 => ⟨False.elim, fun ⟨q, h, _⟩ => by omega⟩
  | m + 1 => by
    show (_ ∨ _) ↔ _
    rw [ahe_iff m]
    constructor
    · rintro (⟨q, h1, h2⟩ | h)
      · exact ⟨q, by omega, h2⟩
      · exact ⟨m, by omega, h⟩
    · rintro ⟨q, h1, h2⟩
      rcases Nat.lt_succ_iff_lt_or_eq.1 h1 with h3 | h3
      · exact .inl ⟨q, h3, h2⟩
      · subst h3; exact .inr h2
end
theorem take_gp {l : List Pt} {m : Nat} (h : m < l.length) : l.take m ++ [gp l m] = l.take (m + 1) := by
  unfold gp
  rw [List.getD_eq_getElem?_getD, List.getElem?_eq_getElem h]
  exact (List.take_succ_eq_append_getElem h).symm
theorem no_x {pl : Pl} {l : List Pt} {m : Nat} (h : ∀ q, q < l.length → sdZ pl (gp l q) ≤ 0) (hm : m < l.length) : ¬ xP pl l m := fun e => by
  have h1 := h m hm
  have h2 := h _ (Nat.mod_lt (m + 1) (show 0 < l.length by omega))
  have h3 := Int.mul_nonneg_of_nonpos_of_nonpos h1 h2
  exact absurd e (Int.not_lt.2 h3)
theorem no_x' {pl : Pl} {l : List Pt} {m : Nat} (h : ∀ q, q < l.length → 0 ≤ sdZ pl (gp l q)) (hm : m < l.length) : ¬ xP pl l m := fun e => by
  have h1 := h m hm
  have h2 := h _ (Nat.mod_lt (m + 1) (show 0 < l.length by omega))
  have h3 := Int.mul_nonneg h1 h2
  exact absurd e (Int.not_lt.2 h3)
theorem bk_same {pl : Pl} {l : List Pt} (h : ∀ q, q < l.length → sdZ pl (gp l q) ≤ 0) : ∀ m, m ≤ l.length → bkTo pl l m = l.take m
  | 0, _ => by rw [List.take_zero]; rfl
  | m + 1, hm => by
    rw [← bk_a rfl (h m (by omega)) (no_x h (by omega)), bk_same h m (by omega), take_gp (by omega)]
theorem fr_same {pl : Pl} {l : List Pt} (h : ∀ q, q < l.length → 0 ≤ sdZ pl (gp l q)) : ∀ m, m ≤ l.length → frTo pl l m = l.take m
  | 0, _ => by rw [List.take_zero]; rfl
  | m + 1, hm => by
    rw [← fr_a rfl (h m (by omega)) (no_x' h (by omega)), fr_same h m (by omega), take_gp (by omega)]
theorem cutB_all {pl : Pl} {l : List Pt} (h : ¬ aheTo pl l l.length) : cutB pl l = l ∧ cutF pl l = [] := by
  have h1 : ∀ q, q < l.length → sdZ pl (gp l q) ≤ 0 := fun q hq => Int.not_lt.1 fun e => h ((ahe_iff _).2 ⟨q, hq, e⟩)
  unfold cutB cutF
  rw [if_pos (.inr h), if_neg h, bk_same h1 _ (Nat.le_refl _), List.take_length]
  exact ⟨rfl, rfl⟩
theorem cutF_all {pl : Pl} {l : List Pt} (h : aheTo pl l l.length) (hb : ¬ behTo pl l l.length) : cutB pl l = [] ∧ cutF pl l = l := by
  have h1 : ∀ q, q < l.length → 0 ≤ sdZ pl (gp l q) := fun q hq => Int.not_lt.1 fun e => hb ((beh_iff _).2 ⟨q, hq, e⟩)
  unfold cutB cutF
  rw [if_neg (fun e => e.elim hb fun e => e h), if_pos h, fr_same h1 _ (Nat.le_refl _), List.take_length]
  exact ⟨rfl, rfl⟩
theorem cut_both {pl : Pl} {l : List Pt} (h : aheTo pl l l.length) (hb : behTo pl l l.length) : cutB pl l = bkTo pl l l.length ∧ cutF pl l = frTo pl l l.length := by
  unfold cutB cutF
  rw [if_pos (.inl hb), if_pos h]
  exact ⟨rfl, rfl⟩
theorem bk_len (pl : Pl) (l : List Pt) : ∀ m, (bkTo pl l m).length ≤ 2 * m
  | 0 => Nat.le_refl _
  | m + 1 => by
    have h := bk_len pl l m
    show List.length (_ ++ _ ++ _) ≤ _
    rw [List.length_append, List.length_append]
    have h1 : (if sdZ pl (gp l m) ≤ 0 then [gp l m] else []).length ≤ 1 := by split <;> simp
    have h2 : (if xP pl l m then [btw pl (gp l m) (nx l m)] else []).length ≤ 1 := by split <;> simp
    omega
theorem fr_len (pl : Pl) (l : List Pt) : ∀ m, (frTo pl l m).length ≤ 2 * m
  | 0 => Nat.le_refl _
  | m + 1 => by
    have h := fr_len pl l m
    show List.length (_ ++ _ ++ _) ≤ _
    rw [List.length_append, List.length_append]
    have h1 : (if 0 ≤ sdZ pl (gp l m) then [gp l m] else []).length ≤ 1 := by split <;> simp
    have h2 : (if xP pl l m then [btw pl (gp l m) (nx l m)] else []).length ≤ 1 := by split <;> simp
    omega
theorem cutB_len (pl : Pl) (l : List Pt) : (cutB pl l).length ≤ 2 * l.length := by
  unfold cutB; split
  · exact bk_len pl l _
  · exact Nat.zero_le _
theorem cutF_len (pl : Pl) (l : List Pt) : (cutF pl l).length ≤ 2 * l.length := by
  unfold cutF; split
  · exact fr_len pl l _
  · exact Nat.zero_le _
end Bk


namespace Bk
set_option linter.unusedVariables false
set_option linter.unusedSimpArgs false
open Classical
theorem cr_rot (a b c : P2) : cr b c a = cr a b c := by unfold cr; grind
theorem cr_dup (a b : P2) : cr a b b = 0 := by unfold cr; grind
def triT (P : Nat → P2) (n : Nat) : Prop := ∀ i j k, i < j → j < k → k < n → 0 < cr (P i) (P j) (P k)
def edgeT (P : Nat → P2) (n : Nat) : Prop := ∀ i k, i < n → 2 ≤ k → k < n → 0 < cr (P i) (P ((i + 1) % n)) (P ((i + k) % n))
theorem plucker {o a b c d : P2} : cr o a c * cr o b d = cr o a b * cr o c d + cr o a d * cr o b c := by unfold cr; grind
theorem pos_div {x y : Rat} (hx : 0 < x) (h : 0 < x * y) : 0 < y := by
  refine Rat.not_le.1 fun e => ?_
  have := Rat.mul_nonneg (a := x) (b := -y) (by grind) (by grind)
  grind
theorem tri_of_edge {P : Nat → P2} {n : Nat} (h3 : 3 ≤ n) (h : edgeT P n) : triT P n := by
  intro i j k hij hjk hk
  have key : ∀ b, b < n → ∀ a, 1 ≤ a → a < b → 0 < cr (P i) (P ((i + a) % n)) (P ((i + b) % n)) := by
    intro b
    induction b with
    | zero => intro _ a h1 h2; omega
    | succ b ih =>
      intro hb a ha hab
      have hedge : 1 ≤ b → 0 < cr (P i) (P ((i + b) % n)) (P ((i + (b + 1)) % n)) := fun hb1 => by
        have h1 := h ((i + b) % n) (n - b) (Nat.mod_lt _ (by omega)) (by omega) (by omega)
        have e1 : ((i + b) % n + 1) % n = (i + (b + 1)) % n := by rw [Nat.mod_add_mod]; congr 1
        have e2 : ((i + b) % n + (n - b)) % n = i := by
          rw [Nat.mod_add_mod, show i + b + (n - b) = i + n by omega, Nat.add_mod_right, Nat.mod_eq_of_lt (by omega)]
        rw [e1, e2, ← cr_rot] at h1
        rw [cr_rot] at h1
        rw [← cr_rot]
        exact h1
      rcases Nat.lt_succ_iff_lt_or_eq.1 hab with hlt | heq
      · have h1 := ih (by omega) a ha hlt
        rcases Nat.lt_or_ge 1 a with h2 | h2
        · have e1 := h i b (by omega) (by omega) (by omega)
          have e2 := h i (b + 1) (by omega) (by omega) (by omega)
          have e3 := h i a (by omega) (by omega) (by omega)
          have e4 := hedge (by omega)
          have pl := plucker (o := P i) (a := P ((i + 1) % n)) (b := P ((i + a) % n)) (c := P ((i + b) % n)) (d := P ((i + (b + 1)) % n))
          refine pos_div e1 ?_
          rw [pl]
          have := Rat.mul_pos e3 e4
          have := Rat.mul_pos e2 h1
          grind
        · have e : a = 1 := by omega
          subst e
          exact h i (b + 1) (by omega) (by omega) (by omega)
      · subst heq; exact hedge ha
  have := key (k - i) (by omega) (j - i) (by omega) (by omega)
  rw [show i + (j - i) = j by omega, show i + (k - i) = k by omega, Nat.mod_eq_of_lt (show j < n by omega), Nat.mod_eq_of_lt hk] at this
  exact this
theorem edge_of_tri {P : Nat → P2} {n : Nat} (h : triT P n) : edgeT P n := by
  intro i k hi hk hkn
  by_cases h1 : i + 1 = n
  · rw [h1, Nat.mod_self, show (i + k) % n = k - 1 by rw [show i + k = (k - 1) + n by omega, Nat.add_mod_right, Nat.mod_eq_of_lt (by omega)]]
    rw [cr_rot, cr_rot]
    exact h 0 (k - 1) i (by omega) (by omega) hi
  · rw [Nat.mod_eq_of_lt (show i + 1 < n by omega)]
    by_cases h2 : i + k < n
    · rw [Nat.mod_eq_of_lt h2]; exact h i (i + 1) (i + k) (by omega) (by omega) h2
    · rw [show (i + k) % n = i + k - n by rw [show i + k = (i + k - n) + n by omega, Nat.add_mod_right, Nat.mod_eq_of_lt (by omega)]; omega]
      rw [cr_rot]
      exact h (i + k - n) i (i + 1) (by omega) (by omega) (by omega)
def lp (t : Rat) (a b : P2) : P2 := (a.1 + t * (b.1 - a.1), a.2 + t * (b.2 - a.2))
theorem lp_zero (a b : P2) : lp 0 a b = a := by unfold lp; obtain ⟨a1, a2⟩ := a; rw [Prod.mk.injEq]; grind
theorem cr_lp1 (t : Rat) (a b c d : P2) : cr (lp t a b) c d = (1 - t) * cr a c d + t * cr b c d := by unfold cr lp; grind
theorem cr_lp2 (t : Rat) (a b c d : P2) : cr c (lp t a b) d = (1 - t) * cr c a d + t * cr c b d := by unfold cr lp; grind
theorem cr_lp3 (t : Rat) (a b c d : P2) : cr c d (lp t a b) = (1 - t) * cr c d a + t * cr c d b := by unfold cr lp; grind
def ex (P : Nat → P2) (n m : Nat) : P2 := P (m % n)
theorem ex_pos {P : Nat → P2} {n i j k : Nat} (h : triT P n) (hij : i < j) (hjk : j < k) (hk : k ≤ n) (hno : ¬ (i = 0 ∧ k = n)) : 0 < cr (ex P n i) (ex P n j) (ex P n k) := by
  unfold ex
  rw [Nat.mod_eq_of_lt (show i < n by omega), Nat.mod_eq_of_lt (show j < n by omega)]
  by_cases e : k = n
  · rw [e, Nat.mod_self, cr_rot]
    exact h 0 i j (by omega) hij (by omega)
  · rw [Nat.mod_eq_of_lt (by omega)]
    exact h i j k hij hjk (by omega)
theorem ex_nonneg {P : Nat → P2} {n i j k : Nat} (h : triT P n) (hij : i ≤ j) (hjk : j ≤ k) (hk : k ≤ n) : 0 ≤ cr (ex P n i) (ex P n j) (ex P n k) := by
  by_cases e1 : i = j
  · rw [e1, cr_self]; exact Rat.le_refl
  · by_cases e2 : j = k
    · rw [e2, cr_dup]; exact Rat.le_refl
    · by_cases e3 : i = 0 ∧ k = n
      · rw [e3.1, e3.2]
        have : ex P n 0 = ex P n n := by unfold ex; rw [Nat.mod_self, Nat.zero_mod]
        rw [this, cr_end']; exact Rat.le_refl
      · exact Rat.le_of_lt (ex_pos h (by omega) (by omega) hk e3)
abbrev Mk := Nat × Bool
def mkP (P : Nat → P2) (n : Nat) (t : Nat → Rat) (M : Mk) : P2 := if M.2 then lp (t M.1) (ex P n M.1) (ex P n (M.1 + 1)) else ex P n M.1
def mkLt (A B : Mk) : Prop := A.1 < B.1 ∨ (A.1 = B.1 ∧ A.2 = false ∧ B.2 = true)
def chg (s : Nat → Int) (n m : Nat) : Prop := s m * s ((m + 1) % n) < 0
noncomputable def mks (s : Nat → Int) (n : Nat) : Nat → List Mk
  | 0 => []
  | m + 1 => mks s n m ++ (if s m ≤ 0 then [(m, false)] else []) ++ (if chg s n m then [(m, true)] else [])
theorem mks_mem {s : Nat → Int} {n : Nat} {M : Mk} : ∀ {m}, M ∈ mks s n m ↔ M.1 < m ∧ if M.2 then chg s n M.1 else s M.1 ≤ 0
  | 0 => ⟨fun h => absurd h List.not_mem_nil, fun h => by omega⟩
  | m + 1 => by
    obtain ⟨i, b⟩ := M
    show (i, b) ∈ _ ++ _ ++ _ ↔ _
    rw [List.mem_append, List.mem_append, mks_mem]
    constructor
    · rintro ((⟨h1, h2⟩ | h) | h)
      · exact ⟨by omega, h2⟩
      · split at h
        · rename_i h3
          rw [List.mem_singleton, Prod.mk.injEq] at h
          obtain ⟨rfl, rfl⟩ := h
          exact ⟨by omega, h3⟩
        · exact absurd h List.not_mem_nil
      · split at h
        · rename_i h3
          rw [List.mem_singleton, Prod.mk.injEq] at h
          obtain ⟨rfl, rfl⟩ := h
          exact ⟨by omega, h3⟩
        · exact absurd h List.not_mem_nil
    · rintro ⟨h1, h2⟩
      rcases Nat.lt_succ_iff_lt_or_eq.1 h1 with h3 | h3
      · exact .inl (.inl ⟨h3, h2⟩)
      · have h3' : i = m := h3
        subst h3'
        cases b with
        | false => have h2' : s i ≤ 0 := h2; refine .inl (.inr ?_); rw [if_pos h2']; exact List.mem_singleton.2 rfl
        | true => have h2' : chg s n i := h2; refine .inr ?_; rw [if_pos h2']; exact List.mem_singleton.2 rfl
theorem mks_sorted {s : Nat → Int} {n : Nat} : ∀ m, (mks s n m).Pairwise mkLt
  | 0 => List.Pairwise.nil
  | m + 1 => by
    show (_ ++ _ ++ _ : List Mk).Pairwise mkLt
    rw [List.pairwise_append, List.pairwise_append]
    refine ⟨⟨mks_sorted m, by split <;> simp, ?_⟩, by split <;> simp, ?_⟩
    · intro a ha b hb
      split at hb
      · rw [List.mem_singleton] at hb; subst hb; exact .inl (mks_mem.1 ha).1
      · exact absurd hb List.not_mem_nil
    · intro a ha b hb
      split at hb
      · rw [List.mem_singleton] at hb; subst hb
        rcases List.mem_append.1 ha with h | h
        · exact .inl (mks_mem.1 h).1
        · split at h
          · rw [List.mem_singleton] at h; subst h; exact .inr ⟨rfl, rfl, rfl⟩
          · exact absurd h List.not_mem_nil
      · exact absurd hb List.not_mem_nil
theorem sgn_opp {a b : Int} (ha : a ≤ 0) (h : a * b < 0) : a < 0 ∧ 0 < b := by
  have h1 : a ≠ 0 := fun e => by rw [e, Int.zero_mul] at h; omega
  refine ⟨by omega, Int.not_le.1 fun e => ?_⟩
  have := Int.mul_nonneg_of_nonpos_of_nonpos ha e
  omega
theorem mk_tri {P : Nat → P2} {n : Nat} {t : Nat → Rat} {s : Nat → Int} (h3 : 3 ≤ n) (h : triT P n) (ht : ∀ m, m < n → chg s n m → 0 < t m ∧ t m < 1) {A B C : Mk} (hA : A ∈ mks s n n) (hB : B ∈ mks s n n) (hC : C ∈ mks s n n) (hAB : mkLt A B) (hBC : mkLt B C) : 0 < cr (mkP P n t A) (mkP P n t B) (mkP P n t C) := by
  obtain ⟨i, a⟩ := A; obtain ⟨j, b⟩ := B; obtain ⟨k, c⟩ := C
  obtain ⟨hi, hA⟩ := mks_mem.1 hA; obtain ⟨hj, hB⟩ := mks_mem.1 hB; obtain ⟨hk, hC⟩ := mks_mem.1 hC
  simp only at hi hj hk
  -- weights
  have wt : ∀ (i : Nat) (a : Bool), i < n → (if a then chg s n i else s i ≤ 0) → ∃ w, mkP P n t (i, a) = lp w (ex P n i) (ex P n (i + 1)) ∧ 0 ≤ w ∧ w < 1 ∧ (a = true → 0 < w) ∧ (a = false → w = 0) := by
    intro i a hi h1
    cases a with
    | false => exact ⟨0, (lp_zero _ _).symm, Rat.le_refl, by decide, fun e => absurd e (by decide), fun _ => rfl⟩
    | true => have := ht i hi h1; exact ⟨t i, rfl, Rat.le_of_lt this.1, this.2, fun _ => this.1, fun e => absurd e (by decide)⟩
  obtain ⟨u, eA, u0, u1, up, uz⟩ := wt i a hi hA
  obtain ⟨v, eB, v0, v1, vp, vz⟩ := wt j b hj hB
  obtain ⟨w, eC, w0, w1, wp, wz⟩ := wt k c hk hC
  rw [eA, eB, eC]
  have F0 : ∀ {x y z : Nat}, x ≤ y → y ≤ z → z ≤ n → 0 ≤ cr (ex P n x) (ex P n y) (ex P n z) := fun a b c => ex_nonneg h a b c
  have nn : ∀ {x y : Rat}, 0 ≤ x → 0 ≤ y → 0 ≤ x * y := Rat.mul_nonneg
  have pp : ∀ {x y : Rat}, 0 < x → 0 < y → 0 < x * y := Rat.mul_pos
  have u1' : 0 < 1 - u := by grind
  have v1' : 0 < 1 - v := by grind
  have w1' : 0 < 1 - w := by grind
  have u1n := Rat.le_of_lt u1'
  have v1n := Rat.le_of_lt v1'
  have w1n := Rat.le_of_lt w1'
  rcases hAB with hij | ⟨hij, hab⟩
  · rcases hBC with hjk | ⟨hjk, hbc⟩
    · -- all on edges of their own
      have hij' : i < j := hij
      have hjk' : j < k := hjk
      have x1 : 0 < cr (lp u (ex P n i) (ex P n (i + 1))) (ex P n j) (ex P n k) := by
        rw [cr_lp1]
        have a1 := pp u1' (ex_pos h hij' hjk' (by omega) (by omega))
        have a2 := nn u0 (F0 (show i + 1 ≤ j by omega) (show j ≤ k by omega) (by omega))
        grind
      have x2 : ∀ {y z : Nat}, j ≤ y → y ≤ z → z ≤ n → 0 ≤ cr (lp u (ex P n i) (ex P n (i + 1))) (ex P n y) (ex P n z) := fun {y z} h1 h2 h3 => by
        rw [cr_lp1]
        have a1 := nn u1n (F0 (show i ≤ y by omega) h2 h3)
        have a2 := nn u0 (F0 (show i + 1 ≤ y by omega) h2 h3)
        grind
      rw [cr_lp2, cr_lp3, cr_lp3]
      have a1 := pp v1' (pp w1' x1)
      have a2 := nn v1n (nn w0 (x2 (Nat.le_refl j) (show j ≤ k + 1 by omega) (by omega)))
      have a3 := nn v0 (nn w1n (x2 (show j ≤ j + 1 by omega) (show j + 1 ≤ k by omega) (by omega)))
      have a4 := nn v0 (nn w0 (x2 (show j ≤ j + 1 by omega) (show j + 1 ≤ k + 1 by omega) (by omega)))
      grind
    · -- a vertex and a point on the edge behind it
      have hjk' : j = k := hjk
      obtain ⟨hb, hc⟩ := hbc
      simp only at hb hc
      subst hjk' hb hc
      have hij' : i < j := hij
      rw [vz rfl, lp_zero, cr_lp3, cr_dup]
      have hs := sgn_opp hB hC
      have w2 := wp rfl
      have x : 0 < cr (lp u (ex P n i) (ex P n (i + 1))) (ex P n j) (ex P n (j + 1)) := by
        rw [cr_lp1]
        by_cases e : i = 0 ∧ j + 1 = n
        · have ua : a = true := by
            cases a with
            | true => rfl
            | false =>
              have h1 : s i ≤ 0 := hA
              have h2 := hs.2
              rw [e.2, Nat.mod_self, ← e.1] at h2
              omega
          have a1 := nn u1n (F0 (show i ≤ j by omega) (show j ≤ j + 1 by omega) (by omega))
          have a2 := pp (up ua) (ex_pos h (show i + 1 < j by omega) (show j < j + 1 by omega) (by omega) (by omega))
          grind
        · have a1 := pp u1' (ex_pos h hij' (show j < j + 1 by omega) (by omega) e)
          have a2 := nn u0 (F0 (show i + 1 ≤ j by omega) (show j ≤ j + 1 by omega) (by omega))
          grind
      have := pp w2 x
      grind
  · have hij' : i = j := hij
    obtain ⟨ha, hb⟩ := hab
    simp only at ha hb
    subst hij' ha hb
    rcases hBC with hjk | ⟨hjk, hbc⟩
    · have hjk' : i < k := hjk
      rw [uz rfl, lp_zero, cr_lp2, cr_self]
      have hs := sgn_opp hA hB
      have v2 := vp rfl
      have x : 0 < cr (ex P n i) (ex P n (i + 1)) (lp w (ex P n k) (ex P n (k + 1))) := by
        rw [cr_lp3]
        by_cases e : k = i + 1
        · have wc : c = true := by
            cases c with
            | true => rfl
            | false =>
              have h1 : s k ≤ 0 := hC
              have h2 := hs.2
              rw [Nat.mod_eq_of_lt (show i + 1 < n by omega), ← e] at h2
              omega
          have a1 := nn w1n (F0 (show i ≤ i + 1 by omega) (show i + 1 ≤ k by omega) (by omega))
          have a2 := pp (wp wc) (ex_pos h (show i < i + 1 by omega) (show i + 1 < k + 1 by omega) (by omega) (by omega))
          grind
        · have a1 := pp w1' (ex_pos h (show i < i + 1 by omega) (show i + 1 < k by omega) (by omega) (by omega))
          have a2 := nn w0 (F0 (show i ≤ i + 1 by omega) (show i + 1 ≤ k + 1 by omega) (by omega))
          grind
      have := pp v2 x
      grind
    · exact absurd hbc.1 (by simp)
theorem mks_tri {P : Nat → P2} {n : Nat} {t : Nat → Rat} {s : Nat → Int} (h3 : 3 ≤ n) (h : triT P n) (ht : ∀ m, m < n → chg s n m → 0 < t m ∧ t m < 1) : triT (fun q => mkP P n t ((mks s n n).getD q (0, false))) (mks s n n).length := by
  intro a b c hab hbc hc
  have g : ∀ q (hq : q < (mks s n n).length), (mks s n n).getD q (0, false) = (mks s n n)[q] := fun q hq => by
    rw [List.getD_eq_getElem?_getD, List.getElem?_eq_getElem hq]; rfl
  have hp := List.pairwise_iff_getElem.1 (mks_sorted (s := s) (n := n) n)
  simp only [g a (by omega), g b (by omega), g c hc]
  exact mk_tri h3 h ht (List.getElem_mem _) (List.getElem_mem _) (List.getElem_mem _) (hp a b _ _ hab) (hp b c _ _ hbc)
theorem up_x {S : Nat → Int} {i : Nat} : ∀ d, S i < 0 → 0 < S (i + d) → ∃ p, i ≤ p ∧ p < i + d ∧ (S p * S (p + 1) < 0 ∨ (i < p ∧ S p = 0))
  | 0, h1, h2 => by rw [Nat.add_zero] at h2; omega
  | d + 1, h1, h2 => by
    rcases Int.lt_trichotomy (S (i + d)) 0 with h | h | h
    · exact ⟨i + d, by omega, by omega, .inl (Int.mul_neg_of_neg_of_pos h h2)⟩
    · refine ⟨i + d, by omega, by omega, .inr ⟨?_, h⟩⟩
      rcases Nat.eq_zero_or_pos d with e | e
      · subst e; rw [Nat.add_zero] at h; omega
      · omega
    · obtain ⟨p, a, b, c⟩ := up_x d h1 h
      exact ⟨p, a, by omega, c⟩
theorem down_x {S : Nat → Int} {i : Nat} : ∀ d, 0 < S i → S (i + d) < 0 → ∃ p, i ≤ p ∧ p < i + d ∧ (S p * S (p + 1) < 0 ∨ (i < p ∧ S p = 0))
  | 0, h1, h2 => by rw [Nat.add_zero] at h2; omega
  | d + 1, h1, h2 => by
    rcases Int.lt_trichotomy (S (i + d)) 0 with h | h | h
    · obtain ⟨p, a, b, c⟩ := down_x d h1 h
      exact ⟨p, a, by omega, c⟩
    · refine ⟨i + d, by omega, by omega, .inr ⟨?_, h⟩⟩
      rcases Nat.eq_zero_or_pos d with e | e
      · subst e; rw [Nat.add_zero] at h; omega
      · omega
    · exact ⟨i + d, by omega, by omega, .inl (Int.mul_neg_of_pos_of_neg h h2)⟩
theorem three_le {α : Type} {l : List α} {a b c : α} (ha : a ∈ l) (hb : b ∈ l) (hc : c ∈ l) (h1 : a ≠ b) (h2 : b ≠ c) (h3 : a ≠ c) : 3 ≤ l.length := by
  obtain ⟨i, hi, ei⟩ := List.mem_iff_getElem.1 ha
  obtain ⟨j, hj, ej⟩ := List.mem_iff_getElem.1 hb
  obtain ⟨k, hk, ek⟩ := List.mem_iff_getElem.1 hc
  have n1 : i ≠ j := fun e => by subst e; exact h1 (ei.symm.trans ej)
  have n2 : j ≠ k := fun e => by subst e; exact h2 (ej.symm.trans ek)
  have n3 : i ≠ k := fun e => by subst e; exact h3 (ei.symm.trans ek)
  omega
theorem mks_len {s : Nat → Int} {n i j : Nat} (hi : i < n) (hj : j < n) (h1 : s i < 0) (h2 : 0 < s j) : 3 ≤ (mks s n n).length := by
  have hn : 0 < n := by omega
  let S := fun m => s (m % n)
  have hSi : S i = s i := by show s (i % n) = _; rw [Nat.mod_eq_of_lt hi]
  -- j behind i
  obtain ⟨d, hd, hSd⟩ : ∃ d, d < n ∧ 0 < S (i + d) := by
    rcases Nat.lt_or_ge i j with h | h
    · refine ⟨j - i, by omega, ?_⟩
      show 0 < s ((i + (j - i)) % n)
      rw [show i + (j - i) = j by omega, Nat.mod_eq_of_lt hj]; exact h2
    · refine ⟨j + n - i, by have : i ≠ j := fun e => by subst e; omega
                            omega, ?_⟩
      show 0 < s ((i + (j + n - i)) % n)
      rw [show i + (j + n - i) = j + n by omega, Nat.add_mod_right, Nat.mod_eq_of_lt hj]; exact h2
  obtain ⟨p, p1, p2, p3⟩ := up_x d (by rw [hSi]; exact h1) hSd
  have hSn : S (i + d + (n - d)) < 0 := by
    show s ((i + d + (n - d)) % n) < 0
    rw [show i + d + (n - d) = i + n by omega, Nat.add_mod_right, Nat.mod_eq_of_lt hi]; exact h1
  obtain ⟨q, q1, q2, q3⟩ := down_x (n - d) hSd hSn
  have mm : ∀ {r : Nat}, (S r * S (r + 1) < 0 → ((r % n, true) : Mk) ∈ mks s n n) ∧ (S r = 0 → ((r % n, false) : Mk) ∈ mks s n n) := fun {r} => by
    have hr := Nat.mod_lt r hn
    refine ⟨fun e => mks_mem.2 ⟨hr, ?_⟩, fun e => mks_mem.2 ⟨hr, ?_⟩⟩
    · show s (r % n) * s ((r % n + 1) % n) < 0
      rw [Nat.mod_add_mod]; exact e
    · show s (r % n) ≤ 0
      have : s (r % n) = 0 := e
      omega
  have hI : ((i, false) : Mk) ∈ mks s n n := mks_mem.2 ⟨hi, Int.le_of_lt h1⟩
  have modne : ∀ {x y : Nat}, x < y → y < x + n → x % n ≠ y % n := fun {x y} h h' e => by
    have h4 : (y - x) % n = 0 := by
      have := Nat.sub_mod_eq_zero_of_mod_eq e.symm
      exact this
    rw [Nat.mod_eq_of_lt (by omega)] at h4
    omega
  have hpq : p % n ≠ q % n := modne (by omega) (by omega)
  have ii : i % n = i := Nat.mod_eq_of_lt hi
  have hp : ∃ b, ((p % n, b) : Mk) ∈ mks s n n ∧ ((p % n, b) : Mk) ≠ (i, false) := by
    rcases p3 with h | ⟨h, h'⟩
    · exact ⟨true, mm.1 h, fun e => by rw [Prod.mk.injEq] at e; exact absurd e.2 (by decide)⟩
    · refine ⟨false, mm.2 h', fun e => ?_⟩
      rw [Prod.mk.injEq] at e
      exact modne h (by omega) (by rw [ii]; exact e.1.symm)
  have hq : ∃ b, ((q % n, b) : Mk) ∈ mks s n n ∧ ((q % n, b) : Mk) ≠ (i, false) := by
    rcases q3 with h | ⟨h, h'⟩
    · exact ⟨true, mm.1 h, fun e => by rw [Prod.mk.injEq] at e; exact absurd e.2 (by decide)⟩
    · refine ⟨false, mm.2 h', fun e => ?_⟩
      rw [Prod.mk.injEq] at e
      exact modne (show i < q by omega) (by omega) (by rw [ii]; exact e.1.symm)
  obtain ⟨b, hb, hb'⟩ := hp
  obtain ⟨c, hc, hc'⟩ := hq
  exact three_le hI hb hc (fun e => hb' e.symm) (fun e => hpq (Prod.mk.inj e).1) (fun e => hc' e.symm)
end Bk


namespace Bk
set_option linter.unusedVariables false
set_option linter.unusedSimpArgs false
open Classical
def inC (P : Nat → P2) (n : Nat) (p : P2) : Prop := ∀ m, m < n → 0 ≤ cr (P m) (P ((m + 1) % n)) p
def afZ (w : Rat × Rat × Rat) (p : P2) : Rat := w.1 + w.2.1 * p.1 + w.2.2 * p.2
def mkS (S : Nat → Int) (M : Mk) : Prop := if M.2 then S M.1 * S (M.1 + 1) < 0 else S M.1 ≤ 0
def nxM (L : List Mk) (n q : Nat) : Mk := if q + 1 < L.length then L.getD (q + 1) (0, false) else ((L.getD 0 (0, false)).1 + n, (L.getD 0 (0, false)).2)
section
variable {s : Nat → Int} {n : Nat}
end
structure Cfg (P : Nat → P2) (n : Nat) (t : Nat → Rat) (s : Nat → Int) (w : Rat × Rat × Rat) : Prop where
  h3 : 3 ≤ n
  tri : triT P n
  per : ∀ m, t (m % n) = t m
  cross : ∀ m, m < n → chg s n m → (0 < t m ∧ t m < 1) ∧ afZ w (lp (t m) (P m) (P ((m + 1) % n))) = 0
  neg : ∀ m, m < n → (s m < 0 ↔ afZ w (P m) < 0)
  zero : ∀ m, m < n → (s m = 0 ↔ afZ w (P m) = 0)
section
variable {P : Nat → P2} {n : Nat} {t : Nat → Rat} {s : Nat → Int} {w : Rat × Rat × Rat}
def cx (u v : P2) : Rat := u.1 * v.2 - v.1 * u.2
def arC (P : Nat → P2) (n : Nat) : Nat → Rat
  | 0 => 0
  | m + 1 => arC P n m + cx (P m) (P ((m + 1) % n))
def arO (P : Nat → P2) (n : Nat) (o : P2) : Nat → Rat
  | 0 => 0
  | m + 1 => arO P n o m + cr o (P m) (P ((m + 1) % n))
noncomputable def om (S : Nat → Int) (t : Nat → Rat) (e : Nat) : Rat :=
  if S e ≤ 0 ∧ S (e + 1) ≤ 0 then 1 else if S e < 0 ∧ 0 < S (e + 1) then t e else if 0 < S e ∧ S (e + 1) < 0 then 1 - t e else 0
noncomputable def usum (S : Nat → Int) (t : Nat → Rat) (k : Nat → Rat) : Nat → Rat
  | 0 => 0
  | e + 1 => usum S t k e + om S t e * k e
noncomputable def uM (S : Nat → Int) (t : Nat → Rat) (k : Nat → Rat) (M : Mk) : Rat := usum S t k M.1 + if M.2 = true ∧ S M.1 < 0 then t M.1 * k M.1 else 0
end
def ngW (w : Rat × Rat × Rat) : Rat × Rat × Rat := (-w.1, -w.2.1, -w.2.2)
section
variable {P : Nat → P2} {n : Nat} {t : Nat → Rat} {s : Nat → Int} {w : Rat × Rat × Rat}
end
end Bk


namespace Bk
set_option linter.unusedVariables false
set_option linter.unusedSimpArgs false
open Classical
noncomputable def pt2 (pl : Pl) (p : Pt) : P2 := pr p (axI pl.1) (axJ pl.1)
abbrev zT : Pt := T3.mk (0 : Rat) (0 : Rat) (0 : Rat)
def convP (pl : Pl) (l : List Pt) : Prop :=
  (3 ≤ l.length ∧ ¬ pl.1 = zT) ∧ (∀ m, m < l.length → sdZ pl (gp l m) = 0) ∧ ∀ m k, m < l.length → 2 ≤ k → k < l.length → 0 < orZ (pt2 pl (gp l m)) (pt2 pl (nx l m)) (pt2 pl (gp l ((m + k) % l.length)))
theorem or_pos {a b c : P2} : 0 < orZ a b c ↔ 0 < cr a b c := sgn_pos
theorem valid_edge {pl : Pl} {l : List Pt} (h : convP pl l) : edgeT (fun m => pt2 pl (gp l m)) l.length := fun i k h1 h2 h3 => or_pos.1 (h.2.2 i k h1 h2 h3)
theorem valid_tri {pl : Pl} {l : List Pt} (h : convP pl l) : triT (fun m => pt2 pl (gp l m)) l.length := tri_of_edge h.1.1 (valid_edge h)
theorem valid_of {pl : Pl} {l : List Pt} (h3 : 3 ≤ l.length) (hn : ¬ pl.1 = zT) (hon : ∀ m, m < l.length → sdZ pl (gp l m) = 0) (ht : triT (fun m => pt2 pl (gp l m)) l.length) : convP pl l :=
  ⟨⟨h3, hn⟩, hon, fun i k h1 h2 h3 => or_pos.2 (edge_of_tri ht i k h1 h2 h3)⟩
theorem at_lerp (t : Rat) (a b : Pt) (i : Nat) : (lerp t a b).at i = a.at i + t * (b.at i - a.at i) := by
  rcases i with _ | _ | i <;> rfl
theorem pt2_lerp (pl : Pl) (t : Rat) (a b : Pt) : pt2 pl (lerp t a b) = lp t (pt2 pl a) (pt2 pl b) := by
  unfold pt2 pr lp
  rw [at_lerp, at_lerp]
theorem hgt_lerp (pl : Pl) (t : Rat) (a b : Pt) : hgt pl (lerp t a b) = (1 - t) * hgt pl a + t * hgt pl b := by
  unfold hgt dotT lerp
  grind
theorem sd_zero {pl : Pl} {p : Pt} : sdZ pl p = 0 ↔ hgt pl p = 0 := sgn_zero
theorem sd_neg {pl : Pl} {p : Pt} : sdZ pl p < 0 ↔ hgt pl p < 0 := sgn_neg
theorem sd_pos {pl : Pl} {p : Pt} : 0 < sdZ pl p ↔ 0 < hgt pl p := sgn_pos
theorem mul_neg_cases {a b : Int} (h : a * b < 0) : (a < 0 ∧ 0 < b) ∨ (0 < a ∧ b < 0) := by
  rcases Int.lt_trichotomy a 0 with h1 | h1 | h1
  · left; refine ⟨h1, Int.not_le.1 fun e => ?_⟩
    have := Int.mul_nonneg_of_nonpos_of_nonpos (Int.le_of_lt h1) e; omega
  · rw [h1, Int.zero_mul] at h; omega
  · right; refine ⟨h1, Int.not_le.1 fun e => ?_⟩
    have := Int.mul_nonneg (Int.le_of_lt h1) e; omega
theorem quo_in {A B : Rat} (h : (A < 0 ∧ 0 < B) ∨ (0 < A ∧ B < 0)) : ¬ A - B = 0 ∧ 0 < A / (A - B) ∧ A / (A - B) < 1 := by
  have hne : ¬ A - B = 0 := by grind
  have e : (A - B) * (A / (A - B)) = A := by rw [Rat.mul_comm, Rat.div_mul_cancel hne]
  generalize A / (A - B) = t at *
  refine ⟨hne, ?_, ?_⟩
  · rcases h with h | h
    · exact pos_div (x := B - A) (by grind) (by grind)
    · exact pos_div (x := A - B) (by grind) (by grind)
  · have : 0 < 1 - t := by
      rcases h with h | h
      · exact pos_div (x := B - A) (by grind) (by grind)
      · exact pos_div (x := A - B) (by grind) (by grind)
    grind
theorem cut_t {pl : Pl} {a b : Pt} (h : sdZ pl a * sdZ pl b < 0) : (0 < cutT pl a b ∧ cutT pl a b < 1) ∧ hgt pl (btw pl a b) = 0 := by
  have h1 : (hgt pl a < 0 ∧ 0 < hgt pl b) ∨ (0 < hgt pl a ∧ hgt pl b < 0) := by
    rcases mul_neg_cases h with ⟨a1, a2⟩ | ⟨a1, a2⟩
    · exact .inl ⟨sd_neg.1 a1, sd_pos.1 a2⟩
    · exact .inr ⟨sd_pos.1 a1, sd_neg.1 a2⟩
  obtain ⟨hne, h2, h3⟩ := quo_in h1
  have e : cutT pl a b = hgt pl a / (hgt pl a - hgt pl b) := if_neg hne
  unfold btw
  rw [hgt_lerp, e]
  refine ⟨⟨h2, h3⟩, ?_⟩
  have e2 : hgt pl a / (hgt pl a - hgt pl b) * (hgt pl a - hgt pl b) = hgt pl a := Rat.div_mul_cancel hne
  generalize hgt pl a / (hgt pl a - hgt pl b) = t at *
  grind
noncomputable def mk3 (c : Pl) (l : List Pt) (M : Mk) : Pt := if M.2 then btw c (gp l M.1) (nx l M.1) else gp l M.1
noncomputable def sgB (c : Pl) (l : List Pt) (m : Nat) : Int := sdZ c (gp l m)
noncomputable def sgF (c : Pl) (l : List Pt) (m : Nat) : Int := -sdZ c (gp l m)
theorem chgB {c : Pl} {l : List Pt} {m : Nat} : chg (sgB c l) l.length m ↔ xP c l m := Iff.rfl
theorem bk_mks (c : Pl) (l : List Pt) : ∀ m, bkTo c l m = (mks (sgB c l) l.length m).map (mk3 c l)
  | 0 => rfl
  | m + 1 => by
    show _ ++ _ ++ _ = (_ ++ _ ++ _ : List Mk).map _
    rw [List.map_append, List.map_append, bk_mks c l m]
    congr 1
    · congr 1
      show (if sgB c l m ≤ 0 then _ else _) = _
      split <;> rfl
    · by_cases h : xP c l m
      · rw [if_pos h, if_pos (chgB.2 h)]; rfl
      · rw [if_neg h, if_neg (fun e => h (chgB.1 e))]; rfl
theorem gp_map3 {c : Pl} {l : List Pt} {L : List Mk} {q : Nat} (h : q < L.length) : gp (L.map (mk3 c l)) q = mk3 c l (L.getD q (0, false)) := by
  unfold gp
  rw [List.getD_eq_getElem?_getD, List.getD_eq_getElem?_getD, List.getElem?_map, List.getElem?_eq_getElem h]
  rfl
noncomputable def tC (c : Pl) (l : List Pt) (m : Nat) : Rat := cutT c (gp l (m % l.length)) (nx l (m % l.length))
theorem tC_lt {c : Pl} {l : List Pt} {m : Nat} (h : m < l.length) : tC c l m = cutT c (gp l m) (nx l m) := by unfold tC; rw [Nat.mod_eq_of_lt h]
theorem mk3_pt2 {pl c : Pl} {l : List Pt} {M : Mk} (h : M.1 < l.length) : pt2 pl (mk3 c l M) = mkP (fun m => pt2 pl (gp l m)) l.length (tC c l) M := by
  obtain ⟨i, b⟩ := M
  have hi : i < l.length := h
  unfold mk3 mkP
  have e1 : ex (fun m => pt2 pl (gp l m)) l.length i = pt2 pl (gp l i) := by unfold ex; rw [Nat.mod_eq_of_lt hi]
  have e2 : ex (fun m => pt2 pl (gp l m)) l.length (i + 1) = pt2 pl (nx l i) := rfl
  simp only [e1, e2, tC_lt hi]
  split
  · exact pt2_lerp _ _ _ _
  · rfl
theorem part_valid {pl c : Pl} {l : List Pt} {s : Nat → Int} (h : convP pl l) (hs : ∀ m, chg s l.length m ↔ xP c l m) {i j : Nat} (hi : i < l.length) (hj : j < l.length) (h1 : s i < 0) (h2 : 0 < s j) : convP pl ((mks s l.length l.length).map (mk3 c l)) := by
  have hl := mks_len hi hj h1 h2
  have hlen : ((mks s l.length l.length).map (mk3 c l)).length = (mks s l.length l.length).length := List.length_map ..
  have mem : ∀ q, q < (mks s l.length l.length).length → (mks s l.length l.length).getD q (0, false) ∈ mks s l.length l.length := fun q hq => by
    rw [List.getD_eq_getElem?_getD, List.getElem?_eq_getElem hq]; exact List.getElem_mem hq
  refine valid_of (by rw [hlen]; exact hl) h.1.2 (fun m hm => ?_) ?_
  · rw [hlen] at hm
    rw [gp_map3 hm]
    have hM := mks_mem.1 (mem m hm)
    generalize (mks s l.length l.length).getD m (0, false) = M at *
    obtain ⟨q, b⟩ := M
    have hq : q < l.length := hM.1
    unfold mk3
    cases b with
    | false => exact h.2.1 q hq
    | true =>
      show sdZ pl (btw c (gp l q) (nx l q)) = 0
      unfold btw
      rw [sd_zero, hgt_lerp, sd_zero.1 (h.2.1 q hq), sd_zero.1 (h.2.1 _ (Nat.mod_lt _ (by omega)))]
      grind
  · rw [hlen]
    have ht := mks_tri (t := tC c l) (s := s) h.1.1 (valid_tri h) (fun m hm hc => by rw [tC_lt hm]; exact (cut_t ((hs m).1 hc)).1)
    intro a b d hab hbd hd
    have := ht a b d hab hbd hd
    show 0 < cr (pt2 pl (gp _ a)) (pt2 pl (gp _ b)) (pt2 pl (gp _ d))
    rw [gp_map3 (by omega), gp_map3 (by omega), gp_map3 hd, mk3_pt2 (mks_mem.1 (mem a (by omega))).1, mk3_pt2 (mks_mem.1 (mem b (by omega))).1, mk3_pt2 (mks_mem.1 (mem d hd)).1]
    exact this
theorem cutB_valid {pl : Pl} {l : List Pt} (c : Pl) (h : convP pl l) : convP pl (cutB c l) ∨ cutB c l = [] := by
  by_cases ha : aheTo c l l.length
  · by_cases hb : behTo c l l.length
    · obtain ⟨i, hi, h1⟩ := (beh_iff _).1 hb
      obtain ⟨j, hj, h2⟩ := (ahe_iff _).1 ha
      rw [(cut_both ha hb).1, bk_mks]
      exact .inl (part_valid h (fun m => chgB) hi hj h1 h2)
    · exact .inr (cutF_all ha hb).1
  · rw [(cutB_all ha).1]; exact .inl h
def detT (a b c : Pt) : Rat := dotT a (crossT b c)
end Bk


namespace Bk
set_option linter.unusedVariables false
set_option linter.unusedSimpArgs false
open Go Go.RowKit
open Classical
theorem s_one3 {α : Type} {ρ : Rp α} {h : Mem} {v : Value} {xs : List α} (s : (rpS ρ).Is h v xs) : ∃ a m cap, v = .slice a m cap := by
  obtain ⟨a, cap, e⟩ := s_one s
  exact ⟨a, _, cap, e⟩
theorem nil_of {α : Type} {ρ : Rp α} {h : Mem} {v : Value} {xs : List α} (s : (rpS ρ).Is h v xs) (hk : 0 < ρ.n) (hn : ∃ m cap, v = .slice none m cap) : xs = [] := by
  obtain ⟨ds, ⟨a, cap, e, h1, h2, h3, h4⟩, r⟩ := of_s s
  obtain ⟨m, cap', e'⟩ := hn
  rw [e] at e'
  injection e' with e1 e2 e3
  refine List.eq_nil_of_length_eq_zero ?_
  rcases Nat.eq_zero_or_pos ds.length with h0 | h0
  · rw [h0] at h3
    rcases Nat.mul_eq_zero.1 h3.symm with h5 | h5
    · exact h5
    · omega
  · obtain ⟨b, o, hb, _⟩ := h4 0 h0
    rw [e1] at hb
    exact absurd hb (by simp)
theorem t3_lq {k : Nat} {h : Mem} {v : Value} {p : T3 Rat} (s : (rpT (rpQ k)).Is h v p) : lq p.x ≤ k ∧ lq p.y ≤ k ∧ lq p.z ≤ k := by
  obtain ⟨cs, ⟨a, b, _, ra, c, d, _, rc, rd⟩, _⟩ := s
  exact ⟨ra.2, rc.2, rd.2⟩
theorem t3_tight {K k : Nat} {h : Mem} {v : Value} {p : T3 Rat} (s : (rpT (rpQ K)).Is h v p) (h1 : lq p.x ≤ k) (h2 : lq p.y ≤ k) (h3 : lq p.z ≤ k) : (rpT (rpQ k)).Is h v p := by
  obtain ⟨cs, ⟨a, b, e, ra, c, d, e', rc, rd⟩, ev⟩ := s
  exact ⟨cs, ⟨a, b, e, ⟨ra.1, h1⟩, c, d, e', ⟨rc.1, h2⟩, ⟨rd.1, h3⟩⟩, ev⟩
theorem list_same {α : Type} {d : α} {a b : List α} (hl : a.length = b.length) (h : ∀ u, u < b.length → a.getD u d = b.getD u d) : a = b := by
  refine List.ext_getElem hl fun q h1 h2 => ?_
  have := h q h2
  rw [List.getD_eq_getElem?_getD, List.getD_eq_getElem?_getD, List.getElem?_eq_getElem h1, List.getElem?_eq_getElem h2] at this
  exact this
theorem side_sm {a b : Rat} (h : ¬ (¬ smB a ∨ ¬ smB b)) : (smB a ∧ smB b) ∧ (-72057594037927936 ≤ smZ a * smZ b ∧ smZ a * smZ b ≤ 72057594037927936) := by
  have h1 : smB a ∧ smB b := by
    constructor
    · exact Classical.not_not.1 fun e => h (.inl e)
    · exact Classical.not_not.1 fun e => h (.inr e)
  have e1 := (sm_eq h1.1).2
  have e2 := (sm_eq h1.2).2
  refine ⟨h1, ?_⟩
  have key : ∀ {x y : Int}, 0 ≤ x → x < 268435456 → 0 ≤ y → y < 268435456 → 0 ≤ x * y ∧ x * y ≤ 72057594037927936 := by
    intro x y hx hx' hy hy'
    have k1 := Int.mul_nonneg hx hy
    have k2 : x * y ≤ 268435456 * 268435456 := Int.mul_le_mul (by omega) (by omega) hy (by omega)
    omega
  generalize smZ a = u at *
  generalize smZ b = v at *
  rcases Int.le_total 0 u with hu | hu <;> rcases Int.le_total 0 v with hv | hv
  · have := key hu (by omega) hv (by omega); omega
  · have := key hu (by omega) (y := -v) (by omega) (by omega)
    rw [Int.mul_neg] at this; omega
  · have := key (x := -u) (by omega) (by omega) hv (by omega)
    rw [Int.neg_mul] at this; omega
  · have := key (x := -u) (y := -v) (by omega) (by omega) (by omega) (by omega)
    rw [Int.neg_mul_neg] at this; omega
theorem side_sum {s : Pl} {p : Pt} (hx : smB s.1.x ∧ smB p.x) (hy : smB s.1.y ∧ smB p.y) (hz : smB s.1.z ∧ smB p.z) (hd : smB s.2) : sgnZ ((0 : Int) + smZ s.1.x * smZ p.x + smZ s.1.y * smZ p.y + smZ s.1.z * smZ p.z - smZ s.2) = sdZ s p := by
  rw [← sgn_cast]
  unfold sdZ hgt dotT
  congr 1
  rw [Rat.intCast_sub, Rat.intCast_add, Rat.intCast_add, Rat.intCast_add, Rat.intCast_mul, Rat.intCast_mul, Rat.intCast_mul]
  rw [← (sm_eq hx.1).1, ← (sm_eq hx.2).1, ← (sm_eq hy.1).1, ← (sm_eq hy.2).1, ← (sm_eq hz.1).1, ← (sm_eq hz.2).1, ← (sm_eq hd).1]
  have e : ((0 : Int) : Rat) = 0 := rfl
  rw [e]
  grind
theorem side_cmp (s : Pl) (p : Pt) : cmpQ (dotT s.1 p) s.2 = sdZ s p := cmpQ_sub _ _
theorem mem_getD {L : List (List Pt)} {n m : Nat} (hm : m < L.length) (h : ∀ x, x ∈ L → x.length ≤ n) : (L.getD m []).length ≤ n := by
  rw [List.getD_eq_getElem?_getD, List.getElem?_eq_getElem hm]
  exact h _ (List.getElem_mem hm)
theorem mx_next {a s : Int} {p : Prop} (h : 0 < a ↔ p) (h0 : 0 ≤ a) : (0 < max a s ↔ (p ∨ 0 < s)) ∧ 0 ≤ max a s := by rw [← h]; omega
theorem mn_next {a s : Int} {p : Prop} (h : a < 0 ↔ p) (h0 : a ≤ 0) : (min a s < 0 ↔ (p ∨ s < 0)) ∧ min a s ≤ 0 := by rw [← h]; omega
theorem cut_nb {pl : Pl} {l : List Pt} (ha : aheTo pl l l.length) (hb : ¬ behTo pl l l.length) : cutB pl l = [] ∧ cutF pl l = frTo pl l l.length := by
  unfold cutB cutF
  rw [if_neg (fun e => e.elim hb fun e => e ha), if_pos ha]
  exact ⟨rfl, rfl⟩
theorem cut_na {pl : Pl} {l : List Pt} (ha : ¬ aheTo pl l l.length) : cutB pl l = bkTo pl l l.length ∧ cutF pl l = [] := by
  unfold cutB cutF
  rw [if_pos (.inr ha), if_neg ha]
  exact ⟨rfl, rfl⟩
end Bk


namespace Go.Proofs.YtghhjjmjpeehdaaGreat
open Bk Go
set_option linter.unusedVariables false
set_option linter.unusedSimpArgs false
set_option maxRecDepth 10000

theorem o_s4_add {w0 : World} {h0 : Mem} (hs : MLe h0 (mem w0)) {k l : Nat} {va : Value} {a : (T3 Rat)} (ra : (rpT (rpQ k)).Is h0 va a) {vb : Value} {b : (T3 Rat)} (rb : (rpT (rpQ l)).Is h0 vb b) (hcd0 : k + l ≤ 1000000000) : Calls Tryz.prog 19 #[va, vb] w0 (Ret w0 h0 (fun h r => (rpT (rpQ (k + l + 1))).Is h r (T3.mk (a.x + b.x) (a.y + b.y) (a.z + b.z)))) := by
  obtain ⟨a1, a2, a3⟩ := t3_lq ra
  obtain ⟨b1, b2, b3⟩ := t3_lq rb
  exact (o_r4_add hs ra rb hcd0).mono (ret_imp fun h r x => t3_tight x (by have := lq_add a.x b.x; show lq (a.x + b.x) ≤ _; omega) (by have := lq_add a.y b.y; show lq (a.y + b.y) ≤ _; omega) (by have := lq_add a.z b.z; show lq (a.z + b.z) ≤ _; omega))

theorem o_s4_sub {w0 : World} {h0 : Mem} (hs : MLe h0 (mem w0)) {k l : Nat} {va : Value} {a : (T3 Rat)} (ra : (rpT (rpQ k)).Is h0 va a) {vb : Value} {b : (T3 Rat)} (rb : (rpT (rpQ l)).Is h0 vb b) (hcd0 : k + l ≤ 1000000000) : Calls Tryz.prog 23 #[va, vb] w0 (Ret w0 h0 (fun h r => (rpT (rpQ (k + l + 1))).Is h r (T3.mk (a.x - b.x) (a.y - b.y) (a.z - b.z)))) := by
  obtain ⟨a1, a2, a3⟩ := t3_lq ra
  obtain ⟨b1, b2, b3⟩ := t3_lq rb
  exact (o_r4_sub hs ra rb hcd0).mono (ret_imp fun h r x => t3_tight x (by have := lq_sub a.x b.x; show lq (a.x - b.x) ≤ _; omega) (by have := lq_sub a.y b.y; show lq (a.y - b.y) ≤ _; omega) (by have := lq_sub a.z b.z; show lq (a.z - b.z) ≤ _; omega))

theorem o_s4_scale {w0 : World} {h0 : Mem} (hs : MLe h0 (mem w0)) {l k : Nat} {vq : Value} {q : Rat} (rq : (rpQ l).Is h0 vq q) {va : Value} {a : (T3 Rat)} (ra : (rpT (rpQ k)).Is h0 va a) (hcd0 : k + l ≤ 1000000000) : Calls Tryz.prog 20 #[vq, va] w0 (Ret w0 h0 (fun h r => (rpT (rpQ (k + l))).Is h r (T3.mk (q * a.x) (q * a.y) (q * a.z)))) := by
  obtain ⟨a1, a2, a3⟩ := t3_lq ra
  have hq := (of_q rq).2
  exact (o_r4_scale hs rq ra hcd0).mono (ret_imp fun h r x => t3_tight x (by have := lq_mul q a.x; show lq (q * a.x) ≤ _; omega) (by have := lq_mul q a.y; show lq (q * a.y) ≤ _; omega) (by have := lq_mul q a.z; show lq (q * a.z) ≤ _; omega))

theorem o_each_add {w0 : World} {h0 : Mem}  (hs : MLe h0 (mem w0)) {k l : Nat} {va : Value} {a : (T3 Rat)} (ra : (rpT (rpQ k)).Is h0 va a) {vb : Value} {b : (T3 Rat)} (rb : (rpT (rpQ l)).Is h0 vb b) (hcd0 : k + l ≤ 10000000000)  :
    Calls Tryz.prog 115 #[va, vb, vF 71 []] w0 (Ret w0 h0 (fun h r => (rpT (rpQ (k + l + 1 + 1))).Is h r (T3.mk (a.x + b.x) (a.y + b.y) (a.z + b.z)))) := by
 refine zP (n := 24) (e := [(0, va), (1, vb), (2, vF 71 [])]) (vs := [va, vb, vF 71 []]) Tryz.func115 rfl rfl (Nat.le_of_ble_eq_true rfl) hs ⟨rfl, rfl, rfl, trivial⟩ (zC (zA (zL (xL (ρ := (rpT (rpQ k))) rfl ra) rfl rfl rfl ?_)))
 intro v3 q3 hq3
 obtain ⟨b3, cs3, rfl, rfl, rb3⟩ := hq3
 refine zL (xL (ρ := (rpT (rpQ l))) rfl rb) rfl rfl rfl ?_
 intro v4 q4 hq4
 obtain ⟨b4, cs4, rfl, rfl, rb4⟩ := hq4
 refine zL (xE (ρ := (rpT (rpQ (k + l + 1 + 1)))) (X := (T3.mk (0 : Rat) (0 : Rat) (0 : Rat))) yC rfl rfl (zr_t (zr_q (by omega)))) rfl rfl rfl ?_
 intro v6 q6 hq6
 obtain ⟨b6, cs6, rfl, rfl, rb6⟩ := hq6
 refine zD (zB (zC (zA (zL (xE (ρ := (rpT (rpQ (k + l + 1 + 1)))) (X := (T3.mk (0 : Rat) (0 : Rat) (0 : Rat))) yC rfl rfl (zr_t (zr_q (by omega)))) rfl rfl rfl ?_))))
 intro v7 q7 hq7
 obtain ⟨b7, cs7, rfl, rfl, rb7⟩ := hq7
 refine zD (zB (zC (zC (zA (mv (v := vI (0)) rfl rfl (zD (zB (zR (gc_loop1 (zC (zA (gv (OpV.tr (by decide) (zW (q := 3) rfl rfl)) rfl (zD ?_)))))))))))))
 refine zB (zC (xX rfl (zK (zB (zC (zR (zC (zA (mv rfl rfl (asg rfl rfl (zD (zB ?_))))))))))))
 refine yK 10 _ [] [(0, .q), (1, .q), (2, .q), (3, .q), (4, .q), (5, .q), (6, .q), (7, .q), (8, .c), (9, .q), (10, .t)] xN (fun x hx => by cases hx) (by kernel_rfl) (fun x hx => by cases hx) (fun r hr => hr) (w_q rfl (fun h' L' hh hR => zG rfl) rfl (w_q rfl (fun h' L' hh hR => zG rfl) rfl (w_q rfl (fun h' L' hh hR => zG rfl) rfl (w_q rfl (fun h' L' hh hR => (zI (sz := 3) 0 Tryz.underlying32 Tryz.sizeOf30 rfl rfl rfl (by decide)).cv (show _ = vP b3 0 from congrArg (vP b3) (by rfl))) rfl (w_qx (F := fun v_ => (rpQ k).Is h0 v_ a.x) rfl (zE ty30 (Pc.tx (Pc.here _)) rfl rfl rb3 rfl) (mem1 (.tail _ (.tail _ (.tail _ (.head _))))) rfl ?_)))))
 intro v16u1 r16u1
 refine w_q rfl (fun h' L' hh hR => zG rfl) rfl (w_q rfl (fun h' L' hh hR => (zI (sz := 3) 0 Tryz.underlying32 Tryz.sizeOf30 rfl rfl rfl (by decide)).cv (show _ = vP b4 0 from congrArg (vP b4) (by rfl))) rfl (w_qx (F := fun v_ => (rpQ l).Is h0 v_ b.x) rfl (zE ty30 (Pc.tx (Pc.here _)) rfl rfl rb4 rfl) (mem1 (.tail _ (.tail _ (.head _)))) rfl ?_))
 intro v19u1 r19u1
 refine w_c rfl (s_enter (enters_v (vs := [_, _]) Tryz.call71 rfl ⟨rfl, rfl, trivial⟩) rfl (fun w hs => o_rat_add hs r16u1 r19u1 (by omega)) ?_)
 intro v20u1 h1 hh1 r20u1
 change (rpQ (k + l + 1)).Is h1 v20u1 (a.x + b.x) at r20u1
 refine w_q rfl (fun h' L' hh hR => (zI (sz := 3) 0 Tryz.underlying32 Tryz.sizeOf30 rfl rfl rfl (by decide)).cv (show _ = vP b7 0 from congrArg (vP b7) (by rfl))) rfl ?_
 replace rb7 := rb7.mono hh1
 refine wB (A := []) (F := fun c_ => (rpT (rpQ (k + l + 1 + 1))).R h1 c_ (T3.mk (a.x + b.x) (0 : Rat) (0 : Rat))) rfl (yJ Tryz.sizeOf30 (Pc.tx (Pc.here _)) rfl rfl rfl rb7 (r20u1.le (Le.q (l := k + l + 1 + 1) (by omega))) rfl) ?_
 intro cs_1 rb_2
 refine yZ (yV (zJ (e' := [(2, _), (3, _), (4, _), (6, _), (7, _), (9, _)]) ⟨rfl, rfl, rfl, rfl, rfl, rfl, trivial⟩ (zB (zA (gv ((zS (q := 1) rfl rfl (by omega) (by omega)).cv (show _ = vI (1) from rfl)) rfl (mv rfl rfl (zD (xY (zC (zA (gv (OpV.tr (by decide) (zW (q := 3) rfl rfl)) rfl (zD (zB ?_)))))))))))))
 refine zC (xX rfl (zK (zB (zC (zR (zC (zA (mv rfl rfl (asg rfl rfl (zD (zB ?_)))))))))))
 refine yK 10 _ [] [(0, .q), (1, .q), (2, .q), (3, .q), (4, .q), (5, .q), (6, .q), (7, .q), (8, .c), (9, .q), (10, .t)] xN (fun x hx => by cases hx) (by kernel_rfl) (fun x hx => by cases hx) (fun r hr => hr) (w_q rfl (fun h' L' hh hR => zG rfl) rfl (w_q rfl (fun h' L' hh hR => zG rfl) rfl (w_q rfl (fun h' L' hh hR => zG rfl) rfl (w_q rfl (fun h' L' hh hR => (zI (sz := 3) 1 Tryz.underlying32 Tryz.sizeOf30 rfl rfl rfl (by decide)).cv (show _ = vP b3 3 from congrArg (vP b3) (by rfl))) rfl ?_))))
 replace rb3 := rb3.mono hh1
 refine w_qx (F := fun v_ => (rpQ k).Is h1 v_ a.y) rfl (zE ty30 (Pc.ty (Pc.here _)) rfl rfl rb3 rfl) (mem1 (.tail _ (.tail _ (.tail _ (.head _))))) rfl ?_
 intro v16u2 r16u2
 refine w_q rfl (fun h' L' hh hR => zG rfl) rfl (w_q rfl (fun h' L' hh hR => (zI (sz := 3) 1 Tryz.underlying32 Tryz.sizeOf30 rfl rfl rfl (by decide)).cv (show _ = vP b4 3 from congrArg (vP b4) (by rfl))) rfl ?_)
 replace rb4 := rb4.mono hh1
 refine w_qx (F := fun v_ => (rpQ l).Is h1 v_ b.y) rfl (zE ty30 (Pc.ty (Pc.here _)) rfl rfl rb4 rfl) (mem1 (.tail _ (.tail _ (.head _)))) rfl ?_
 intro v19u2 r19u2
 refine w_c rfl (s_enter (enters_v (vs := [_, _]) Tryz.call71 rfl ⟨rfl, rfl, trivial⟩) rfl (fun w hs => o_rat_add hs r16u2 r19u2 (by omega)) ?_)
 intro v20u2 h2 hh2 r20u2
 change (rpQ (k + l + 1)).Is h2 v20u2 (a.y + b.y) at r20u2
 refine w_q rfl (fun h' L' hh hR => (zI (sz := 3) 1 Tryz.underlying32 Tryz.sizeOf30 rfl rfl rfl (by decide)).cv (show _ = vP b7 3 from congrArg (vP b7) (by rfl))) rfl ?_
 replace rb_2 := rb_2.mono hh2
 refine wB (A := []) (F := fun c_ => (rpT (rpQ (k + l + 1 + 1))).R h2 c_ (T3.mk (a.x + b.x) (a.y + b.y) (0 : Rat))) rfl (yJ Tryz.sizeOf30 (Pc.ty (Pc.here _)) rfl rfl rfl rb_2 (r20u2.le (Le.q (l := k + l + 1 + 1) (by omega))) rfl) ?_
 intro cs_3 rb_4
 refine yZ (yV (zJ (e' := [(2, _), (3, _), (4, _), (6, _), (7, _), (9, _)]) ⟨rfl, rfl, rfl, rfl, rfl, rfl, trivial⟩ (zB (zA (gv ((zS (q := 1) rfl rfl (by omega) (by omega)).cv (show _ = vI (2) from rfl)) rfl (mv rfl rfl (zD (xY (zC (zA (gv (OpV.tr (by decide) (zW (q := 3) rfl rfl)) rfl (zD (zB ?_)))))))))))))
 refine zC (xX rfl (zK (zB (zC (zR (zC (zA (mv rfl rfl (asg rfl rfl (zD (zB ?_)))))))))))
 refine yK 10 _ [] [(0, .q), (1, .q), (2, .q), (3, .q), (4, .q), (5, .q), (6, .q), (7, .q), (8, .c), (9, .q), (10, .t)] xN (fun x hx => by cases hx) (by kernel_rfl) (fun x hx => by cases hx) (fun r hr => hr) (w_q rfl (fun h' L' hh hR => zG rfl) rfl (w_q rfl (fun h' L' hh hR => zG rfl) rfl (w_q rfl (fun h' L' hh hR => zG rfl) rfl (w_q rfl (fun h' L' hh hR => (zI (sz := 3) 2 Tryz.underlying32 Tryz.sizeOf30 rfl rfl rfl (by decide)).cv (show _ = vP b3 6 from congrArg (vP b3) (by rfl))) rfl ?_))))
 replace rb3 := rb3.mono hh2
 refine w_qx (F := fun v_ => (rpQ k).Is h2 v_ a.z) rfl (zE ty30 (Pc.tz (Pc.here _)) rfl rfl rb3 rfl) (mem1 (.tail _ (.tail _ (.tail _ (.head _))))) rfl ?_
 intro v16u3 r16u3
 refine w_q rfl (fun h' L' hh hR => zG rfl) rfl (w_q rfl (fun h' L' hh hR => (zI (sz := 3) 2 Tryz.underlying32 Tryz.sizeOf30 rfl rfl rfl (by decide)).cv (show _ = vP b4 6 from congrArg (vP b4) (by rfl))) rfl ?_)
 replace rb4 := rb4.mono hh2
 refine w_qx (F := fun v_ => (rpQ l).Is h2 v_ b.z) rfl (zE ty30 (Pc.tz (Pc.here _)) rfl rfl rb4 rfl) (mem1 (.tail _ (.tail _ (.head _)))) rfl ?_
 intro v19u3 r19u3
 refine w_c rfl (s_enter (enters_v (vs := [_, _]) Tryz.call71 rfl ⟨rfl, rfl, trivial⟩) rfl (fun w hs => o_rat_add hs r16u3 r19u3 (by omega)) ?_)
 intro v20u3 h3 hh3 r20u3
 change (rpQ (k + l + 1)).Is h3 v20u3 (a.z + b.z) at r20u3
 refine w_q rfl (fun h' L' hh hR => (zI (sz := 3) 2 Tryz.underlying32 Tryz.sizeOf30 rfl rfl rfl (by decide)).cv (show _ = vP b7 6 from congrArg (vP b7) (by rfl))) rfl ?_
 replace rb_4 := rb_4.mono hh3
 refine wB (A := []) (F := fun c_ => (rpT (rpQ (k + l + 1 + 1))).R h3 c_ (T3.mk (a.x + b.x) (a.y + b.y) (a.z + b.z))) rfl (yJ Tryz.sizeOf30 (Pc.tz (Pc.here _)) rfl rfl rfl rb_4 (r20u3.le (Le.q (l := k + l + 1 + 1) (by omega))) rfl) ?_
 intro cs_5 rb_6
 refine yZ (yV (zJ (e' := [(2, _), (3, _), (4, _), (6, _), (7, _), (9, _)]) ⟨rfl, rfl, rfl, rfl, rfl, rfl, trivial⟩ (zB (zA (gv ((zS (q := 1) rfl rfl (by omega) (by omega)).cv (show _ = vI (3) from rfl)) rfl (mv rfl rfl (zD (xY (zC (zA (gv (OpV.fa (by decide) (zW (q := 3) rfl rfl)) rfl (zD (zB ?_)))))))))))))
 refine zC (vW rfl (xG (yB (yB (xF (zB (zC (zA (gl_x (F := fun v_ => (rpT (rpQ (k + l + 1 + 1))).Is h3 v_ (T3.mk (a.x + b.x) (a.y + b.y) (a.z + b.z))) (zE ty32 (Pc.here _) rfl rfl rb_6 rfl) (mem1 (.head _)) rfl ?_)))))))))
 intro v23u4 r23u4
 replace rb6 := rb6.mono ((hh1.trans hh2).trans hh3)
 refine wE (A := [_]) (F := fun c_ => (rpT (rpQ (k + l + 1 + 1))).R h3 c_ (T3.mk (a.x + b.x) (a.y + b.y) (a.z + b.z))) (yJ Tryz.sizeOf32 (Pc.here _) rfl rfl rfl rb6 r23u4 rfl) ?_
 intro cs_7 rb_8
 refine zD (zB (zQ (gq_exv (rv_o (t := 6) ty32 (.tail _ (.head _)) rfl rb_8) ?_)))
 intro w_9 hvw_9 rr_10
 refine xS (fun E S => yR rfl hvw_9 E S) ?_
 exact rr_10

theorem o_each_sub {w0 : World} {h0 : Mem}  (hs : MLe h0 (mem w0)) {k l : Nat} {va : Value} {a : (T3 Rat)} (ra : (rpT (rpQ k)).Is h0 va a) {vb : Value} {b : (T3 Rat)} (rb : (rpT (rpQ l)).Is h0 vb b) (hcd0 : k + l ≤ 10000000000)  :
    Calls Tryz.prog 115 #[va, vb, vF 70 []] w0 (Ret w0 h0 (fun h r => (rpT (rpQ (k + l + 1 + 1))).Is h r (T3.mk (a.x - b.x) (a.y - b.y) (a.z - b.z)))) := by
 refine zP (n := 24) (e := [(0, va), (1, vb), (2, vF 70 [])]) (vs := [va, vb, vF 70 []]) Tryz.func115 rfl rfl (Nat.le_of_ble_eq_true rfl) hs ⟨rfl, rfl, rfl, trivial⟩ (zC (zA (zL (xL (ρ := (rpT (rpQ k))) rfl ra) rfl rfl rfl ?_)))
 intro v3 q3 hq3
 obtain ⟨b3, cs3, rfl, rfl, rb3⟩ := hq3
 refine zL (xL (ρ := (rpT (rpQ l))) rfl rb) rfl rfl rfl ?_
 intro v4 q4 hq4
 obtain ⟨b4, cs4, rfl, rfl, rb4⟩ := hq4
 refine zL (xE (ρ := (rpT (rpQ (k + l + 1 + 1)))) (X := (T3.mk (0 : Rat) (0 : Rat) (0 : Rat))) yC rfl rfl (zr_t (zr_q (by omega)))) rfl rfl rfl ?_
 intro v6 q6 hq6
 obtain ⟨b6, cs6, rfl, rfl, rb6⟩ := hq6
 refine zD (zB (zC (zA (zL (xE (ρ := (rpT (rpQ (k + l + 1 + 1)))) (X := (T3.mk (0 : Rat) (0 : Rat) (0 : Rat))) yC rfl rfl (zr_t (zr_q (by omega)))) rfl rfl rfl ?_))))
 intro v7 q7 hq7
 obtain ⟨b7, cs7, rfl, rfl, rb7⟩ := hq7
 refine zD (zB (zC (zC (zA (mv (v := vI (0)) rfl rfl (zD (zB (zR (gc_loop1 (zC (zA (gv (OpV.tr (by decide) (zW (q := 3) rfl rfl)) rfl (zD ?_)))))))))))))
 refine zB (zC (xX rfl (zK (zB (zC (zR (zC (zA (mv rfl rfl (asg rfl rfl (zD (zB ?_))))))))))))
 refine yK 10 _ [] [(0, .q), (1, .q), (2, .q), (3, .q), (4, .q), (5, .q), (6, .q), (7, .q), (8, .c), (9, .q), (10, .t)] xN (fun x hx => by cases hx) (by kernel_rfl) (fun x hx => by cases hx) (fun r hr => hr) (w_q rfl (fun h' L' hh hR => zG rfl) rfl (w_q rfl (fun h' L' hh hR => zG rfl) rfl (w_q rfl (fun h' L' hh hR => zG rfl) rfl (w_q rfl (fun h' L' hh hR => (zI (sz := 3) 0 Tryz.underlying32 Tryz.sizeOf30 rfl rfl rfl (by decide)).cv (show _ = vP b3 0 from congrArg (vP b3) (by rfl))) rfl (w_qx (F := fun v_ => (rpQ k).Is h0 v_ a.x) rfl (zE ty30 (Pc.tx (Pc.here _)) rfl rfl rb3 rfl) (mem1 (.tail _ (.tail _ (.tail _ (.head _))))) rfl ?_)))))
 intro v16u5 r16u5
 refine w_q rfl (fun h' L' hh hR => zG rfl) rfl (w_q rfl (fun h' L' hh hR => (zI (sz := 3) 0 Tryz.underlying32 Tryz.sizeOf30 rfl rfl rfl (by decide)).cv (show _ = vP b4 0 from congrArg (vP b4) (by rfl))) rfl (w_qx (F := fun v_ => (rpQ l).Is h0 v_ b.x) rfl (zE ty30 (Pc.tx (Pc.here _)) rfl rfl rb4 rfl) (mem1 (.tail _ (.tail _ (.head _)))) rfl ?_))
 intro v19u5 r19u5
 refine w_c rfl (s_enter (enters_v (vs := [_, _]) Tryz.call70 rfl ⟨rfl, rfl, trivial⟩) rfl (fun w hs => o_rat_sub hs r16u5 r19u5 (by omega)) ?_)
 intro v20u5 h1 hh1 r20u5
 change (rpQ (k + l + 1)).Is h1 v20u5 (a.x - b.x) at r20u5
 refine w_q rfl (fun h' L' hh hR => (zI (sz := 3) 0 Tryz.underlying32 Tryz.sizeOf30 rfl rfl rfl (by decide)).cv (show _ = vP b7 0 from congrArg (vP b7) (by rfl))) rfl ?_
 replace rb7 := rb7.mono hh1
 refine wB (A := []) (F := fun c_ => (rpT (rpQ (k + l + 1 + 1))).R h1 c_ (T3.mk (a.x - b.x) (0 : Rat) (0 : Rat))) rfl (yJ Tryz.sizeOf30 (Pc.tx (Pc.here _)) rfl rfl rfl rb7 (r20u5.le (Le.q (l := k + l + 1 + 1) (by omega))) rfl) ?_
 intro cs_11 rb_12
 refine yZ (yV (zJ (e' := [(2, _), (3, _), (4, _), (6, _), (7, _), (9, _)]) ⟨rfl, rfl, rfl, rfl, rfl, rfl, trivial⟩ (zB (zA (gv ((zS (q := 1) rfl rfl (by omega) (by omega)).cv (show _ = vI (1) from rfl)) rfl (mv rfl rfl (zD (xY (zC (zA (gv (OpV.tr (by decide) (zW (q := 3) rfl rfl)) rfl (zD (zB ?_)))))))))))))
 refine zC (xX rfl (zK (zB (zC (zR (zC (zA (mv rfl rfl (asg rfl rfl (zD (zB ?_)))))))))))
 refine yK 10 _ [] [(0, .q), (1, .q), (2, .q), (3, .q), (4, .q), (5, .q), (6, .q), (7, .q), (8, .c), (9, .q), (10, .t)] xN (fun x hx => by cases hx) (by kernel_rfl) (fun x hx => by cases hx) (fun r hr => hr) (w_q rfl (fun h' L' hh hR => zG rfl) rfl (w_q rfl (fun h' L' hh hR => zG rfl) rfl (w_q rfl (fun h' L' hh hR => zG rfl) rfl (w_q rfl (fun h' L' hh hR => (zI (sz := 3) 1 Tryz.underlying32 Tryz.sizeOf30 rfl rfl rfl (by decide)).cv (show _ = vP b3 3 from congrArg (vP b3) (by rfl))) rfl ?_))))
 replace rb3 := rb3.mono hh1
 refine w_qx (F := fun v_ => (rpQ k).Is h1 v_ a.y) rfl (zE ty30 (Pc.ty (Pc.here _)) rfl rfl rb3 rfl) (mem1 (.tail _ (.tail _ (.tail _ (.head _))))) rfl ?_
 intro v16u6 r16u6
 refine w_q rfl (fun h' L' hh hR => zG rfl) rfl (w_q rfl (fun h' L' hh hR => (zI (sz := 3) 1 Tryz.underlying32 Tryz.sizeOf30 rfl rfl rfl (by decide)).cv (show _ = vP b4 3 from congrArg (vP b4) (by rfl))) rfl ?_)
 replace rb4 := rb4.mono hh1
 refine w_qx (F := fun v_ => (rpQ l).Is h1 v_ b.y) rfl (zE ty30 (Pc.ty (Pc.here _)) rfl rfl rb4 rfl) (mem1 (.tail _ (.tail _ (.head _)))) rfl ?_
 intro v19u6 r19u6
 refine w_c rfl (s_enter (enters_v (vs := [_, _]) Tryz.call70 rfl ⟨rfl, rfl, trivial⟩) rfl (fun w hs => o_rat_sub hs r16u6 r19u6 (by omega)) ?_)
 intro v20u6 h2 hh2 r20u6
 change (rpQ (k + l + 1)).Is h2 v20u6 (a.y - b.y) at r20u6
 refine w_q rfl (fun h' L' hh hR => (zI (sz := 3) 1 Tryz.underlying32 Tryz.sizeOf30 rfl rfl rfl (by decide)).cv (show _ = vP b7 3 from congrArg (vP b7) (by rfl))) rfl ?_
 replace rb_12 := rb_12.mono hh2
 refine wB (A := []) (F := fun c_ => (rpT (rpQ (k + l + 1 + 1))).R h2 c_ (T3.mk (a.x - b.x) (a.y - b.y) (0 : Rat))) rfl (yJ Tryz.sizeOf30 (Pc.ty (Pc.here _)) rfl rfl rfl rb_12 (r20u6.le (Le.q (l := k + l + 1 + 1) (by omega))) rfl) ?_
 intro cs_13 rb_14
 refine yZ (yV (zJ (e' := [(2, _), (3, _), (4, _), (6, _), (7, _), (9, _)]) ⟨rfl, rfl, rfl, rfl, rfl, rfl, trivial⟩ (zB (zA (gv ((zS (q := 1) rfl rfl (by omega) (by omega)).cv (show _ = vI (2) from rfl)) rfl (mv rfl rfl (zD (xY (zC (zA (gv (OpV.tr (by decide) (zW (q := 3) rfl rfl)) rfl (zD (zB ?_)))))))))))))
 refine zC (xX rfl (zK (zB (zC (zR (zC (zA (mv rfl rfl (asg rfl rfl (zD (zB ?_)))))))))))
 refine yK 10 _ [] [(0, .q), (1, .q), (2, .q), (3, .q), (4, .q), (5, .q), (6, .q), (7, .q), (8, .c), (9, .q), (10, .t)] xN (fun x hx => by cases hx) (by kernel_rfl) (fun x hx => by cases hx) (fun r hr => hr) (w_q rfl (fun h' L' hh hR => zG rfl) rfl (w_q rfl (fun h' L' hh hR => zG rfl) rfl (w_q rfl (fun h' L' hh hR => zG rfl) rfl (w_q rfl (fun h' L' hh hR => (zI (sz := 3) 2 Tryz.underlying32 Tryz.sizeOf30 rfl rfl rfl (by decide)).cv (show _ = vP b3 6 from congrArg (vP b3) (by rfl))) rfl ?_))))
 replace rb3 := rb3.mono hh2
 refine w_qx (F := fun v_ => (rpQ k).Is h2 v_ a.z) rfl (zE ty30 (Pc.tz (Pc.here _)) rfl rfl rb3 rfl) (mem1 (.tail _ (.tail _ (.tail _ (.head _))))) rfl ?_
 intro v16u7 r16u7
 refine w_q rfl (fun h' L' hh hR => zG rfl) rfl (w_q rfl (fun h' L' hh hR => (zI (sz := 3) 2 Tryz.underlying32 Tryz.sizeOf30 rfl rfl rfl (by decide)).cv (show _ = vP b4 6 from congrArg (vP b4) (by rfl))) rfl ?_)
 replace rb4 := rb4.mono hh2
 refine w_qx (F := fun v_ => (rpQ l).Is h2 v_ b.z) rfl (zE ty30 (Pc.tz (Pc.here _)) rfl rfl rb4 rfl) (mem1 (.tail _ (.tail _ (.head _)))) rfl ?_
 intro v19u7 r19u7
 refine w_c rfl (s_enter (enters_v (vs := [_, _]) Tryz.call70 rfl ⟨rfl, rfl, trivial⟩) rfl (fun w hs => o_rat_sub hs r16u7 r19u7 (by omega)) ?_)
 intro v20u7 h3 hh3 r20u7
 change (rpQ (k + l + 1)).Is h3 v20u7 (a.z - b.z) at r20u7
 refine w_q rfl (fun h' L' hh hR => (zI (sz := 3) 2 Tryz.underlying32 Tryz.sizeOf30 rfl rfl rfl (by decide)).cv (show _ = vP b7 6 from congrArg (vP b7) (by rfl))) rfl ?_
 replace rb_14 := rb_14.mono hh3
 refine wB (A := []) (F := fun c_ => (rpT (rpQ (k + l + 1 + 1))).R h3 c_ (T3.mk (a.x - b.x) (a.y - b.y) (a.z - b.z))) rfl (yJ Tryz.sizeOf30 (Pc.tz (Pc.here _)) rfl rfl rfl rb_14 (r20u7.le (Le.q (l := k + l + 1 + 1) (by omega))) rfl) ?_
 intro cs_15 rb_16
 refine yZ (yV (zJ (e' := [(2, _), (3, _), (4, _), (6, _), (7, _), (9, _)]) ⟨rfl, rfl, rfl, rfl, rfl, rfl, trivial⟩ (zB (zA (gv ((zS (q := 1) rfl rfl (by omega) (by omega)).cv (show _ = vI (3) from rfl)) rfl (mv rfl rfl (zD (xY (zC (zA (gv (OpV.fa (by decide) (zW (q := 3) rfl rfl)) rfl (zD (zB ?_)))))))))))))
 refine zC (vW rfl (xG (yB (yB (xF (zB (zC (zA (gl_x (F := fun v_ => (rpT (rpQ (k + l + 1 + 1))).Is h3 v_ (T3.mk (a.x - b.x) (a.y - b.y) (a.z - b.z))) (zE ty32 (Pc.here _) rfl rfl rb_16 rfl) (mem1 (.head _)) rfl ?_)))))))))
 intro v23u8 r23u8
 replace rb6 := rb6.mono ((hh1.trans hh2).trans hh3)
 refine wE (A := [_]) (F := fun c_ => (rpT (rpQ (k + l + 1 + 1))).R h3 c_ (T3.mk (a.x - b.x) (a.y - b.y) (a.z - b.z))) (yJ Tryz.sizeOf32 (Pc.here _) rfl rfl rfl rb6 r23u8 rfl) ?_
 intro cs_17 rb_18
 refine zD (zB (zQ (gq_exv (rv_o (t := 6) ty32 (.tail _ (.head _)) rfl rb_18) ?_)))
 intro w_19 hvw_19 rr_20
 refine xS (fun E S => yR rfl hvw_19 E S) ?_
 exact rr_20

theorem o_each_mul {w0 : World} {h0 : Mem}  (hs : MLe h0 (mem w0)) {k l : Nat} {va : Value} {a : (T3 Rat)} (ra : (rpT (rpQ k)).Is h0 va a) {vb : Value} {b : (T3 Rat)} (rb : (rpT (rpQ l)).Is h0 vb b) (hcd0 : k + l ≤ 10000000000)  :
    Calls Tryz.prog 115 #[va, vb, vF 103 []] w0 (Ret w0 h0 (fun h r => (rpT (rpQ (k + l + 1))).Is h r (T3.mk (a.x * b.x) (a.y * b.y) (a.z * b.z)))) := by
 refine zP (n := 24) (e := [(0, va), (1, vb), (2, vF 103 [])]) (vs := [va, vb, vF 103 []]) Tryz.func115 rfl rfl (Nat.le_of_ble_eq_true rfl) hs ⟨rfl, rfl, rfl, trivial⟩ (zC (zA (zL (xL (ρ := (rpT (rpQ k))) rfl ra) rfl rfl rfl ?_)))
 intro v3 q3 hq3
 obtain ⟨b3, cs3, rfl, rfl, rb3⟩ := hq3
 refine zL (xL (ρ := (rpT (rpQ l))) rfl rb) rfl rfl rfl ?_
 intro v4 q4 hq4
 obtain ⟨b4, cs4, rfl, rfl, rb4⟩ := hq4
 refine zL (xE (ρ := (rpT (rpQ (k + l + 1)))) (X := (T3.mk (0 : Rat) (0 : Rat) (0 : Rat))) yC rfl rfl (zr_t (zr_q (by omega)))) rfl rfl rfl ?_
 intro v6 q6 hq6
 obtain ⟨b6, cs6, rfl, rfl, rb6⟩ := hq6
 refine zD (zB (zC (zA (zL (xE (ρ := (rpT (rpQ (k + l + 1)))) (X := (T3.mk (0 : Rat) (0 : Rat) (0 : Rat))) yC rfl rfl (zr_t (zr_q (by omega)))) rfl rfl rfl ?_))))
 intro v7 q7 hq7
 obtain ⟨b7, cs7, rfl, rfl, rb7⟩ := hq7
 refine zD (zB (zC (zC (zA (mv (v := vI (0)) rfl rfl (zD (zB (zR (gc_loop1 (zC (zA (gv (OpV.tr (by decide) (zW (q := 3) rfl rfl)) rfl (zD ?_)))))))))))))
 refine zB (zC (xX rfl (zK (zB (zC (zR (zC (zA (mv rfl rfl (asg rfl rfl (zD (zB ?_))))))))))))
 refine yK 10 _ [] [(0, .q), (1, .q), (2, .q), (3, .q), (4, .q), (5, .q), (6, .q), (7, .q), (8, .c), (9, .q), (10, .t)] xN (fun x hx => by cases hx) (by kernel_rfl) (fun x hx => by cases hx) (fun r hr => hr) (w_q rfl (fun h' L' hh hR => zG rfl) rfl (w_q rfl (fun h' L' hh hR => zG rfl) rfl (w_q rfl (fun h' L' hh hR => zG rfl) rfl (w_q rfl (fun h' L' hh hR => (zI (sz := 3) 0 Tryz.underlying32 Tryz.sizeOf30 rfl rfl rfl (by decide)).cv (show _ = vP b3 0 from congrArg (vP b3) (by rfl))) rfl (w_qx (F := fun v_ => (rpQ k).Is h0 v_ a.x) rfl (zE ty30 (Pc.tx (Pc.here _)) rfl rfl rb3 rfl) (mem1 (.tail _ (.tail _ (.tail _ (.head _))))) rfl ?_)))))
 intro v16u9 r16u9
 refine w_q rfl (fun h' L' hh hR => zG rfl) rfl (w_q rfl (fun h' L' hh hR => (zI (sz := 3) 0 Tryz.underlying32 Tryz.sizeOf30 rfl rfl rfl (by decide)).cv (show _ = vP b4 0 from congrArg (vP b4) (by rfl))) rfl (w_qx (F := fun v_ => (rpQ l).Is h0 v_ b.x) rfl (zE ty30 (Pc.tx (Pc.here _)) rfl rfl rb4 rfl) (mem1 (.tail _ (.tail _ (.head _)))) rfl ?_))
 intro v19u9 r19u9
 refine w_c rfl (s_enter (enters_v (vs := [_, _]) Tryz.call103 rfl ⟨rfl, rfl, trivial⟩) rfl (fun w hs => o_rat_mul hs r16u9 r19u9 (by omega)) ?_)
 intro v20u9 h1 hh1 r20u9
 change (rpQ (k + l)).Is h1 v20u9 (a.x * b.x) at r20u9
 refine w_q rfl (fun h' L' hh hR => (zI (sz := 3) 0 Tryz.underlying32 Tryz.sizeOf30 rfl rfl rfl (by decide)).cv (show _ = vP b7 0 from congrArg (vP b7) (by rfl))) rfl ?_
 replace rb7 := rb7.mono hh1
 refine wB (A := []) (F := fun c_ => (rpT (rpQ (k + l + 1))).R h1 c_ (T3.mk (a.x * b.x) (0 : Rat) (0 : Rat))) rfl (yJ Tryz.sizeOf30 (Pc.tx (Pc.here _)) rfl rfl rfl rb7 (r20u9.le (Le.q (l := k + l + 1) (by omega))) rfl) ?_
 intro cs_21 rb_22
 refine yZ (yV (zJ (e' := [(2, _), (3, _), (4, _), (6, _), (7, _), (9, _)]) ⟨rfl, rfl, rfl, rfl, rfl, rfl, trivial⟩ (zB (zA (gv ((zS (q := 1) rfl rfl (by omega) (by omega)).cv (show _ = vI (1) from rfl)) rfl (mv rfl rfl (zD (xY (zC (zA (gv (OpV.tr (by decide) (zW (q := 3) rfl rfl)) rfl (zD (zB ?_)))))))))))))
 refine zC (xX rfl (zK (zB (zC (zR (zC (zA (mv rfl rfl (asg rfl rfl (zD (zB ?_)))))))))))
 refine yK 10 _ [] [(0, .q), (1, .q), (2, .q), (3, .q), (4, .q), (5, .q), (6, .q), (7, .q), (8, .c), (9, .q), (10, .t)] xN (fun x hx => by cases hx) (by kernel_rfl) (fun x hx => by cases hx) (fun r hr => hr) (w_q rfl (fun h' L' hh hR => zG rfl) rfl (w_q rfl (fun h' L' hh hR => zG rfl) rfl (w_q rfl (fun h' L' hh hR => zG rfl) rfl (w_q rfl (fun h' L' hh hR => (zI (sz := 3) 1 Tryz.underlying32 Tryz.sizeOf30 rfl rfl rfl (by decide)).cv (show _ = vP b3 3 from congrArg (vP b3) (by rfl))) rfl ?_))))
 replace rb3 := rb3.mono hh1
 refine w_qx (F := fun v_ => (rpQ k).Is h1 v_ a.y) rfl (zE ty30 (Pc.ty (Pc.here _)) rfl rfl rb3 rfl) (mem1 (.tail _ (.tail _ (.tail _ (.head _))))) rfl ?_
 intro v16u10 r16u10
 refine w_q rfl (fun h' L' hh hR => zG rfl) rfl (w_q rfl (fun h' L' hh hR => (zI (sz := 3) 1 Tryz.underlying32 Tryz.sizeOf30 rfl rfl rfl (by decide)).cv (show _ = vP b4 3 from congrArg (vP b4) (by rfl))) rfl ?_)
 replace rb4 := rb4.mono hh1
 refine w_qx (F := fun v_ => (rpQ l).Is h1 v_ b.y) rfl (zE ty30 (Pc.ty (Pc.here _)) rfl rfl rb4 rfl) (mem1 (.tail _ (.tail _ (.head _)))) rfl ?_
 intro v19u10 r19u10
 refine w_c rfl (s_enter (enters_v (vs := [_, _]) Tryz.call103 rfl ⟨rfl, rfl, trivial⟩) rfl (fun w hs => o_rat_mul hs r16u10 r19u10 (by omega)) ?_)
 intro v20u10 h2 hh2 r20u10
 change (rpQ (k + l)).Is h2 v20u10 (a.y * b.y) at r20u10
 refine w_q rfl (fun h' L' hh hR => (zI (sz := 3) 1 Tryz.underlying32 Tryz.sizeOf30 rfl rfl rfl (by decide)).cv (show _ = vP b7 3 from congrArg (vP b7) (by rfl))) rfl ?_
 replace rb_22 := rb_22.mono hh2
 refine wB (A := []) (F := fun c_ => (rpT (rpQ (k + l + 1))).R h2 c_ (T3.mk (a.x * b.x) (a.y * b.y) (0 : Rat))) rfl (yJ Tryz.sizeOf30 (Pc.ty (Pc.here _)) rfl rfl rfl rb_22 (r20u10.le (Le.q (l := k + l + 1) (by omega))) rfl) ?_
 intro cs_23 rb_24
 refine yZ (yV (zJ (e' := [(2, _), (3, _), (4, _), (6, _), (7, _), (9, _)]) ⟨rfl, rfl, rfl, rfl, rfl, rfl, trivial⟩ (zB (zA (gv ((zS (q := 1) rfl rfl (by omega) (by omega)).cv (show _ = vI (2) from rfl)) rfl (mv rfl rfl (zD (xY (zC (zA (gv (OpV.tr (by decide) (zW (q := 3) rfl rfl)) rfl (zD (zB ?_)))))))))))))
 refine zC (xX rfl (zK (zB (zC (zR (zC (zA (mv rfl rfl (asg rfl rfl (zD (zB ?_)))))))))))
 refine yK 10 _ [] [(0, .q), (1, .q), (2, .q), (3, .q), (4, .q), (5, .q), (6, .q), (7, .q), (8, .c), (9, .q), (10, .t)] xN (fun x hx => by cases hx) (by kernel_rfl) (fun x hx => by cases hx) (fun r hr => hr) (w_q rfl (fun h' L' hh hR => zG rfl) rfl (w_q rfl (fun h' L' hh hR => zG rfl) rfl (w_q rfl (fun h' L' hh hR => zG rfl) rfl (w_q rfl (fun h' L' hh hR => (zI (sz := 3) 2 Tryz.underlying32 Tryz.sizeOf30 rfl rfl rfl (by decide)).cv (show _ = vP b3 6 from congrArg (vP b3) (by rfl))) rfl ?_))))
 replace rb3 := rb3.mono hh2
 refine w_qx (F := fun v_ => (rpQ k).Is h2 v_ a.z) rfl (zE ty30 (Pc.tz (Pc.here _)) rfl rfl rb3 rfl) (mem1 (.tail _ (.tail _ (.tail _ (.head _))))) rfl ?_
 intro v16u11 r16u11
 refine w_q rfl (fun h' L' hh hR => zG rfl) rfl (w_q rfl (fun h' L' hh hR => (zI (sz := 3) 2 Tryz.underlying32 Tryz.sizeOf30 rfl rfl rfl (by decide)).cv (show _ = vP b4 6 from congrArg (vP b4) (by rfl))) rfl ?_)
 replace rb4 := rb4.mono hh2
 refine w_qx (F := fun v_ => (rpQ l).Is h2 v_ b.z) rfl (zE ty30 (Pc.tz (Pc.here _)) rfl rfl rb4 rfl) (mem1 (.tail _ (.tail _ (.head _)))) rfl ?_
 intro v19u11 r19u11
 refine w_c rfl (s_enter (enters_v (vs := [_, _]) Tryz.call103 rfl ⟨rfl, rfl, trivial⟩) rfl (fun w hs => o_rat_mul hs r16u11 r19u11 (by omega)) ?_)
 intro v20u11 h3 hh3 r20u11
 change (rpQ (k + l)).Is h3 v20u11 (a.z * b.z) at r20u11
 refine w_q rfl (fun h' L' hh hR => (zI (sz := 3) 2 Tryz.underlying32 Tryz.sizeOf30 rfl rfl rfl (by decide)).cv (show _ = vP b7 6 from congrArg (vP b7) (by rfl))) rfl ?_
 replace rb_24 := rb_24.mono hh3
 refine wB (A := []) (F := fun c_ => (rpT (rpQ (k + l + 1))).R h3 c_ (T3.mk (a.x * b.x) (a.y * b.y) (a.z * b.z))) rfl (yJ Tryz.sizeOf30 (Pc.tz (Pc.here _)) rfl rfl rfl rb_24 (r20u11.le (Le.q (l := k + l + 1) (by omega))) rfl) ?_
 intro cs_25 rb_26
 refine yZ (yV (zJ (e' := [(2, _), (3, _), (4, _), (6, _), (7, _), (9, _)]) ⟨rfl, rfl, rfl, rfl, rfl, rfl, trivial⟩ (zB (zA (gv ((zS (q := 1) rfl rfl (by omega) (by omega)).cv (show _ = vI (3) from rfl)) rfl (mv rfl rfl (zD (xY (zC (zA (gv (OpV.fa (by decide) (zW (q := 3) rfl rfl)) rfl (zD (zB ?_)))))))))))))
 refine zC (vW rfl (xG (yB (yB (xF (zB (zC (zA (gl_x (F := fun v_ => (rpT (rpQ (k + l + 1))).Is h3 v_ (T3.mk (a.x * b.x) (a.y * b.y) (a.z * b.z))) (zE ty32 (Pc.here _) rfl rfl rb_26 rfl) (mem1 (.head _)) rfl ?_)))))))))
 intro v23u12 r23u12
 replace rb6 := rb6.mono ((hh1.trans hh2).trans hh3)
 refine wE (A := [_]) (F := fun c_ => (rpT (rpQ (k + l + 1))).R h3 c_ (T3.mk (a.x * b.x) (a.y * b.y) (a.z * b.z))) (yJ Tryz.sizeOf32 (Pc.here _) rfl rfl rfl rb6 r23u12 rfl) ?_
 intro cs_27 rb_28
 refine zD (zB (zQ (gq_exv (rv_o (t := 6) ty32 (.tail _ (.head _)) rfl rb_28) ?_)))
 intro w_29 hvw_29 rr_30
 refine xS (fun E S => yR rfl hvw_29 E S) ?_
 exact rr_30

theorem o_v_add {w0 : World} {h0 : Mem}  (hs : MLe h0 (mem w0)) {k l : Nat} {va : Value} {a : (T3 Rat)} (ra : (rpT (rpQ k)).Is h0 va a) {vb : Value} {b : (T3 Rat)} (rb : (rpT (rpQ l)).Is h0 vb b) (hcd0 : k + l ≤ 10000000000)  :
    Calls Tryz.prog 80 #[va, vb] w0 (Ret w0 h0 (fun h r => (rpT (rpQ (k + l + 2))).Is h r (T3.mk (a.x + b.x) (a.y + b.y) (a.z + b.z)))) := by
 refine zP (n := 8) (e := [(0, va), (1, vb)]) (vs := [va, vb]) Tryz.func80 rfl rfl (Nat.le_of_ble_eq_true rfl) hs ⟨rfl, rfl, trivial⟩ (zC (zA (zL (xL (ρ := (rpT (rpQ k))) rfl ra) rfl rfl rfl ?_)))
 intro v2 q2 hq2
 obtain ⟨b2, cs2, rfl, rfl, rb2⟩ := hq2
 refine zL (xL (ρ := (rpT (rpQ l))) rfl rb) rfl rfl rfl ?_
 intro v3 q3 hq3
 obtain ⟨b3, cs3, rfl, rfl, rb3⟩ := hq3
 refine zL (xE (ρ := (rpT (rpQ (k + l + 2)))) (X := (T3.mk (0 : Rat) (0 : Rat) (0 : Rat))) yC rfl rfl (zr_t (zr_q (by omega)))) rfl rfl rfl ?_
 intro v4 q4 hq4
 obtain ⟨b4, cs4, rfl, rfl, rb4⟩ := hq4
 refine zD (zB (zC (zA (gl_x (F := fun v_ => (rpT (rpQ k)).Is h0 v_ a) (zE ty32 (Pc.here _) rfl rfl rb2 rfl) (mem1 (.tail _ (.tail _ (.head _)))) rfl ?_))))
 intro v5 r5
 refine gl_x (F := fun v_ => (rpT (rpQ l)).Is h0 v_ b) (zE ty32 (Pc.here _) rfl rfl rb3 rfl) (mem1 (.tail _ (.head _))) rfl ?_
 intro v6 r6
 refine zM (vs := [_, _, _]) rfl rfl rfl rfl Tryz.call115 ⟨rfl, rfl, rfl, trivial⟩ (fun w hs => o_each_add hs r5 r6 (by omega)) ?_
 intro v7 h1 hh1 r7
 change (rpT (rpQ (k + l + 1 + 1))).Is h1 v7 (T3.mk (a.x + b.x) (a.y + b.y) (a.z + b.z)) at r7
 replace r7 := Rp.Is.le r7 (Le.t (Le.q (l := k + l + 2) (by omega)))
 replace rb4 := rb4.mono hh1
 refine wE (A := []) (F := fun c_ => (rpT (rpQ (k + l + 2))).R h1 c_ (T3.mk (a.x + b.x) (a.y + b.y) (a.z + b.z))) (yJ Tryz.sizeOf32 (Pc.here _) rfl rfl rfl rb4 r7 rfl) ?_
 intro cs_31 rb_32
 refine zD (zB (zQ (gq_exv (rv_o (t := 4) ty32 (.head _) rfl rb_32) ?_)))
 intro w_33 hvw_33 rr_34
 refine xS (fun E S => yR rfl hvw_33 E S) ?_
 exact rr_34

theorem o_v_sub {w0 : World} {h0 : Mem}  (hs : MLe h0 (mem w0)) {k l : Nat} {va : Value} {a : (T3 Rat)} (ra : (rpT (rpQ k)).Is h0 va a) {vb : Value} {b : (T3 Rat)} (rb : (rpT (rpQ l)).Is h0 vb b) (hcd0 : k + l ≤ 10000000000)  :
    Calls Tryz.prog 78 #[va, vb] w0 (Ret w0 h0 (fun h r => (rpT (rpQ (k + l + 2))).Is h r (T3.mk (a.x - b.x) (a.y - b.y) (a.z - b.z)))) := by
 refine zP (n := 8) (e := [(0, va), (1, vb)]) (vs := [va, vb]) Tryz.func78 rfl rfl (Nat.le_of_ble_eq_true rfl) hs ⟨rfl, rfl, trivial⟩ (zC (zA (zL (xL (ρ := (rpT (rpQ k))) rfl ra) rfl rfl rfl ?_)))
 intro v2 q2 hq2
 obtain ⟨b2, cs2, rfl, rfl, rb2⟩ := hq2
 refine zL (xL (ρ := (rpT (rpQ l))) rfl rb) rfl rfl rfl ?_
 intro v3 q3 hq3
 obtain ⟨b3, cs3, rfl, rfl, rb3⟩ := hq3
 refine zL (xE (ρ := (rpT (rpQ (k + l + 2)))) (X := (T3.mk (0 : Rat) (0 : Rat) (0 : Rat))) yC rfl rfl (zr_t (zr_q (by omega)))) rfl rfl rfl ?_
 intro v4 q4 hq4
 obtain ⟨b4, cs4, rfl, rfl, rb4⟩ := hq4
 refine zD (zB (zC (zA (gl_x (F := fun v_ => (rpT (rpQ k)).Is h0 v_ a) (zE ty32 (Pc.here _) rfl rfl rb2 rfl) (mem1 (.tail _ (.tail _ (.head _)))) rfl ?_))))
 intro v5 r5
 refine gl_x (F := fun v_ => (rpT (rpQ l)).Is h0 v_ b) (zE ty32 (Pc.here _) rfl rfl rb3 rfl) (mem1 (.tail _ (.head _))) rfl ?_
 intro v6 r6
 refine zM (vs := [_, _, _]) rfl rfl rfl rfl Tryz.call115 ⟨rfl, rfl, rfl, trivial⟩ (fun w hs => o_each_sub hs r5 r6 (by omega)) ?_
 intro v7 h1 hh1 r7
 change (rpT (rpQ (k + l + 1 + 1))).Is h1 v7 (T3.mk (a.x - b.x) (a.y - b.y) (a.z - b.z)) at r7
 replace r7 := Rp.Is.le r7 (Le.t (Le.q (l := k + l + 2) (by omega)))
 replace rb4 := rb4.mono hh1
 refine wE (A := []) (F := fun c_ => (rpT (rpQ (k + l + 2))).R h1 c_ (T3.mk (a.x - b.x) (a.y - b.y) (a.z - b.z))) (yJ Tryz.sizeOf32 (Pc.here _) rfl rfl rfl rb4 r7 rfl) ?_
 intro cs_35 rb_36
 refine zD (zB (zQ (gq_exv (rv_o (t := 4) ty32 (.head _) rfl rb_36) ?_)))
 intro w_37 hvw_37 rr_38
 refine xS (fun E S => yR rfl hvw_37 E S) ?_
 exact rr_38

theorem o_v_scale {w0 : World} {h0 : Mem}  (hs : MLe h0 (mem w0)) {l k : Nat} {vq : Value} {q : Rat} (rq : (rpQ l).Is h0 vq q) {va : Value} {a : (T3 Rat)} (ra : (rpT (rpQ k)).Is h0 va a) (hcd0 : k + l ≤ 1000000000)  :
    Calls Tryz.prog 82 #[vq, va] w0 (Ret w0 h0 (fun h r => (rpT (rpQ (k + l + 2))).Is h r (T3.mk (q * a.x) (q * a.y) (q * a.z)))) := by
 refine zP (n := 11) (e := [(0, vq), (1, va)]) (vs := [vq, va]) Tryz.func82 rfl rfl (Nat.le_of_ble_eq_true rfl) hs ⟨rfl, rfl, trivial⟩ (zC (zA (zL (xL (ρ := (rpQ l)) rfl rq) rfl rfl rfl ?_)))
 intro v2 q2 hq2
 obtain ⟨b2, cs2, rfl, rfl, rb2⟩ := hq2
 refine zL (xL (ρ := (rpT (rpQ k))) rfl ra) rfl rfl rfl ?_
 intro v3 q3 hq3
 obtain ⟨b3, cs3, rfl, rfl, rb3⟩ := hq3
 refine zL (xE (ρ := (rpT (rpQ (k + l + 2)))) (X := (T3.mk (0 : Rat) (0 : Rat) (0 : Rat))) yC rfl rfl (zr_t (zr_q (by omega)))) rfl rfl rfl ?_
 intro v4 q4 hq4
 obtain ⟨b4, cs4, rfl, rfl, rb4⟩ := hq4
 refine zD (zB (zC (zA (gl_x (F := fun v_ => (rpQ l).Is h0 v_ q) (zE ty30 (Pc.here _) rfl rfl rb2 rfl) (mem1 (.tail _ (.tail _ (.head _)))) rfl ?_))))
 intro v5 r5
 refine gl_x (F := fun v_ => (rpQ l).Is h0 v_ q) (zE ty30 (Pc.here _) rfl rfl rb2 rfl) (mem1 (.tail _ (.tail _ (.head _)))) rfl ?_
 intro v6 r6
 refine gl_x (F := fun v_ => (rpQ l).Is h0 v_ q) (zE ty30 (Pc.here _) rfl rfl rb2 rfl) (mem1 (.tail _ (.tail _ (.head _)))) rfl ?_
 intro v7 r7
 refine gl_x (F := fun v_ => (rpT (rpQ (l + 1))).Is h0 v_ (T3.mk q q q)) (wU (ps' := [(0, _), (1, _), (2, _)]) Tryz.underlying32 yC rfl rfl Tryz.sizeOf30 ⟨rfl, rfl, rfl, rfl, rfl, rfl, trivial⟩ rfl (zr_t (zr_q (by omega))) (yQ rfl (Pc.tx (Pc.here _)) (r5.le (Le.q (l := l + 1) (by omega))) (yQ rfl (Pc.ty (Pc.here _)) (r6.le (Le.q (l := l + 1) (by omega))) (yQ rfl (Pc.tz (Pc.here _)) (r7.le (Le.q (l := l + 1) (by omega))) xM)))) mem0 rfl ?_
 intro v8 r8
 refine gl_x (F := fun v_ => (rpT (rpQ k)).Is h0 v_ a) (zE ty32 (Pc.here _) rfl rfl rb3 rfl) (mem1 (.tail _ (.head _))) rfl ?_
 intro v9 r9
 refine zM (vs := [_, _, _]) rfl rfl rfl rfl Tryz.call115 ⟨rfl, rfl, rfl, trivial⟩ (fun w hs => o_each_mul hs r8 r9 (by omega)) ?_
 intro v10 h1 hh1 r10
 change (rpT (rpQ ((l + 1) + k + 1))).Is h1 v10 (T3.mk (q * a.x) (q * a.y) (q * a.z)) at r10
 replace r10 := Rp.Is.le r10 (Le.t (Le.q (l := k + l + 2) (by omega)))
 replace rb4 := rb4.mono hh1
 refine wE (A := []) (F := fun c_ => (rpT (rpQ (k + l + 2))).R h1 c_ (T3.mk (q * a.x) (q * a.y) (q * a.z))) (yJ Tryz.sizeOf32 (Pc.here _) rfl rfl rfl rb4 r10 rfl) ?_
 intro cs_39 rb_40
 refine zD (zJ (e' := [(4, _)]) ⟨rfl, trivial⟩ (zB (zQ (gq_exv (rv_o (t := 4) ty32 (.head _) rfl rb_40) ?_))))
 intro w_41 hvw_41 rr_42
 refine xS (fun E S => yR rfl hvw_41 E S) ?_
 exact rr_42

theorem o_v_dot {w0 : World} {h0 : Mem}  (hs : MLe h0 (mem w0)) {k l : Nat} {va : Value} {a : (T3 Rat)} (ra : (rpT (rpQ k)).Is h0 va a) {vb : Value} {b : (T3 Rat)} (rb : (rpT (rpQ l)).Is h0 vb b) (hcd0 : k + l ≤ 1000000000)  :
    Calls Tryz.prog 79 #[va, vb] w0 (Ret w0 h0 (fun h r => (rpQ (3 * k + 3 * l + 9)).Is h r (dotT a b))) := by
 refine zP (n := 21) (e := [(0, va), (1, vb)]) (vs := [va, vb]) Tryz.func79 rfl rfl (Nat.le_of_ble_eq_true rfl) hs ⟨rfl, rfl, trivial⟩ (zC (zA (zL (xL (ρ := (rpT (rpQ k))) rfl ra) rfl rfl rfl ?_)))
 intro v2 q2 hq2
 obtain ⟨b2, cs2, rfl, rfl, rb2⟩ := hq2
 refine zL (xL (ρ := (rpT (rpQ l))) rfl rb) rfl rfl rfl ?_
 intro v3 q3 hq3
 obtain ⟨b3, cs3, rfl, rfl, rb3⟩ := hq3
 refine zL (xE (ρ := (rpQ (3 * k + 3 * l + 9))) (X := (0 : Rat)) wN rfl rfl (zr_q (by omega))) rfl rfl rfl ?_
 intro v4 q4 hq4
 obtain ⟨b4, cs4, rfl, rfl, rb4⟩ := hq4
 refine zD (zB (zC (zA (zL (xE (ρ := (rpQ 1)) (X := (0 : Rat)) wN rfl rfl (zr_q (by decide))) rfl rfl rfl ?_))))
 intro v5 q5 hq5
 obtain ⟨b5, cs5, rfl, rfl, rb5⟩ := hq5
 refine zD (zB (zC (zC (zA (mv (v := vI (0)) rfl rfl (zD (zB (zR (gc_loop1 (zC (zA (gv (OpV.tr (by decide) (zW (q := 3) rfl rfl)) rfl (zD ?_)))))))))))))
 refine zB (zC (xX rfl (zK (zB (zC (zR (zC (zA (mv rfl rfl (asg rfl rfl (zD (zB ?_))))))))))))
 refine yK 9 _ [] [(0, .q), (1, .q), (2, .q), (3, .q), (4, .q), (5, .q), (6, .q), (7, .c), (8, .c), (9, .t)] xN (fun x hx => by cases hx) (by kernel_rfl) (fun x hx => by cases hx) (fun r hr => hr) (w_qx (F := fun v_ => (rpQ 1).Is h0 v_ (0 : Rat)) rfl (zE ty30 (Pc.here _) rfl rfl rb5 rfl) (mem1 (.head _)) rfl ?_)
 intro v10u13 r10u13
 refine w_q rfl (fun h' L' hh hR => zG rfl) rfl (w_q rfl (fun h' L' hh hR => (zI (sz := 3) 0 Tryz.underlying32 Tryz.sizeOf30 rfl rfl rfl (by decide)).cv (show _ = vP b2 0 from congrArg (vP b2) (by rfl))) rfl (w_qx (F := fun v_ => (rpQ k).Is h0 v_ a.x) rfl (zE ty30 (Pc.tx (Pc.here _)) rfl rfl rb2 rfl) (mem1 (.tail _ (.tail _ (.tail _ (.head _))))) rfl ?_))
 intro v13u13 r13u13
 refine w_q rfl (fun h' L' hh hR => zG rfl) rfl (w_q rfl (fun h' L' hh hR => (zI (sz := 3) 0 Tryz.underlying32 Tryz.sizeOf30 rfl rfl rfl (by decide)).cv (show _ = vP b3 0 from congrArg (vP b3) (by rfl))) rfl (w_qx (F := fun v_ => (rpQ l).Is h0 v_ b.x) rfl (zE ty30 (Pc.tx (Pc.here _)) rfl rfl rb3 rfl) (mem1 (.tail _ (.tail _ (.head _)))) rfl ?_))
 intro v16u13 r16u13
 refine w_c rfl ?_
 refine yI (vs := [_, _]) Tryz.call103 ⟨rfl, rfl, trivial⟩ (fun w hs => o_rat_mul hs r13u13 r16u13 (by omega)) rfl ?_
 intro v17u13 h1 hh1 r17u13
 change (rpQ (k + l)).Is h1 v17u13 (a.x * b.x) at r17u13
 refine w_c rfl ?_
 replace r10u13 := r10u13.mono hh1
 refine yI (vs := [_, _]) Tryz.call71 ⟨rfl, rfl, trivial⟩ (fun w hs => o_rat_add hs r10u13 r17u13 (by omega)) rfl ?_
 intro v18u13 h2 hh2 r18u13
 change (rpQ (1 + (k + l) + 1)).Is h2 v18u13 ((0 : Rat) + (a.x * b.x)) at r18u13
 replace r18u13 := Rp.Is.le r18u13 (Le.q (l := k + l + 2) (by omega))
 replace rb5 := rb5.mono (hh1.trans hh2)
 have rw_43 := (Le.q (l := k + l + 2) (by omega)).R rb5
 refine wB (A := []) (F := fun c_ => (rpQ (k + l + 2)).R h2 c_ ((0 : Rat) + (a.x * b.x))) rfl (yJ Tryz.sizeOf30 (Pc.here _) rfl rfl rfl rw_43 r18u13 rfl) ?_
 intro cs_44 rb_45
 refine yZ (yV (zJ (e' := [(2, _), (3, _), (4, _), (5, _), (7, _)]) ⟨rfl, rfl, rfl, rfl, rfl, trivial⟩ (zB (zA (gv ((zS (q := 1) rfl rfl (by omega) (by omega)).cv (show _ = vI (1) from rfl)) rfl (mv rfl rfl (zD (xY (zC (zA (gv (OpV.tr (by decide) (zW (q := 3) rfl rfl)) rfl (zD (zB ?_)))))))))))))
 refine zC (xX rfl (zK (zB (zC (zR (zC (zA (mv rfl rfl (asg rfl rfl (zD (zB ?_)))))))))))
 refine yK 9 _ [] [(0, .q), (1, .q), (2, .q), (3, .q), (4, .q), (5, .q), (6, .q), (7, .c), (8, .c), (9, .t)] xN (fun x hx => by cases hx) (by kernel_rfl) (fun x hx => by cases hx) (fun r hr => hr) (w_qx (F := fun v_ => (rpQ (k + l + 2)).Is h2 v_ ((0 : Rat) + (a.x * b.x))) rfl (zE ty30 (Pc.here _) rfl rfl rb_45 rfl) (mem1 (.head _)) rfl ?_)
 intro v10u14 r10u14
 refine w_q rfl (fun h' L' hh hR => zG rfl) rfl (w_q rfl (fun h' L' hh hR => (zI (sz := 3) 1 Tryz.underlying32 Tryz.sizeOf30 rfl rfl rfl (by decide)).cv (show _ = vP b2 3 from congrArg (vP b2) (by rfl))) rfl ?_)
 replace rb2 := rb2.mono (hh1.trans hh2)
 refine w_qx (F := fun v_ => (rpQ k).Is h2 v_ a.y) rfl (zE ty30 (Pc.ty (Pc.here _)) rfl rfl rb2 rfl) (mem1 (.tail _ (.tail _ (.tail _ (.head _))))) rfl ?_
 intro v13u14 r13u14
 refine w_q rfl (fun h' L' hh hR => zG rfl) rfl (w_q rfl (fun h' L' hh hR => (zI (sz := 3) 1 Tryz.underlying32 Tryz.sizeOf30 rfl rfl rfl (by decide)).cv (show _ = vP b3 3 from congrArg (vP b3) (by rfl))) rfl ?_)
 replace rb3 := rb3.mono (hh1.trans hh2)
 refine w_qx (F := fun v_ => (rpQ l).Is h2 v_ b.y) rfl (zE ty30 (Pc.ty (Pc.here _)) rfl rfl rb3 rfl) (mem1 (.tail _ (.tail _ (.head _)))) rfl ?_
 intro v16u14 r16u14
 refine w_c rfl ?_
 refine yI (vs := [_, _]) Tryz.call103 ⟨rfl, rfl, trivial⟩ (fun w hs => o_rat_mul hs r13u14 r16u14 (by omega)) rfl ?_
 intro v17u14 h3 hh3 r17u14
 change (rpQ (k + l)).Is h3 v17u14 (a.y * b.y) at r17u14
 refine w_c rfl ?_
 replace r10u14 := r10u14.mono hh3
 refine yI (vs := [_, _]) Tryz.call71 ⟨rfl, rfl, trivial⟩ (fun w hs => o_rat_add hs r10u14 r17u14 (by omega)) rfl ?_
 intro v18u14 h4 hh4 r18u14
 change (rpQ ((k + l + 2) + (k + l) + 1)).Is h4 v18u14 (((0 : Rat) + (a.x * b.x)) + (a.y * b.y)) at r18u14
 replace r18u14 := Rp.Is.le r18u14 (Le.q (l := 2 * k + 2 * l + 3) (by omega))
 replace rb_45 := rb_45.mono (hh3.trans hh4)
 have rw_46 := (Le.q (l := 2 * k + 2 * l + 3) (by omega)).R rb_45
 refine wB (A := []) (F := fun c_ => (rpQ (2 * k + 2 * l + 3)).R h4 c_ (((0 : Rat) + (a.x * b.x)) + (a.y * b.y))) rfl (yJ Tryz.sizeOf30 (Pc.here _) rfl rfl rfl rw_46 r18u14 rfl) ?_
 intro cs_47 rb_48
 refine yZ (yV (zJ (e' := [(2, _), (3, _), (4, _), (5, _), (7, _)]) ⟨rfl, rfl, rfl, rfl, rfl, trivial⟩ (zB (zA (gv ((zS (q := 1) rfl rfl (by omega) (by omega)).cv (show _ = vI (2) from rfl)) rfl (mv rfl rfl (zD (xY (zC (zA (gv (OpV.tr (by decide) (zW (q := 3) rfl rfl)) rfl (zD (zB ?_)))))))))))))
 refine zC (xX rfl (zK (zB (zC (zR (zC (zA (mv rfl rfl (asg rfl rfl (zD (zB ?_)))))))))))
 refine yK 9 _ [] [(0, .q), (1, .q), (2, .q), (3, .q), (4, .q), (5, .q), (6, .q), (7, .c), (8, .c), (9, .t)] xN (fun x hx => by cases hx) (by kernel_rfl) (fun x hx => by cases hx) (fun r hr => hr) (w_qx (F := fun v_ => (rpQ (2 * k + 2 * l + 3)).Is h4 v_ (((0 : Rat) + (a.x * b.x)) + (a.y * b.y))) rfl (zE ty30 (Pc.here _) rfl rfl rb_48 rfl) (mem1 (.head _)) rfl ?_)
 intro v10u15 r10u15
 refine w_q rfl (fun h' L' hh hR => zG rfl) rfl (w_q rfl (fun h' L' hh hR => (zI (sz := 3) 2 Tryz.underlying32 Tryz.sizeOf30 rfl rfl rfl (by decide)).cv (show _ = vP b2 6 from congrArg (vP b2) (by rfl))) rfl ?_)
 replace rb2 := rb2.mono (hh3.trans hh4)
 refine w_qx (F := fun v_ => (rpQ k).Is h4 v_ a.z) rfl (zE ty30 (Pc.tz (Pc.here _)) rfl rfl rb2 rfl) (mem1 (.tail _ (.tail _ (.tail _ (.head _))))) rfl ?_
 intro v13u15 r13u15
 refine w_q rfl (fun h' L' hh hR => zG rfl) rfl (w_q rfl (fun h' L' hh hR => (zI (sz := 3) 2 Tryz.underlying32 Tryz.sizeOf30 rfl rfl rfl (by decide)).cv (show _ = vP b3 6 from congrArg (vP b3) (by rfl))) rfl ?_)
 replace rb3 := rb3.mono (hh3.trans hh4)
 refine w_qx (F := fun v_ => (rpQ l).Is h4 v_ b.z) rfl (zE ty30 (Pc.tz (Pc.here _)) rfl rfl rb3 rfl) (mem1 (.tail _ (.tail _ (.head _)))) rfl ?_
 intro v16u15 r16u15
 refine w_c rfl ?_
 refine yI (vs := [_, _]) Tryz.call103 ⟨rfl, rfl, trivial⟩ (fun w hs => o_rat_mul hs r13u15 r16u15 (by omega)) rfl ?_
 intro v17u15 h5 hh5 r17u15
 change (rpQ (k + l)).Is h5 v17u15 (a.z * b.z) at r17u15
 refine w_c rfl ?_
 replace r10u15 := r10u15.mono hh5
 refine yI (vs := [_, _]) Tryz.call71 ⟨rfl, rfl, trivial⟩ (fun w hs => o_rat_add hs r10u15 r17u15 (by omega)) rfl ?_
 intro v18u15 h6 hh6 r18u15
 change (rpQ ((2 * k + 2 * l + 3) + (k + l) + 1)).Is h6 v18u15 ((((0 : Rat) + (a.x * b.x)) + (a.y * b.y)) + (a.z * b.z)) at r18u15
 replace r18u15 := Rp.Is.le r18u15 (Le.q (l := 3 * k + 3 * l + 4) (by omega))
 replace rb_48 := rb_48.mono (hh5.trans hh6)
 have rw_49 := (Le.q (l := 3 * k + 3 * l + 4) (by omega)).R rb_48
 refine wB (A := []) (F := fun c_ => (rpQ (3 * k + 3 * l + 4)).R h6 c_ ((((0 : Rat) + (a.x * b.x)) + (a.y * b.y)) + (a.z * b.z))) rfl (yJ Tryz.sizeOf30 (Pc.here _) rfl rfl rfl rw_49 r18u15 rfl) ?_
 intro cs_50 rb_51
 refine yZ (yV (zJ (e' := [(2, _), (3, _), (4, _), (5, _), (7, _)]) ⟨rfl, rfl, rfl, rfl, rfl, trivial⟩ (zB (zA (gv ((zS (q := 1) rfl rfl (by omega) (by omega)).cv (show _ = vI (3) from rfl)) rfl (mv rfl rfl (zD (xY (zC (zA (gv (OpV.fa (by decide) (zW (q := 3) rfl rfl)) rfl (zD (zB ?_)))))))))))))
 refine zC (vW rfl (xG (yB (yB (xF (zB (zC (zA (gl_x (F := fun v_ => (rpQ (3 * k + 3 * l + 4)).Is h6 v_ ((((0 : Rat) + (a.x * b.x)) + (a.y * b.y)) + (a.z * b.z))) (zE ty30 (Pc.here _) rfl rfl rb_51 rfl) (mem1 (.head _)) rfl ?_)))))))))
 intro v20u16 r20u16
 replace rb4 := rb4.mono (((((hh1.trans hh2).trans hh3).trans hh4).trans hh5).trans hh6)
 refine wE (A := [_]) (F := fun c_ => (rpQ (3 * k + 3 * l + 9)).R h6 c_ ((((0 : Rat) + (a.x * b.x)) + (a.y * b.y)) + (a.z * b.z))) (yJ Tryz.sizeOf30 (Pc.here _) rfl rfl rfl rb4 (r20u16.le (Le.q (l := 3 * k + 3 * l + 9) (by omega))) rfl) ?_
 intro cs_52 rb_53
 refine zD (zB (zQ (gq_exv (rv_o (t := 4) ty30 (.tail _ (.head _)) rfl rb_53) ?_)))
 intro w_54 hvw_54 rr_55
 refine xS (fun E S => yR rfl hvw_54 E S) ?_
 exact (Rp.Is.cast rr_55 (by unfold dotT; grind))

theorem o_v_side {w0 : World} {h0 : Mem}  (hs : MLe h0 (mem w0)) {m l k : Nat} {vs : Value} {s : ((T3 Rat) × Rat)} (rs : (rpP (rpT (rpQ m)) (rpQ l)).Is h0 vs s) {vp : Value} {p : (T3 Rat)} (rp : (rpT (rpQ k)).Is h0 vp p) (hcd0 : k ≤ 100000000) (hcd1 : l ≤ 100000000) (hcd2 : m ≤ 100000000)  :
    Calls Tryz.prog 99 #[vs, vp] w0 (Ret w0 h0 (fun _ r => r = vI (sdZ s p))) := by
 refine zP (n := 12) (e := [(0, vs), (1, vp)]) (vs := [vs, vp]) Tryz.func99 rfl rfl (Nat.le_of_ble_eq_true rfl) hs ⟨rfl, rfl, trivial⟩ (zC (zA (zL (xL (ρ := (rpP (rpT (rpQ m)) (rpQ l))) rfl rs) rfl rfl rfl ?_)))
 intro v2 q2 hq2
 obtain ⟨b2, cs2, rfl, rfl, rb2⟩ := hq2
 refine zL (xL (ρ := (rpT (rpQ k))) rfl rp) rfl rfl rfl ?_
 intro v3 q3 hq3
 obtain ⟨b3, cs3, rfl, rfl, rb3⟩ := hq3
 refine asg (v := vI (0)) rfl rfl (zD (zB (zC ?_)))
 refine yK 8 _ [] [(0, .q), (1, .q), (2, .q), (4, .q), (5, .q), (3, .c), (6, .c), (7, .q)] xN (fun x hx => by cases hx) (by kernel_rfl) (fun x hx => by cases hx) (fun r hr => hr) (w_q rfl (fun h' L' hh hR => (zH Tryz.underlying34 rfl Tryz.sizeOf32 rfl).cv (show _ = vP b2 0 from congrArg (vP b2) (by rfl))) rfl (w_qx (F := fun v_ => (rpT (rpQ m)).Is h0 v_ s.1) rfl (zE ty32 (Pc.fst (Pc.here _)) rfl rfl rb2 rfl) (mem1 (.tail _ (.head _))) rfl ?_))
 intro v6 r6
 refine w_qx (F := fun v_ => (rpT (rpQ k)).Is h0 v_ p) rfl (zE ty32 (Pc.here _) rfl rfl rb3 rfl) (mem1 (.head _)) rfl ?_
 intro v7 r7
 refine w_q rfl (fun h' L' hh hR => (zH Tryz.underlying34 rfl Tryz.sizeOf30 rfl).cv (show _ = vP b2 9 from congrArg (vP b2) (by rfl))) rfl (w_qx (F := fun v_ => (rpQ l).Is h0 v_ s.2) rfl (zE ty30 (Pc.snd (Pc.here _)) rfl rfl rb2 rfl) (mem1 (.tail _ (.head _))) rfl ?_)
 intro v10 r10
 refine w_c rfl ?_
 refine yI (vs := [_, _]) Tryz.call79 ⟨rfl, rfl, trivial⟩ (fun w hs => o_v_dot hs r6 r7 (by omega)) rfl ?_
 intro v8 h1 hh1 r8
 change (rpQ (3 * m + 3 * k + 9)).Is h1 v8 (dotT s.1 p) at r8
 replace r8 := Rp.Is.le r8 (Le.q (l := 3 * k + 3 * m + 9) (by omega))
 refine w_c rfl ?_
 replace r10 := r10.mono hh1
 refine yI (vs := [_, _]) Tryz.call104 ⟨rfl, rfl, trivial⟩ (fun w hs => o_rat_cmp hs r8 r10 (by omega)) rfl ?_
 intro v11 h2 hh2 r11
 obtain rfl : v11 = vI (cmpQ (dotT s.1 p) s.2) := r11
 have hcr11 := cmpQ_range (dotT s.1 p) s.2
 refine w_q rfl (fun h' L' hh hR => zX rfl) rfl (yZ (zJ (e' := [(4, _)]) ⟨rfl, trivial⟩ (zB (zQ (yG rfl rfl ?_)))))
 exact congrArg vI (side_cmp s p)

theorem o_s4_side {w0 : World} {h0 : Mem}  (hs : MLe h0 (mem w0)) {m l k : Nat} {vs : Value} {s : ((T3 Rat) × Rat)} (rs : (rpP (rpT (rpQ m)) (rpQ l)).Is h0 vs s) {vp : Value} {p : (T3 Rat)} (rp : (rpT (rpQ k)).Is h0 vp p) (hcd0 : k ≤ 100000000) (hcd1 : l ≤ 100000000) (hcd2 : m ≤ 100000000)  :
    Calls Tryz.prog 25 #[vs, vp] w0 (Ret w0 h0 (fun _ r => r = vI (sdZ s p))) := by
 refine zP (n := 13) (e := [(0, vs), (1, vp)]) (vs := [vs, vp]) Tryz.func25 rfl rfl (Nat.le_of_ble_eq_true rfl) hs ⟨rfl, rfl, trivial⟩ (zC (zA (zL (xL (ρ := (rpP (rpT (rpQ m)) (rpQ l))) rfl rs) rfl rfl rfl ?_)))
 intro v2 q2 hq2
 obtain ⟨b2, cs2, rfl, rfl, rb2⟩ := hq2
 refine zL (xL (ρ := (rpT (rpQ k))) rfl rp) rfl rfl rfl ?_
 intro v3 q3 hq3
 obtain ⟨b3, cs3, rfl, rfl, rb3⟩ := hq3
 refine asg (v := vI (0)) rfl rfl (zD (zB (zC ?_)))
 refine yK 9 _ [] [(0, .q), (1, .q), (2, .q), (4, .q), (5, .q), (3, .c), (6, .c), (7, .c), (8, .q)] xN (fun x hx => by cases hx) (by kernel_rfl) (fun x hx => by cases hx) (fun r hr => hr) (w_q rfl (fun h' L' hh hR => (zH Tryz.underlying34 rfl Tryz.sizeOf32 rfl).cv (show _ = vP b2 0 from congrArg (vP b2) (by rfl))) rfl (w_qx (F := fun v_ => (rpT (rpQ m)).Is h0 v_ s.1) rfl (zE ty32 (Pc.fst (Pc.here _)) rfl rfl rb2 rfl) (mem1 (.tail _ (.head _))) rfl ?_))
 intro v6 r6
 refine w_qx (F := fun v_ => (rpT (rpQ k)).Is h0 v_ p) rfl (zE ty32 (Pc.here _) rfl rfl rb3 rfl) (mem1 (.head _)) rfl ?_
 intro v7 r7
 refine w_q rfl (fun h' L' hh hR => (zH Tryz.underlying34 rfl Tryz.sizeOf30 rfl).cv (show _ = vP b2 9 from congrArg (vP b2) (by rfl))) rfl (w_qx (F := fun v_ => (rpQ l).Is h0 v_ s.2) rfl (zE ty30 (Pc.snd (Pc.here _)) rfl rfl rb2 rfl) (mem1 (.tail _ (.head _))) rfl ?_)
 intro v10 r10
 refine w_c rfl ?_
 refine yI (vs := [_, _]) Tryz.call57 ⟨rfl, rfl, trivial⟩ (fun w hs => o_r4_dot hs r6 r7 (by omega)) rfl ?_
 intro v8 h1 hh1 r8
 change (rpQ (3 * m + 3 * k + 9)).Is h1 v8 (dotT s.1 p) at r8
 replace r8 := Rp.Is.le r8 (Le.q (l := 3 * k + 3 * m + 9) (by omega))
 refine w_c rfl ?_
 replace r10 := r10.mono hh1
 refine yI (vs := [_, _]) Tryz.call56 ⟨rfl, rfl, trivial⟩ (fun w hs => o_rref_sub hs r8 r10 (by omega)) rfl ?_
 intro v11 h2 hh2 r11
 change (rpQ ((3 * k + 3 * m + 9) + l + 1)).Is h2 v11 ((dotT s.1 p) - s.2) at r11
 replace r11 := Rp.Is.le r11 (Le.q (l := 3 * k + l + 3 * m + 10) (by omega))
 refine w_c rfl ?_
 refine yI (vs := [_]) Tryz.call50 ⟨rfl, trivial⟩ (fun w hs => o_rref_sign hs r11 (by omega)) rfl ?_
 intro v12 h3 hh3 r12
 obtain rfl : v12 = vI (sgnQ ((dotT s.1 p) - s.2)) := r12
 have hsr12 := sgnQ_range ((dotT s.1 p) - s.2)
 refine w_q rfl (fun h' L' hh hR => zX rfl) rfl (yZ (zJ (e' := [(4, _)]) ⟨rfl, trivial⟩ (zB (zQ (yG rfl rfl ?_)))))
 rfl

theorem o_pl_side {w0 : World} {h0 : Mem}  (hs : MLe h0 (mem w0)) {m l k : Nat} {vs : Value} {s : ((T3 Rat) × Rat)} (rs : (rpP (rpT (rpQ m)) (rpQ l)).Is h0 vs s) {vp : Value} {p : (T3 Rat)} (rp : (rpT (rpQ k)).Is h0 vp p) (hcd0 : k ≤ 100000000) (hcd1 : l ≤ 100000000) (hcd2 : m ≤ 100000000)  :
    Calls Tryz.prog 64 #[vs, vp] w0 (Ret w0 h0 (fun _ r => r = vI (sdZ s p))) := by
 refine zP (n := 61) (e := [(0, vs), (1, vp)]) (vs := [vs, vp]) Tryz.func64 rfl rfl (Nat.le_of_ble_eq_true rfl) hs ⟨rfl, rfl, trivial⟩ (zC (zA (zL (xL (ρ := (rpP (rpT (rpQ m)) (rpQ l))) rfl rs) rfl rfl rfl ?_)))
 intro v2 q2 hq2
 obtain ⟨b2, cs2, rfl, rfl, rb2⟩ := hq2
 refine zL (xL (ρ := (rpT (rpQ k))) rfl rp) rfl rfl rfl ?_
 intro v3 q3 hq3
 obtain ⟨b3, cs3, rfl, rfl, rb3⟩ := hq3
 refine asg (v := vI (0)) rfl rfl (zD (zB (zC (zA (asg (v := vI (0)) rfl rfl (zD (zB (zC (zC (zA (mv (v := vI (0)) rfl rfl (zD (zB ?_)))))))))))))
 refine zR (gc_loop1 (zC (zA (gv (OpV.tr (by decide) (zW (q := 3) rfl rfl)) rfl (zD (zB (zC (xX rfl (zK (zB (zC (zR (zC ?_)))))))))))))
 refine zA (mv rfl rfl (asg rfl rfl (zD (zB (zC (zA (mv rfl rfl (gv ((zH Tryz.underlying34 rfl Tryz.sizeOf32 rfl).cv (show _ = vP b2 0 from congrArg (vP b2) (by rfl))) rfl (gv ((zI (sz := 3) 0 Tryz.underlying32 Tryz.sizeOf30 rfl rfl rfl (by decide)).cv (show _ = vP b2 0 from congrArg (vP b2) (by rfl))) rfl (gl_x (F := fun v_ => (rpQ m).Is h0 v_ s.1.x) (zE ty30 (Pc.fst (Pc.tx (Pc.here _))) rfl rfl rb2 rfl) (mem1 (.tail _ (.head _))) rfl ?_))))))))))
 intro v20u25 r20u25
 refine zM (vs := [_]) rfl rfl rfl rfl Tryz.call98 ⟨rfl, trivial⟩ (fun w hs => o_pl_small hs r20u25) ?_
 intro v21u25 h1 hh1 r21u25
 obtain rfl := r21u25
 refine mv rfl rfl (gv (zO (vs := [_, _]) rfl rfl) rfl (gv (zO (vs := [_, _]) rfl rfl) rfl (asg rfl rfl (asg rfl rfl (zD (zJ (e' := [(2, _), (3, _), (5, _), (13, _), (6, _), (7, _), (8, _)]) ⟨rfl, rfl, rfl, rfl, rfl, rfl, rfl, trivial⟩ (zB (zC (zA (mv rfl rfl (gv ((zI (sz := 3) 0 Tryz.underlying32 Tryz.sizeOf30 rfl rfl rfl (by decide)).cv (show _ = vP b3 0 from congrArg (vP b3) (by rfl))) rfl ?_)))))))))))
 replace rb3 := rb3.mono hh1
 refine gl_x (F := fun v_ => (rpQ k).Is h1 v_ p.x) (zE ty30 (Pc.tx (Pc.here _)) rfl rfl rb3 rfl) (mem1 (.head _)) rfl ?_
 intro v27u25 r27u25
 refine zM (vs := [_]) rfl rfl rfl rfl Tryz.call98 ⟨rfl, trivial⟩ (fun w hs => o_pl_small hs r27u25) ?_
 intro v28u25 h2 hh2 r28u25
 obtain rfl := r28u25
 refine mv rfl rfl (gv (zO (vs := [_, _]) rfl rfl) rfl (gv (zO (vs := [_, _]) rfl rfl) rfl (asg rfl rfl (asg rfl rfl (zD (zB (zC (zC (zA (mv rfl rfl (gv (ov_not rfl) rfl ?_)))))))))))
 refine vM (ι := Unit) 4 (fun _ => True) (fun _ => [(36, vB ((¬ (smB s.1.x)) ∨ (¬ (smB p.x)))), (2, vP b2 0), (3, vP b3 0), (5, vI (0)), (13, vI (0)), (7, vI (smZ s.1.x)), (9, vI (smZ p.x))]) (fun _ => [.var b3 32 cs3, .var b2 34 cs2]) (fun _ => h2) ?_ ?_
 ·
  refine wI (¬ (smB s.1.x)) (fun hg => ?_) (fun hg => ?_)
  ·
   refine xK (zG (v := .bool true) (congrArg some (xT hg))) rfl rfl rfl (yM rfl rfl rfl rfl rfl rfl (yM rfl rfl rfl rfl rfl rfl (gv (xR rfl rfl) rfl (zD ?_))))
   refine yP () trivial ⟨?_, rfl, rfl, rfl, rfl, rfl, rfl, trivial⟩ rfl rfl
   exact congrArg some (vB_or_t hg)
  refine xK (zG (v := .bool false) (congrArg some (xD hg))) rfl rfl rfl (yW rfl rfl rfl (mv rfl rfl (yW rfl rfl rfl (gv (ov_not rfl) rfl (gv (xU rfl rfl) rfl (zD ?_))))))
  refine yP () trivial ⟨?_, rfl, rfl, rfl, rfl, rfl, rfl, trivial⟩ rfl rfl
  exact congrArg some (vB_or_f hg)
 intro _ _
 show GL _ _ _ _ _ _ _ [(36, vB ((¬ (smB s.1.x)) ∨ (¬ (smB p.x)))), (2, vP b2 0), (3, vP b3 0), (5, vI (0)), (13, vI (0)), (7, vI (smZ s.1.x)), (9, vI (smZ p.x))] [.var b3 32 cs3, .var b2 34 cs2] h2
 refine zD (zB ?_)
 refine zN rfl (fun hc36 => ?_) (fun hc36 => ?_)
 ·
  refine zC (zA ?_)
  replace rb2 := rb2.mono (hh1.trans hh2)
  refine gl_x (F := fun v_ => (rpP (rpT (rpQ m)) (rpQ l)).Is h2 v_ s) (zE ty34 (Pc.here _) rfl rfl rb2 rfl) (mem1 (.tail _ (.head _))) rfl ?_
  intro v37u25 r37u25
  replace rb3 := rb3.mono hh2
  refine gl_x (F := fun v_ => (rpT (rpQ k)).Is h2 v_ p) (zE ty32 (Pc.here _) rfl rfl rb3 rfl) (mem1 (.head _)) rfl ?_
  intro v38u25 r38u25
  refine zM (vs := [_, _]) rfl rfl rfl rfl Tryz.call99 ⟨rfl, rfl, trivial⟩ (fun w hs => o_v_side hs r37u25 r38u25 (by omega) (by omega) (by omega)) ?_
  intro v39u25 h3 hh3 r39u25
  obtain rfl : v39u25 = vI (sdZ s p) := r39u25
  have hsd39u25 := sd_range s p
  refine asg rfl rfl (zD (zJ (e' := [(4, _)]) ⟨rfl, trivial⟩ (zB (zQ (yE (gr_in (yE (yE (gr_in (yE (yG rfl rfl ?_)))))))))))
  rfl
 obtain ⟨hsm, hpr⟩ := side_sm hc36
 refine zK (zB (zA (mv rfl rfl (mv rfl rfl (mv rfl rfl (gv (ov_mul_i rfl rfl (by omega) (by omega)) rfl (gv (zS rfl rfl (by omega) (by omega)) rfl (asg rfl rfl (zD (yV (zB (zA (gv ((zS (q := 1) rfl rfl (by omega) (by omega)).cv (show _ = vI (1) from rfl)) rfl ?_)))))))))))))
 refine mv rfl rfl (zD (xY (zC (zA (gv (OpV.tr (by decide) (zW (q := 3) rfl rfl)) rfl (zD (zB (zC (xX rfl (zK (zJ (e' := [(2, _), (3, _), (5, _), (13, _)]) ⟨rfl, rfl, rfl, rfl, trivial⟩ (zB (zC ?_)))))))))))))
 refine zR (zC (zA (mv rfl rfl (asg rfl rfl (zD (zB (zC (zA (mv rfl rfl (gv ((zH Tryz.underlying34 rfl Tryz.sizeOf32 rfl).cv (show _ = vP b2 0 from congrArg (vP b2) (by rfl))) rfl (gv ((zI (sz := 3) 1 Tryz.underlying32 Tryz.sizeOf30 rfl rfl rfl (by decide)).cv (show _ = vP b2 3 from congrArg (vP b2) (by rfl))) rfl ?_)))))))))))
 replace rb2 := rb2.mono (hh1.trans hh2)
 refine gl_x (F := fun v_ => (rpQ m).Is h2 v_ s.1.y) (zE ty30 (Pc.fst (Pc.ty (Pc.here _))) rfl rfl rb2 rfl) (mem1 (.tail _ (.head _))) rfl ?_
 intro v20u26 r20u26
 refine zM (vs := [_]) rfl rfl rfl rfl Tryz.call98 ⟨rfl, trivial⟩ (fun w hs => o_pl_small hs r20u26) ?_
 intro v21u26 h3 hh3 r21u26
 obtain rfl := r21u26
 refine mv rfl rfl (gv (zO (vs := [_, _]) rfl rfl) rfl (gv (zO (vs := [_, _]) rfl rfl) rfl (asg rfl rfl (asg rfl rfl (zD (zB (zC (zA (mv rfl rfl (gv ((zI (sz := 3) 1 Tryz.underlying32 Tryz.sizeOf30 rfl rfl rfl (by decide)).cv (show _ = vP b3 3 from congrArg (vP b3) (by rfl))) rfl ?_))))))))))
 replace rb3 := rb3.mono (hh2.trans hh3)
 refine gl_x (F := fun v_ => (rpQ k).Is h3 v_ p.y) (zE ty30 (Pc.ty (Pc.here _)) rfl rfl rb3 rfl) (mem1 (.head _)) rfl ?_
 intro v27u26 r27u26
 refine zM (vs := [_]) rfl rfl rfl rfl Tryz.call98 ⟨rfl, trivial⟩ (fun w hs => o_pl_small hs r27u26) ?_
 intro v28u26 h4 hh4 r28u26
 obtain rfl := r28u26
 refine mv rfl rfl (gv (zO (vs := [_, _]) rfl rfl) rfl (gv (zO (vs := [_, _]) rfl rfl) rfl (asg rfl rfl (asg rfl rfl (zD (zJ (e' := [(2, _), (3, _), (5, _), (13, _), (7, _), (8, _), (9, _), (10, _)]) ⟨rfl, rfl, rfl, rfl, rfl, rfl, rfl, rfl, trivial⟩ (zB (zC (zC (zA (mv rfl rfl (gv (ov_not rfl) rfl ?_))))))))))))
 refine vM (ι := Unit) 4 (fun _ => True) (fun _ => [(36, vB ((¬ (smB s.1.y)) ∨ (¬ (smB p.y)))), (2, vP b2 0), (3, vP b3 0), (5, vI ((0 : Int) + ((smZ s.1.x) * (smZ p.x)))), (13, vI (1)), (7, vI (smZ s.1.y)), (9, vI (smZ p.y))]) (fun _ => [.var b3 32 cs3, .var b2 34 cs2]) (fun _ => h4) ?_ ?_
 ·
  refine wI (¬ (smB s.1.y)) (fun hg => ?_) (fun hg => ?_)
  ·
   refine xK (zG (v := .bool true) (congrArg some (xT hg))) rfl rfl rfl (yM rfl rfl rfl rfl rfl rfl (yM rfl rfl rfl rfl rfl rfl (gv (xR rfl rfl) rfl (zD ?_))))
   refine yP () trivial ⟨?_, rfl, rfl, rfl, rfl, rfl, rfl, trivial⟩ rfl rfl
   exact congrArg some (vB_or_t hg)
  refine xK (zG (v := .bool false) (congrArg some (xD hg))) rfl rfl rfl (yW rfl rfl rfl (mv rfl rfl (yW rfl rfl rfl (gv (ov_not rfl) rfl (gv (xU rfl rfl) rfl (zD ?_))))))
  refine yP () trivial ⟨?_, rfl, rfl, rfl, rfl, rfl, rfl, trivial⟩ rfl rfl
  exact congrArg some (vB_or_f hg)
 intro _ _
 show GL _ _ _ _ _ _ _ [(36, vB ((¬ (smB s.1.y)) ∨ (¬ (smB p.y)))), (2, vP b2 0), (3, vP b3 0), (5, vI ((0 : Int) + ((smZ s.1.x) * (smZ p.x)))), (13, vI (1)), (7, vI (smZ s.1.y)), (9, vI (smZ p.y))] [.var b3 32 cs3, .var b2 34 cs2] h4
 refine zD (zB ?_)
 refine zN rfl (fun hc36 => ?_) (fun hc36 => ?_)
 ·
  refine zC (zA ?_)
  replace rb2 := rb2.mono (hh3.trans hh4)
  refine gl_x (F := fun v_ => (rpP (rpT (rpQ m)) (rpQ l)).Is h4 v_ s) (zE ty34 (Pc.here _) rfl rfl rb2 rfl) (mem1 (.tail _ (.head _))) rfl ?_
  intro v37u26 r37u26
  replace rb3 := rb3.mono hh4
  refine gl_x (F := fun v_ => (rpT (rpQ k)).Is h4 v_ p) (zE ty32 (Pc.here _) rfl rfl rb3 rfl) (mem1 (.head _)) rfl ?_
  intro v38u26 r38u26
  refine zM (vs := [_, _]) rfl rfl rfl rfl Tryz.call99 ⟨rfl, rfl, trivial⟩ (fun w hs => o_v_side hs r37u26 r38u26 (by omega) (by omega) (by omega)) ?_
  intro v39u26 h5 hh5 r39u26
  obtain rfl : v39u26 = vI (sdZ s p) := r39u26
  have hsd39u26 := sd_range s p
  refine asg rfl rfl (zD (zJ (e' := [(4, _)]) ⟨rfl, trivial⟩ (zB (zQ (yE (gr_in (yE (yE (gr_in (yE (yG rfl rfl ?_)))))))))))
  rfl
 obtain ⟨hsm, hpr⟩ := side_sm hc36
 refine zK (zB (zA (mv rfl rfl (mv rfl rfl (mv rfl rfl (gv (ov_mul_i rfl rfl (by omega) (by omega)) rfl (gv (zS rfl rfl (by omega) (by omega)) rfl (asg rfl rfl (zD (yV (zB (zA (gv ((zS (q := 1) rfl rfl (by omega) (by omega)).cv (show _ = vI (2) from rfl)) rfl ?_)))))))))))))
 refine mv rfl rfl (zD (xY (zC (zA (gv (OpV.tr (by decide) (zW (q := 3) rfl rfl)) rfl (zD (zB (zC (xX rfl (zK (zJ (e' := [(2, _), (3, _), (5, _), (13, _)]) ⟨rfl, rfl, rfl, rfl, trivial⟩ (zB (zC ?_)))))))))))))
 refine zR (zC (zA (mv rfl rfl (asg rfl rfl (zD (zB (zC (zA (mv rfl rfl (gv ((zH Tryz.underlying34 rfl Tryz.sizeOf32 rfl).cv (show _ = vP b2 0 from congrArg (vP b2) (by rfl))) rfl (gv ((zI (sz := 3) 2 Tryz.underlying32 Tryz.sizeOf30 rfl rfl rfl (by decide)).cv (show _ = vP b2 6 from congrArg (vP b2) (by rfl))) rfl ?_)))))))))))
 replace rb2 := rb2.mono (hh3.trans hh4)
 refine gl_x (F := fun v_ => (rpQ m).Is h4 v_ s.1.z) (zE ty30 (Pc.fst (Pc.tz (Pc.here _))) rfl rfl rb2 rfl) (mem1 (.tail _ (.head _))) rfl ?_
 intro v20u27 r20u27
 refine zM (vs := [_]) rfl rfl rfl rfl Tryz.call98 ⟨rfl, trivial⟩ (fun w hs => o_pl_small hs r20u27) ?_
 intro v21u27 h5 hh5 r21u27
 obtain rfl := r21u27
 refine mv rfl rfl (gv (zO (vs := [_, _]) rfl rfl) rfl (gv (zO (vs := [_, _]) rfl rfl) rfl (asg rfl rfl (asg rfl rfl (zD (zB (zC (zA (mv rfl rfl (gv ((zI (sz := 3) 2 Tryz.underlying32 Tryz.sizeOf30 rfl rfl rfl (by decide)).cv (show _ = vP b3 6 from congrArg (vP b3) (by rfl))) rfl ?_))))))))))
 replace rb3 := rb3.mono (hh4.trans hh5)
 refine gl_x (F := fun v_ => (rpQ k).Is h5 v_ p.z) (zE ty30 (Pc.tz (Pc.here _)) rfl rfl rb3 rfl) (mem1 (.head _)) rfl ?_
 intro v27u27 r27u27
 refine zM (vs := [_]) rfl rfl rfl rfl Tryz.call98 ⟨rfl, trivial⟩ (fun w hs => o_pl_small hs r27u27) ?_
 intro v28u27 h6 hh6 r28u27
 obtain rfl := r28u27
 refine mv rfl rfl (gv (zO (vs := [_, _]) rfl rfl) rfl (gv (zO (vs := [_, _]) rfl rfl) rfl (asg rfl rfl (asg rfl rfl (zD (zJ (e' := [(2, _), (3, _), (5, _), (13, _), (7, _), (8, _), (9, _), (10, _)]) ⟨rfl, rfl, rfl, rfl, rfl, rfl, rfl, rfl, trivial⟩ (zB (zC (zC (zA (mv rfl rfl (gv (ov_not rfl) rfl ?_))))))))))))
 refine vM (ι := Unit) 4 (fun _ => True) (fun _ => [(36, vB ((¬ (smB s.1.z)) ∨ (¬ (smB p.z)))), (2, vP b2 0), (3, vP b3 0), (5, vI (((0 : Int) + ((smZ s.1.x) * (smZ p.x))) + ((smZ s.1.y) * (smZ p.y)))), (13, vI (2)), (7, vI (smZ s.1.z)), (9, vI (smZ p.z))]) (fun _ => [.var b3 32 cs3, .var b2 34 cs2]) (fun _ => h6) ?_ ?_
 ·
  refine wI (¬ (smB s.1.z)) (fun hg => ?_) (fun hg => ?_)
  ·
   refine xK (zG (v := .bool true) (congrArg some (xT hg))) rfl rfl rfl (yM rfl rfl rfl rfl rfl rfl (yM rfl rfl rfl rfl rfl rfl (gv (xR rfl rfl) rfl (zD ?_))))
   refine yP () trivial ⟨?_, rfl, rfl, rfl, rfl, rfl, rfl, trivial⟩ rfl rfl
   exact congrArg some (vB_or_t hg)
  refine xK (zG (v := .bool false) (congrArg some (xD hg))) rfl rfl rfl (yW rfl rfl rfl (mv rfl rfl (yW rfl rfl rfl (gv (ov_not rfl) rfl (gv (xU rfl rfl) rfl (zD ?_))))))
  refine yP () trivial ⟨?_, rfl, rfl, rfl, rfl, rfl, rfl, trivial⟩ rfl rfl
  exact congrArg some (vB_or_f hg)
 intro _ _
 show GL _ _ _ _ _ _ _ [(36, vB ((¬ (smB s.1.z)) ∨ (¬ (smB p.z)))), (2, vP b2 0), (3, vP b3 0), (5, vI (((0 : Int) + ((smZ s.1.x) * (smZ p.x))) + ((smZ s.1.y) * (smZ p.y)))), (13, vI (2)), (7, vI (smZ s.1.z)), (9, vI (smZ p.z))] [.var b3 32 cs3, .var b2 34 cs2] h6
 refine zD (zB ?_)
 refine zN rfl (fun hc36 => ?_) (fun hc36 => ?_)
 ·
  refine zC (zA ?_)
  replace rb2 := rb2.mono (hh5.trans hh6)
  refine gl_x (F := fun v_ => (rpP (rpT (rpQ m)) (rpQ l)).Is h6 v_ s) (zE ty34 (Pc.here _) rfl rfl rb2 rfl) (mem1 (.tail _ (.head _))) rfl ?_
  intro v37u27 r37u27
  replace rb3 := rb3.mono hh6
  refine gl_x (F := fun v_ => (rpT (rpQ k)).Is h6 v_ p) (zE ty32 (Pc.here _) rfl rfl rb3 rfl) (mem1 (.head _)) rfl ?_
  intro v38u27 r38u27
  refine zM (vs := [_, _]) rfl rfl rfl rfl Tryz.call99 ⟨rfl, rfl, trivial⟩ (fun w hs => o_v_side hs r37u27 r38u27 (by omega) (by omega) (by omega)) ?_
  intro v39u27 h7 hh7 r39u27
  obtain rfl : v39u27 = vI (sdZ s p) := r39u27
  have hsd39u27 := sd_range s p
  refine asg rfl rfl (zD (zJ (e' := [(4, _)]) ⟨rfl, trivial⟩ (zB (zQ (yE (gr_in (yE (yE (gr_in (yE (yG rfl rfl ?_)))))))))))
  rfl
 obtain ⟨hsm, hpr⟩ := side_sm hc36
 refine zK (zB (zA (mv rfl rfl (mv rfl rfl (mv rfl rfl (gv (ov_mul_i rfl rfl (by omega) (by omega)) rfl (gv (zS rfl rfl (by omega) (by omega)) rfl (asg rfl rfl (zD (yV (zB (zA (gv ((zS (q := 1) rfl rfl (by omega) (by omega)).cv (show _ = vI (3) from rfl)) rfl ?_)))))))))))))
 refine mv rfl rfl (zD (xY (zC (zA (gv (OpV.fa (by decide) (zW (q := 3) rfl rfl)) rfl (zD (zB (zC (vW rfl (xG (yB (yB (xF ?_)))))))))))))
 refine zJ (e' := [(2, _), (3, _), (5, _)]) ⟨rfl, rfl, rfl, trivial⟩ (zB (zC (zA (gv ((zH Tryz.underlying34 rfl Tryz.sizeOf30 rfl).cv (show _ = vP b2 9 from congrArg (vP b2) (by rfl))) rfl ?_))))
 replace rb2 := rb2.mono (hh5.trans hh6)
 refine gl_x (F := fun v_ => (rpQ l).Is h6 v_ s.2) (zE ty30 (Pc.snd (Pc.here _)) rfl rfl rb2 rfl) (mem1 (.tail _ (.head _))) rfl ?_
 intro v48u28 r48u28
 refine zM (vs := [_]) rfl rfl rfl rfl Tryz.call98 ⟨rfl, trivial⟩ (fun w hs => o_pl_small hs r48u28) ?_
 intro v49u28 h7 hh7 r49u28
 obtain rfl := r49u28
 refine mv rfl rfl (gv (zO (vs := [_, _]) rfl rfl) rfl (gv (zO (vs := [_, _]) rfl rfl) rfl (asg rfl rfl (asg rfl rfl (zD (zB (zC (zC (zA (mv rfl rfl (gv (ov_not rfl) rfl (zD (zB ?_)))))))))))))
 refine zN rfl (fun hc53 => ?_) (fun hc53 => ?_)
 ·
  refine wL (e' := [(2, _), (3, _)]) ⟨rfl, rfl, trivial⟩ (zC (zA ?_))
  replace rb2 := rb2.mono hh7
  refine gl_x (F := fun v_ => (rpP (rpT (rpQ m)) (rpQ l)).Is h7 v_ s) (zE ty34 (Pc.here _) rfl rfl rb2 rfl) (mem1 (.tail _ (.head _))) rfl ?_
  intro v54u28 r54u28
  replace rb3 := rb3.mono (hh6.trans hh7)
  refine gl_x (F := fun v_ => (rpT (rpQ k)).Is h7 v_ p) (zE ty32 (Pc.here _) rfl rfl rb3 rfl) (mem1 (.head _)) rfl ?_
  intro v55u28 r55u28
  refine zM (vs := [_, _]) rfl rfl rfl rfl Tryz.call99 ⟨rfl, rfl, trivial⟩ (fun w hs => o_v_side hs r54u28 r55u28 (by omega) (by omega) (by omega)) ?_
  intro v56u28 h8 hh8 r56u28
  obtain rfl : v56u28 = vI (sdZ s p) := r56u28
  have hsd56u28 := sd_range s p
  refine asg rfl rfl (zD (zB (zQ (yE (yG rfl rfl ?_)))))
  rfl
 have hsb := Classical.not_not.1 hc53
 have hsd := sm_eq hsb
 refine wL (e' := [(5, _), (11, _)]) ⟨rfl, rfl, trivial⟩ (zK (zB (zC (zA (mv rfl rfl (mv rfl rfl (gv (xW rfl rfl (by omega) (by omega)) rfl ?_)))))))
 refine zM (vs := [_]) rfl rfl rfl rfl Tryz.call100 ⟨rfl, trivial⟩ (fun w hs => o_pl_sign hs (by omega) (by omega)) ?_
 intro v60u28 h8 hh8 r60u28
 obtain rfl : v60u28 = vI (sgnZ (((((0 : Int) + ((smZ s.1.x) * (smZ p.x))) + ((smZ s.1.y) * (smZ p.y))) + ((smZ s.1.z) * (smZ p.z))) - (smZ s.2))) := r60u28
 refine asg rfl rfl (zD (zB (zQ (yG rfl rfl ?_))))
 exact congrArg vI (side_sum (by assumption) (by assumption) (by assumption) hsb)

end Go.Proofs.YtghhjjmjpeehdaaGreat


namespace Bk
set_option linter.unusedVariables false
set_option linter.unusedSimpArgs false
open Classical
noncomputable def yLoT (a b : Pt) : Pt := if 0 < cmpQ a.y b.y then b else a
noncomputable def yHiT (a b : Pt) : Pt := if 0 < cmpQ a.y b.y then a else b
noncomputable def whTo (L : List (List Pt)) (p : P2) (i j : Nat) : Nat → Int
  | 0 => -1
  | m + 1 => if insZ (L.getD m []) p i j = 1 then -(whTo L p i j m) else whTo L p i j m
noncomputable def whZ (L : List (List Pt)) (p : P2) (i j : Nat) : Int := if ∃ m, m < L.length ∧ insZ (L.getD m []) p i j = 0 then 0 else whTo L p i j L.length
end Bk


namespace Bk
set_option linter.unusedVariables false
set_option linter.unusedSimpArgs false
open Classical
def cutsP (a b : List Pt) (i j p q : Nat) : Prop := 1 < touch2 (edgeA a i j p) (edgeB a i j p) (edgeA b i j q) (edgeB b i j q)
def crossesP (a b : List Pt) (i j : Nat) : Prop := ∃ p q, p < a.length ∧ q < b.length ∧ cutsP a b i j p q
theorem one_step {Q : Nat → Prop} {q : Nat} (h : ∀ v, v < q → Q v) (h1 : Q q) : ∀ v, v < q + 1 → Q v := fun v hv => by
  rcases Nat.lt_succ_iff_lt_or_eq.1 hv with h2 | h2
  · exact h v h2
  · subst h2; exact h1
noncomputable def mid2 (u v : P2) : P2 := (midQ u.1 v.1, midQ u.2 v.2)
noncomputable def withTo (c l : List Pt) (i j : Nat) : Nat → Int
  | 0 => 0
  | m + 1 => if insZ c (mid2 (edgeA l i j m) (edgeB l i j m)) i j = 1 then withTo c l i j m + 1 else withTo c l i j m
def arZ (l : List Pt) (i j : Nat) : Rat := areaTo l i j l.length
noncomputable def wiZ (c l : List Pt) (i j : Nat) : Int := withTo c l i j l.length
abbrev gl (L : List (List Pt)) (m : Nat) : List Pt := L.getD m []
def betP (L : List (List Pt)) (i j k m : Nat) (best : Int) : Prop :=
  (0 < sgnQ (arZ (gl L m) i j) ∧ wiZ (gl L m) (gl L k) i j = ↑(gl L k).length) ∧ (best < 0 ∨ cmpQ (arZ (gl L m) i j) (arZ (gl L best.toNat) i j) < 0)
noncomputable def parTo (L : List (List Pt)) (i j k : Nat) : Nat → Int
  | 0 => -1
  | m + 1 => if betP L i j k m (parTo L i j k m) then ↑m else parTo L i j k m
noncomputable def pZ (L : List (List Pt)) (i j k : Nat) : Int := if 0 < sgnQ (arZ (gl L k) i j) then -1 else parTo L i j k L.length
def sibP (L : List (List Pt)) (i j a b : Nat) : Prop := ((¬ b = a ∧ 0 ≤ pZ L i j a) ∧ pZ L i j b = pZ L i j a) ∧ 0 < wiZ (gl L b) (gl L a) i j
def lostP (L : List (List Pt)) (i j k : Nat) : Prop := ¬ 0 < sgnQ (arZ (gl L k) i j) ∧ parTo L i j k L.length < 0
noncomputable def nestE (L : List (List Pt)) (i j : Nat) : Int :=
  if 16 < L.length ∨ ∃ m, m < L.length ∧ 64 < (gl L m).length then 2
  else if ∃ m, m < L.length ∧ ¬ simP (gl L m) i j then 8
  else if ∃ a b, a < b ∧ b < L.length ∧ crossesP (gl L a) (gl L b) i j then 32
  else if (∃ k, k < L.length ∧ lostP L i j k) ∨ ∃ a b, a < L.length ∧ b < L.length ∧ sibP L i j a b then 33 else 0
noncomputable def nestL (L : List (List Pt)) (i j : Nat) : List Int := if nestE L i j = 0 then (List.range L.length).map (pZ L i j) else []
theorem getD_set {α : Type} {l : List α} {k q : Nat} {x d : α} (hk : k < l.length) : (l.set k x).getD q d = if q = k then x else l.getD q d := by
  rw [List.getD_eq_getElem?_getD, List.getD_eq_getElem?_getD, List.getElem?_set]
  by_cases h : k = q
  · rw [if_pos h, if_pos hk, if_pos h.symm]; rfl
  · rw [if_neg h, if_neg (fun e => h e.symm)]
theorem set_next {α : Type} {l : List α} {k : Nat} {x d : α} {f : Nat → α} (hk : k < l.length) (h : ∀ q, q < k → l.getD q d = f q) (hx : x = f k) : ∀ q, q < k + 1 → (l.set k x).getD q d = f q := fun q hq => by
  rw [getD_set hk]
  split
  · rename_i e; rw [e, hx]
  · exact h q (by omega)
theorem set_at {α : Type} {l : List α} {k : Nat} {x d : α} (hk : k < l.length) : (l.set k x).getD k d = x := by rw [getD_set hk, if_pos rfl]
end Bk
