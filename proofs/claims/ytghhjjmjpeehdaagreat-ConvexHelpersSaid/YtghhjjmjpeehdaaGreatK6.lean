/- Texts that the proof needs, part 6. -/
import Derived.Test.YtghhjjmjpeehdaaGreatK5
namespace Bk
set_option linter.unusedVariables false
set_option linter.unusedSimpArgs false
open Classical
noncomputable def sqrL (s : Pl) (x0 y0 x1 y1 : Rat) : List Pt := [liftZ s (T3.mk x0 y0 (0 : Rat)), liftZ s (T3.mk x1 y0 (0 : Rat)), liftZ s (T3.mk x1 y1 (0 : Rat)), liftZ s (T3.mk x0 y1 (0 : Rat))]
noncomputable def loT2 (s : Pl) (ps : List Pt) : Nat → Pt
  | 0 => flatZ s (gp ps 0)
  | m + 1 => T3.mk (minQ (loT2 s ps m).x (flatZ s (gp ps m)).x) (minQ (loT2 s ps m).y (flatZ s (gp ps m)).y) (loT2 s ps m).z
noncomputable def hiT2 (s : Pl) (ps : List Pt) : Nat → Pt
  | 0 => flatZ s (gp ps 0)
  | m + 1 => T3.mk (maxQ (hiT2 s ps m).x (flatZ s (gp ps m)).x) (maxQ (hiT2 s ps m).y (flatZ s (gp ps m)).y) (hiT2 s ps m).z
noncomputable def aroZ (s : Pl) (ps : List Pt) : List Pt :=
  if ps.length = 0 ∨ s.1 = zT then [] else sqrL s ((loT2 s ps ps.length).x - ((1 : Int) : Rat)) ((loT2 s ps ps.length).y - ((1 : Int) : Rat)) ((hiT2 s ps ps.length).x + ((1 : Int) : Rat)) ((hiT2 s ps ps.length).y + ((1 : Int) : Rat))
theorem gp_drop (ps : List Pt) (i : Nat) : (ps.drop 1).getD i (T3.mk (0 : Rat) 0 0) = gp ps (i + 1) := by
  unfold gp
  rw [List.getD_eq_getElem?_getD, List.getD_eq_getElem?_getD, List.getElem?_drop, Nat.add_comm]
noncomputable def loK (s : Pl) (ps : List Pt) (i : Nat) : Nat → List Rat
  | 0 => [(loT2 s ps (i + 1)).x, (loT2 s ps (i + 1)).y]
  | 1 => [(loT2 s ps (i + 2)).x, (loT2 s ps (i + 1)).y]
  | _ => [(loT2 s ps (i + 2)).x, (loT2 s ps (i + 2)).y]
noncomputable def hiK (s : Pl) (ps : List Pt) (i : Nat) : Nat → List Rat
  | 0 => [(hiT2 s ps (i + 1)).x, (hiT2 s ps (i + 1)).y]
  | 1 => [(hiT2 s ps (i + 2)).x, (hiT2 s ps (i + 1)).y]
  | _ => [(hiT2 s ps (i + 2)).x, (hiT2 s ps (i + 2)).y]
theorem lo_one (s : Pl) (ps : List Pt) : loK s ps 0 0 = [(gp ps 0).at (axI s.1), (gp ps 0).at (axJ s.1)] := by
  show [minQ (flatZ s (gp ps 0)).x (flatZ s (gp ps 0)).x, minQ (flatZ s (gp ps 0)).y (flatZ s (gp ps 0)).y] = _
  rw [minQ_self, minQ_self]; rfl
theorem hi_one (s : Pl) (ps : List Pt) : hiK s ps 0 0 = [(gp ps 0).at (axI s.1), (gp ps 0).at (axJ s.1)] := by
  show [maxQ (flatZ s (gp ps 0)).x (flatZ s (gp ps 0)).x, maxQ (flatZ s (gp ps 0)).y (flatZ s (gp ps 0)).y] = _
  rw [maxQ_self, maxQ_self]; rfl
theorem lo_two (s : Pl) (ps : List Pt) (i : Nat) {j : Nat} (hj : j < 2) : (loK s ps i j).set j (minQ ((loK s ps i j).getD j 0) ([((ps.drop 1).getD i (T3.mk (0 : Rat) 0 0)).at (axI s.1), ((ps.drop 1).getD i (T3.mk (0 : Rat) 0 0)).at (axJ s.1)].getD j 0)) = loK s ps i (j + 1) := by
  rw [gp_drop]
  match j, hj with
  | 0, _ => rfl
  | 1, _ => rfl
theorem hi_two (s : Pl) (ps : List Pt) (i : Nat) {j : Nat} (hj : j < 2) : (hiK s ps i j).set j (maxQ ((hiK s ps i j).getD j 0) ([((ps.drop 1).getD i (T3.mk (0 : Rat) 0 0)).at (axI s.1), ((ps.drop 1).getD i (T3.mk (0 : Rat) 0 0)).at (axJ s.1)].getD j 0)) = hiK s ps i (j + 1) := by
  rw [gp_drop]
  match j, hj with
  | 0, _ => rfl
  | 1, _ => rfl
noncomputable def liftTo (s : Pl) (X : List Pt) : Nat → List Pt
  | 0 => []
  | j + 1 => liftTo s X j ++ [liftZ s (X.getD j (T3.mk (0 : Rat) 0 0))]
theorem lift_len (s : Pl) (X : List Pt) : ∀ j, (liftTo s X j).length = j
  | 0 => rfl
  | j + 1 => by rw [liftTo, lAz, lift_len s X j]; rfl
def cor4 (x y u v : Rat) : List Pt := [T3.mk x y (0 : Rat), T3.mk u y (0 : Rat), T3.mk u v (0 : Rat), T3.mk x v (0 : Rat)]
theorem lo_hi2 (s : Pl) (ps : List Pt) : ∀ m, (loT2 s ps m).x ≤ (hiT2 s ps m).x ∧ (loT2 s ps m).y ≤ (hiT2 s ps m).y
  | 0 => ⟨Rat.le_refl, Rat.le_refl⟩
  | m + 1 => by
    obtain ⟨h1, h2⟩ := lo_hi2 s ps m
    have key : ∀ {a b c : Rat}, a ≤ b → minQ a c ≤ maxQ b c := fun {a b c} h => by
      unfold minQ maxQ
      split <;> split <;> grind
    exact ⟨key h1, key h2⟩
theorem rect_tri {x0 y0 x1 y1 : Rat} (hx : x0 < x1) (hy : y0 < y1) : triT (fun m => (([(x0, y0), (x1, y0), (x1, y1), (x0, y1)] : List P2)).getD m (0, 0)) 4 := by
  have hp : 0 < (x1 - x0) * (y1 - y0) := Rat.mul_pos (by grind) (by grind)
  intro i j k hij hjk hk
  have h : (i = 0 ∧ j = 1 ∧ k = 2) ∨ (i = 0 ∧ j = 1 ∧ k = 3) ∨ (i = 0 ∧ j = 2 ∧ k = 3) ∨ (i = 1 ∧ j = 2 ∧ k = 3) := by omega
  rcases h with ⟨rfl, rfl, rfl⟩ | ⟨rfl, rfl, rfl⟩ | ⟨rfl, rfl, rfl⟩ | ⟨rfl, rfl, rfl⟩ <;> simp [cr] <;> grind
theorem pt2_lift {s : Pl} {q : Pt} (h : ¬ s.1.at (axK s.1) = 0) : pt2 s (liftZ s q) = (q.x, q.y) := by
  unfold liftZ
  rw [if_neg h]
  generalize liftQ s q = u
  unfold pt2 pr
  rcases ax_perm s.1 with ⟨e1, e2, e3⟩ | ⟨e1, e2, e3⟩ | ⟨e1, e2, e3⟩ | ⟨e1, e2, e3⟩ | ⟨e1, e2, e3⟩ | ⟨e1, e2, e3⟩ <;> rw [e1, e2, e3] <;> rfl
theorem sqr_conv {s : Pl} {x0 y0 x1 y1 : Rat} (hn : ¬ s.1 = zT) (hx : x0 < x1) (hy : y0 < y1) : convP s (sqrL s x0 y0 x1 y1) := by
  have hk : ¬ s.1.at (axK s.1) = 0 := fun e => hn ((ax_zero _).1 e)
  have hc : ∀ m, m < 4 → m = 0 ∨ m = 1 ∨ m = 2 ∨ m = 3 := fun m hm => by omega
  refine valid_of (by show 3 ≤ 4; omega) hn (fun m hm => ?_) ?_
  · rcases hc m hm with rfl | rfl | rfl | rfl <;> exact side_lift hk
  · have h := rect_tri hx hy
    have e : ∀ m, m < 4 → pt2 s (gp (sqrL s x0 y0 x1 y1) m) = (([(x0, y0), (x1, y0), (x1, y1), (x0, y1)] : List P2)).getD m (0, 0) := fun m hm => by
      rcases hc m hm with rfl | rfl | rfl | rfl <;> exact pt2_lift hk
    intro i j k hij hjk hk
    have hk' : k < 4 := hk
    show 0 < cr (pt2 s (gp _ i)) (pt2 s (gp _ j)) (pt2 s (gp _ k))
    rw [e i (by omega), e j (by omega), e k hk']
    exact h i j k hij hjk hk'
theorem aro_conv {s : Pl} {ps : List Pt} (hl : ¬ ps.length = 0) (hn : ¬ s.1 = zT) : convP s (aroZ s ps) ∧ (aroZ s ps).length = 4 := by
  unfold aroZ
  rw [if_neg (fun e => e.elim hl hn)]
  obtain ⟨h1, h2⟩ := lo_hi2 s ps ps.length
  have e : (((1 : Int) : Rat)) = 1 := rfl
  rw [e]
  exact ⟨sqr_conv hn (by grind) (by grind), rfl⟩
def i3 (x y z : Int) : Pt := T3.mk ((x : Int) : Rat) ((y : Int) : Rat) ((z : Int) : Rat)
def sq0 : List Pt := [i3 0 0 0, i3 2 0 0, i3 2 2 0, i3 0 2 0]
theorem sq0_conv : convP (i3 0 0 1, (0 : Rat)) sq0 := by
  have hn : ¬ (i3 0 0 1) = zT := fun e => absurd (congrArg T3.z e) (by decide +kernel)
  have e1 : axI (i3 0 0 1) = 0 := if_pos (by decide +kernel)
  have e2 : axJ (i3 0 0 1) = 1 := if_pos (by decide +kernel)
  have hc : ∀ m, m < 4 → m = 0 ∨ m = 1 ∨ m = 2 ∨ m = 3 := fun m hm => by omega
  refine valid_of (by show 3 ≤ 4; omega) hn (fun m hm => ?_) ?_
  · rw [sd_zero]
    rcases hc m hm with rfl | rfl | rfl | rfl <;> decide +kernel
  · have h := rect_tri (x0 := 0) (y0 := 0) (x1 := 2) (y1 := 2) (by decide +kernel) (by decide +kernel)
    have e : ∀ m, m < 4 → pt2 (i3 0 0 1, (0 : Rat)) (gp sq0 m) = (([((0 : Rat), (0 : Rat)), (2, 0), (2, 2), (0, 2)] : List P2)).getD m (0, 0) := fun m hm => by
      unfold pt2
      simp only [e1, e2]
      rcases hc m hm with rfl | rfl | rfl | rfl <;> rfl
    intro i j k hij hjk hk
    have hk' : k < 4 := hk
    show 0 < cr (pt2 _ (gp _ i)) (pt2 _ (gp _ j)) (pt2 _ (gp _ k))
    rw [e i (by omega), e j (by omega), e k hk']
    exact h i j k hij hjk hk'
def pl0 : Pl := (i3 1 0 0, (1 : Rat))
theorem sane_parts : cutB pl0 sq0 = [i3 0 0 0, btw pl0 (i3 0 0 0) (i3 2 0 0), btw pl0 (i3 2 2 0) (i3 0 2 0), i3 0 2 0] ∧ cutF pl0 sq0 = [btw pl0 (i3 0 0 0) (i3 2 0 0), i3 2 0 0, i3 2 2 0, btw pl0 (i3 2 2 0) (i3 0 2 0)] := by
  have m1 : sdZ pl0 (gp sq0 0) = -1 := sgn_mone.2 (by decide +kernel)
  have m2 : sdZ pl0 (gp sq0 1) = 1 := sgn_one.2 (by decide +kernel)
  have m3 : sdZ pl0 (gp sq0 2) = 1 := sgn_one.2 (by decide +kernel)
  have m4 : sdZ pl0 (gp sq0 3) = -1 := sgn_mone.2 (by decide +kernel)
  have x1 : xP pl0 sq0 0 := by show sdZ pl0 (gp sq0 0) * sdZ pl0 (gp sq0 1) < 0; rw [m1, m2]; decide
  have x2 : ¬ xP pl0 sq0 1 := by show ¬ sdZ pl0 (gp sq0 1) * sdZ pl0 (gp sq0 2) < 0; rw [m2, m3]; decide
  have x3 : xP pl0 sq0 2 := by show sdZ pl0 (gp sq0 2) * sdZ pl0 (gp sq0 3) < 0; rw [m3, m4]; decide
  have x4 : ¬ xP pl0 sq0 3 := by show ¬ sdZ pl0 (gp sq0 3) * sdZ pl0 (gp sq0 0) < 0; rw [m4, m1]; decide
  have hb : behTo pl0 sq0 sq0.length := (beh_iff _).2 ⟨0, by decide, by rw [m1]; decide⟩
  have ha : aheTo pl0 sq0 sq0.length := (ahe_iff _).2 ⟨1, by decide, by rw [m2]; decide⟩
  rw [(cut_both ha hb).1, (cut_both ha hb).2]
  have b1 := bk_ax (B := []) (pl := pl0) (l := sq0) (m := 0) rfl (by rw [m1]; decide) x1
  have b2 := bk_n b1 (by rw [m2]; decide) x2
  have b3 := bk_x b2 (by rw [m3]; decide) x3
  have b4 := bk_a b3 (by rw [m4]; decide) x4
  have f1 := fr_x (B := []) (pl := pl0) (l := sq0) (m := 0) rfl (by rw [m1]; decide) x1
  have f2 := fr_a f1 (by rw [m2]; decide) x2
  have f3 := fr_ax f2 (by rw [m3]; decide) x3
  have f4 := fr_n f3 (by rw [m4]; decide) x4
  exact ⟨b4.symm, f4.symm⟩
theorem sane_pt : btw pl0 (i3 0 0 0) (i3 2 0 0) = i3 1 0 0 := by
  unfold btw cutT lerp i3
  rw [T3.mk.injEq]
  decide +kernel
end Bk
namespace Go.Proofs.YtghhjjmjpeehdaaGreat
open Bk Go Tryz
set_option linter.unusedVariables false
set_option linter.unusedSimpArgs false
set_option maxRecDepth 10000
theorem o_r4_samelist {w0 : World} {h0 : Mem}  (hs : MLe h0 (mem w0)) {k l : Nat} {va : Value} {a : (List (T3 Rat))} (ra : (rpS (rpT (rpQ k))).Is h0 va a) {vb : Value} {b : (List (T3 Rat))} (rb : (rpS (rpT (rpQ l))).Is h0 vb b) (hcd0 : k + l ≤ 1000000000)  :
    Calls Tryz.prog 16 #[va, vb] w0 (Ret w0 h0 (fun _ r => r = vB (a = b))) := by
 have hla := s_lt ra
 refine zO (n := 27) (e := [(0, va), (1, vb)]) (vs := [va, vb]) func16 rfl rfl (bL rfl) hs e2z (zC (zA (asg rfl rfl (zD (zB (zC (zC (zA (mv rfl rfl (gv (ov_len_sr underlying27 rfl ra) rfl (mv rfl rfl (gv (ov_len_sr underlying27 rfl rb) rfl (gv (ov_neq_i rfl rfl) rfl ?_)))))))))))))
 refine zD (zB ?_)
 refine zP rfl (fun hc10 => ?_) (fun hc10 => ?_)
 ·
  refine zC (zA (asg rfl rfl (zD (zB (zR (yA (yJ rfl rfl ?_)))))))
  exact (xD (fun e => hc10 (by rw [e]))).symm
 have hlen : a.length = b.length := by omega
 refine zL (zB (zC (zC (zA (asg (v := vI (0)) rfl rfl (zD (zB (zQ ?_))))))))
 refine gc_loop (ι := Nat × Mem) (fun (i, ma) => MLe h0 ma ∧ (i ≤ a.length ∧ ∀ u, u < i → a.getD u (T3.mk (0 : Rat) 0 0) = b.getD u (T3.mk (0 : Rat) 0 0))) (fun (i, ma) => [(0, va), (1, vb), (5, vI ↑i)]) (fun (i, ma) => []) (fun (i, ma) => ma) (fun (i, ma) => a.length - i) (0, h0) ?_ e3z rfl rfl ?_
 ·
  refine ⟨MLe.refl _, ?_⟩
  exact ⟨by omega, fun u h => by omega⟩
 intro x hx
 obtain ⟨i, ma⟩ := x
 obtain ⟨hmma, hinv⟩ := hx
 show GC _ _ _ _ _ _ [(0, va), (1, vb), (5, vI ↑i)] [] ma
 obtain ⟨hi1, hi2⟩ := hinv
 refine zC (zC (zA (mv rfl rfl (mv rfl rfl ?_))))
 replace ra := ra.mono hmma
 refine gv (ov_len_sr underlying27 rfl ra) rfl (gv (zW rfl rfl) rfl (zD (zB ?_)))
 refine zP rfl (fun hc14 => ?_) (fun hc14 => ?_)
 ·
  refine zL (zB (zC (zQ (zC ?_))))
  refine yG 10 _ [] [(0, .q), (1, .q), (2, .q), (3, .q), (4, .q), (5, .q), (6, .q), (7, .q), (8, .c), (9, .q)] xG nX (by kernel_rfl) nX (fun r hr => hr) (w_q rfl (fun h' L' hh hR => zH rfl) rfl (w_q rfl (fun h' L' hh hR => zH rfl) rfl (yO (F := fun v_ => AtP (rpT (rpQ k)) ma v_ (a.getD i (T3.mk (0 : Rat) 0 0))) rfl (ox_idx_s (T3.mk (0 : Rat) 0 0) i underlying27 xF rfl rfl ra rfl (by omega) p9N) mem0 rfl ?_)))
  intro v19 r19
  refine yO (F := fun v_ => (rpT (rpQ k)).Is ma v_ (a.getD i (T3.mk (0 : Rat) 0 0))) rfl (ox_load_at xF rfl r19) mem0 rfl ?_
  intro v20 r20
  refine w_q rfl (fun h' L' hh hR => zH rfl) rfl (w_q rfl (fun h' L' hh hR => zH rfl) rfl ?_)
  replace rb := rb.mono hmma
  refine yO (F := fun v_ => AtP (rpT (rpQ l)) ma v_ (b.getD i (T3.mk (0 : Rat) 0 0))) rfl (ox_idx_s (T3.mk (0 : Rat) 0 0) i underlying27 xF rfl rfl rb rfl (by omega) p9N) mem0 rfl ?_
  intro v23 r23
  refine yO (F := fun v_ => (rpT (rpQ l)).Is ma v_ (b.getD i (T3.mk (0 : Rat) 0 0))) rfl (ox_load_at xF rfl r23) mem0 rfl ?_
  intro v24 r24
  refine w_c rfl ?_
  refine zY (vs := [_, _]) call29 e2z (fun w hs => o_r4_same hs r20 r24 (by omega)) rfl ?_
  intro v25 h1 hh1 r25
  obtain rfl : v25 = vB ((a.getD i (T3.mk (0 : Rat) 0 0)) = (b.getD i (T3.mk (0 : Rat) 0 0))) := r25
  refine w_q rfl (fun h' L' hh hR => ov_not rfl) rfl (yZ (zK (e' := [(0, _), (1, _), (5, _), (26, _)]) e4z (zB ?_)))
  refine zP rfl (fun hc26 => ?_) (fun hc26 => ?_)
  ·
   refine zC (zA (asg rfl rfl (zD (zB (zR (gr_in (yA (yA (gr_in (yA (yJ rfl rfl ?_)))))))))))
   exact (xD (fun e => hc26 (by rw [e]))).symm
  refine zL (yY (zB (zA (mv rfl rfl (gv (zS (q := 1) rfl rfl (by omega) (by omega)) rfl (asg rfl rfl (zD ?_)))))))
  refine yW ((i + 1), h1) ?_ ?_ e3z rfl rfl
  ·
   refine ⟨(hmma.trans hh1), ?_⟩
   exact ⟨by omega, one_step (Q := fun u => a.getD u (T3.mk (0 : Rat) 0 0) = b.getD u (T3.mk (0 : Rat) 0 0)) hi2 (Classical.not_not.1 hc26)⟩
  dsimp only
  omega
 refine xK (yE (yE (xJ (zB (zC (zA (asg rfl rfl (zD (zB (zR (yJ rfl rfl ?_)))))))))))
 exact (vB_true (list_same hlen (fun u hu => hi2 u (by omega)))).symm
theorem o_r6_square {w0 : World} {h0 : Mem}  (hs : MLe h0 (mem w0)) {m l k : Nat} {vs : Value} {s : ((T3 Rat) × Rat)} (rs : (rpP (rpT (rpQ m)) (rpQ l)).Is h0 vs s) {vx : Value} {x : Rat} (rx : (rpQ k).Is h0 vx x) {vy : Value} {y : Rat} (ry : (rpQ k).Is h0 vy y) {vu : Value} {u : Rat} (ru : (rpQ k).Is h0 vu u) {vv : Value} {v : Rat} (rv : (rpQ k).Is h0 vv v) (hcd0 : k ≤ 100000) (hcd1 : l ≤ 100000) (hcd2 : m ≤ 100000)  :
    Calls Tryz.prog 76 #[vs, vx, vy, vu, vv] w0 (Ret w0 h0 (fun h r => (rpS (rpT (rpQ (3 * k + l + 4 * m + 33)))).Is h r (sqrL s x y u v))) := by
 refine zO (n := 46) (e := [(0, vs), (1, vx), (2, vy), (3, vu), (4, vv)]) (vs := [vs, vx, vy, vu, vv]) func76 rfl rfl (bL rfl) hs e5 (zC (zA (zJ (yU (ρ := (rpP (rpT (rpQ m)) (rpQ l))) rfl rs) rfl rfl rfl ?_)))
 intro v5 q5 hq5
 obtain ⟨b5, cs5, rfl, rfl, rb5⟩ := hq5
 refine zJ (yU (ρ := (rpQ k)) rfl rx) rfl rfl rfl ?_
 intro v6 q6 hq6
 obtain ⟨b6, cs6, rfl, rfl, rb6⟩ := hq6
 refine zJ (yU (ρ := (rpQ k)) rfl ry) rfl rfl rfl ?_
 intro v7 q7 hq7
 obtain ⟨b7, cs7, rfl, rfl, rb7⟩ := hq7
 refine zJ (yU (ρ := (rpQ k)) rfl ru) rfl rfl rfl ?_
 intro v8 q8 hq8
 obtain ⟨b8, cs8, rfl, rfl, rb8⟩ := hq8
 refine zJ (yU (ρ := (rpQ k)) rfl rv) rfl rfl rfl ?_
 intro v9 q9 hq9
 obtain ⟨b9, cs9, rfl, rfl, rb9⟩ := hq9
 refine asg rfl rfl (zD (zB (zC (zA (asg rfl rfl (zD (zB (zC (zA (xQ (F := fun v_ => (rpQ k).Is h0 v_ x) (zE xA (Pc.here _) rfl rfl rb6 rfl) (yD (.tail _ (.tail _ (.tail _ (.head _))))) rfl ?_))))))))))
 intro v16 r16
 refine xQ (F := fun v_ => (rpQ k).Is h0 v_ y) (zE xA (Pc.here _) rfl rfl rb7 rfl) (yD (.tail _ (.tail _ (.head _)))) rfl ?_
 intro v17 r17
 refine xQ (F := fun v_ => (rpT (rpQ (k + 1))).Is h0 v_ (T3.mk x y (0 : Rat))) (ox_build_arr (ps' := [(0, _), (1, _)]) underlying32 yI rfl rfl sizeOf30 e4z rfl (zr_t (xS (by omega))) (yN rfl (Pc.tx (Pc.here _)) (r16.le (Le.q (l := k + 1) (by omega))) (yN rfl (Pc.ty (Pc.here _)) (r17.le (Le.q (l := k + 1) (by omega))) fx_nil))) mem0 rfl ?_
 intro v18 r18
 refine xQ (F := fun v_ => (rpQ k).Is h0 v_ u) (zE xA (Pc.here _) rfl rfl rb8 rfl) (yD (.tail _ (.head _))) rfl ?_
 intro v19 r19
 refine xQ (F := fun v_ => (rpQ k).Is h0 v_ y) (zE xA (Pc.here _) rfl rfl rb7 rfl) (yD (.tail _ (.tail _ (.head _)))) rfl ?_
 intro v20 r20
 refine xQ (F := fun v_ => (rpT (rpQ (k + 1))).Is h0 v_ (T3.mk u y (0 : Rat))) (ox_build_arr (ps' := [(0, _), (1, _)]) underlying32 yI rfl rfl sizeOf30 e4z rfl (zr_t (xS (by omega))) (yN rfl (Pc.tx (Pc.here _)) (r19.le (Le.q (l := k + 1) (by omega))) (yN rfl (Pc.ty (Pc.here _)) (r20.le (Le.q (l := k + 1) (by omega))) fx_nil))) mem0 rfl ?_
 intro v21 r21
 refine xQ (F := fun v_ => (rpQ k).Is h0 v_ u) (zE xA (Pc.here _) rfl rfl rb8 rfl) (yD (.tail _ (.head _))) rfl ?_
 intro v22 r22
 refine xQ (F := fun v_ => (rpQ k).Is h0 v_ v) (zE xA (Pc.here _) rfl rfl rb9 rfl) (yD (.head _)) rfl ?_
 intro v23 r23
 refine xQ (F := fun v_ => (rpT (rpQ (k + 1))).Is h0 v_ (T3.mk u v (0 : Rat))) (ox_build_arr (ps' := [(0, _), (1, _)]) underlying32 yI rfl rfl sizeOf30 e4z rfl (zr_t (xS (by omega))) (yN rfl (Pc.tx (Pc.here _)) (r22.le (Le.q (l := k + 1) (by omega))) (yN rfl (Pc.ty (Pc.here _)) (r23.le (Le.q (l := k + 1) (by omega))) fx_nil))) mem0 rfl ?_
 intro v24 r24
 refine xQ (F := fun v_ => (rpQ k).Is h0 v_ x) (zE xA (Pc.here _) rfl rfl rb6 rfl) (yD (.tail _ (.tail _ (.tail _ (.head _))))) rfl ?_
 intro v25 r25
 refine xQ (F := fun v_ => (rpQ k).Is h0 v_ v) (zE xA (Pc.here _) rfl rfl rb9 rfl) (yD (.head _)) rfl ?_
 intro v26 r26
 refine xQ (F := fun v_ => (rpT (rpQ (k + 1))).Is h0 v_ (T3.mk x v (0 : Rat))) (ox_build_arr (ps' := [(0, _), (1, _)]) underlying32 yI rfl rfl sizeOf30 e4z rfl (zr_t (xS (by omega))) (yN rfl (Pc.tx (Pc.here _)) (r25.le (Le.q (l := k + 1) (by omega))) (yN rfl (Pc.ty (Pc.here _)) (r26.le (Le.q (l := k + 1) (by omega))) fx_nil))) mem0 rfl ?_
 intro v27 r27
 refine xQ (F := fun v_ => (rpA 4 (rpT (rpQ (k + 1)))).Is h0 v_ [(T3.mk x y (0 : Rat)), (T3.mk u y (0 : Rat)), (T3.mk u v (0 : Rat)), (T3.mk x v (0 : Rat))]) (ox_build_arr (ps' := [(0, _), (1, _), (2, _), (3, _)]) underlying119 info119 rfl rfl sizeOf32 e8 rfl (zr_a 4 (zr_t (xS (by omega)))) (yN rfl (Pc.arr (Pc.here _) (T3.mk (0 : Rat) 0 0) 0 (by decide)) r18 (yN rfl (Pc.arr (Pc.here _) (T3.mk (0 : Rat) 0 0) 1 (by decide)) r21 (yN rfl (Pc.arr (Pc.here _) (T3.mk (0 : Rat) 0 0) 2 (by decide)) r24 (yN rfl (Pc.arr (Pc.here _) (T3.mk (0 : Rat) 0 0) 3 (by decide)) r27 fx_nil))))) mem0 rfl ?_
 intro v28 r28
 refine zJ (yQ (ρ := (rpA 4 (rpT (rpQ 1)))) (X := (List.replicate 4 (T3.mk (0 : Rat) 0 0))) info119 rfl rfl (zr_a 4 (zr_t (xS (by decide))))) rfl rfl rfl ?_
 intro v12 q12 hq12
 obtain ⟨b12, cs12, rfl, rfl, rb12⟩ := hq12
 have rw_1 := (Le.a (Le.t (Le.q (l := k + 1) (by omega)))).R rb12
 refine xO (A := []) (F := fun c_ => (rpA 4 (rpT (rpQ (k + 1)))).R h0 c_ [(T3.mk x y (0 : Rat)), (T3.mk u y (0 : Rat)), (T3.mk u v (0 : Rat)), (T3.mk x v (0 : Rat))]) (zX sizeOf119 (Pc.here _) rfl rfl rfl rw_1 r28 rfl) ?_
 intro cs_2 rb_3
 refine zD (zK (e' := [(5, _), (11, _), (12, _)]) e3z (zB (zC (zC (zA (asg (v := vI (0)) rfl rfl (zD (zB (zQ (gc_loop1 (zC (zC (zA ?_)))))))))))))
 refine mv rfl rfl (gv (OpV.tr (by decide) (zW (q := 4) rfl rfl)) rfl (zD (zB (xC rfl (zL (zB (zC (zQ (zC ?_)))))))))
 refine yG 11 _ [(8, (14, 32, [.bool false, .slice none 0 0, .slice none 0 0, .bool false, .slice none 0 0, .slice none 0 0, .bool false, .slice none 0 0, .slice none 0 0]))] [(0, .q), (1, .q), (2, .q), (3, .q), (4, .c), (5, .q), (6, .q), (7, .q), (8, .a), (9, .c), (10, .q)] xG (AlOk.cons rfl rfl (zero_run yI rfl rfl) AlOk.nil) (by kernel_rfl) (hae_cons rfl rfl hae_nil) (fun r hr => hr) (yO (F := fun v_ => (rpP (rpT (rpQ m)) (rpQ l)).Is h0 v_ s) rfl (zE ty34 (Pc.here _) rfl rfl rb5 rfl) (yD (.tail _ (.tail _ (.tail _ (.tail _ (.tail _ (.head _))))))) rfl ?_)
 intro v34u1 r34u1
 refine w_q rfl (fun h' L' hh hR => zH rfl) rfl (w_q rfl (fun h' L' hh hR => (zF (sz := 9) 0 underlying119 sizeOf32 rfl rfl rfl (by decide)).cv (show _ = vP b12 0 from congrArg (vP b12) (by rfl))) rfl (yO (F := fun v_ => (rpT (rpQ (k + 1))).Is h0 v_ ([(T3.mk x y (0 : Rat)), (T3.mk u y (0 : Rat)), (T3.mk u v (0 : Rat)), (T3.mk x v (0 : Rat))].getD 0 (T3.mk (0 : Rat) 0 0))) rfl (zE xF (Pc.arr (Pc.here _) (T3.mk (0 : Rat) 0 0) 0 (by decide)) rfl rfl rb_3 rfl) (yD (.head _)) rfl ?_))
 intro v37u1 r37u1
 refine w_c rfl ?_
 refine zY (vs := [_, _]) call114 e2z (fun w hs => o_r5_lift hs r34u1 r37u1 (by omega) (by omega) (by omega)) rfl ?_
 intro v38u1 h1 hh1 r38u1
 obtain ⟨v38u1_0, rfl, r38u1_0⟩ := r38u1
 change (rpT (rpQ (3 * (k + 1) + l + 4 * m + 30))).Is h1 v38u1_0 (liftZ s ([(T3.mk x y (0 : Rat)), (T3.mk u y (0 : Rat)), (T3.mk u v (0 : Rat)), (T3.mk x v (0 : Rat))].getD 0 (T3.mk (0 : Rat) 0 0))) at r38u1_0
 replace r38u1_0 := Rp.Is.le r38u1_0 (Le.t (Le.q (l := 3 * k + l + 4 * m + 33) (by omega)))
 refine w_q rfl (fun h' L' hh hR => zH rfl) rfl (w_q rfl (fun h' L' hh hR => zN (vs := [_, _]) rfl rfl) rfl (w_q rfl (fun h' L' hh hR => zN (vs := [_, _]) rfl rfl) rfl ?_))
 refine w_a rfl rfl (fun b14u1 => ?_)
 have rb14u1 : (rpT (rpQ (3 * k + l + 4 * m + 33))).R h1 [.bool false, .slice none 0 0, .slice none 0 0, .bool false, .slice none 0 0, .slice none 0 0, .bool false, .slice none 0 0, .slice none 0 0] (T3.mk (0 : Rat) 0 0) := (zr_t (xS (by omega)))
 refine w_c rfl (s_updx (A := []) (F := fun c_ => (rpT (rpQ (3 * k + l + 4 * m + 33))).R h1 c_ (liftZ s ([(T3.mk x y (0 : Rat)), (T3.mk u y (0 : Rat)), (T3.mk u v (0 : Rat)), (T3.mk x v (0 : Rat))].getD 0 (T3.mk (0 : Rat) 0 0)))) (zX sizeOf32 (Pc.here _) rfl rfl rfl rb14u1 r38u1_0 rfl) (mem_kept (by first | (simp; done) | grind)) ?_)
 intro cs_4 rb_5
 refine w_q rfl (fun h' L' hh hR => yK rfl) rfl (yZ (zK (e' := [(5, _), (11, _), (12, _), (13, _), (14, _)]) e5 (zB (zA (mv rfl rfl (xQ (F := fun v_ => (rpT (rpQ (3 * k + l + 4 * m + 33))).Is h1 v_ (liftZ s ([(T3.mk x y (0 : Rat)), (T3.mk u y (0 : Rat)), (T3.mk u v (0 : Rat)), (T3.mk x v (0 : Rat))].getD 0 (T3.mk (0 : Rat) 0 0)))) (zE xF (Pc.here _) rfl rfl rb_5 rfl) (yD (.head _)) rfl ?_))))))
 intro v42u1 r42u1
 refine zJ (new_buildx (ρ := (rpT (rpQ (3 * k + l + 4 * m + 33)))) (m := 1) (xs := [liftZ s ([(T3.mk x y (0 : Rat)), (T3.mk u y (0 : Rat)), (T3.mk u v (0 : Rat)), (T3.mk x v (0 : Rat))].getD 0 (T3.mk (0 : Rat) 0 0))]) (ps' := [(0, _)]) underlying27 yI rfl rfl rfl (zr_t (xS (by omega))) e2z (yN rfl (Pc.arr (Pc.here _) (T3.mk (0 : Rat) 0 0) 0 (by decide)) r42u1 fx_nil) (show 1 * 9 ≤ 16777216 from by decide) p9N) rfl rfl rfl ?_
 intro v43u1 q43u1 hq43u1
 obtain ⟨cs43u1, rfl, rl43u1⟩ := hq43u1
 refine gl_freezex (A := []) (ρ := (rpT (rpQ (3 * k + l + 4 * m + 33)))) rl43u1 ?_
 intro h2 hh2 rs_6
 refine gl_nilown 32 9 ?_
 have rl_7 : RL (rpT (rpQ (3 * k + l + 4 * m + 33))) h2 [] ([] : List (T3 Rat)) := RL.nil
 refine gl_repop (A := []) (rep_appendx (ρ := (rpT (rpQ (3 * k + l + 4 * m + 33)))) (bytes := 168) underlying27 yI rfl rfl rfl rfl p9N rfl rfl rl_7 rs_6 (by first | omega | (simp only [lAz, lC, lN, lR, lS]; omega)) (by first | omega | (simp only [lAz, lC, lN, lR, lS]; omega))) rfl rfl rfl ?_
 intro v44u1 q44u1 hq44u1
 obtain ⟨cs44u1, rfl, rl44u1⟩ := hq44u1
 refine asg rfl rfl (zD (yY (zB (zA (mv rfl rfl (gv ((zS (q := 1) rfl rfl (by omega) (by omega)).cv (show _ = vI (1) from rfl)) rfl (asg rfl rfl (zD (xI (zC (zC (zA (mv rfl rfl ?_)))))))))))))
 refine gv (OpV.tr (by decide) (zW (q := 4) rfl rfl)) rfl (zD (zB (xC rfl (zL (zB (zC (zQ (zC (gc_keep (e' := [(5, _), (12, _), (11, _), (13, _)]) e4z ?_)))))))))
 refine yG 11 _ [(8, (14, 32, [.bool false, .slice none 0 0, .slice none 0 0, .bool false, .slice none 0 0, .slice none 0 0, .bool false, .slice none 0 0, .slice none 0 0]))] [(0, .q), (1, .q), (2, .q), (3, .q), (4, .c), (5, .q), (6, .q), (7, .q), (8, .a), (9, .c), (10, .q)] xG (AlOk.cons rfl rfl (zero_run yI rfl rfl) AlOk.nil) (by kernel_rfl) (hae_cons rfl rfl hae_nil) (fun r hr => hr) ?_
 replace rb5 := rb5.mono (hh1.trans hh2)
 refine yO (F := fun v_ => (rpP (rpT (rpQ m)) (rpQ l)).Is h2 v_ s) rfl (zE ty34 (Pc.here _) rfl rfl rb5 rfl) (yD (.tail _ (.tail _ (.tail _ (.tail _ (.tail _ (.tail _ (.tail _ (.head _))))))))) rfl ?_
 intro v34u2 r34u2
 refine w_q rfl (fun h' L' hh hR => zH rfl) rfl (w_q rfl (fun h' L' hh hR => (zF (sz := 9) 1 underlying119 sizeOf32 rfl rfl rfl (by decide)).cv (show _ = vP b12 9 from congrArg (vP b12) (by rfl))) rfl ?_)
 replace rb_3 := rb_3.mono (hh1.trans hh2)
 refine yO (F := fun v_ => (rpT (rpQ (k + 1))).Is h2 v_ ([(T3.mk x y (0 : Rat)), (T3.mk u y (0 : Rat)), (T3.mk u v (0 : Rat)), (T3.mk x v (0 : Rat))].getD 1 (T3.mk (0 : Rat) 0 0))) rfl (zE xF (Pc.arr (Pc.here _) (T3.mk (0 : Rat) 0 0) 1 (by decide)) rfl rfl rb_3 rfl) (yD (.tail _ (.tail _ (.head _)))) rfl ?_
 intro v37u2 r37u2
 refine w_c rfl ?_
 refine zY (vs := [_, _]) call114 e2z (fun w hs => o_r5_lift hs r34u2 r37u2 (by omega) (by omega) (by omega)) rfl ?_
 intro v38u2 h3 hh3 r38u2
 obtain ⟨v38u2_0, rfl, r38u2_0⟩ := r38u2
 change (rpT (rpQ (3 * (k + 1) + l + 4 * m + 30))).Is h3 v38u2_0 (liftZ s ([(T3.mk x y (0 : Rat)), (T3.mk u y (0 : Rat)), (T3.mk u v (0 : Rat)), (T3.mk x v (0 : Rat))].getD 1 (T3.mk (0 : Rat) 0 0))) at r38u2_0
 replace r38u2_0 := Rp.Is.le r38u2_0 (Le.t (Le.q (l := 3 * k + l + 4 * m + 33) (by omega)))
 refine w_q rfl (fun h' L' hh hR => zH rfl) rfl (w_q rfl (fun h' L' hh hR => zN (vs := [_, _]) rfl rfl) rfl (w_q rfl (fun h' L' hh hR => zN (vs := [_, _]) rfl rfl) rfl ?_))
 refine w_a rfl rfl (fun b14u2 => ?_)
 have rb14u2 : (rpT (rpQ (3 * k + l + 4 * m + 33))).R h3 [.bool false, .slice none 0 0, .slice none 0 0, .bool false, .slice none 0 0, .slice none 0 0, .bool false, .slice none 0 0, .slice none 0 0] (T3.mk (0 : Rat) 0 0) := (zr_t (xS (by omega)))
 refine w_c rfl (s_updx (A := []) (F := fun c_ => (rpT (rpQ (3 * k + l + 4 * m + 33))).R h3 c_ (liftZ s ([(T3.mk x y (0 : Rat)), (T3.mk u y (0 : Rat)), (T3.mk u v (0 : Rat)), (T3.mk x v (0 : Rat))].getD 1 (T3.mk (0 : Rat) 0 0)))) (zX sizeOf32 (Pc.here _) rfl rfl rfl rb14u2 r38u2_0 rfl) (mem_kept (by first | (simp; done) | grind)) ?_)
 intro cs_8 rb_9
 refine w_q rfl (fun h' L' hh hR => yK rfl) rfl (yZ (zB (zA (mv rfl rfl (xQ (F := fun v_ => (rpT (rpQ (3 * k + l + 4 * m + 33))).Is h3 v_ (liftZ s ([(T3.mk x y (0 : Rat)), (T3.mk u y (0 : Rat)), (T3.mk u v (0 : Rat)), (T3.mk x v (0 : Rat))].getD 1 (T3.mk (0 : Rat) 0 0)))) (zE xF (Pc.here _) rfl rfl rb_9 rfl) (yD (.head _)) rfl ?_)))))
 intro v42u2 r42u2
 refine zJ (new_buildx (ρ := (rpT (rpQ (3 * k + l + 4 * m + 33)))) (m := 1) (xs := [liftZ s ([(T3.mk x y (0 : Rat)), (T3.mk u y (0 : Rat)), (T3.mk u v (0 : Rat)), (T3.mk x v (0 : Rat))].getD 1 (T3.mk (0 : Rat) 0 0))]) (ps' := [(0, _)]) underlying27 yI rfl rfl rfl (zr_t (xS (by omega))) e2z (yN rfl (Pc.arr (Pc.here _) (T3.mk (0 : Rat) 0 0) 0 (by decide)) r42u2 fx_nil) (show 1 * 9 ≤ 16777216 from by decide) p9N) rfl rfl rfl ?_
 intro v43u2 q43u2 hq43u2
 obtain ⟨cs43u2, rfl, rl43u2⟩ := hq43u2
 refine gl_freezex (A := []) (ρ := (rpT (rpQ (3 * k + l + 4 * m + 33)))) rl43u2 ?_
 intro h4 hh4 rs_10
 replace rl44u1 := rl44u1.mono (hh3.trans hh4)
 refine gl_repop (A := [_]) (rep_appendx (ρ := (rpT (rpQ (3 * k + l + 4 * m + 33)))) (bytes := 168) underlying27 yI rfl rfl rfl rfl p9N rfl rfl rl44u1 rs_10 (by first | omega | (simp only [lAz, lC, lN, lR, lS]; omega)) (by first | omega | (simp only [lAz, lC, lN, lR, lS]; omega))) rfl rfl rfl ?_
 intro v44u2 q44u2 hq44u2
 obtain ⟨cs44u2, rfl, rl44u2⟩ := hq44u2
 refine asg rfl rfl (zD (yY (zK (e' := [(5, _), (12, _), (13, _), (11, _)]) e4z (zB (zA (mv rfl rfl (gv ((zS (q := 1) rfl rfl (by omega) (by omega)).cv (show _ = vI (2) from rfl)) rfl (asg rfl rfl (zD (xI (zC (zC (zA ?_)))))))))))))
 refine mv rfl rfl (gv (OpV.tr (by decide) (zW (q := 4) rfl rfl)) rfl (zD (zB (xC rfl (zL (zB (zC (zQ (zC ?_)))))))))
 refine yG 11 _ [(8, (14, 32, [.bool false, .slice none 0 0, .slice none 0 0, .bool false, .slice none 0 0, .slice none 0 0, .bool false, .slice none 0 0, .slice none 0 0]))] [(0, .q), (1, .q), (2, .q), (3, .q), (4, .c), (5, .q), (6, .q), (7, .q), (8, .a), (9, .c), (10, .q)] xG (AlOk.cons rfl rfl (zero_run yI rfl rfl) AlOk.nil) (by kernel_rfl) (hae_cons rfl rfl hae_nil) (fun r hr => hr) ?_
 replace rb5 := rb5.mono (hh3.trans hh4)
 refine yO (F := fun v_ => (rpP (rpT (rpQ m)) (rpQ l)).Is h4 v_ s) rfl (zE ty34 (Pc.here _) rfl rfl rb5 rfl) (yD (.tail _ (.tail _ (.tail _ (.tail _ (.tail _ (.tail _ (.tail _ (.tail _ (.head _)))))))))) rfl ?_
 intro v34u3 r34u3
 refine w_q rfl (fun h' L' hh hR => zH rfl) rfl (w_q rfl (fun h' L' hh hR => (zF (sz := 9) 2 underlying119 sizeOf32 rfl rfl rfl (by decide)).cv (show _ = vP b12 18 from congrArg (vP b12) (by rfl))) rfl ?_)
 replace rb_3 := rb_3.mono (hh3.trans hh4)
 refine yO (F := fun v_ => (rpT (rpQ (k + 1))).Is h4 v_ ([(T3.mk x y (0 : Rat)), (T3.mk u y (0 : Rat)), (T3.mk u v (0 : Rat)), (T3.mk x v (0 : Rat))].getD 2 (T3.mk (0 : Rat) 0 0))) rfl (zE xF (Pc.arr (Pc.here _) (T3.mk (0 : Rat) 0 0) 2 (by decide)) rfl rfl rb_3 rfl) (yD (.tail _ (.tail _ (.tail _ (.head _))))) rfl ?_
 intro v37u3 r37u3
 refine w_c rfl ?_
 refine zY (vs := [_, _]) call114 e2z (fun w hs => o_r5_lift hs r34u3 r37u3 (by omega) (by omega) (by omega)) rfl ?_
 intro v38u3 h5 hh5 r38u3
 obtain ⟨v38u3_0, rfl, r38u3_0⟩ := r38u3
 change (rpT (rpQ (3 * (k + 1) + l + 4 * m + 30))).Is h5 v38u3_0 (liftZ s ([(T3.mk x y (0 : Rat)), (T3.mk u y (0 : Rat)), (T3.mk u v (0 : Rat)), (T3.mk x v (0 : Rat))].getD 2 (T3.mk (0 : Rat) 0 0))) at r38u3_0
 replace r38u3_0 := Rp.Is.le r38u3_0 (Le.t (Le.q (l := 3 * k + l + 4 * m + 33) (by omega)))
 refine w_q rfl (fun h' L' hh hR => zH rfl) rfl (w_q rfl (fun h' L' hh hR => zN (vs := [_, _]) rfl rfl) rfl (w_q rfl (fun h' L' hh hR => zN (vs := [_, _]) rfl rfl) rfl ?_))
 refine w_a rfl rfl (fun b14u3 => ?_)
 have rb14u3 : (rpT (rpQ (3 * k + l + 4 * m + 33))).R h5 [.bool false, .slice none 0 0, .slice none 0 0, .bool false, .slice none 0 0, .slice none 0 0, .bool false, .slice none 0 0, .slice none 0 0] (T3.mk (0 : Rat) 0 0) := (zr_t (xS (by omega)))
 refine w_c rfl (s_updx (A := []) (F := fun c_ => (rpT (rpQ (3 * k + l + 4 * m + 33))).R h5 c_ (liftZ s ([(T3.mk x y (0 : Rat)), (T3.mk u y (0 : Rat)), (T3.mk u v (0 : Rat)), (T3.mk x v (0 : Rat))].getD 2 (T3.mk (0 : Rat) 0 0)))) (zX sizeOf32 (Pc.here _) rfl rfl rfl rb14u3 r38u3_0 rfl) (mem_kept (by first | (simp; done) | grind)) ?_)
 intro cs_11 rb_12
 refine w_q rfl (fun h' L' hh hR => yK rfl) rfl (yZ (zK (e' := [(5, _), (12, _), (11, _), (13, _), (14, _)]) e5 (zB (zA (mv rfl rfl (xQ (F := fun v_ => (rpT (rpQ (3 * k + l + 4 * m + 33))).Is h5 v_ (liftZ s ([(T3.mk x y (0 : Rat)), (T3.mk u y (0 : Rat)), (T3.mk u v (0 : Rat)), (T3.mk x v (0 : Rat))].getD 2 (T3.mk (0 : Rat) 0 0)))) (zE xF (Pc.here _) rfl rfl rb_12 rfl) (yD (.head _)) rfl ?_))))))
 intro v42u3 r42u3
 refine zJ (new_buildx (ρ := (rpT (rpQ (3 * k + l + 4 * m + 33)))) (m := 1) (xs := [liftZ s ([(T3.mk x y (0 : Rat)), (T3.mk u y (0 : Rat)), (T3.mk u v (0 : Rat)), (T3.mk x v (0 : Rat))].getD 2 (T3.mk (0 : Rat) 0 0))]) (ps' := [(0, _)]) underlying27 yI rfl rfl rfl (zr_t (xS (by omega))) e2z (yN rfl (Pc.arr (Pc.here _) (T3.mk (0 : Rat) 0 0) 0 (by decide)) r42u3 fx_nil) (show 1 * 9 ≤ 16777216 from by decide) p9N) rfl rfl rfl ?_
 intro v43u3 q43u3 hq43u3
 obtain ⟨cs43u3, rfl, rl43u3⟩ := hq43u3
 refine gl_freezex (A := []) (ρ := (rpT (rpQ (3 * k + l + 4 * m + 33)))) rl43u3 ?_
 intro h6 hh6 rs_13
 replace rl44u2 := rl44u2.mono (hh5.trans hh6)
 refine gl_repop (A := [_, _]) (rep_appendx (ρ := (rpT (rpQ (3 * k + l + 4 * m + 33)))) (bytes := 168) underlying27 yI rfl rfl rfl rfl p9N rfl rfl rl44u2 rs_13 (by first | omega | (simp only [lAz, lC, lN, lR, lS]; omega)) (by first | omega | (simp only [lAz, lC, lN, lR, lS]; omega))) rfl rfl rfl ?_
 intro v44u3 q44u3 hq44u3
 obtain ⟨cs44u3, rfl, rl44u3⟩ := hq44u3
 refine asg rfl rfl (zD (yY (zB (zA (mv rfl rfl (gv ((zS (q := 1) rfl rfl (by omega) (by omega)).cv (show _ = vI (3) from rfl)) rfl (asg rfl rfl (zD (xI (zC (zC (zA (mv rfl rfl ?_)))))))))))))
 refine gv (OpV.tr (by decide) (zW (q := 4) rfl rfl)) rfl (zD (zB (xC rfl (zL (zB (zC (zQ (zC (gc_keep (e' := [(5, _), (12, _), (11, _), (13, _)]) e4z ?_)))))))))
 refine yG 11 _ [(8, (14, 32, [.bool false, .slice none 0 0, .slice none 0 0, .bool false, .slice none 0 0, .slice none 0 0, .bool false, .slice none 0 0, .slice none 0 0]))] [(0, .q), (1, .q), (2, .q), (3, .q), (4, .c), (5, .q), (6, .q), (7, .q), (8, .a), (9, .c), (10, .q)] xG (AlOk.cons rfl rfl (zero_run yI rfl rfl) AlOk.nil) (by kernel_rfl) (hae_cons rfl rfl hae_nil) (fun r hr => hr) ?_
 replace rb5 := rb5.mono (hh5.trans hh6)
 refine yO (F := fun v_ => (rpP (rpT (rpQ m)) (rpQ l)).Is h6 v_ s) rfl (zE ty34 (Pc.here _) rfl rfl rb5 rfl) (yD (.tail _ (.tail _ (.tail _ (.tail _ (.tail _ (.tail _ (.tail _ (.tail _ (.tail _ (.head _))))))))))) rfl ?_
 intro v34u4 r34u4
 refine w_q rfl (fun h' L' hh hR => zH rfl) rfl (w_q rfl (fun h' L' hh hR => (zF (sz := 9) 3 underlying119 sizeOf32 rfl rfl rfl (by decide)).cv (show _ = vP b12 27 from congrArg (vP b12) (by rfl))) rfl ?_)
 replace rb_3 := rb_3.mono (hh5.trans hh6)
 refine yO (F := fun v_ => (rpT (rpQ (k + 1))).Is h6 v_ ([(T3.mk x y (0 : Rat)), (T3.mk u y (0 : Rat)), (T3.mk u v (0 : Rat)), (T3.mk x v (0 : Rat))].getD 3 (T3.mk (0 : Rat) 0 0))) rfl (zE xF (Pc.arr (Pc.here _) (T3.mk (0 : Rat) 0 0) 3 (by decide)) rfl rfl rb_3 rfl) (yD (.tail _ (.tail _ (.tail _ (.tail _ (.head _)))))) rfl ?_
 intro v37u4 r37u4
 refine w_c rfl ?_
 refine zY (vs := [_, _]) call114 e2z (fun w hs => o_r5_lift hs r34u4 r37u4 (by omega) (by omega) (by omega)) rfl ?_
 intro v38u4 h7 hh7 r38u4
 obtain ⟨v38u4_0, rfl, r38u4_0⟩ := r38u4
 change (rpT (rpQ (3 * (k + 1) + l + 4 * m + 30))).Is h7 v38u4_0 (liftZ s ([(T3.mk x y (0 : Rat)), (T3.mk u y (0 : Rat)), (T3.mk u v (0 : Rat)), (T3.mk x v (0 : Rat))].getD 3 (T3.mk (0 : Rat) 0 0))) at r38u4_0
 replace r38u4_0 := Rp.Is.le r38u4_0 (Le.t (Le.q (l := 3 * k + l + 4 * m + 33) (by omega)))
 refine w_q rfl (fun h' L' hh hR => zH rfl) rfl (w_q rfl (fun h' L' hh hR => zN (vs := [_, _]) rfl rfl) rfl (w_q rfl (fun h' L' hh hR => zN (vs := [_, _]) rfl rfl) rfl ?_))
 refine w_a rfl rfl (fun b14u4 => ?_)
 have rb14u4 : (rpT (rpQ (3 * k + l + 4 * m + 33))).R h7 [.bool false, .slice none 0 0, .slice none 0 0, .bool false, .slice none 0 0, .slice none 0 0, .bool false, .slice none 0 0, .slice none 0 0] (T3.mk (0 : Rat) 0 0) := (zr_t (xS (by omega)))
 refine w_c rfl (s_updx (A := []) (F := fun c_ => (rpT (rpQ (3 * k + l + 4 * m + 33))).R h7 c_ (liftZ s ([(T3.mk x y (0 : Rat)), (T3.mk u y (0 : Rat)), (T3.mk u v (0 : Rat)), (T3.mk x v (0 : Rat))].getD 3 (T3.mk (0 : Rat) 0 0)))) (zX sizeOf32 (Pc.here _) rfl rfl rfl rb14u4 r38u4_0 rfl) (mem_kept (by first | (simp; done) | grind)) ?_)
 intro cs_14 rb_15
 refine w_q rfl (fun h' L' hh hR => yK rfl) rfl (yZ (zB (zA (mv rfl rfl (xQ (F := fun v_ => (rpT (rpQ (3 * k + l + 4 * m + 33))).Is h7 v_ (liftZ s ([(T3.mk x y (0 : Rat)), (T3.mk u y (0 : Rat)), (T3.mk u v (0 : Rat)), (T3.mk x v (0 : Rat))].getD 3 (T3.mk (0 : Rat) 0 0)))) (zE xF (Pc.here _) rfl rfl rb_15 rfl) (yD (.head _)) rfl ?_)))))
 intro v42u4 r42u4
 refine zJ (new_buildx (ρ := (rpT (rpQ (3 * k + l + 4 * m + 33)))) (m := 1) (xs := [liftZ s ([(T3.mk x y (0 : Rat)), (T3.mk u y (0 : Rat)), (T3.mk u v (0 : Rat)), (T3.mk x v (0 : Rat))].getD 3 (T3.mk (0 : Rat) 0 0))]) (ps' := [(0, _)]) underlying27 yI rfl rfl rfl (zr_t (xS (by omega))) e2z (yN rfl (Pc.arr (Pc.here _) (T3.mk (0 : Rat) 0 0) 0 (by decide)) r42u4 fx_nil) (show 1 * 9 ≤ 16777216 from by decide) p9N) rfl rfl rfl ?_
 intro v43u4 q43u4 hq43u4
 obtain ⟨cs43u4, rfl, rl43u4⟩ := hq43u4
 refine gl_freezex (A := []) (ρ := (rpT (rpQ (3 * k + l + 4 * m + 33)))) rl43u4 ?_
 intro h8 hh8 rs_16
 replace rl44u3 := rl44u3.mono (hh7.trans hh8)
 refine gl_repop (A := [_, _, _]) (rep_appendx (ρ := (rpT (rpQ (3 * k + l + 4 * m + 33)))) (bytes := 168) underlying27 yI rfl rfl rfl rfl p9N rfl rfl rl44u3 rs_16 (by first | omega | (simp only [lAz, lC, lN, lR, lS]; omega)) (by first | omega | (simp only [lAz, lC, lN, lR, lS]; omega))) rfl rfl rfl ?_
 intro v44u4 q44u4 hq44u4
 obtain ⟨cs44u4, rfl, rl44u4⟩ := hq44u4
 refine asg rfl rfl (zD (yY (zK (e' := [(5, _), (12, _), (13, _), (11, _)]) e4z (zB (zA (mv rfl rfl (gv ((zS (q := 1) rfl rfl (by omega) (by omega)).cv (show _ = vI (4) from rfl)) rfl (asg rfl rfl (zD (xI (zC (zC (zA ?_)))))))))))))
 refine mv rfl rfl (gv (OpV.fa (by decide) (zW (q := 4) rfl rfl)) rfl (zD (zB (gc_cond_f rfl (xK (yE (yE (xJ (zB (zC (zA (mv rfl rfl (asg rfl rfl ?_)))))))))))))
 refine zD (zB (zR (gq_freezex (A := [_, _, _]) (ρ := (rpT (rpQ (3 * k + l + 4 * m + 33)))) rl44u4 ?_)))
 intro h9 hh9 rs_17
 refine yJ rfl rfl ?_
 exact rs_17
theorem o_r6_around {w0 : World} {h0 : Mem}  (hs : MLe h0 (mem w0)) {m l k : Nat} {vs : Value} {s : ((T3 Rat) × Rat)} (rs : (rpP (rpT (rpQ m)) (rpQ l)).Is h0 vs s) {vps : Value} {ps : (List (T3 Rat))} (rps : (rpS (rpT (rpQ k))).Is h0 vps ps) (hcd0 : k ≤ 10000) (hcd1 : l ≤ 10000) (hcd2 : m ≤ 10000)  :
    Calls Tryz.prog 37 #[vs, vps] w0 (Ret w0 h0 (fun h r => ∃ u0, r = .tuple #[u0, vB (¬ (ps.length = 0 ∨ s.1 = zT))] ∧ (rpS (rpT (rpQ (3 * k + l + 4 * m + 45)))).Is h u0 (aroZ s ps))) := by
 have hlp := s_lt rps
 refine zO (n := 79) (e := [(0, vs), (1, vps)]) (vs := [vs, vps]) func37 rfl rfl (bL rfl) hs e2z (zC (zA (zJ (yU (ρ := (rpP (rpT (rpQ m)) (rpQ l))) rfl rs) rfl rfl rfl ?_)))
 intro v2 q2 hq2
 obtain ⟨b2, cs2, rfl, rfl, rb2⟩ := hq2
 refine asg rfl rfl (asg rfl rfl (zD (zB (zC (zC (zA (mv rfl rfl (gv (ov_len_sr underlying27 rfl rps) rfl (gv (ov_eql_i (q := 0) rfl rfl) rfl ?_)))))))))
 refine gl_cut (ι := Mem) 5 (fun m_ => MLe h0 m_) (fun _ => [(19, vB (((↑(ps).length : Int) = (0 : Int)) ∨ (s.1 = (T3.mk (0 : Rat) 0 0)))), (1, vps), (2, vP b2 0)]) (fun _ => [.var b2 34 cs2]) (fun m_ => m_) ?_ ?_
 ·
  refine gl_cases ((↑(ps).length : Int) = (0 : Int)) (fun hg => ?_) (fun hg => ?_)
  ·
   refine gl_val (zH (v := .bool true) (congrArg some (vB_true hg))) rfl rfl rfl (yM rfl rfl rfl rfl rfl rfl (yM rfl rfl rfl rfl rfl rfl (yM rfl rfl rfl rfl rfl rfl (gv (xU rfl rfl) rfl (zD ?_)))))
   refine yR h0 (MLe.refl _) ⟨?_, rfl, rfl, trivial⟩ rfl rfl
   exact congrArg some (vB_or_t hg)
  refine gl_val (zH (v := .bool false) (congrArg some (xD hg))) rfl rfl rfl (yX rfl rfl rfl (gv ((zI underlying34 rfl sizeOf32 rfl).cv (show _ = vP b2 0 from congrArg (vP b2) (by rfl))) rfl (yX rfl rfl rfl (xQ (F := fun v_ => (rpT (rpQ m)).Is h0 v_ s.1) (zE xF (Pc.fst (Pc.here _)) rfl rfl rb2 rfl) (yD (.head _)) rfl ?_))))
  intro v17 r17
  refine yX rfl rfl rfl ?_
  refine zM (vs := [_]) rfl rfl rfl rfl call41 ⟨rfl, trivial⟩ (fun w hs => o_r4_zero hs r17 (by omega)) ?_
  intro v18 h1 hh1 r18
  obtain rfl : v18 = vB (s.1 = (T3.mk (0 : Rat) 0 0)) := r18
  refine gv (ov_pick_f rfl rfl) rfl (zD ?_)
  refine yR h1 hh1 ⟨?_, rfl, rfl, trivial⟩ rfl rfl
  exact congrArg some (vB_or_f hg)
 intro mg1_3 hmmg1_3
 show GL _ _ _ _ _ _ _ [(19, vB (((↑(ps).length : Int) = (0 : Int)) ∨ (s.1 = (T3.mk (0 : Rat) 0 0)))), (1, vps), (2, vP b2 0)] [.var b2 34 cs2] mg1_3
 refine zD (zB ?_)
 refine zP rfl (fun hc19 => ?_) (fun hc19 => ?_)
 ·
  have hz : ps.length = 0 ∨ s.1 = zT := hc19.imp (fun e => by omega) id
  refine zC (zA (asg rfl rfl (asg rfl rfl (zD (zB (zR (yA (gq_body2 rfl rfl rfl ?_))))))))
  refine ⟨_, ?_, (Rp.Is.cast (is_nil _) (by exact (if_pos hz).symm))⟩
  rw [xD (fun e => e hz)]
 have hz : ¬ (ps.length = 0 ∨ s.1 = zT) := fun e => hc19 (e.imp (fun e => by omega) id)
 refine zL (zB (zC ?_))
 refine yG 6 _ [(5, (6, 32, [.bool false, .slice none 0 0, .slice none 0 0, .bool false, .slice none 0 0, .slice none 0 0, .bool false, .slice none 0 0, .slice none 0 0]))] [(0, .q), (1, .q), (2, .q), (3, .q), (4, .c), (5, .a), (6, .t)] xG (AlOk.cons rfl rfl (zero_run yI rfl rfl) AlOk.nil) (by kernel_rfl) (hae_cons rfl rfl hae_nil) (fun r hr => hr) ?_
 replace rb2 := rb2.mono hmmg1_3
 refine yO (F := fun v_ => (rpP (rpT (rpQ m)) (rpQ l)).Is mg1_3 v_ s) rfl (zE ty34 (Pc.here _) rfl rfl rb2 rfl) (yD (.head _)) rfl ?_
 intro v20 r20
 refine w_q rfl (fun h' L' hh hR => zH rfl) rfl ?_
 replace rps := rps.mono hmmg1_3
 refine yO (F := fun v_ => AtP (rpT (rpQ k)) mg1_3 v_ (ps.getD 0 (T3.mk (0 : Rat) 0 0))) rfl (ox_idx_s (q := 0) (T3.mk (0 : Rat) 0 0) 0 underlying27 xF rfl rfl rps rfl (by omega) p9N) mem0 rfl ?_
 intro v22 r22
 refine yO (F := fun v_ => (rpT (rpQ k)).Is mg1_3 v_ (ps.getD 0 (T3.mk (0 : Rat) 0 0))) rfl (ox_load_at xF rfl r22) mem0 rfl ?_
 intro v23 r23
 refine w_c rfl ?_
 refine zY (vs := [_, _]) call73 e2z (fun w hs => o_r5_flatten hs r20 r23 (by omega) (by omega)) rfl ?_
 intro v24 h1 hh1 r24
 change (rpT (rpQ (k + 1))).Is h1 v24 (flatZ s (ps.getD 0 (T3.mk (0 : Rat) 0 0))) at r24
 refine w_a rfl rfl (fun b6 => ?_)
 have rb6 : (rpT (rpQ (k + 1))).R h1 [.bool false, .slice none 0 0, .slice none 0 0, .bool false, .slice none 0 0, .slice none 0 0, .bool false, .slice none 0 0, .slice none 0 0] (T3.mk (0 : Rat) 0 0) := (zr_t (xS (by omega)))
 refine yV (A := []) (F := fun c_ => (rpT (rpQ (k + 1))).R h1 c_ (flatZ s (ps.getD 0 (T3.mk (0 : Rat) 0 0)))) rfl (zX sizeOf32 (Pc.here _) rfl rfl rfl rb6 r24 rfl) ?_
 intro cs_18 rb_19
 refine yZ (zB (zC (zA (xQ (F := fun v_ => (rpT (rpQ (k + 1))).Is h1 v_ (flatZ s (ps.getD 0 (T3.mk (0 : Rat) 0 0)))) (zE xF (Pc.here _) rfl rfl rb_19 rfl) (yD (.head _)) rfl ?_))))
 intro v25 r25
 refine zJ (yQ (ρ := (rpT (rpQ (k + 1)))) (X := (T3.mk (0 : Rat) 0 0)) yI rfl rfl (zr_t (xS (by omega)))) rfl rfl rfl ?_
 intro v7 q7 hq7
 obtain ⟨b7, cs7, rfl, rfl, rb7⟩ := hq7
 refine xO (A := []) (F := fun c_ => (rpT (rpQ (k + 1))).R h1 c_ (flatZ s (ps.getD 0 (T3.mk (0 : Rat) 0 0)))) (zX sizeOf32 (Pc.here _) rfl rfl rfl rb7 r25 rfl) ?_
 intro cs_20 rb_21
 refine zD (zB (zC (zC (zA (asg (v := vI (0)) rfl rfl (zD (zB (zQ ?_))))))))
 refine gc_loop (ι := Nat × List Value × List Value × Mem) (fun (i, cs_22, cs_24, ma) => MLe h1 ma ∧ ((rpT (rpQ (k + 1))).R ma cs_22 (loT2 s ps i) ∧ (rpT (rpQ (k + 1))).R ma cs_24 (hiT2 s ps i) ∧ i ≤ ps.length)) (fun (i, cs_22, cs_24, ma) => [(1, vps), (2, vP b2 0), (6, vP b6 0), (7, vP b7 0), (8, vI ↑i)]) (fun (i, cs_22, cs_24, ma) => [.var b7 32 cs_24, .var b6 32 cs_22, .var b2 34 cs2]) (fun (i, cs_22, cs_24, ma) => ma) (fun (i, cs_22, cs_24, ma) => ps.length - i) (0, cs_18, cs_20, h1) ?_ e5 rfl rfl ?_
 ·
  refine ⟨MLe.refl _, ?_⟩
  refine ⟨rb_19, rb_21, ?_⟩
  exact (by omega)
 intro x hx
 obtain ⟨i, cs_22, cs_24, ma⟩ := x
 obtain ⟨hmma, hinv⟩ := hx
 show GC _ _ _ _ _ _ [(1, vps), (2, vP b2 0), (6, vP b6 0), (7, vP b7 0), (8, vI ↑i)] [.var b7 32 cs_24, .var b6 32 cs_22, .var b2 34 cs2] ma
 obtain ⟨rb_23, rb_25, hinv⟩ := hinv
 have hi1 := hinv
 refine zC (zC (zA (mv rfl rfl (mv rfl rfl ?_))))
 replace rps := rps.mono (hh1.trans hmma)
 refine gv (ov_len_sr underlying27 rfl rps) rfl (gv (zW rfl rfl) rfl (zD (zB ?_)))
 refine zP rfl (fun hc29 => ?_) (fun hc29 => ?_)
 ·
  refine zL (zB (zC (zQ (zC ?_))))
  refine yG 7 _ [(6, (9, 32, [.bool false, .slice none 0 0, .slice none 0 0, .bool false, .slice none 0 0, .slice none 0 0, .bool false, .slice none 0 0, .slice none 0 0]))] [(0, .q), (1, .q), (2, .q), (3, .q), (4, .q), (5, .c), (6, .a), (7, .t)] xG (AlOk.cons rfl rfl (zero_run yI rfl rfl) AlOk.nil) (by kernel_rfl) (hae_cons rfl rfl hae_nil) (fun r hr => hr) ?_
  replace rb2 := rb2.mono (hh1.trans hmma)
  refine yO (F := fun v_ => (rpP (rpT (rpQ m)) (rpQ l)).Is ma v_ s) rfl (zE ty34 (Pc.here _) rfl rfl rb2 rfl) (yD (.tail _ (.tail _ (.head _)))) rfl ?_
  intro v32 r32
  refine w_q rfl (fun h' L' hh hR => zH rfl) rfl (w_q rfl (fun h' L' hh hR => zH rfl) rfl (yO (F := fun v_ => AtP (rpT (rpQ k)) ma v_ (ps.getD i (T3.mk (0 : Rat) 0 0))) rfl (ox_idx_s (T3.mk (0 : Rat) 0 0) i underlying27 xF rfl rfl rps rfl (by omega) p9N) mem0 rfl ?_))
  intro v35 r35
  refine yO (F := fun v_ => (rpT (rpQ k)).Is ma v_ (ps.getD i (T3.mk (0 : Rat) 0 0))) rfl (ox_load_at xF rfl r35) mem0 rfl ?_
  intro v36 r36
  refine w_c rfl ?_
  refine zY (vs := [_, _]) call73 e2z (fun w hs => o_r5_flatten hs r32 r36 (by omega) (by omega)) rfl ?_
  intro v37 h2 hh2 r37
  change (rpT (rpQ (k + 1))).Is h2 v37 (flatZ s (ps.getD i (T3.mk (0 : Rat) 0 0))) at r37
  refine w_a rfl rfl (fun b9 => ?_)
  have rb9 : (rpT (rpQ (k + 1))).R h2 [.bool false, .slice none 0 0, .slice none 0 0, .bool false, .slice none 0 0, .slice none 0 0, .bool false, .slice none 0 0, .slice none 0 0] (T3.mk (0 : Rat) 0 0) := (zr_t (xS (by omega)))
  refine yV (A := []) (F := fun c_ => (rpT (rpQ (k + 1))).R h2 c_ (flatZ s (ps.getD i (T3.mk (0 : Rat) 0 0)))) rfl (zX sizeOf32 (Pc.here _) rfl rfl rfl rb9 r37 rfl) ?_
  intro cs_26 rb_27
  refine yZ (zK (e' := [(1, _), (2, _), (6, _), (7, _), (8, _), (9, _)]) e6 (zB (zC (zA (asg (v := vI (0)) rfl rfl (zD (zB (zQ (gc_loop1 (zC (zC (zA (mv rfl rfl ?_)))))))))))))
  refine gv (OpV.tr (by decide) (zW (q := 2) rfl rfl)) rfl (zD (zB (xC rfl (zL (zB (zC (zQ ?_)))))))
  refine yG 17 _ [] [(0, .q), (1, .p), (2, .q), (3, .q), (4, .q), (5, .q), (6, .q), (7, .q), (9, .q), (10, .q), (11, .q), (12, .q), (13, .q), (14, .q), (8, .c), (16, .q), (15, .c), (17, .t), (18, .t), (19, .t)] xG nX (chk_of [0, 0, 0, 4, 8, 0, 32, 64, 144, 0, 512, 1024, 0, 4096, 8192, 18688, 509, 98813, 262143, 524287] [1048575, 1048575, 1048575, 1048571, 1048567, 1048575, 1048543, 1048511, 1048431, 1048575, 1048063, 1047551, 1048575, 1044479, 1040383, 1030143, 1048574, 982783, 1048573, 753663] (by kernel_rfl)) nX (fun r hr => hr) (w_q rfl (fun h' L' hh hR => zH rfl) rfl (w_p (⟨.inl rfl,  rfl⟩) rfl rfl (w_q rfl (fun h' L' hh hR => zH rfl) rfl (w_q rfl (fun h' L' hh hR => (zF (sz := 3) 0 underlying32 sizeOf30 rfl rfl rfl (by decide)).cv (show _ = vP b6 0 from congrArg (vP b6) (by rfl))) rfl ?_))))
  replace rb_23 := rb_23.mono hh2
  refine yO (F := fun v_ => (rpQ (k + 1)).Is h2 v_ ((loT2 s ps i).x)) rfl (zE xA (Pc.tx (Pc.here _)) rfl rfl rb_23 rfl) (yD (.tail _ (.tail _ (.head _)))) rfl ?_
  intro v46u6 r46u6
  refine w_q rfl (fun h' L' hh hR => zH rfl) rfl (w_q rfl (fun h' L' hh hR => (zF (sz := 3) 0 underlying32 sizeOf30 rfl rfl rfl (by decide)).cv (show _ = vP b9 0 from congrArg (vP b9) (by rfl))) rfl (yO (F := fun v_ => (rpQ (k + 1)).Is h2 v_ ((flatZ s (ps.getD i (T3.mk (0 : Rat) 0 0))).x)) rfl (zE xA (Pc.tx (Pc.here _)) rfl rfl rb_27 rfl) (yD (.head _)) rfl ?_))
  intro v49u6 r49u6
  refine w_q rfl (fun h' L' hh hR => zH rfl) rfl (w_q rfl (fun h' L' hh hR => (zF (sz := 3) 0 underlying32 sizeOf30 rfl rfl rfl (by decide)).cv (show _ = vP b7 0 from congrArg (vP b7) (by rfl))) rfl ?_)
  replace rb_25 := rb_25.mono hh2
  refine yO (F := fun v_ => (rpQ (k + 1)).Is h2 v_ ((hiT2 s ps i).x)) rfl (zE xA (Pc.tx (Pc.here _)) rfl rfl rb_25 rfl) (yD (.tail _ (.head _))) rfl ?_
  intro v53u6 r53u6
  refine w_q rfl (fun h' L' hh hR => zH rfl) rfl (w_q rfl (fun h' L' hh hR => (zF (sz := 3) 0 underlying32 sizeOf30 rfl rfl rfl (by decide)).cv (show _ = vP b9 0 from congrArg (vP b9) (by rfl))) rfl (yO (F := fun v_ => (rpQ (k + 1)).Is h2 v_ ((flatZ s (ps.getD i (T3.mk (0 : Rat) 0 0))).x)) rfl (zE xA (Pc.tx (Pc.here _)) rfl rfl rb_27 rfl) (yD (.head _)) rfl ?_))
  intro v56u6 r56u6
  refine w_c rfl ?_
  refine zY (vs := [_, _]) call74 e2z (fun w hs => o_rref_min hs r46u6 r49u6 (by omega)) rfl ?_
  intro v50u6 h3 hh3 r50u6
  change (rpQ (k + 1)).Is h3 v50u6 (minQ ((loT2 s ps i).x) ((flatZ s (ps.getD i (T3.mk (0 : Rat) 0 0))).x)) at r50u6
  refine w_q rfl (fun h' L' hh hR => (zF (sz := 3) 0 underlying32 sizeOf30 rfl rfl rfl (by decide)).cv (show _ = vP b6 0 from congrArg (vP b6) (by rfl))) rfl ?_
  refine w_c rfl ?_
  replace r53u6 := r53u6.mono hh3
  replace r56u6 := r56u6.mono hh3
  refine zY (vs := [_, _]) call75 e2z (fun w hs => o_rref_max hs r53u6 r56u6 (by omega)) rfl ?_
  intro v57u6 h4 hh4 r57u6
  change (rpQ (k + 1)).Is h4 v57u6 (maxQ ((hiT2 s ps i).x) ((flatZ s (ps.getD i (T3.mk (0 : Rat) 0 0))).x)) at r57u6
  replace rb_23 := rb_23.mono (hh3.trans hh4)
  replace r50u6 := r50u6.mono hh4
  refine yV (A := [_, _]) (F := fun c_ => (rpT (rpQ (k + 1))).R h4 c_ (T3.mk (minQ ((loT2 s ps i).x) ((flatZ s (ps.getD i (T3.mk (0 : Rat) 0 0))).x)) ((loT2 s ps i).y) ((loT2 s ps i).z))) rfl (zX sizeOf30 (Pc.tx (Pc.here _)) rfl rfl rfl rb_23 r50u6 rfl) ?_
  intro cs_28 rb_29
  refine w_t_val rfl ((zF (sz := 3) 0 underlying32 sizeOf30 rfl rfl rfl (by decide)).cv (show _ = vP b7 0 from congrArg (vP b7) (by rfl))) rfl ?_
  replace rb_25 := rb_25.mono (hh3.trans hh4)
  refine yV (A := [_]) (F := fun c_ => (rpT (rpQ (k + 1))).R h4 c_ (T3.mk (maxQ ((hiT2 s ps i).x) ((flatZ s (ps.getD i (T3.mk (0 : Rat) 0 0))).x)) ((hiT2 s ps i).y) ((hiT2 s ps i).z))) rfl (zX sizeOf30 (Pc.tx (Pc.here _)) rfl rfl rfl rb_25 r57u6 rfl) ?_
  intro cs_30 rb_31
  refine yZ (yY (zK (e' := [(1, _), (2, _), (6, _), (7, _), (8, _), (9, _), (10, _)]) e7 (zB (zA (mv rfl rfl (gv ((zS (q := 1) rfl rfl (by omega) (by omega)).cv (show _ = vI (1) from rfl)) rfl (asg rfl rfl (zD (xI (zC (zC (zA (mv rfl rfl ?_)))))))))))))
  refine gv (OpV.tr (by decide) (zW (q := 2) rfl rfl)) rfl (zD (zB (xC rfl (zL (zB (zC (zQ ?_)))))))
  refine yG 17 _ [] [(0, .q), (1, .p), (2, .q), (3, .q), (4, .q), (5, .q), (6, .q), (7, .q), (9, .q), (10, .q), (11, .q), (12, .q), (13, .q), (14, .q), (8, .c), (16, .q), (15, .c), (17, .t), (18, .t), (19, .t)] xG nX (chk_of [0, 0, 0, 4, 8, 0, 32, 64, 144, 0, 512, 1024, 0, 4096, 8192, 18688, 509, 98813, 262143, 524287] [1048575, 1048575, 1048575, 1048571, 1048567, 1048575, 1048543, 1048511, 1048431, 1048575, 1048063, 1047551, 1048575, 1044479, 1040383, 1030143, 1048574, 982783, 1048573, 753663] (by kernel_rfl)) nX (fun r hr => hr) (w_q rfl (fun h' L' hh hR => zH rfl) rfl (w_p (⟨.inl rfl,  rfl⟩) rfl rfl (w_q rfl (fun h' L' hh hR => zH rfl) rfl (w_q rfl (fun h' L' hh hR => (zF (sz := 3) 1 underlying32 sizeOf30 rfl rfl rfl (by decide)).cv (show _ = vP b6 3 from congrArg (vP b6) (by rfl))) rfl (yO (F := fun v_ => (rpQ (k + 1)).Is h4 v_ ((loT2 s ps i).y)) rfl (zE xA (Pc.ty (Pc.here _)) rfl rfl rb_29 rfl) (yD (.tail _ (.tail _ (.head _)))) rfl ?_)))))
  intro v46u7 r46u7
  refine w_q rfl (fun h' L' hh hR => zH rfl) rfl (w_q rfl (fun h' L' hh hR => (zF (sz := 3) 1 underlying32 sizeOf30 rfl rfl rfl (by decide)).cv (show _ = vP b9 3 from congrArg (vP b9) (by rfl))) rfl ?_)
  replace rb_27 := rb_27.mono (hh3.trans hh4)
  refine yO (F := fun v_ => (rpQ (k + 1)).Is h4 v_ ((flatZ s (ps.getD i (T3.mk (0 : Rat) 0 0))).y)) rfl (zE xA (Pc.ty (Pc.here _)) rfl rfl rb_27 rfl) (yD (.head _)) rfl ?_
  intro v49u7 r49u7
  refine w_q rfl (fun h' L' hh hR => zH rfl) rfl (w_q rfl (fun h' L' hh hR => (zF (sz := 3) 1 underlying32 sizeOf30 rfl rfl rfl (by decide)).cv (show _ = vP b7 3 from congrArg (vP b7) (by rfl))) rfl (yO (F := fun v_ => (rpQ (k + 1)).Is h4 v_ ((hiT2 s ps i).y)) rfl (zE xA (Pc.ty (Pc.here _)) rfl rfl rb_31 rfl) (yD (.tail _ (.head _))) rfl ?_))
  intro v53u7 r53u7
  refine w_q rfl (fun h' L' hh hR => zH rfl) rfl (w_q rfl (fun h' L' hh hR => (zF (sz := 3) 1 underlying32 sizeOf30 rfl rfl rfl (by decide)).cv (show _ = vP b9 3 from congrArg (vP b9) (by rfl))) rfl (yO (F := fun v_ => (rpQ (k + 1)).Is h4 v_ ((flatZ s (ps.getD i (T3.mk (0 : Rat) 0 0))).y)) rfl (zE xA (Pc.ty (Pc.here _)) rfl rfl rb_27 rfl) (yD (.head _)) rfl ?_))
  intro v56u7 r56u7
  refine w_c rfl ?_
  refine zY (vs := [_, _]) call74 e2z (fun w hs => o_rref_min hs r46u7 r49u7 (by omega)) rfl ?_
  intro v50u7 h5 hh5 r50u7
  change (rpQ (k + 1)).Is h5 v50u7 (minQ ((loT2 s ps i).y) ((flatZ s (ps.getD i (T3.mk (0 : Rat) 0 0))).y)) at r50u7
  refine w_q rfl (fun h' L' hh hR => (zF (sz := 3) 1 underlying32 sizeOf30 rfl rfl rfl (by decide)).cv (show _ = vP b6 3 from congrArg (vP b6) (by rfl))) rfl ?_
  refine w_c rfl ?_
  replace r53u7 := r53u7.mono hh5
  replace r56u7 := r56u7.mono hh5
  refine zY (vs := [_, _]) call75 e2z (fun w hs => o_rref_max hs r53u7 r56u7 (by omega)) rfl ?_
  intro v57u7 h6 hh6 r57u7
  change (rpQ (k + 1)).Is h6 v57u7 (maxQ ((hiT2 s ps i).y) ((flatZ s (ps.getD i (T3.mk (0 : Rat) 0 0))).y)) at r57u7
  replace rb_29 := rb_29.mono (hh5.trans hh6)
  replace r50u7 := r50u7.mono hh6
  refine yV (A := [_, _]) (F := fun c_ => (rpT (rpQ (k + 1))).R h6 c_ (T3.mk (minQ ((loT2 s ps i).x) ((flatZ s (ps.getD i (T3.mk (0 : Rat) 0 0))).x)) (minQ ((loT2 s ps i).y) ((flatZ s (ps.getD i (T3.mk (0 : Rat) 0 0))).y)) ((loT2 s ps i).z))) rfl (zX sizeOf30 (Pc.ty (Pc.here _)) rfl rfl rfl rb_29 r50u7 rfl) ?_
  intro cs_32 rb_33
  refine w_t_val rfl ((zF (sz := 3) 1 underlying32 sizeOf30 rfl rfl rfl (by decide)).cv (show _ = vP b7 3 from congrArg (vP b7) (by rfl))) rfl ?_
  replace rb_31 := rb_31.mono (hh5.trans hh6)
  refine yV (A := [_]) (F := fun c_ => (rpT (rpQ (k + 1))).R h6 c_ (T3.mk (maxQ ((hiT2 s ps i).x) ((flatZ s (ps.getD i (T3.mk (0 : Rat) 0 0))).x)) (maxQ ((hiT2 s ps i).y) ((flatZ s (ps.getD i (T3.mk (0 : Rat) 0 0))).y)) ((hiT2 s ps i).z))) rfl (zX sizeOf30 (Pc.ty (Pc.here _)) rfl rfl rfl rb_31 r57u7 rfl) ?_
  intro cs_34 rb_35
  refine yZ (yY (zK (e' := [(1, _), (2, _), (6, _), (7, _), (8, _), (9, _), (10, _)]) e7 (zB (zA (mv rfl rfl (gv ((zS (q := 1) rfl rfl (by omega) (by omega)).cv (show _ = vI (2) from rfl)) rfl (asg rfl rfl (zD (xI (zC (zC (zA (mv rfl rfl ?_)))))))))))))
  refine gv (OpV.fa (by decide) (zW (q := 2) rfl rfl)) rfl (zD (zB (gc_cond_f rfl (xK (yE (yE (xJ (yY (zB (zA (mv rfl rfl (gv (zS (q := 1) rfl rfl (by omega) (by omega)) rfl (asg rfl rfl ?_)))))))))))))
  refine zD (gq_drop (A := []) ?_)
  refine yW ((i + 1), cs_32, cs_34, h6) ?_ ?_ e5 rfl rfl
  ·
   refine ⟨(((((hmma.trans hh2).trans hh3).trans hh4).trans hh5).trans hh6), ?_⟩
   refine ⟨(Rp.castR rb_33 rfl), (Rp.castR rb_35 rfl), ?_⟩
   exact (by omega)
  dsimp only
  omega
 have ei : i = ps.length := by omega
 refine xK (yE (yE (xJ (zB (zC (zA ?_))))))
 refine zM (vs := [vI (1)]) rfl rfl rfl rfl call45 ⟨rfl, trivial⟩ (fun w hs => o_rref_int hs (by decide) (by decide)) ?_
 intro v60 h2 hh2 r60
 change (rpQ 2).Is h2 v60 (((1 : Int) : Int) : Rat) at r60
 refine zJ (yQ (ρ := (rpQ 1)) (X := (0 : Rat)) info30 rfl rfl (xS (by decide))) rfl rfl rfl ?_
 intro v11 q11 hq11
 obtain ⟨b11, cs11, rfl, rfl, rb11⟩ := hq11
 have rw_36 := (Le.q (l := 2) (by decide)).R rb11
 refine xO (A := []) (F := fun c_ => (rpQ 2).R h2 c_ (((1 : Int) : Int) : Rat)) (zX sizeOf30 (Pc.here _) rfl rfl rfl rw_36 r60 rfl) ?_
 intro cs_37 rb_38
 refine zD (zB (zC ?_))
 refine yG 20 _ [] [(0, .q), (1, .q), (2, .q), (3, .q), (5, .q), (6, .q), (7, .q), (9, .q), (10, .q), (11, .q), (13, .q), (14, .q), (15, .q), (4, .c), (8, .c), (12, .c), (16, .c), (17, .c), (18, .q), (19, .q)] xG nX (chk_of [0, 0, 2, 0, 12, 0, 32, 0, 208, 0, 512, 0, 3328, 0, 8192, 0, 53248, 69905, 262143, 524287] [1048575, 1048575, 1048573, 1048575, 1048563, 1048575, 1048543, 1048575, 1048383, 1048575, 1048063, 1048575, 1045503, 1048575, 1040383, 1048575, 999423, 978670, 917503, 1048575] (by kernel_rfl)) nX (fun r hr => hr) ?_
 replace rb2 := rb2.mono ((hh1.trans hmma).trans hh2)
 refine yO (F := fun v_ => (rpP (rpT (rpQ m)) (rpQ l)).Is h2 v_ s) rfl (zE ty34 (Pc.here _) rfl rfl rb2 rfl) (yD (.tail _ (.tail _ (.tail _ (.head _))))) rfl ?_
 intro v61 r61
 refine w_q rfl (fun h' L' hh hR => (zF (sz := 3) (q := 0) 0 underlying32 sizeOf30 rfl rfl rfl (by decide)).cv (show _ = vP b6 0 from congrArg (vP b6) (by rfl))) rfl ?_
 replace rb_23 := rb_23.mono hh2
 refine yO (F := fun v_ => (rpQ (k + 1)).Is h2 v_ ((loT2 s ps i).x)) rfl (zE xA (Pc.tx (Pc.here _)) rfl rfl rb_23 rfl) (yD (.tail _ (.tail _ (.head _)))) rfl ?_
 intro v63 r63
 refine yO (F := fun v_ => (rpQ 2).Is h2 v_ (((1 : Int) : Int) : Rat)) rfl (zE xA (Pc.here _) rfl rfl rb_38 rfl) (yD (.head _)) rfl ?_
 intro v64 r64
 refine w_q rfl (fun h' L' hh hR => (zF (sz := 3) (q := 1) 1 underlying32 sizeOf30 rfl rfl rfl (by decide)).cv (show _ = vP b6 3 from congrArg (vP b6) (by rfl))) rfl (yO (F := fun v_ => (rpQ (k + 1)).Is h2 v_ ((loT2 s ps i).y)) rfl (zE xA (Pc.ty (Pc.here _)) rfl rfl rb_23 rfl) (yD (.tail _ (.tail _ (.head _)))) rfl ?_)
 intro v67 r67
 refine yO (F := fun v_ => (rpQ 2).Is h2 v_ (((1 : Int) : Int) : Rat)) rfl (zE xA (Pc.here _) rfl rfl rb_38 rfl) (yD (.head _)) rfl ?_
 intro v68 r68
 refine w_q rfl (fun h' L' hh hR => (zF (sz := 3) (q := 0) 0 underlying32 sizeOf30 rfl rfl rfl (by decide)).cv (show _ = vP b7 0 from congrArg (vP b7) (by rfl))) rfl ?_
 replace rb_25 := rb_25.mono hh2
 refine yO (F := fun v_ => (rpQ (k + 1)).Is h2 v_ ((hiT2 s ps i).x)) rfl (zE xA (Pc.tx (Pc.here _)) rfl rfl rb_25 rfl) (yD (.tail _ (.head _))) rfl ?_
 intro v71 r71
 refine yO (F := fun v_ => (rpQ 2).Is h2 v_ (((1 : Int) : Int) : Rat)) rfl (zE xA (Pc.here _) rfl rfl rb_38 rfl) (yD (.head _)) rfl ?_
 intro v72 r72
 refine w_q rfl (fun h' L' hh hR => (zF (sz := 3) (q := 1) 1 underlying32 sizeOf30 rfl rfl rfl (by decide)).cv (show _ = vP b7 3 from congrArg (vP b7) (by rfl))) rfl (yO (F := fun v_ => (rpQ (k + 1)).Is h2 v_ ((hiT2 s ps i).y)) rfl (zE xA (Pc.ty (Pc.here _)) rfl rfl rb_25 rfl) (yD (.tail _ (.head _))) rfl ?_)
 intro v75 r75
 refine yO (F := fun v_ => (rpQ 2).Is h2 v_ (((1 : Int) : Int) : Rat)) rfl (zE xA (Pc.here _) rfl rfl rb_38 rfl) (yD (.head _)) rfl ?_
 intro v76 r76
 refine w_c rfl ?_
 refine zY (vs := [_, _]) call56 e2z (fun w hs => o_rref_sub hs r63 r64 (by omega)) rfl ?_
 intro v65 h3 hh3 r65
 change (rpQ ((k + 1) + 2 + 1)).Is h3 v65 (((loT2 s ps i).x) - (((1 : Int) : Int) : Rat)) at r65
 replace r65 := Rp.Is.le r65 (Le.q (l := k + 4) (by omega))
 refine w_c rfl ?_
 replace r67 := r67.mono hh3
 replace r68 := r68.mono hh3
 refine zY (vs := [_, _]) call56 e2z (fun w hs => o_rref_sub hs r67 r68 (by omega)) rfl ?_
 intro v69 h4 hh4 r69
 change (rpQ ((k + 1) + 2 + 1)).Is h4 v69 (((loT2 s ps i).y) - (((1 : Int) : Int) : Rat)) at r69
 replace r69 := Rp.Is.le r69 (Le.q (l := k + 4) (by omega))
 refine w_c rfl ?_
 replace r71 := r71.mono (hh3.trans hh4)
 replace r72 := r72.mono (hh3.trans hh4)
 refine zY (vs := [_, _]) call53 e2z (fun w hs => o_rref_add hs r71 r72 (by omega)) rfl ?_
 intro v73 h5 hh5 r73
 change (rpQ ((k + 1) + 2 + 1)).Is h5 v73 (((hiT2 s ps i).x) + (((1 : Int) : Int) : Rat)) at r73
 replace r73 := Rp.Is.le r73 (Le.q (l := k + 4) (by omega))
 refine w_c rfl ?_
 replace r75 := r75.mono ((hh3.trans hh4).trans hh5)
 replace r76 := r76.mono ((hh3.trans hh4).trans hh5)
 refine zY (vs := [_, _]) call53 e2z (fun w hs => o_rref_add hs r75 r76 (by omega)) rfl ?_
 intro v77 h6 hh6 r77
 change (rpQ ((k + 1) + 2 + 1)).Is h6 v77 (((hiT2 s ps i).y) + (((1 : Int) : Int) : Rat)) at r77
 replace r77 := Rp.Is.le r77 (Le.q (l := k + 4) (by omega))
 refine w_c rfl ?_
 replace r61 := r61.mono (((hh3.trans hh4).trans hh5).trans hh6)
 replace r65 := r65.mono ((hh4.trans hh5).trans hh6)
 replace r69 := r69.mono (hh5.trans hh6)
 replace r73 := r73.mono hh6
 refine zY (vs := [_, _, _, _, _]) call76 e5 (fun w hs => o_r6_square hs r61 r65 r69 r73 r77 (by omega) (by omega) (by omega)) rfl ?_
 intro v78 h7 hh7 r78
 change (rpS (rpT (rpQ (3 * (k + 4) + l + 4 * m + 33)))).Is h7 v78 (sqrL s (((loT2 s ps i).x) - (((1 : Int) : Int) : Rat)) (((loT2 s ps i).y) - (((1 : Int) : Int) : Rat)) (((hiT2 s ps i).x) + (((1 : Int) : Int) : Rat)) (((hiT2 s ps i).y) + (((1 : Int) : Int) : Rat))) at r78
 replace r78 := Rp.Is.le r78 (Le.s (Le.t (Le.q (l := 3 * k + l + 4 * m + 45) (by omega))))
 refine w_q rfl (fun h' L' hh hR => yK rfl) rfl (w_q rfl (fun h' L' hh hR => yK rfl) rfl (yZ (zK (e' := [(4, _), (5, _)]) e2z (zB (zR (gq_body2 rfl rfl rfl ?_))))))
 refine ⟨_, ?_, (Rp.Is.cast r78 (by rw [ei]; exact (if_neg hz).symm))⟩
 rw [vB_true hz]
end Go.Proofs.YtghhjjmjpeehdaaGreat
namespace Go.Proofs.YtghhjjmjpeehdaaGreat
open Bk Go Tryz
set_option linter.unusedVariables false
set_option linter.unusedSimpArgs false
set_option maxRecDepth 10000
theorem o_law_square {w0 : World} {h0 : Mem}  (hs : MLe h0 (mem w0))  :
    Calls Tryz.prog 43 #[] w0 (Ret w0 h0 (fun h r => (rpS (rpT (rpQ 2))).Is h r sq0)) := by
 refine zO (n := 6) (e := []) (vs := []) func43 rfl rfl (bL rfl) hs trivial (zC (zA (asg rfl rfl (zD (zB (zC (zA ?_)))))))
 refine zM (vs := [vI (0), vI (0), vI (0)]) rfl rfl rfl rfl call44 e3z (fun w hs => o_made_at3 hs (by decide) (by decide) (by decide) (by decide) (by decide) (by decide)) ?_
 intro v1 h1 hh1 r1
 change (rpT (rpQ 2)).Is h1 v1 (T3.mk (((0 : Int) : Int) : Rat) (((0 : Int) : Int) : Rat) (((0 : Int) : Int) : Rat)) at r1
 refine zM (vs := [vI (2), vI (0), vI (0)]) rfl rfl rfl rfl call44 e3z (fun w hs => o_made_at3 hs (by decide) (by decide) (by decide) (by decide) (by decide) (by decide)) ?_
 intro v2 h2 hh2 r2
 change (rpT (rpQ 2)).Is h2 v2 (T3.mk (((2 : Int) : Int) : Rat) (((0 : Int) : Int) : Rat) (((0 : Int) : Int) : Rat)) at r2
 refine zM (vs := [vI (2), vI (2), vI (0)]) rfl rfl rfl rfl call44 e3z (fun w hs => o_made_at3 hs (by decide) (by decide) (by decide) (by decide) (by decide) (by decide)) ?_
 intro v3 h3 hh3 r3
 change (rpT (rpQ 2)).Is h3 v3 (T3.mk (((2 : Int) : Int) : Rat) (((2 : Int) : Int) : Rat) (((0 : Int) : Int) : Rat)) at r3
 refine zM (vs := [vI (0), vI (2), vI (0)]) rfl rfl rfl rfl call44 e3z (fun w hs => o_made_at3 hs (by decide) (by decide) (by decide) (by decide) (by decide) (by decide)) ?_
 intro v4 h4 hh4 r4
 change (rpT (rpQ 2)).Is h4 v4 (T3.mk (((0 : Int) : Int) : Rat) (((2 : Int) : Int) : Rat) (((0 : Int) : Int) : Rat)) at r4
 replace r1 := r1.mono ((hh2.trans hh3).trans hh4)
 replace r2 := r2.mono (hh3.trans hh4)
 replace r3 := r3.mono hh4
 refine zJ (new_buildx (ρ := (rpT (rpQ 2))) (m := 4) (xs := [(T3.mk (((0 : Int) : Int) : Rat) (((0 : Int) : Int) : Rat) (((0 : Int) : Int) : Rat)), (T3.mk (((2 : Int) : Int) : Rat) (((0 : Int) : Int) : Rat) (((0 : Int) : Int) : Rat)), (T3.mk (((2 : Int) : Int) : Rat) (((2 : Int) : Int) : Rat) (((0 : Int) : Int) : Rat)), (T3.mk (((0 : Int) : Int) : Rat) (((2 : Int) : Int) : Rat) (((0 : Int) : Int) : Rat))]) (ps' := [(0, _), (1, _), (2, _), (3, _)]) underlying27 yI rfl rfl rfl (zr_t (xS (by decide))) e8 (yN rfl (Pc.arr (Pc.here _) (T3.mk (0 : Rat) 0 0) 0 (by decide)) r1 (yN rfl (Pc.arr (Pc.here _) (T3.mk (0 : Rat) 0 0) 1 (by decide)) r2 (yN rfl (Pc.arr (Pc.here _) (T3.mk (0 : Rat) 0 0) 2 (by decide)) r3 (yN rfl (Pc.arr (Pc.here _) (T3.mk (0 : Rat) 0 0) 3 (by decide)) r4 fx_nil)))) (show 4 * 9 ≤ 16777216 from by decide) p9N) rfl rfl rfl ?_
 intro v5 q5 hq5
 obtain ⟨cs5, rfl, rl5⟩ := hq5
 refine asg rfl rfl (zD (zB (zR (gq_freezex (A := []) (ρ := (rpT (rpQ 2))) rl5 ?_))))
 intro h5 hh5 rs_1
 refine yJ rfl rfl ?_
 exact rs_1
theorem law26_sane {w0 : World} {h0 : Mem}  (hs : MLe h0 (mem w0))  :
    Calls Tryz.prog 10 #[] w0 (Ret w0 h0 (fun _ r => r = .bool true)) := by
 refine zO (n := 33) (e := []) (vs := []) func10 rfl rfl (bL rfl) hs trivial (zC (zA (asg rfl rfl (zD (zB (zC (zA ?_)))))))
 refine zM (vs := []) rfl rfl rfl rfl call43 trivial (fun w hs => o_law_square hs ) ?_
 intro v4 h1 hh1 r4
 change (rpS (rpT (rpQ 2))).Is h1 v4 sq0 at r4
 refine zM (vs := [vI (1), vI (0), vI (0)]) rfl rfl rfl rfl call44 e3z (fun w hs => o_made_at3 hs (by decide) (by decide) (by decide) (by decide) (by decide) (by decide)) ?_
 intro v5 h2 hh2 r5
 change (rpT (rpQ 2)).Is h2 v5 (T3.mk (((1 : Int) : Int) : Rat) (((0 : Int) : Int) : Rat) (((0 : Int) : Int) : Rat)) at r5
 refine zM (vs := [vI (1)]) rfl rfl rfl rfl call45 ⟨rfl, trivial⟩ (fun w hs => o_rref_int hs (by decide) (by decide)) ?_
 intro v6 h3 hh3 r6
 change (rpQ 2).Is h3 v6 (((1 : Int) : Int) : Rat) at r6
 replace r5 := r5.mono hh3
 refine xQ (F := fun v_ => (rpP (rpT (rpQ 2)) (rpQ 2)).Is h3 v_ ((T3.mk (((1 : Int) : Int) : Rat) (((0 : Int) : Int) : Rat) (((0 : Int) : Int) : Rat)), (((1 : Int) : Int) : Rat))) (ox_build (ps' := [(0, _), (1, _)]) underlying34 info34 rfl rfl (places34 underlying34) e4z rfl (zr_p (zr_t (xS (by decide))) (xS (by decide))) (yN rfl (Pc.fst (Pc.here _)) r5 (yN rfl (Pc.snd (Pc.here _)) r6 fx_nil))) mem0 rfl ?_
 intro v7 r7
 replace r4 := r4.mono (hh2.trans hh3)
 refine zM (vs := [_, _]) rfl rfl rfl rfl call14 e2z (fun w hs => o_cx_cut hs r4 r7 (by decide) (by decide) (by decide) (by first | omega | exact (by decide : 4 ≤ 50000))) ?_
 intro v8 h4 hh4 r8
 obtain ⟨v8_0, v8_1, rfl, r8_0, r8_1⟩ := r8
 change (rpS (rpT (rpQ (12 * 2 + 3 * 2 + 9 * 2 + 62 + 2)))).Is h4 v8_0 (cutB ((T3.mk (((1 : Int) : Int) : Rat) (((0 : Int) : Int) : Rat) (((0 : Int) : Int) : Rat)), (((1 : Int) : Int) : Rat)) sq0) at r8_0
 replace r8_0 := Rp.Is.le r8_0 (Le.s (Le.t (Le.q (l := 112) (by omega))))
 change (rpS (rpT (rpQ (12 * 2 + 3 * 2 + 9 * 2 + 62 + 2)))).Is h4 v8_1 (cutF ((T3.mk (((1 : Int) : Int) : Rat) (((0 : Int) : Int) : Rat) (((0 : Int) : Int) : Rat)), (((1 : Int) : Int) : Rat)) sq0) at r8_1
 replace r8_1 := Rp.Is.le r8_1 (Le.s (Le.t (Le.q (l := 112) (by omega))))
 refine mv rfl rfl (gv (zN (vs := [_, _]) rfl rfl) rfl (gv (zN (vs := [_, _]) rfl rfl) rfl (asg rfl rfl (asg rfl rfl (zD (zB (zC ?_)))))))
 refine yG 23 _ [] [(0, .q), (1, .q), (2, .q), (3, .q), (4, .q), (5, .q), (6, .q), (7, .q), (8, .q), (9, .q), (10, .q), (11, .q), (12, .c), (13, .c), (14, .q), (15, .q), (16, .q), (17, .q), (18, .q), (19, .c), (20, .c), (21, .q), (22, .q)] xG nX (chk_of [0, 1, 2, 4, 8, 24, 40, 72, 136, 256, 768, 1280, 256, 6400, 8448, 24576, 32768, 98304, 163840, 32768, 819200, 1081344, 4194303] [8388607, 8388606, 8388605, 8388603, 8388599, 8388583, 8388567, 8388535, 8388479, 8388351, 8387839, 8387327, 8388351, 8382207, 8380159, 8372223, 8355839, 8290303, 8224767, 8355839, 7569407, 7307263, 6291455] (by kernel_rfl)) nX (fun r hr => hr) (w_q rfl (fun h' L' hh hR => zH rfl) rfl (w_q rfl (fun h' L' hh hR => ov_len_sr underlying27 rfl (r8_0.mono hh)) rfl (w_q rfl (fun h' L' hh hR => OpV.tr (by exact congrArg (fun l : List Pt => (↑l.length : Int)) sane_parts.1) (ov_eql_i (q := 4) rfl rfl)) rfl (w_q rfl (fun h' L' hh hR => zH rfl) rfl (w_q_on rfl rfl rfl (fun h' L' hh hR => zH rfl) rfl (w_q_on rfl rfl rfl (fun h' L' hh hR => ov_len_sr underlying27 rfl (r8_1.mono hh)) rfl (w_q_on rfl rfl rfl (fun h' L' hh hR => OpV.tr (by exact congrArg (fun l : List Pt => (↑l.length : Int)) sane_parts.2) (ov_eql_i (q := 4) rfl rfl)) rfl (w_q rfl (fun h' L' hh hR => xU rfl rfl) rfl (w_q rfl (fun h' L' hh hR => zH rfl) rfl (w_q_on rfl rfl rfl (fun h' L' hh hR => zH rfl) rfl (w_qx_on (F := fun v_ => AtP (rpT (rpQ 112)) h4 v_ ((cutB ((T3.mk (((1 : Int) : Int) : Rat) (((0 : Int) : Int) : Rat) (((0 : Int) : Int) : Rat)), (((1 : Int) : Int) : Rat)) sq0).getD 1 (T3.mk (0 : Rat) 0 0))) rfl rfl rfl (ox_idx_s (q := 1) (T3.mk (0 : Rat) 0 0) 1 underlying27 xF rfl rfl r8_0 rfl (by exact Nat.lt_of_lt_of_eq (by decide : 1 < 4) (congrArg List.length sane_parts.1).symm) p9N) mem0 rfl ?_)))))))))))
 intro v21 r21
 refine w_qx_on (F := fun v_ => (rpT (rpQ 112)).Is h4 v_ ((cutB ((T3.mk (((1 : Int) : Int) : Rat) (((0 : Int) : Int) : Rat) (((0 : Int) : Int) : Rat)), (((1 : Int) : Int) : Rat)) sq0).getD 1 (T3.mk (0 : Rat) 0 0))) rfl rfl rfl (ox_load_at xF rfl r21) mem0 rfl ?_
 intro v22 r22
 refine w_c rfl (s_on rfl rfl ?_)
 refine zY (vs := [vI (1), vI (0), vI (0)]) call44 e3z (fun w hs => o_made_at3 hs (by decide) (by decide) (by decide) (by decide) (by decide) (by decide)) rfl ?_
 intro v23 h5 hh5 r23
 change (rpT (rpQ 2)).Is h5 v23 (T3.mk (((1 : Int) : Int) : Rat) (((0 : Int) : Int) : Rat) (((0 : Int) : Int) : Rat)) at r23
 refine w_c rfl (s_on rfl rfl ?_)
 replace r22 := r22.mono hh5
 refine zY (vs := [_, _]) call29 e2z (fun w hs => o_r4_same hs r22 r23 (by decide)) rfl ?_
 intro v24 h6 hh6 r24
 obtain rfl : v24 = .bool true := by rw [show v24 = vB (((cutB ((T3.mk (((1 : Int) : Int) : Rat) (((0 : Int) : Int) : Rat) (((0 : Int) : Int) : Rat)), (((1 : Int) : Int) : Rat)) sq0).getD 1 (T3.mk (0 : Rat) 0 0)) = (T3.mk (((1 : Int) : Int) : Rat) (((0 : Int) : Int) : Rat) (((0 : Int) : Int) : Rat))) from r24, vB_true (by exact (congrArg (fun l : List Pt => l.getD 1 zT) sane_parts.1).trans sane_pt)]
 refine w_q rfl (fun h' L' hh hR => xU rfl rfl) rfl (w_q rfl (fun h' L' hh hR => zH rfl) rfl (w_q_on rfl rfl rfl (fun h' L' hh hR => zH rfl) rfl ?_))
 replace r8_1 := r8_1.mono (hh5.trans hh6)
 refine w_qx_on (F := fun v_ => AtP (rpT (rpQ 112)) h6 v_ ((cutF ((T3.mk (((1 : Int) : Int) : Rat) (((0 : Int) : Int) : Rat) (((0 : Int) : Int) : Rat)), (((1 : Int) : Int) : Rat)) sq0).getD 0 (T3.mk (0 : Rat) 0 0))) rfl rfl rfl (ox_idx_s (q := 0) (T3.mk (0 : Rat) 0 0) 0 underlying27 xF rfl rfl r8_1 rfl (by exact Nat.lt_of_lt_of_eq (by decide : 0 < 4) (congrArg List.length sane_parts.2).symm) p9N) mem0 rfl ?_
 intro v28 r28
 refine w_qx_on (F := fun v_ => (rpT (rpQ 112)).Is h6 v_ ((cutF ((T3.mk (((1 : Int) : Int) : Rat) (((0 : Int) : Int) : Rat) (((0 : Int) : Int) : Rat)), (((1 : Int) : Int) : Rat)) sq0).getD 0 (T3.mk (0 : Rat) 0 0))) rfl rfl rfl (ox_load_at xF rfl r28) mem0 rfl ?_
 intro v29 r29
 refine w_c rfl (s_on rfl rfl ?_)
 refine zY (vs := [vI (1), vI (0), vI (0)]) call44 e3z (fun w hs => o_made_at3 hs (by decide) (by decide) (by decide) (by decide) (by decide) (by decide)) rfl ?_
 intro v30 h7 hh7 r30
 change (rpT (rpQ 2)).Is h7 v30 (T3.mk (((1 : Int) : Int) : Rat) (((0 : Int) : Int) : Rat) (((0 : Int) : Int) : Rat)) at r30
 refine w_c rfl (s_on rfl rfl ?_)
 replace r29 := r29.mono hh7
 refine zY (vs := [_, _]) call29 e2z (fun w hs => o_r4_same hs r29 r30 (by decide)) rfl ?_
 intro v31 h8 hh8 r31
 obtain rfl : v31 = .bool true := by rw [show v31 = vB (((cutF ((T3.mk (((1 : Int) : Int) : Rat) (((0 : Int) : Int) : Rat) (((0 : Int) : Int) : Rat)), (((1 : Int) : Int) : Rat)) sq0).getD 0 (T3.mk (0 : Rat) 0 0)) = (T3.mk (((1 : Int) : Int) : Rat) (((0 : Int) : Int) : Rat) (((0 : Int) : Int) : Rat))) from r31, vB_true (by exact (congrArg (fun l : List Pt => l.getD 0 zT) sane_parts.2).trans sane_pt)]
 refine w_q rfl (fun h' L' hh hR => xU rfl rfl) rfl (w_q rfl (fun h' L' hh hR => yK rfl) rfl (yZ (zK (e' := [(0, _)]) ⟨rfl, trivial⟩ (zB (zR (yJ rfl rfl ?_))))))
 rfl
theorem o_law_polyof {w0 w : World} {h0 h : Mem} {b k : Nat} {vl : Value} {xs : List Int} (hl : Is h vl xs) (hk : k ≤ xs.length) {L : List Res} (hs : St w0 h0 (.var b 65 [vl, vI ↑k] :: L) h w) :
    Calls Tryz.prog 12 #[vP b 0] w (RetMut w0 h0 h L (fun g r q' => ∃ k' : Nat, ∃ u0 u1 : Value, ∃ m : List (T3 Rat), ∃ s : (T3 Rat) × Rat, q' = .var b 65 [vl, vI ↑k'] ∧ k' ≤ xs.length ∧ (convP s m ∧ m.length ≤ 32) ∧ r = .tuple #[u0, u1] ∧ (rpS (rpT (rpQ 140000))).Is g u0 m ∧ (rpP (rpT (rpQ 2)) (rpQ 2)).Is g u1 s)) := by
 have hlen := hl.lt63
 refine calls_begin_st (n := 46) (e := [(0, vP b 0)]) (vs := [vP b 0]) func12 rfl rfl (bL rfl) hs ⟨rfl, trivial⟩ (zC (zA (asg rfl rfl (zJ (yQ (ρ := (rpP (rpT (rpQ 2)) (rpQ 2))) (X := ((T3.mk (0 : Rat) 0 0), (0 : Rat))) info34 rfl rfl (zr_p (zr_t (xS (by decide))) (xS (by decide)))) rfl rfl rfl ?_))))
 intro v3 q3 hq3
 obtain ⟨b3, cs3, rfl, rfl, rb3⟩ := hq3
 refine zD (zB (zC (zA (mv rfl rfl ?_))))
 refine xT (A := [_]) (vs := [_]) call13 ⟨rfl, trivial⟩ (fun X w hs => o_dice_plane hl (by first | omega | exact Nat.zero_le _) hs) rfl ?_
 intro v11 g11 q11 hg11 hr11
 obtain ⟨k11, p11, rfl, hk11, hr11⟩ := hr11
 refine zJ (yQ (ρ := (rpP (rpT (rpQ 2)) (rpQ 2))) (X := ((T3.mk (0 : Rat) 0 0), (0 : Rat))) info34 rfl rfl (zr_p (zr_t (xS (by decide))) (xS (by decide)))) rfl rfl rfl ?_
 intro v4 q4 hq4
 obtain ⟨b4, cs4, rfl, rfl, rb4⟩ := hq4
 refine xO (A := []) (F := fun c_ => (rpP (rpT (rpQ 2)) (rpQ 2)).R g11 c_ p11) (zX sizeOf34 (Pc.here _) rfl rfl rfl rb4 hr11 rfl) ?_
 intro cs_2 rb_3
 refine zD (zB (zC ?_))
 refine gc_draw1 (A := [_, _]) 12 [] [(0, .q), (1, .q), (3, .q), (2, .c), (4, .c), (5, .c), (6, .c), (7, .q), (8, .q), (9, .q), (10, .q), (11, .q)] xG nX (chk_of [0, 0, 2, 0, 12, 20, 49, 64, 128, 128, 511, 2047] [4095, 4095, 4093, 4095, 4087, 4075, 4062, 4031, 3967, 3967, 3839, 3583] (by kernel_rfl)) nX (yO (F := fun v_ => (rpP (rpT (rpQ 2)) (rpQ 2)).Is g11 v_ p11) rfl (zE ty34 (Pc.here _) rfl rfl rb_3 rfl) (yD (.head _)) rfl ?_)
 intro v13 r13
 refine w_q rfl (fun h' L' hh hR => zH rfl) rfl (w_q rfl (fun h' L' hh hR => zH rfl) rfl ?_)
 refine w_c rfl ?_
 replace hl := hl.mono hg11
 refine s_call_mut (A := [_, _]) (vs := [_]) call33 ⟨rfl, trivial⟩ (fun X w hs => o_dice_spot hl (by first | omega | exact Nat.zero_le _) hs) rfl (mem_kept (by first | (simp; done) | grind)) ?_
 intro v15 g15 q15 hg15 hr15
 obtain ⟨k15, p15, rfl, hk15, hr15⟩ := hr15
 refine w_c rfl ?_
 replace hl := hl.mono hg15
 refine s_call_mut (A := [_, _]) (vs := [_]) call33 ⟨rfl, trivial⟩ (fun X w hs => o_dice_spot hl (by first | omega | exact Nat.zero_le _) hs) rfl (mem_kept (by first | (simp; done) | grind)) ?_
 intro v17 g17 q17 hg17 hr17
 obtain ⟨k17, p17, rfl, hk17, hr17⟩ := hr17
 refine w_c rfl ?_
 replace hr15 := hr15.mono hg17
 refine s_new (fun X => new_buildx (ρ := (rpT (rpQ 2))) (m := 2) (xs := [p15, p17]) (ps' := [(0, _), (1, _)]) underlying27 yI rfl rfl rfl (zr_t (xS (by decide))) e4z (yN rfl (Pc.arr (Pc.here _) (T3.mk (0 : Rat) 0 0) 0 (by decide)) hr15 (yN rfl (Pc.arr (Pc.here _) (T3.mk (0 : Rat) 0 0) 1 (by decide)) hr17 fx_nil)) (show 2 * 9 ≤ 16777216 from by decide) p9N) rfl ?_
 intro v18 q18 hq18
 obtain ⟨cs18, rfl, rl18⟩ := hq18
 refine w_c rfl (s_freezex (A := []) (ρ := (rpT (rpQ 2))) rl18 (drop_kept (by first | (simp; done) | grind)) ?_)
 intro h1 hh1 rs_4
 replace r13 := r13.mono ((hg15.trans hg17).trans hh1)
 refine zY (vs := [_, _]) call37 e2z (fun w hs => o_r6_around hs r13 rs_4 (by decide) (by decide) (by decide)) rfl ?_
 intro v19 h2 hh2 r19
 obtain ⟨v19_0, rfl, r19_0⟩ := r19
 change (rpS (rpT (rpQ (3 * 2 + 2 + 4 * 2 + 45)))).Is h2 v19_0 (aroZ p11 [p15, p17]) at r19_0
 replace r19_0 := Rp.Is.le r19_0 (Le.s (Le.t (Le.q (l := 61) (by omega))))
 refine w_q rfl (fun h' L' hh hR => zH rfl) rfl (w_q rfl (fun h' L' hh hR => zN (vs := [_, _]) rfl rfl) rfl (w_q rfl (fun h' L' hh hR => zN (vs := [_, _]) rfl rfl) rfl (w_q rfl (fun h' L' hh hR => yK rfl) rfl (w_q rfl (fun h' L' hh hR => yK rfl) rfl (yZ (zK (e' := [(0, _), (3, _), (4, _), (5, _), (6, _)]) e5 (zB (zC (zC (zA (mv rfl rfl (gv (ov_not rfl) rfl (zD ?_)))))))))))))
 refine zB ?_
 refine zP rfl (fun hc23 => ?_) (fun hc23 => ?_)
 ·
  refine zC (zA ?_)
  refine zM (vs := []) rfl rfl rfl rfl call43 trivial (fun w hs => o_law_square hs ) ?_
  intro v24 h3 hh3 r24
  change (rpS (rpT (rpQ 2))).Is h3 v24 sq0 at r24
  refine zM (vs := [vI (0), vI (0), vI (1)]) rfl rfl rfl rfl call44 e3z (fun w hs => o_made_at3 hs (by decide) (by decide) (by decide) (by decide) (by decide) (by decide)) ?_
  intro v25 h4 hh4 r25
  change (rpT (rpQ 2)).Is h4 v25 (T3.mk (((0 : Int) : Int) : Rat) (((0 : Int) : Int) : Rat) (((1 : Int) : Int) : Rat)) at r25
  refine xQ (F := fun v_ => (rpP (rpT (rpQ 2)) (rpQ 1)).Is h4 v_ ((T3.mk (((0 : Int) : Int) : Rat) (((0 : Int) : Int) : Rat) (((1 : Int) : Int) : Rat)), (0 : Rat))) (ox_build (ps' := [(0, _)]) underlying34 info34 rfl rfl (places34 underlying34) e2z rfl (zr_p (zr_t (xS (by decide))) (xS (by decide))) (yN rfl (Pc.fst (Pc.here _)) r25 fx_nil)) mem0 rfl ?_
  intro v26 r26
  refine asg rfl rfl ?_
  replace rb3 := rb3.mono ((((((hg11.trans hg15).trans hg17).trans hh1).trans hh2).trans hh3).trans hh4)
  refine xO (A := [_]) (F := fun c_ => (rpP (rpT (rpQ 2)) (rpQ 2)).R h4 c_ ((T3.mk (((0 : Int) : Int) : Rat) (((0 : Int) : Int) : Rat) (((1 : Int) : Int) : Rat)), (0 : Rat))) (zX sizeOf34 (Pc.here _) rfl rfl rfl rb3 (r26.le (Le.p (Le.refl _) (Le.q (l := 2) (by decide)))) rfl) ?_
  intro cs_5 rb_6
  refine zD (zB (zR (yA (gq_exv (rv_o (t := 3) ty34 (.tail _ (.head _)) rfl rb_6) ?_))))
  intro w_7 hvw_7 rr_8
  refine gq_res_own (fun E S => run_res2 rfl (rv_tmp rfl) hvw_7 E S) ?_
  replace r24 := r24.mono hh4
  exact ⟨_, (.cons _ (.cons _ (List.Sublist.refl _))), ((((((hg11.trans hg15).trans hg17).trans hh1).trans hh2).trans hh3).trans hh4), _, _, _, _, _, rfl, by omega, (by first | exact ⟨sq0_conv, by decide⟩ | exact ⟨hcv, by omega⟩), rfl, (Rp.Is.le r24 (Le.s (Le.t (Le.q (l := 140000) (by decide))))), rr_8⟩
 have hnz : ¬ p11.1 = zT := fun e => (Classical.not_not.1 hc23) (.inr e)
 refine zL (zB (zC (zC (zA (mv rfl rfl ?_)))))
 replace hl := hl.mono ((hg17.trans hh1).trans hh2)
 refine xT (A := [_, _]) (vs := [_, vI (4)]) call22 e2z (fun X w hs => dice_next hl (by first | omega | exact Nat.zero_le _) (by omega) (by omega) hs) rfl ?_
 intro v28 g28 q28 hg28 hr28
 obtain ⟨k28, z28, rfl, hk28, rfl, hz28, hy28⟩ := hr28
 refine asg rfl rfl (zD (zB (zQ ?_)))
 refine gc_loop (ι := Nat × Nat × List (T3 Rat) × Value × Nat × Mem) (fun (n, kk, lv, u5_9, kd_11, ma) => MLe g28 ma ∧ ((rpS (rpT (rpQ kk))).Is ma u5_9 lv ∧ kd_11 ≤ xs.length ∧ ((n = 3 ∧ kk ≤ 61 ∧ lv.length ≤ 4) ∨ (n ≤ 2 ∧ kk ≤ 900 ∧ lv.length ≤ 8) ∨ (n ≤ 1 ∧ kk ≤ 11000 ∧ lv.length ≤ 16) ∨ (n = 0 ∧ kk ≤ 140000 ∧ lv.length ≤ 32)) ∧ convP p11 lv)) (fun (n, kk, lv, u5_9, kd_11, ma) => [(0, vP b 0), (3, vP b3 0), (4, vP b4 0), (5, u5_9), (7, vI ↑n)]) (fun (n, kk, lv, u5_9, kd_11, ma) => (.var b4 34 cs_2 :: .var b3 34 cs3 :: .var b 65 [vl, vI ↑kd_11] :: L)) (fun (n, kk, lv, u5_9, kd_11, ma) => ma) (fun (n, kk, lv, u5_9, kd_11, ma) => n) (z28.toNat, 61, (aroZ p11 [p15, p17]), v19_0, k28, g28) ?_ ⟨?_, ?_, ?_, ?_, ?_, trivial⟩ rfl rfl ?_
 ·
  refine ⟨MLe.refl _, ?_⟩
  replace r19_0 := r19_0.mono hg28
  refine ⟨r19_0, (by omega), ?_⟩
  exact ⟨by have := (aro_conv (s := p11) (ps := [p15, p17]) (by simp) hnz).2; omega, (aro_conv (by simp) hnz).1⟩
 · exact rfl
 · exact rfl
 · exact rfl
 · exact rfl
 · exact congrArg (fun z => some (vI z)) (by omega)
 intro x hx
 obtain ⟨n, kk, lv, u5_9, kd_11, ma⟩ := x
 obtain ⟨hmma, hinv⟩ := hx
 show GC _ _ _ _ _ _ [(0, vP b 0), (3, vP b3 0), (4, vP b4 0), (5, u5_9), (7, vI ↑n)] (.var b4 34 cs_2 :: .var b3 34 cs3 :: .var b 65 [vl, vI ↑kd_11] :: L) ma
 obtain ⟨ru_10, hkd_12, hinv⟩ := hinv
 obtain ⟨hnk, hcv⟩ := hinv
 refine zC (zC (zA (mv rfl rfl (gv (ov_gtr_i (q := 0) rfl rfl) rfl (zD (zB ?_))))))
 refine zP rfl (fun hc30 => ?_) (fun hc30 => ?_)
 ·
  refine zL (zB (zC (zQ (zC (zA (mv rfl rfl (mv rfl rfl ?_)))))))
  replace hl := hl.mono (hg28.trans hmma)
  refine xT (A := [_, _]) (vs := [_]) call13 ⟨rfl, trivial⟩ (fun X w hs => o_dice_plane hl (by first | omega | exact Nat.zero_le _) hs) rfl ?_
  intro v36 g36 q36 hg36 hr36
  obtain ⟨k36, p36, rfl, hk36, hr36⟩ := hr36
  replace ru_10 := ru_10.mono hg36
  refine zM (vs := [_, _]) rfl rfl rfl rfl call15 e2z (fun w hs => o_r6_cut hs ru_10 hr36 (by omega) (by decide) (by decide) (by omega)) ?_
  intro v37 h3 hh3 r37
  obtain ⟨v37_0, v37_1, rfl, r37_0, r37_1⟩ := r37
  change (rpS (rpT (rpQ (12 * kk + 3 * 2 + 9 * 2 + 62)))).Is h3 v37_0 (cutB p36 lv) at r37_0
  replace r37_0 := Rp.Is.le r37_0 (Le.s (Le.t (Le.q (l := 12 * kk + 86) (by omega))))
  change (rpS (rpT (rpQ (12 * kk + 3 * 2 + 9 * 2 + 62)))).Is h3 v37_1 (cutF p36 lv) at r37_1
  replace r37_1 := Rp.Is.le r37_1 (Le.s (Le.t (Le.q (l := 12 * kk + 86) (by omega))))
  refine mv rfl rfl (gv (zN (vs := [_, _]) rfl rfl) rfl (gv (zN (vs := [_, _]) rfl rfl) rfl (asg rfl rfl (asg rfl rfl (zD (zK (e' := [(0, _), (3, _), (4, _), (5, _), (7, _), (8, _)]) e6 (zB (zC (zA (mv rfl rfl (gv (ov_len_sr underlying27 rfl r37_0) rfl (gv (ov_gtr_i (q := 0) rfl rfl) rfl (zD ?_)))))))))))))
  refine zB ?_
  refine zP rfl (fun hc42 => ?_) (fun hc42 => ?_)
  ·
   refine zA (mv rfl rfl (asg rfl rfl (zD (yY (zB (zA (mv rfl rfl (gv (xE (q := 1) rfl rfl (by omega) (by omega)) rfl (asg rfl rfl (zD ?_))))))))))
   refine yW ((n - 1), (12 * kk + 86), (cutB p36 lv), v37_0, k36, h3) ?_ ?_ ⟨rfl, rfl, rfl, rfl, ?_, trivial⟩ rfl rfl
   ·
    refine ⟨((hmma.trans hg36).trans hh3), ?_⟩
    refine ⟨(Rp.Is.le r37_0 (Le.s (Le.t (Le.q (by omega))))), (by omega), ?_⟩
    exact ⟨by have := cutB_len p36 lv; omega, (cutB_valid p36 hcv).resolve_right (fun e => by rw [e] at hc42; exact absurd hc42 (by decide))⟩
   ·
    dsimp only
    omega
   · exact congrArg (fun z => some (vI z)) (by omega)
  refine zL (yY (zB (zA (mv rfl rfl (gv (xE (q := 1) rfl rfl (by omega) (by omega)) rfl (asg rfl rfl (zD ?_)))))))
  refine yW ((n - 1), kk, lv, u5_9, k36, h3) ?_ ?_ ⟨rfl, rfl, rfl, rfl, ?_, trivial⟩ rfl rfl
  ·
   refine ⟨((hmma.trans hg36).trans hh3), ?_⟩
   replace ru_10 := ru_10.mono hh3
   refine ⟨(Rp.Is.le ru_10 (Le.s (Le.t (Le.q (by omega))))), (by omega), ?_⟩
   exact ⟨by omega, hcv⟩
  ·
   dsimp only
   omega
  · exact congrArg (fun z => some (vI z)) (by omega)
 refine xK (yE (yE (xJ (zB (zC ?_)))))
 refine yG 3 _ [] [(0, .q), (1, .q), (2, .q), (3, .t)] xG nX (by kernel_rfl) nX (fun r hr => hr) (w_q rfl (fun h' L' hh hR => zH rfl) rfl ?_)
 replace rb_3 := rb_3.mono (((((hg15.trans hg17).trans hh1).trans hh2).trans hg28).trans hmma)
 refine yO (F := fun v_ => (rpP (rpT (rpQ 2)) (rpQ 2)).Is ma v_ p11) rfl (zE ty34 (Pc.here _) rfl rfl rb_3 rfl) (yD (.head _)) rfl ?_
 intro v45 r45
 refine w_q rfl (fun h' L' hh hR => yK rfl) rfl ?_
 replace rb3 := rb3.mono ((((((hg11.trans hg15).trans hg17).trans hh1).trans hh2).trans hg28).trans hmma)
 refine yV (A := [_]) (F := fun c_ => (rpP (rpT (rpQ 2)) (rpQ 2)).R ma c_ p11) rfl (zX sizeOf34 (Pc.here _) rfl rfl rfl rb3 r45 rfl) ?_
 intro cs_13 rb_14
 refine yZ (zB (zR (gq_exv (rv_o (t := 3) ty34 (.tail _ (.head _)) rfl rb_14) ?_)))
 intro w_15 hvw_15 rr_16
 refine gq_res_own (fun E S => run_res2 rfl (rv_tmp rfl) hvw_15 E S) ?_
 exact ⟨_, (.cons _ (.cons _ (List.Sublist.refl _))), ((((((hg11.trans hg15).trans hg17).trans hh1).trans hh2).trans hg28).trans hmma), _, _, _, _, _, rfl, by omega, (by first | exact ⟨sq0_conv, by decide⟩ | exact ⟨hcv, by omega⟩), rfl, (Rp.Is.le ru_10 (Le.s (Le.t (Le.q (l := 140000) (by omega))))), rr_16⟩
end Go.Proofs.YtghhjjmjpeehdaaGreat
namespace Bk
set_option linter.unusedVariables false
set_option linter.unusedSimpArgs false
open Classical
noncomputable abbrev lp2 (pl : Pl) (l : List Pt) : Nat → P2 := fun m => pt2 pl (gp l m)
def upr (pl : Pl) (a b : Pt) : Pl := (crossT (subT b a) pl.1, dotT (crossT (subT b a) pl.1) a)
def inP (pl : Pl) (l : List Pt) (p : Pt) : Prop := (∀ m, m < l.length → ¬ 0 < sdZ (upr pl (gp l m) (nx l m)) p) ∧ 0 < l.length
noncomputable def afC (pl c : Pl) : Rat × Rat × Rat :=
  (c.1.at (axK pl.1) / pl.1.at (axK pl.1) * pl.2 - c.2, c.1.at (axI pl.1) - c.1.at (axK pl.1) / pl.1.at (axK pl.1) * pl.1.at (axI pl.1), c.1.at (axJ pl.1) - c.1.at (axK pl.1) / pl.1.at (axK pl.1) * pl.1.at (axJ pl.1))
def ngP (c : Pl) : Pl := (T3.mk (-c.1.x) (-c.1.y) (-c.1.z), -c.2)
end Bk
namespace Bk
set_option linter.unusedVariables false
set_option linter.unusedSimpArgs false
open Classical
def sumT (l : List Pt) : Nat → Pt
  | 0 => zT
  | m + 1 => addT (sumT l m) (gp l m)
noncomputable def cenZ (l : List Pt) : Pt := if l.length = 0 then zT else T3.mk (xR 1 ↑l.length * (sumT l l.length).x) (xR 1 ↑l.length * (sumT l l.length).y) (xR 1 ↑l.length * (sumT l l.length).z)
def hsum (c : Pl) (l : List Pt) : Nat → Rat
  | 0 => 0
  | m + 1 => hsum c l m + hgt c (gp l m)
end Bk
namespace Go.Proofs.YtghhjjmjpeehdaaGreat
open Bk Go Tryz
set_option linter.unusedVariables false
set_option linter.unusedSimpArgs false
set_option maxRecDepth 10000
theorem o_rref_make {w0 : World} {h0 : Mem} (hs : MLe h0 (mem w0)) {n : Int} (hn1 : -9223372036854775808 ≤ n) (hn2 : n < 9223372036854775808) {d : Int} (hd1 : -9223372036854775808 ≤ d) (hd2 : d < 9223372036854775808)  :
    Calls Tryz.prog 52 #[vI n, vI d] w0 (Ret w0 h0 (fun h r => ∃ u0, r = .tuple #[u0, vI (if d = 0 then 3 else 0)] ∧ (rpQ 2).Is h u0 (xR n d))) := by
  exact (rref_make hs   hn1 hn2 hd1 hd2).mono (ret_imp fun h r x => by obtain ⟨u, e, y⟩ := x; exact ⟨u, e, is_q y (by exact lq_make hn1 hn2 hd1 hd2)⟩)
theorem o_r6_upright {w0 : World} {h0 : Mem}  (hs : MLe h0 (mem w0)) {m l k : Nat} {vs : Value} {s : ((T3 Rat) × Rat)} (rs : (rpP (rpT (rpQ m)) (rpQ l)).Is h0 vs s) {va : Value} {a : (T3 Rat)} (ra : (rpT (rpQ k)).Is h0 va a) {vb : Value} {b : (T3 Rat)} (rb : (rpT (rpQ k)).Is h0 vb b) (hcd0 : k ≤ 50000000) (hcd1 : l ≤ 50000000) (hcd2 : m ≤ 50000000)  :
    Calls Tryz.prog 39 #[vs, va, vb] w0 (Ret w0 h0 (fun h r => (rpP (rpT (rpQ (4 * k + 2 * m + 5))) (rpQ (15 * k + 6 * m + 24))).Is h r (upr s a b))) := by
 refine zO (n := 19) (e := [(0, vs), (1, va), (2, vb)]) (vs := [vs, va, vb]) func39 rfl rfl (bL rfl) hs e3z (zC (zA (zJ (yU (ρ := (rpP (rpT (rpQ m)) (rpQ l))) rfl rs) rfl rfl rfl ?_)))
 intro v3 q3 hq3
 obtain ⟨b3, cs3, rfl, rfl, rb3⟩ := hq3
 refine zJ (yU (ρ := (rpT (rpQ k))) rfl ra) rfl rfl rfl ?_
 intro v4 q4 hq4
 obtain ⟨b4, cs4, rfl, rfl, rb4⟩ := hq4
 refine zJ (yU (ρ := (rpT (rpQ k))) rfl rb) rfl rfl rfl ?_
 intro v5 q5 hq5
 obtain ⟨b5, cs5, rfl, rfl, rb5⟩ := hq5
 refine zJ (yQ (ρ := (rpP (rpT (rpQ 1)) (rpQ 1))) (X := ((T3.mk (0 : Rat) 0 0), (0 : Rat))) info34 rfl rfl (zr_p (zr_t (xS (by decide))) (xS (by decide)))) rfl rfl rfl ?_
 intro v6 q6 hq6
 obtain ⟨b6, cs6, rfl, rfl, rb6⟩ := hq6
 refine zD (zB (zC ?_))
 refine yG 7 _ [(6, (7, 32, [.bool false, .slice none 0 0, .slice none 0 0, .bool false, .slice none 0 0, .slice none 0 0, .bool false, .slice none 0 0, .slice none 0 0]))] [(0, .q), (1, .q), (3, .q), (4, .q), (2, .c), (5, .c), (6, .a), (7, .t)] xG (AlOk.cons rfl rfl (zero_run yI rfl rfl) AlOk.nil) (by kernel_rfl) (hae_cons rfl rfl hae_nil) (fun r hr => hr) (yO (F := fun v_ => (rpT (rpQ k)).Is h0 v_ b) rfl (zE xF (Pc.here _) rfl rfl rb5 rfl) (yD (.tail _ (.head _))) rfl ?_)
 intro v8 r8
 refine yO (F := fun v_ => (rpT (rpQ k)).Is h0 v_ a) rfl (zE xF (Pc.here _) rfl rfl rb4 rfl) (yD (.tail _ (.tail _ (.head _)))) rfl ?_
 intro v9 r9
 refine w_q rfl (fun h' L' hh hR => (zI underlying34 rfl sizeOf32 rfl).cv (show _ = vP b3 0 from congrArg (vP b3) (by rfl))) rfl (yO (F := fun v_ => (rpT (rpQ m)).Is h0 v_ s.1) rfl (zE xF (Pc.fst (Pc.here _)) rfl rfl rb3 rfl) (yD (.tail _ (.tail _ (.tail _ (.head _))))) rfl ?_)
 intro v12 r12
 refine w_c rfl ?_
 refine zY (vs := [_, _]) call23 e2z (fun w hs => o_s4_sub hs r8 r9 (by omega)) rfl ?_
 intro v10 h1 hh1 r10
 change (rpT (rpQ (k + k + 1))).Is h1 v10 (T3.mk (b.x - a.x) (b.y - a.y) (b.z - a.z)) at r10
 replace r10 := Rp.Is.le r10 (Le.t (Le.q (l := 2 * k + 1) (by omega)))
 refine w_c rfl ?_
 replace r12 := r12.mono hh1
 refine zY (vs := [_, _]) call61 e2z (fun w hs => o_r4_cross hs r10 r12 (by omega)) rfl ?_
 intro v13 h2 hh2 r13
 change (rpT (rpQ (2 * (2 * k + 1) + 2 * m + 3))).Is h2 v13 (crossT (T3.mk (b.x - a.x) (b.y - a.y) (b.z - a.z)) s.1) at r13
 replace r13 := Rp.Is.le r13 (Le.t (Le.q (l := 4 * k + 2 * m + 5) (by omega)))
 refine w_a rfl rfl (fun b7 => ?_)
 have rb7 : (rpT (rpQ (4 * k + 2 * m + 5))).R h2 [.bool false, .slice none 0 0, .slice none 0 0, .bool false, .slice none 0 0, .slice none 0 0, .bool false, .slice none 0 0, .slice none 0 0] (T3.mk (0 : Rat) 0 0) := (zr_t (xS (by omega)))
 refine yV (A := []) (F := fun c_ => (rpT (rpQ (4 * k + 2 * m + 5))).R h2 c_ (crossT (T3.mk (b.x - a.x) (b.y - a.y) (b.z - a.z)) s.1)) rfl (zX sizeOf32 (Pc.here _) rfl rfl rfl rb7 r13 rfl) ?_
 intro cs_6 rb_7
 refine yZ (zK (e' := [(4, _), (6, _), (7, _)]) e3z (zB (zC ?_)))
 refine yG 5 _ [] [(0, .q), (1, .q), (2, .q), (3, .c), (4, .q), (5, .t)] xG nX (by kernel_rfl) nX (fun r hr => hr) (yO (F := fun v_ => (rpT (rpQ (4 * k + 2 * m + 5))).Is h2 v_ (crossT (T3.mk (b.x - a.x) (b.y - a.y) (b.z - a.z)) s.1)) rfl (zE xF (Pc.here _) rfl rfl rb_7 rfl) (yD (.head _)) rfl ?_)
 intro v14 r14
 refine yO (F := fun v_ => (rpT (rpQ (4 * k + 2 * m + 5))).Is h2 v_ (crossT (T3.mk (b.x - a.x) (b.y - a.y) (b.z - a.z)) s.1)) rfl (zE xF (Pc.here _) rfl rfl rb_7 rfl) (yD (.head _)) rfl ?_
 intro v15 r15
 replace rb4 := rb4.mono (hh1.trans hh2)
 refine yO (F := fun v_ => (rpT (rpQ k)).Is h2 v_ a) rfl (zE xF (Pc.here _) rfl rfl rb4 rfl) (yD (.tail _ (.tail _ (.tail _ (.head _))))) rfl ?_
 intro v16 r16
 refine w_c rfl ?_
 refine zY (vs := [_, _]) call57 e2z (fun w hs => o_r4_dot hs r15 r16 (by omega)) rfl ?_
 intro v17 h3 hh3 r17
 change (rpQ (3 * (4 * k + 2 * m + 5) + 3 * k + 9)).Is h3 v17 (dotT (crossT (T3.mk (b.x - a.x) (b.y - a.y) (b.z - a.z)) s.1) a) at r17
 replace r17 := Rp.Is.le r17 (Le.q (l := 15 * k + 6 * m + 24) (by omega))
 replace r14 := r14.mono hh3
 refine yO (F := fun v_ => (rpP (rpT (rpQ (4 * k + 2 * m + 5))) (rpQ (15 * k + 6 * m + 24))).Is h3 v_ (crossT (T3.mk (b.x - a.x) (b.y - a.y) (b.z - a.z)) s.1, dotT (crossT (T3.mk (b.x - a.x) (b.y - a.y) (b.z - a.z)) s.1) a)) rfl (ox_build (ps' := [(0, _), (1, _)]) underlying34 info34 rfl rfl (places34 underlying34) e4z rfl (zr_p (zr_t (xS (by omega))) (xS (by omega))) (yN rfl (Pc.fst (Pc.here _)) r14 (yN rfl (Pc.snd (Pc.here _)) r17 fx_nil))) mem0 rfl ?_
 intro v18 r18
 replace rb6 := rb6.mono ((hh1.trans hh2).trans hh3)
 have rw_8 := (Le.p (Le.t (Le.q (l := 4 * k + 2 * m + 5) (by omega))) (Le.q (l := 15 * k + 6 * m + 24) (by omega))).R rb6
 refine yV (A := [_]) (F := fun c_ => (rpP (rpT (rpQ (4 * k + 2 * m + 5))) (rpQ (15 * k + 6 * m + 24))).R h3 c_ (crossT (T3.mk (b.x - a.x) (b.y - a.y) (b.z - a.z)) s.1, dotT (crossT (T3.mk (b.x - a.x) (b.y - a.y) (b.z - a.z)) s.1) a)) rfl (zX sizeOf34 (Pc.here _) rfl rfl rfl rw_8 r18 rfl) ?_
 intro cs_9 rb_10
 refine yZ (zB (zR (gq_exv (rv_o (t := 6) ty34 (.tail _ (.head _)) rfl rb_10) ?_)))
 intro w_11 hvw_11 rr_12
 refine xM (fun E S => yL rfl hvw_11 E S) ?_
 exact rr_12
theorem o_r6_centre {w0 : World} {h0 : Mem}  (hs : MLe h0 (mem w0)) {k : Nat} {vl : Value} {l : (List (T3 Rat))} (rl : (rpS (rpT (rpQ k))).Is h0 vl l) (hcd0 : k ≤ 10000000) (hcd1 : l.length ≤ 32)  :
    Calls Tryz.prog 18 #[vl] w0 (Ret w0 h0 (fun h r => (rpT (rpQ (32 * k + 100))).Is h r (cenZ l))) := by
 refine zO (n := 33) (e := [(0, vl)]) (vs := [vl]) func18 rfl rfl (bL rfl) hs ⟨rfl, trivial⟩ (zC (zA (zJ (yQ (ρ := (rpT (rpQ 2))) (X := (T3.mk (0 : Rat) 0 0)) yI rfl rfl (zr_t (xS (by decide)))) rfl rfl rfl ?_)))
 intro v2 q2 hq2
 obtain ⟨b2, cs2, rfl, rfl, rb2⟩ := hq2
 refine zD (zB (zC (zC (zA (mv rfl rfl (gv (ov_len_sr underlying27 rfl rl) rfl (gv (ov_eql_i (q := 0) rfl rfl) rfl (zD (zB ?_)))))))))
 refine zP rfl (fun hc9 => ?_) (fun hc9 => ?_)
 ·
  have hz : l.length = 0 := by omega
  refine zC (zA (xQ (F := fun v_ => (rpT (rpQ 1)).Is h0 v_ (T3.mk (0 : Rat) 0 0)) (ox_build_arr (ps' := []) underlying32 yI rfl rfl sizeOf30 trivial rfl (zr_t (xS (by decide))) fx_nil) mem0 rfl ?_))
  intro v10 r10
  refine xO (A := []) (F := fun c_ => (rpT (rpQ 2)).R h0 c_ (T3.mk (0 : Rat) 0 0)) (zX sizeOf32 (Pc.here _) rfl rfl rfl rb2 (r10.le (Le.t (Le.q (l := 2) (by decide)))) rfl) ?_
  intro cs_13 rb_14
  refine zD (zB (zR (yA (gq_exv (rv_o (t := 2) xF (.head _) rfl rb_14) ?_))))
  intro w_15 hvw_15 rr_16
  refine xM (fun E S => yL rfl hvw_15 E S) ?_
  exact (Rp.Is.cast (Rp.Is.le rr_16 (Le.t (Le.q (l := 32 * k + 100) (by omega)))) (by exact (if_pos hz).symm))
 have hz : ¬ l.length = 0 := by omega
 refine zL (zB (zC (zA (xQ (F := fun v_ => (rpT (rpQ 1)).Is h0 v_ (T3.mk (0 : Rat) 0 0)) (ox_build_arr (ps' := []) underlying32 yI rfl rfl sizeOf30 trivial rfl (zr_t (xS (by decide))) fx_nil) mem0 rfl ?_))))
 intro v11 r11
 refine zJ (yQ (ρ := (rpT (rpQ 1))) (X := (T3.mk (0 : Rat) 0 0)) yI rfl rfl (zr_t (xS (by decide)))) rfl rfl rfl ?_
 intro v3 q3 hq3
 obtain ⟨b3, cs3, rfl, rfl, rb3⟩ := hq3
 refine xO (A := []) (F := fun c_ => (rpT (rpQ 1)).R h0 c_ (T3.mk (0 : Rat) 0 0)) (zX sizeOf32 (Pc.here _) rfl rfl rfl rb3 r11 rfl) ?_
 intro cs_17 rb_18
 refine zD (zB (zC (zC (zA (asg (v := vI (0)) rfl rfl (zD (zB (zQ ?_))))))))
 refine gc_loop (ι := Nat × Nat × List Value × Mem) (fun (i, q, cs_19, ma) => MLe h0 ma ∧ ((rpT (rpQ q)).R ma cs_19 (sumT l i) ∧ i ≤ l.length ∧ q ≤ (k + 1) * i + 1)) (fun (i, q, cs_19, ma) => [(0, vl), (2, vP b2 0), (3, vP b3 0), (4, vI ↑i)]) (fun (i, q, cs_19, ma) => [.var b3 32 cs_19, .var b2 32 cs2]) (fun (i, q, cs_19, ma) => ma) (fun (i, q, cs_19, ma) => l.length - i) (0, 1, cs_17, h0) ?_ e4z rfl rfl ?_
 ·
  refine ⟨MLe.refl _, ?_⟩
  refine ⟨rb_18, ?_⟩
  exact ⟨by omega, by omega⟩
 intro x hx
 obtain ⟨i, q, cs_19, ma⟩ := x
 obtain ⟨hmma, hinv⟩ := hx
 show GC _ _ _ _ _ _ [(0, vl), (2, vP b2 0), (3, vP b3 0), (4, vI ↑i)] [.var b3 32 cs_19, .var b2 32 cs2] ma
 obtain ⟨rb_20, hinv⟩ := hinv
 obtain ⟨hi1, hq1⟩ := hinv
 have hq2 := Nat.mul_le_mul_left (k + 1) (show i ≤ 32 by omega)
 refine zC (zC (zA (mv rfl rfl (mv rfl rfl ?_))))
 replace rl := rl.mono hmma
 refine gv (ov_len_sr underlying27 rfl rl) rfl (gv (zW rfl rfl) rfl (zD (zB ?_)))
 refine zP rfl (fun hc15 => ?_) (fun hc15 => ?_)
 ·
  refine zL (zB (zC (zQ ?_)))
  refine yG 6 _ [] [(0, .q), (1, .q), (2, .q), (3, .q), (4, .q), (5, .c), (6, .t)] xG nX (by kernel_rfl) nX (fun r hr => hr) (yO (F := fun v_ => (rpT (rpQ q)).Is ma v_ (sumT l i)) rfl (zE xF (Pc.here _) rfl rfl rb_20 rfl) (yD (.head _)) rfl ?_)
  intro v18 r18
  refine w_q rfl (fun h' L' hh hR => zH rfl) rfl (w_q rfl (fun h' L' hh hR => zH rfl) rfl (yO (F := fun v_ => AtP (rpT (rpQ k)) ma v_ (l.getD i (T3.mk (0 : Rat) 0 0))) rfl (ox_idx_s (T3.mk (0 : Rat) 0 0) i underlying27 xF rfl rfl rl rfl (by omega) p9N) mem0 rfl ?_))
  intro v21 r21
  refine yO (F := fun v_ => (rpT (rpQ k)).Is ma v_ (l.getD i (T3.mk (0 : Rat) 0 0))) rfl (ox_load_at xF rfl r21) mem0 rfl ?_
  intro v22 r22
  refine w_c rfl ?_
  refine zY (vs := [_, _]) call19 e2z (fun w hs => o_s4_add hs r18 r22 (by omega)) rfl ?_
  intro v23 h1 hh1 r23
  change (rpT (rpQ (q + k + 1))).Is h1 v23 (T3.mk ((sumT l i).x + (l.getD i (T3.mk (0 : Rat) 0 0)).x) ((sumT l i).y + (l.getD i (T3.mk (0 : Rat) 0 0)).y) ((sumT l i).z + (l.getD i (T3.mk (0 : Rat) 0 0)).z)) at r23
  replace r23 := Rp.Is.le r23 (Le.t (Le.q (l := k + q + 1) (by omega)))
  replace rb_20 := rb_20.mono hh1
  have rw_21 := (Le.t (Le.q (l := k + q + 1) (by omega))).R rb_20
  refine yV (A := []) (F := fun c_ => (rpT (rpQ (k + q + 1))).R h1 c_ (T3.mk ((sumT l i).x + (l.getD i (T3.mk (0 : Rat) 0 0)).x) ((sumT l i).y + (l.getD i (T3.mk (0 : Rat) 0 0)).y) ((sumT l i).z + (l.getD i (T3.mk (0 : Rat) 0 0)).z))) rfl (zX sizeOf32 (Pc.here _) rfl rfl rfl rw_21 r23 rfl) ?_
  intro cs_22 rb_23
  refine yZ (yY (zK (e' := [(0, _), (2, _), (3, _), (4, _)]) e4z (zB (zA (mv rfl rfl (gv (zS (q := 1) rfl rfl (by omega) (by omega)) rfl (asg rfl rfl (zD ?_))))))))
  refine yW ((i + 1), (q + (k + 1)), cs_22, h1) ?_ ?_ e4z rfl rfl
  ·
   refine ⟨(hmma.trans hh1), ?_⟩
   refine ⟨(Rp.castR (Le.R (Le.t (Le.q (l := q + (k + 1)) (by omega))) rb_23) rfl), ?_⟩
   exact ⟨by omega, by rw [Nat.mul_succ]; omega⟩
  dsimp only
  omega
 have ei : i = l.length := by omega
 have hq2 := Nat.mul_le_mul_left (k + 1) (show i ≤ 32 by omega)
 refine xK (yE (yE (xJ (zB (zC (zA (mv rfl rfl (gv (ov_len_sr underlying27 rfl rl) rfl ?_))))))))
 refine zM (vs := [vI (1), _]) rfl rfl rfl rfl call52 e2z (fun w hs => o_rref_make hs (by decide) (by decide) (by omega) (by omega)) ?_
 intro v27 h1 hh1 r27
 obtain ⟨v27_0, rfl, r27_0⟩ := r27
 change (rpQ 2).Is h1 v27_0 (xR (1 : Int) (↑(l).length : Int)) at r27_0
 refine mv rfl rfl (gv (zN (vs := [_, _]) rfl rfl) rfl (gv (zN (vs := [_, _]) rfl rfl) rfl (zJ (yQ (ρ := (rpQ 2)) (X := (0 : Rat)) info30 rfl rfl (xS (by decide))) rfl rfl rfl ?_)))
 intro v5 q5 hq5
 obtain ⟨b5, cs5, rfl, rfl, rb5⟩ := hq5
 refine xO (A := []) (F := fun c_ => (rpQ 2).R h1 c_ (xR (1 : Int) (↑(l).length : Int))) (zX sizeOf30 (Pc.here _) rfl rfl rfl rb5 r27_0 rfl) ?_
 intro cs_24 rb_25
 refine asg rfl rfl (zD (zK (e' := [(2, _), (3, _), (5, _)]) e3z (zB (zC (zA (xQ (F := fun v_ => (rpQ 2).Is h1 v_ (xR (1 : Int) (↑(l).length : Int))) (zE xA (Pc.here _) rfl rfl rb_25 rfl) (yD (.head _)) rfl ?_))))))
 intro v30 r30
 replace rb_20 := rb_20.mono hh1
 refine xQ (F := fun v_ => (rpT (rpQ q)).Is h1 v_ (sumT l i)) (zE xF (Pc.here _) rfl rfl rb_20 rfl) (yD (.tail _ (.head _))) rfl ?_
 intro v31 r31
 refine zM (vs := [_, _]) rfl rfl rfl rfl call20 e2z (fun w hs => o_s4_scale hs r30 r31 (by omega)) ?_
 intro v32 h2 hh2 r32
 change (rpT (rpQ (q + 2))).Is h2 v32 (T3.mk ((xR (1 : Int) (↑(l).length : Int)) * (sumT l i).x) ((xR (1 : Int) (↑(l).length : Int)) * (sumT l i).y) ((xR (1 : Int) (↑(l).length : Int)) * (sumT l i).z)) at r32
 replace rb2 := rb2.mono ((hmma.trans hh1).trans hh2)
 have rw_26 := (Le.t (Le.q (l := q + 2) (by omega))).R rb2
 refine xO (A := [_, _]) (F := fun c_ => (rpT (rpQ (q + 2))).R h2 c_ (T3.mk ((xR (1 : Int) (↑(l).length : Int)) * (sumT l i).x) ((xR (1 : Int) (↑(l).length : Int)) * (sumT l i).y) ((xR (1 : Int) (↑(l).length : Int)) * (sumT l i).z))) (zX sizeOf32 (Pc.here _) rfl rfl rfl rw_26 r32 rfl) ?_
 intro cs_27 rb_28
 refine zD (zB (zR (gq_exv (rv_o (t := 2) xF (.tail _ (.tail _ (.head _))) rfl rb_28) ?_)))
 intro w_29 hvw_29 rr_30
 refine xM (fun E S => yL rfl hvw_29 E S) ?_
 exact (Rp.Is.cast (Rp.Is.le rr_30 (Le.t (Le.q (l := 32 * k + 100) (by omega)))) (by rw [ei]; exact (if_neg hz).symm))
end Go.Proofs.YtghhjjmjpeehdaaGreat
namespace Go.Proofs.YtghhjjmjpeehdaaGreat
open Bk Go Tryz
set_option linter.unusedVariables false
set_option linter.unusedSimpArgs false
set_option maxRecDepth 10000
end Go.Proofs.YtghhjjmjpeehdaaGreat
namespace Go.Proofs.YtghhjjmjpeehdaaGreat
open Bk Go Tryz
set_option linter.unusedVariables false
set_option linter.unusedSimpArgs false
set_option maxRecDepth 10000
theorem o_dice_loose {w0 w : World} {h0 h : Mem} {b k : Nat} {vl : Value} {xs : List Int} (hl : Is h vl xs) (hk : k ≤ xs.length) {L : List Res} (hs : St w0 h0 (.var b 65 [vl, vI ↑k] :: L) h w) :
    Calls Tryz.prog 35 #[vP b 0] w (RetMut w0 h0 h L (fun g r q' => ∃ k' : Nat, ∃ m : T3 Rat, q' = .var b 65 [vl, vI ↑k'] ∧ k' ≤ xs.length ∧ (rpT (rpQ 2)).Is g r m)) := by
 have hlen := hl.lt63
 refine calls_begin_st (n := 20) (e := [(0, vP b 0)]) (vs := [vP b 0]) func35 rfl rfl (bL rfl) hs ⟨rfl, trivial⟩ (zC (zA (zJ (yQ (ρ := (rpT (rpQ 2))) (X := (T3.mk (0 : Rat) 0 0)) yI rfl rfl (zr_t (xS (by decide)))) rfl rfl rfl ?_)))
 intro v2 q2 hq2
 obtain ⟨b2, cs2, rfl, rfl, rb2⟩ := hq2
 refine zD (zB (zC (zA (zJ (yQ (ρ := (rpT (rpQ 2))) (X := (T3.mk (0 : Rat) 0 0)) yI rfl rfl (zr_t (xS (by decide)))) rfl rfl rfl ?_))))
 intro v3 q3 hq3
 obtain ⟨b3, cs3, rfl, rfl, rb3⟩ := hq3
 refine zD (zB (zC (zC (zA (asg (v := vI (0)) rfl rfl (zD (zB (zQ ?_))))))))
 refine gc_loop (ι := Nat × T3 Rat × List Value × Nat × Mem) (fun (i, m0, cs_1, kd_3, ma) => MLe h ma ∧ ((rpT (rpQ 2)).R ma cs_1 m0 ∧ kd_3 ≤ xs.length ∧ i ≤ 3)) (fun (i, m0, cs_1, kd_3, ma) => [(0, vP b 0), (2, vP b2 0), (3, vP b3 0), (4, vI ↑i)]) (fun (i, m0, cs_1, kd_3, ma) => (.var b3 32 cs_1 :: .var b2 32 cs2 :: .var b 65 [vl, vI ↑kd_3] :: L)) (fun (i, m0, cs_1, kd_3, ma) => ma) (fun (i, m0, cs_1, kd_3, ma) => 3 - i) (0, (T3.mk 0 0 0), cs3, k, h) ?_ e4z rfl rfl ?_
 ·
  refine ⟨MLe.refl _, ?_⟩
  refine ⟨rb3, (by omega), ?_⟩
  exact (by omega)
 intro x hx
 obtain ⟨i, m0, cs_1, kd_3, ma⟩ := x
 obtain ⟨hmma, hinv⟩ := hx
 show GC _ _ _ _ _ _ [(0, vP b 0), (2, vP b2 0), (3, vP b3 0), (4, vI ↑i)] (.var b3 32 cs_1 :: .var b2 32 cs2 :: .var b 65 [vl, vI ↑kd_3] :: L) ma
 obtain ⟨rb_2, hkd_4, hinv⟩ := hinv
 have hi := hinv
 refine zC (zC (zA (mv rfl rfl (gv (zW (q := 3) rfl rfl) rfl (zD (zB ?_))))))
 refine zP rfl (fun hc6 => ?_) (fun hc6 => ?_)
 ·
  refine zL (zB (zC (zQ ?_)))
  refine gc_draw1 (A := [_, _]) 10 [] [(0, .q), (1, .q), (5, .q), (0, .m [2, 3] [4, 6, 7]), (8, .c), (9, .q), (10, .t)] xG nX (by kernel_rfl) nX (w_q rfl (fun h' L' hh hR => zH rfl) rfl (w_q rfl (fun h' L' hh hR => zH rfl) rfl (w_q rfl (fun h' L' hh hR => zH rfl) rfl (w_m (N := 5) rfl ?_))))
  refine wm_2 rfl rfl ?_ ?_
  ·
   replace hl := hl.mono hmma
   refine s_call_mut (A := [_, _]) (vs := [_, vI (60)]) call22 e2z (fun X w hs => dice_next hl (by first | omega | exact Nat.zero_le _) (by omega) (by omega) hs) rfl (mem_kept (by first | (simp; done) | grind)) ?_
   intro v11 g11 q11 hg11 hr11
   obtain ⟨k11, z11, rfl, hk11, rfl, hz11, hy11⟩ := hr11
   refine wm_2 rfl rfl ?_ ?_
   ·
    refine s_val (fun X => xE (q := 5) rfl rfl (by omega) (by omega)) rfl (wm_r rfl (s_new (fun X => new_buildx (ρ := rpI) (m := 3) (xs := [(7 : Int), (11 : Int), (13 : Int)]) (ps' := [(0, _), (1, _), (2, _)]) underlying86 info2 rfl rfl rfl zr_i e6 (yN rfl (Pc.arr (Pc.here _) (0 : Int) 0 (by decide)) (is_i (by decide) (by decide)) (yN rfl (Pc.arr (Pc.here _) (0 : Int) 1 (by decide)) (is_i (by decide) (by decide)) (yN rfl (Pc.arr (Pc.here _) (0 : Int) 2 (by decide)) (is_i (by decide) (by decide)) fx_nil))) (show 3 * 1 ≤ 16777216 from by decide) p1N) rfl ?_))
    intro v13 q13 hq13
    obtain ⟨cs13, rfl, rl13⟩ := hq13
    refine wm_r rfl (s_val (fun X => (ov_index_os i (.head _) underlying86 sizeOf2 rfl rfl rfl (by first | omega | (simp only [lAz, lC, lN, lR, lS]; omega)) p1N).cv (show _ = xL 1 v13 ((i * 1 + 0)) from congrArg (xL 1 v13) (by rfl))) rfl (wm_r rfl (s_x (F := fun v_ => rpI.Is g11 v_ ([(7 : Int), (11 : Int), (13 : Int)].getD i (0 : Int))) (ox_load_os ty2 (Pc.arr (Pc.here _) (0 : Int) i (by first | omega | (simp only [lAz, lC, lN, lR, lS]; omega))) rfl p1N rfl rl13 rfl) (yD (.head _)) rfl ?_)))
    intro v16 r16
    obtain ⟨rfl, hl16, hu16⟩ := of_i r16
    refine wm_0 ?_
    refine w_c rfl ?_
    refine zY (vs := [_, _]) call46 e2z (fun w hs => o_rref_frac hs (by omega) (by omega) (by omega) (by omega)) rfl ?_
    intro v17 h1 hh1 r17
    change (rpQ 2).Is h1 v17 (xR (z11 - (5 : Int)) ([(7 : Int), (11 : Int), (13 : Int)].getD i (0 : Int))) at r17
    refine w_q rfl (fun h' L' hh hR => (zF (sz := 3) i underlying32 sizeOf30 rfl rfl rfl (by omega)).cv (show _ = vP b3 ((i * 3 + 0)) from congrArg (vP b3) (by omega))) rfl ?_
    replace rb_2 := rb_2.mono (hg11.trans hh1)
    refine yV (A := [_]) (F := fun c_ => (rpT (rpQ 2)).R h1 c_ (m0.set i (xR (z11 - (5 : Int)) ([(7 : Int), (11 : Int), (13 : Int)].getD i (0 : Int))))) rfl (zX sizeOf30 (Pc.ta (Pc.here _) i (by omega)) rfl rfl rfl rb_2 r17 rfl) ?_
    intro cs_5 rb_6
    refine yZ (yY (zK (e' := [(0, _), (2, _), (3, _), (4, _)]) e4z (zB (zA (mv rfl rfl (gv (zS (q := 1) rfl rfl (by omega) (by omega)) rfl (asg rfl rfl (zD (gq_drop (A := []) ?_)))))))))
    refine yW ((i + 1), (m0.set i (xR (z11 - (5 : Int)) ([(7 : Int), (11 : Int), (13 : Int)].getD i (0 : Int)))), cs_5, k11, h1) ?_ ?_ e4z rfl rfl
    ·
     refine ⟨((hmma.trans hg11).trans hh1), ?_⟩
     refine ⟨rb_6, (by omega), ?_⟩
     exact (by omega)
    dsimp only
    omega
   refine s_new (fun X => new_buildx (ρ := rpI) (m := 3) (xs := [(7 : Int), (11 : Int), (13 : Int)]) (ps' := [(0, _), (1, _), (2, _)]) underlying86 info2 rfl rfl rfl zr_i e6 (yN rfl (Pc.arr (Pc.here _) (0 : Int) 0 (by decide)) (is_i (by decide) (by decide)) (yN rfl (Pc.arr (Pc.here _) (0 : Int) 1 (by decide)) (is_i (by decide) (by decide)) (yN rfl (Pc.arr (Pc.here _) (0 : Int) 2 (by decide)) (is_i (by decide) (by decide)) fx_nil))) (show 3 * 1 ≤ 16777216 from by decide) p1N) rfl ?_
   intro v13 q13 hq13
   obtain ⟨cs13, rfl, rl13⟩ := hq13
   refine wm_2 rfl rfl ?_ ?_
   ·
    refine s_val (fun X => xE (q := 5) rfl rfl (by omega) (by omega)) rfl (wm_r rfl (s_val (fun X => (ov_index_os i (.head _) underlying86 sizeOf2 rfl rfl rfl (by first | omega | (simp only [lAz, lC, lN, lR, lS]; omega)) p1N).cv (show _ = xL 1 v13 ((i * 1 + 0)) from congrArg (xL 1 v13) (by rfl))) rfl (wm_r rfl (s_x (F := fun v_ => rpI.Is g11 v_ ([(7 : Int), (11 : Int), (13 : Int)].getD i (0 : Int))) (ox_load_os ty2 (Pc.arr (Pc.here _) (0 : Int) i (by first | omega | (simp only [lAz, lC, lN, lR, lS]; omega))) rfl p1N rfl rl13 rfl) (yD (.head _)) rfl ?_))))
    intro v16 r16
    obtain ⟨rfl, hl16, hu16⟩ := of_i r16
    refine wm_0 ?_
    refine w_c rfl ?_
    refine zY (vs := [_, _]) call46 e2z (fun w hs => o_rref_frac hs (by omega) (by omega) (by omega) (by omega)) rfl ?_
    intro v17 h1 hh1 r17
    change (rpQ 2).Is h1 v17 (xR (z11 - (5 : Int)) ([(7 : Int), (11 : Int), (13 : Int)].getD i (0 : Int))) at r17
    refine w_q rfl (fun h' L' hh hR => (zF (sz := 3) i underlying32 sizeOf30 rfl rfl rfl (by omega)).cv (show _ = vP b3 ((i * 3 + 0)) from congrArg (vP b3) (by omega))) rfl ?_
    replace rb_2 := rb_2.mono (hg11.trans hh1)
    refine yV (A := [_]) (F := fun c_ => (rpT (rpQ 2)).R h1 c_ (m0.set i (xR (z11 - (5 : Int)) ([(7 : Int), (11 : Int), (13 : Int)].getD i (0 : Int))))) rfl (zX sizeOf30 (Pc.ta (Pc.here _) i (by omega)) rfl rfl rfl rb_2 r17 rfl) ?_
    intro cs_7 rb_8
    refine yZ (yY (zK (e' := [(0, _), (2, _), (3, _), (4, _)]) e4z (zB (zA (mv rfl rfl (gv (zS (q := 1) rfl rfl (by omega) (by omega)) rfl (asg rfl rfl (zD (gq_drop (A := []) ?_)))))))))
    refine yW ((i + 1), (m0.set i (xR (z11 - (5 : Int)) ([(7 : Int), (11 : Int), (13 : Int)].getD i (0 : Int)))), cs_7, k11, h1) ?_ ?_ e4z rfl rfl
    ·
     refine ⟨((hmma.trans hg11).trans hh1), ?_⟩
     refine ⟨rb_8, (by omega), ?_⟩
     exact (by omega)
    dsimp only
    omega
   refine s_val (fun X => (ov_index_os i (.head _) underlying86 sizeOf2 rfl rfl rfl (by first | omega | (simp only [lAz, lC, lN, lR, lS]; omega)) p1N).cv (show _ = xL 1 v13 ((i * 1 + 0)) from congrArg (xL 1 v13) (by rfl))) rfl ?_
   refine wm_2 rfl rfl ?_ ?_
   ·
    refine s_val (fun X => xE (q := 5) rfl rfl (by omega) (by omega)) rfl (wm_r rfl (s_x (F := fun v_ => rpI.Is g11 v_ ([(7 : Int), (11 : Int), (13 : Int)].getD i (0 : Int))) (ox_load_os ty2 (Pc.arr (Pc.here _) (0 : Int) i (by first | omega | (simp only [lAz, lC, lN, lR, lS]; omega))) rfl p1N rfl rl13 rfl) (yD (.head _)) rfl ?_))
    intro v16 r16
    obtain ⟨rfl, hl16, hu16⟩ := of_i r16
    refine wm_0 ?_
    refine w_c rfl ?_
    refine zY (vs := [_, _]) call46 e2z (fun w hs => o_rref_frac hs (by omega) (by omega) (by omega) (by omega)) rfl ?_
    intro v17 h1 hh1 r17
    change (rpQ 2).Is h1 v17 (xR (z11 - (5 : Int)) ([(7 : Int), (11 : Int), (13 : Int)].getD i (0 : Int))) at r17
    refine w_q rfl (fun h' L' hh hR => (zF (sz := 3) i underlying32 sizeOf30 rfl rfl rfl (by omega)).cv (show _ = vP b3 ((i * 3 + 0)) from congrArg (vP b3) (by omega))) rfl ?_
    replace rb_2 := rb_2.mono (hg11.trans hh1)
    refine yV (A := [_]) (F := fun c_ => (rpT (rpQ 2)).R h1 c_ (m0.set i (xR (z11 - (5 : Int)) ([(7 : Int), (11 : Int), (13 : Int)].getD i (0 : Int))))) rfl (zX sizeOf30 (Pc.ta (Pc.here _) i (by omega)) rfl rfl rfl rb_2 r17 rfl) ?_
    intro cs_9 rb_10
    refine yZ (yY (zK (e' := [(0, _), (2, _), (3, _), (4, _)]) e4z (zB (zA (mv rfl rfl (gv (zS (q := 1) rfl rfl (by omega) (by omega)) rfl (asg rfl rfl (zD (gq_drop (A := []) ?_)))))))))
    refine yW ((i + 1), (m0.set i (xR (z11 - (5 : Int)) ([(7 : Int), (11 : Int), (13 : Int)].getD i (0 : Int)))), cs_9, k11, h1) ?_ ?_ e4z rfl rfl
    ·
     refine ⟨((hmma.trans hg11).trans hh1), ?_⟩
     refine ⟨rb_10, (by omega), ?_⟩
     exact (by omega)
    dsimp only
    omega
   refine s_x (F := fun v_ => rpI.Is g11 v_ ([(7 : Int), (11 : Int), (13 : Int)].getD i (0 : Int))) (ox_load_os ty2 (Pc.arr (Pc.here _) (0 : Int) i (by first | omega | (simp only [lAz, lC, lN, lR, lS]; omega))) rfl p1N rfl rl13 rfl) (yD (.head _)) rfl ?_
   intro v16 r16
   obtain ⟨rfl, hl16, hu16⟩ := of_i r16
   refine wm_l rfl (s_val (fun X => xE (q := 5) rfl rfl (by omega) (by omega)) rfl (wm_0 ?_))
   refine w_c rfl ?_
   refine zY (vs := [_, _]) call46 e2z (fun w hs => o_rref_frac hs (by omega) (by omega) (by omega) (by omega)) rfl ?_
   intro v17 h1 hh1 r17
   change (rpQ 2).Is h1 v17 (xR (z11 - (5 : Int)) ([(7 : Int), (11 : Int), (13 : Int)].getD i (0 : Int))) at r17
   refine w_q rfl (fun h' L' hh hR => (zF (sz := 3) i underlying32 sizeOf30 rfl rfl rfl (by omega)).cv (show _ = vP b3 ((i * 3 + 0)) from congrArg (vP b3) (by omega))) rfl ?_
   replace rb_2 := rb_2.mono (hg11.trans hh1)
   refine yV (A := [_]) (F := fun c_ => (rpT (rpQ 2)).R h1 c_ (m0.set i (xR (z11 - (5 : Int)) ([(7 : Int), (11 : Int), (13 : Int)].getD i (0 : Int))))) rfl (zX sizeOf30 (Pc.ta (Pc.here _) i (by omega)) rfl rfl rfl rb_2 r17 rfl) ?_
   intro cs_11 rb_12
   refine yZ (yY (zK (e' := [(0, _), (2, _), (3, _), (4, _)]) e4z (zB (zA (mv rfl rfl (gv (zS (q := 1) rfl rfl (by omega) (by omega)) rfl (asg rfl rfl (zD (gq_drop (A := []) ?_)))))))))
   refine yW ((i + 1), (m0.set i (xR (z11 - (5 : Int)) ([(7 : Int), (11 : Int), (13 : Int)].getD i (0 : Int)))), cs_11, k11, h1) ?_ ?_ e4z rfl rfl
   ·
    refine ⟨((hmma.trans hg11).trans hh1), ?_⟩
    refine ⟨rb_12, (by omega), ?_⟩
    exact (by omega)
   dsimp only
   omega
  refine s_new (fun X => new_buildx (ρ := rpI) (m := 3) (xs := [(7 : Int), (11 : Int), (13 : Int)]) (ps' := [(0, _), (1, _), (2, _)]) underlying86 info2 rfl rfl rfl zr_i e6 (yN rfl (Pc.arr (Pc.here _) (0 : Int) 0 (by decide)) (is_i (by decide) (by decide)) (yN rfl (Pc.arr (Pc.here _) (0 : Int) 1 (by decide)) (is_i (by decide) (by decide)) (yN rfl (Pc.arr (Pc.here _) (0 : Int) 2 (by decide)) (is_i (by decide) (by decide)) fx_nil))) (show 3 * 1 ≤ 16777216 from by decide) p1N) rfl ?_
  intro v13 q13 hq13
  obtain ⟨cs13, rfl, rl13⟩ := hq13
  refine wm_2 rfl rfl ?_ ?_
  ·
   replace hl := hl.mono hmma
   refine s_call_mut (A := [_, _, _]) (vs := [_, vI (60)]) call22 e2z (fun X w hs => dice_next hl (by first | omega | exact Nat.zero_le _) (by omega) (by omega) hs) rfl (mem_kept (by first | (simp; done) | grind)) ?_
   intro v11 g11 q11 hg11 hr11
   obtain ⟨k11, z11, rfl, hk11, rfl, hz11, hy11⟩ := hr11
   refine wm_2 rfl rfl ?_ ?_
   ·
    refine s_val (fun X => xE (q := 5) rfl rfl (by omega) (by omega)) rfl (wm_r rfl (s_val (fun X => (ov_index_os i (.head _) underlying86 sizeOf2 rfl rfl rfl (by first | omega | (simp only [lAz, lC, lN, lR, lS]; omega)) p1N).cv (show _ = xL 1 v13 ((i * 1 + 0)) from congrArg (xL 1 v13) (by rfl))) rfl (wm_r rfl ?_)))
    replace rl13 := rl13.mono hg11
    refine s_x (F := fun v_ => rpI.Is g11 v_ ([(7 : Int), (11 : Int), (13 : Int)].getD i (0 : Int))) (ox_load_os ty2 (Pc.arr (Pc.here _) (0 : Int) i (by first | omega | (simp only [lAz, lC, lN, lR, lS]; omega))) rfl p1N rfl rl13 rfl) (yD (.head _)) rfl ?_
    intro v16 r16
    obtain ⟨rfl, hl16, hu16⟩ := of_i r16
    refine wm_0 ?_
    refine w_c rfl ?_
    refine zY (vs := [_, _]) call46 e2z (fun w hs => o_rref_frac hs (by omega) (by omega) (by omega) (by omega)) rfl ?_
    intro v17 h1 hh1 r17
    change (rpQ 2).Is h1 v17 (xR (z11 - (5 : Int)) ([(7 : Int), (11 : Int), (13 : Int)].getD i (0 : Int))) at r17
    refine w_q rfl (fun h' L' hh hR => (zF (sz := 3) i underlying32 sizeOf30 rfl rfl rfl (by omega)).cv (show _ = vP b3 ((i * 3 + 0)) from congrArg (vP b3) (by omega))) rfl ?_
    replace rb_2 := rb_2.mono (hg11.trans hh1)
    refine yV (A := [_]) (F := fun c_ => (rpT (rpQ 2)).R h1 c_ (m0.set i (xR (z11 - (5 : Int)) ([(7 : Int), (11 : Int), (13 : Int)].getD i (0 : Int))))) rfl (zX sizeOf30 (Pc.ta (Pc.here _) i (by omega)) rfl rfl rfl rb_2 r17 rfl) ?_
    intro cs_13 rb_14
    refine yZ (yY (zK (e' := [(0, _), (2, _), (3, _), (4, _)]) e4z (zB (zA (mv rfl rfl (gv (zS (q := 1) rfl rfl (by omega) (by omega)) rfl (asg rfl rfl (zD (gq_drop (A := []) ?_)))))))))
    refine yW ((i + 1), (m0.set i (xR (z11 - (5 : Int)) ([(7 : Int), (11 : Int), (13 : Int)].getD i (0 : Int)))), cs_13, k11, h1) ?_ ?_ e4z rfl rfl
    ·
     refine ⟨((hmma.trans hg11).trans hh1), ?_⟩
     refine ⟨rb_14, (by omega), ?_⟩
     exact (by omega)
    dsimp only
    omega
   refine s_val (fun X => (ov_index_os i (.head _) underlying86 sizeOf2 rfl rfl rfl (by first | omega | (simp only [lAz, lC, lN, lR, lS]; omega)) p1N).cv (show _ = xL 1 v13 ((i * 1 + 0)) from congrArg (xL 1 v13) (by rfl))) rfl ?_
   refine wm_2 rfl rfl ?_ ?_
   ·
    refine s_val (fun X => xE (q := 5) rfl rfl (by omega) (by omega)) rfl (wm_r rfl ?_)
    replace rl13 := rl13.mono hg11
    refine s_x (F := fun v_ => rpI.Is g11 v_ ([(7 : Int), (11 : Int), (13 : Int)].getD i (0 : Int))) (ox_load_os ty2 (Pc.arr (Pc.here _) (0 : Int) i (by first | omega | (simp only [lAz, lC, lN, lR, lS]; omega))) rfl p1N rfl rl13 rfl) (yD (.head _)) rfl ?_
    intro v16 r16
    obtain ⟨rfl, hl16, hu16⟩ := of_i r16
    refine wm_0 ?_
    refine w_c rfl ?_
    refine zY (vs := [_, _]) call46 e2z (fun w hs => o_rref_frac hs (by omega) (by omega) (by omega) (by omega)) rfl ?_
    intro v17 h1 hh1 r17
    change (rpQ 2).Is h1 v17 (xR (z11 - (5 : Int)) ([(7 : Int), (11 : Int), (13 : Int)].getD i (0 : Int))) at r17
    refine w_q rfl (fun h' L' hh hR => (zF (sz := 3) i underlying32 sizeOf30 rfl rfl rfl (by omega)).cv (show _ = vP b3 ((i * 3 + 0)) from congrArg (vP b3) (by omega))) rfl ?_
    replace rb_2 := rb_2.mono (hg11.trans hh1)
    refine yV (A := [_]) (F := fun c_ => (rpT (rpQ 2)).R h1 c_ (m0.set i (xR (z11 - (5 : Int)) ([(7 : Int), (11 : Int), (13 : Int)].getD i (0 : Int))))) rfl (zX sizeOf30 (Pc.ta (Pc.here _) i (by omega)) rfl rfl rfl rb_2 r17 rfl) ?_
    intro cs_15 rb_16
    refine yZ (yY (zK (e' := [(0, _), (2, _), (3, _), (4, _)]) e4z (zB (zA (mv rfl rfl (gv (zS (q := 1) rfl rfl (by omega) (by omega)) rfl (asg rfl rfl (zD (gq_drop (A := []) ?_)))))))))
    refine yW ((i + 1), (m0.set i (xR (z11 - (5 : Int)) ([(7 : Int), (11 : Int), (13 : Int)].getD i (0 : Int)))), cs_15, k11, h1) ?_ ?_ e4z rfl rfl
    ·
     refine ⟨((hmma.trans hg11).trans hh1), ?_⟩
     refine ⟨rb_16, (by omega), ?_⟩
     exact (by omega)
    dsimp only
    omega
   replace rl13 := rl13.mono hg11
   refine s_x (F := fun v_ => rpI.Is g11 v_ ([(7 : Int), (11 : Int), (13 : Int)].getD i (0 : Int))) (ox_load_os ty2 (Pc.arr (Pc.here _) (0 : Int) i (by first | omega | (simp only [lAz, lC, lN, lR, lS]; omega))) rfl p1N rfl rl13 rfl) (yD (.head _)) rfl ?_
   intro v16 r16
   obtain ⟨rfl, hl16, hu16⟩ := of_i r16
   refine wm_l rfl (s_val (fun X => xE (q := 5) rfl rfl (by omega) (by omega)) rfl (wm_0 ?_))
   refine w_c rfl ?_
   refine zY (vs := [_, _]) call46 e2z (fun w hs => o_rref_frac hs (by omega) (by omega) (by omega) (by omega)) rfl ?_
   intro v17 h1 hh1 r17
   change (rpQ 2).Is h1 v17 (xR (z11 - (5 : Int)) ([(7 : Int), (11 : Int), (13 : Int)].getD i (0 : Int))) at r17
   refine w_q rfl (fun h' L' hh hR => (zF (sz := 3) i underlying32 sizeOf30 rfl rfl rfl (by omega)).cv (show _ = vP b3 ((i * 3 + 0)) from congrArg (vP b3) (by omega))) rfl ?_
   replace rb_2 := rb_2.mono (hg11.trans hh1)
   refine yV (A := [_]) (F := fun c_ => (rpT (rpQ 2)).R h1 c_ (m0.set i (xR (z11 - (5 : Int)) ([(7 : Int), (11 : Int), (13 : Int)].getD i (0 : Int))))) rfl (zX sizeOf30 (Pc.ta (Pc.here _) i (by omega)) rfl rfl rfl rb_2 r17 rfl) ?_
   intro cs_17 rb_18
   refine yZ (yY (zK (e' := [(0, _), (2, _), (3, _), (4, _)]) e4z (zB (zA (mv rfl rfl (gv (zS (q := 1) rfl rfl (by omega) (by omega)) rfl (asg rfl rfl (zD (gq_drop (A := []) ?_)))))))))
   refine yW ((i + 1), (m0.set i (xR (z11 - (5 : Int)) ([(7 : Int), (11 : Int), (13 : Int)].getD i (0 : Int)))), cs_17, k11, h1) ?_ ?_ e4z rfl rfl
   ·
    refine ⟨((hmma.trans hg11).trans hh1), ?_⟩
    refine ⟨rb_18, (by omega), ?_⟩
    exact (by omega)
   dsimp only
   omega
  refine s_val (fun X => (ov_index_os i (.head _) underlying86 sizeOf2 rfl rfl rfl (by first | omega | (simp only [lAz, lC, lN, lR, lS]; omega)) p1N).cv (show _ = xL 1 v13 ((i * 1 + 0)) from congrArg (xL 1 v13) (by rfl))) rfl ?_
  refine wm_2 rfl rfl ?_ ?_
  ·
   replace hl := hl.mono hmma
   refine s_call_mut (A := [_, _, _]) (vs := [_, vI (60)]) call22 e2z (fun X w hs => dice_next hl (by first | omega | exact Nat.zero_le _) (by omega) (by omega) hs) rfl (mem_kept (by first | (simp; done) | grind)) ?_
   intro v11 g11 q11 hg11 hr11
   obtain ⟨k11, z11, rfl, hk11, rfl, hz11, hy11⟩ := hr11
   refine wm_2 rfl rfl ?_ ?_
   ·
    refine s_val (fun X => xE (q := 5) rfl rfl (by omega) (by omega)) rfl (wm_r rfl ?_)
    replace rl13 := rl13.mono hg11
    refine s_x (F := fun v_ => rpI.Is g11 v_ ([(7 : Int), (11 : Int), (13 : Int)].getD i (0 : Int))) (ox_load_os ty2 (Pc.arr (Pc.here _) (0 : Int) i (by first | omega | (simp only [lAz, lC, lN, lR, lS]; omega))) rfl p1N rfl rl13 rfl) (yD (.head _)) rfl ?_
    intro v16 r16
    obtain ⟨rfl, hl16, hu16⟩ := of_i r16
    refine wm_0 ?_
    refine w_c rfl ?_
    refine zY (vs := [_, _]) call46 e2z (fun w hs => o_rref_frac hs (by omega) (by omega) (by omega) (by omega)) rfl ?_
    intro v17 h1 hh1 r17
    change (rpQ 2).Is h1 v17 (xR (z11 - (5 : Int)) ([(7 : Int), (11 : Int), (13 : Int)].getD i (0 : Int))) at r17
    refine w_q rfl (fun h' L' hh hR => (zF (sz := 3) i underlying32 sizeOf30 rfl rfl rfl (by omega)).cv (show _ = vP b3 ((i * 3 + 0)) from congrArg (vP b3) (by omega))) rfl ?_
    replace rb_2 := rb_2.mono (hg11.trans hh1)
    refine yV (A := [_]) (F := fun c_ => (rpT (rpQ 2)).R h1 c_ (m0.set i (xR (z11 - (5 : Int)) ([(7 : Int), (11 : Int), (13 : Int)].getD i (0 : Int))))) rfl (zX sizeOf30 (Pc.ta (Pc.here _) i (by omega)) rfl rfl rfl rb_2 r17 rfl) ?_
    intro cs_19 rb_20
    refine yZ (yY (zK (e' := [(0, _), (2, _), (3, _), (4, _)]) e4z (zB (zA (mv rfl rfl (gv (zS (q := 1) rfl rfl (by omega) (by omega)) rfl (asg rfl rfl (zD (gq_drop (A := []) ?_)))))))))
    refine yW ((i + 1), (m0.set i (xR (z11 - (5 : Int)) ([(7 : Int), (11 : Int), (13 : Int)].getD i (0 : Int)))), cs_19, k11, h1) ?_ ?_ e4z rfl rfl
    ·
     refine ⟨((hmma.trans hg11).trans hh1), ?_⟩
     refine ⟨rb_20, (by omega), ?_⟩
     exact (by omega)
    dsimp only
    omega
   replace rl13 := rl13.mono hg11
   refine s_x (F := fun v_ => rpI.Is g11 v_ ([(7 : Int), (11 : Int), (13 : Int)].getD i (0 : Int))) (ox_load_os ty2 (Pc.arr (Pc.here _) (0 : Int) i (by first | omega | (simp only [lAz, lC, lN, lR, lS]; omega))) rfl p1N rfl rl13 rfl) (yD (.head _)) rfl ?_
   intro v16 r16
   obtain ⟨rfl, hl16, hu16⟩ := of_i r16
   refine wm_l rfl (s_val (fun X => xE (q := 5) rfl rfl (by omega) (by omega)) rfl (wm_0 ?_))
   refine w_c rfl ?_
   refine zY (vs := [_, _]) call46 e2z (fun w hs => o_rref_frac hs (by omega) (by omega) (by omega) (by omega)) rfl ?_
   intro v17 h1 hh1 r17
   change (rpQ 2).Is h1 v17 (xR (z11 - (5 : Int)) ([(7 : Int), (11 : Int), (13 : Int)].getD i (0 : Int))) at r17
   refine w_q rfl (fun h' L' hh hR => (zF (sz := 3) i underlying32 sizeOf30 rfl rfl rfl (by omega)).cv (show _ = vP b3 ((i * 3 + 0)) from congrArg (vP b3) (by omega))) rfl ?_
   replace rb_2 := rb_2.mono (hg11.trans hh1)
   refine yV (A := [_]) (F := fun c_ => (rpT (rpQ 2)).R h1 c_ (m0.set i (xR (z11 - (5 : Int)) ([(7 : Int), (11 : Int), (13 : Int)].getD i (0 : Int))))) rfl (zX sizeOf30 (Pc.ta (Pc.here _) i (by omega)) rfl rfl rfl rb_2 r17 rfl) ?_
   intro cs_21 rb_22
   refine yZ (yY (zK (e' := [(0, _), (2, _), (3, _), (4, _)]) e4z (zB (zA (mv rfl rfl (gv (zS (q := 1) rfl rfl (by omega) (by omega)) rfl (asg rfl rfl (zD (gq_drop (A := []) ?_)))))))))
   refine yW ((i + 1), (m0.set i (xR (z11 - (5 : Int)) ([(7 : Int), (11 : Int), (13 : Int)].getD i (0 : Int)))), cs_21, k11, h1) ?_ ?_ e4z rfl rfl
   ·
    refine ⟨((hmma.trans hg11).trans hh1), ?_⟩
    refine ⟨rb_22, (by omega), ?_⟩
    exact (by omega)
   dsimp only
   omega
  refine s_x (F := fun v_ => rpI.Is ma v_ ([(7 : Int), (11 : Int), (13 : Int)].getD i (0 : Int))) (ox_load_os ty2 (Pc.arr (Pc.here _) (0 : Int) i (by first | omega | (simp only [lAz, lC, lN, lR, lS]; omega))) rfl p1N rfl rl13 rfl) (yD (.head _)) rfl ?_
  intro v16 r16
  obtain ⟨rfl, hl16, hu16⟩ := of_i r16
  refine wm_l rfl ?_
  replace hl := hl.mono hmma
  refine s_call_mut (A := [_, _, _]) (vs := [_, vI (60)]) call22 e2z (fun X w hs => dice_next hl (by first | omega | exact Nat.zero_le _) (by omega) (by omega) hs) rfl (mem_kept (by first | (simp; done) | grind)) ?_
  intro v11 g11 q11 hg11 hr11
  obtain ⟨k11, z11, rfl, hk11, rfl, hz11, hy11⟩ := hr11
  refine wm_l rfl (s_val (fun X => xE (q := 5) rfl rfl (by omega) (by omega)) rfl (wm_0 ?_))
  refine w_c rfl ?_
  refine zY (vs := [_, _]) call46 e2z (fun w hs => o_rref_frac hs (by omega) (by omega) (by omega) (by omega)) rfl ?_
  intro v17 h1 hh1 r17
  change (rpQ 2).Is h1 v17 (xR (z11 - (5 : Int)) ([(7 : Int), (11 : Int), (13 : Int)].getD i (0 : Int))) at r17
  refine w_q rfl (fun h' L' hh hR => (zF (sz := 3) i underlying32 sizeOf30 rfl rfl rfl (by omega)).cv (show _ = vP b3 ((i * 3 + 0)) from congrArg (vP b3) (by omega))) rfl ?_
  replace rb_2 := rb_2.mono (hg11.trans hh1)
  refine yV (A := [_]) (F := fun c_ => (rpT (rpQ 2)).R h1 c_ (m0.set i (xR (z11 - (5 : Int)) ([(7 : Int), (11 : Int), (13 : Int)].getD i (0 : Int))))) rfl (zX sizeOf30 (Pc.ta (Pc.here _) i (by omega)) rfl rfl rfl rb_2 r17 rfl) ?_
  intro cs_23 rb_24
  refine yZ (yY (zK (e' := [(0, _), (2, _), (3, _), (4, _)]) e4z (zB (zA (mv rfl rfl (gv (zS (q := 1) rfl rfl (by omega) (by omega)) rfl (asg rfl rfl (zD (gq_drop (A := []) ?_)))))))))
  refine yW ((i + 1), (m0.set i (xR (z11 - (5 : Int)) ([(7 : Int), (11 : Int), (13 : Int)].getD i (0 : Int)))), cs_23, k11, h1) ?_ ?_ e4z rfl rfl
  ·
   refine ⟨((hmma.trans hg11).trans hh1), ?_⟩
   refine ⟨rb_24, (by omega), ?_⟩
   exact (by omega)
  dsimp only
  omega
 refine xK (yE (yE (xJ (zB (zC (zA (xQ (F := fun v_ => (rpT (rpQ 2)).Is ma v_ m0) (zE xF (Pc.here _) rfl rfl rb_2 rfl) (yD (.head _)) rfl ?_)))))))
 intro v19 r19
 replace rb2 := rb2.mono hmma
 refine xO (A := [_]) (F := fun c_ => (rpT (rpQ 2)).R ma c_ m0) (zX sizeOf32 (Pc.here _) rfl rfl rfl rb2 r19 rfl) ?_
 intro cs_25 rb_26
 refine zD (zB (zR (gq_exv (rv_o (t := 2) xF (.tail _ (.head _)) rfl rb_26) ?_)))
 intro w_27 hvw_27 rr_28
 refine gq_res_own (fun E S => yL rfl hvw_27 E S) ?_
 exact ⟨_, (.cons _ (.cons _ (List.Sublist.refl _))), hmma, _, _, rfl, by omega, rr_28⟩
end Go.Proofs.YtghhjjmjpeehdaaGreat
namespace Bk
set_option linter.unusedVariables false
set_option linter.unusedSimpArgs false
open Go Go.RowKit
section
variable {P : Program} {n : Nat} {w0 : World} {h0 : Mem} {e : List (Nat × Value)} {h : Mem} {ds : Option Tmp} {ty : TypeId} {ps : String} {af : Array Edge} {gd : Option (Nat × Bool)} {α : Type}
theorem ox_slice_l {ρ : Rp α} {xs : List α} {v : Value} {t E : TypeId} {x lo : Operand} {p : Int} (i : Nat) (ht : P.underlying t = some (.slice E)) (hsz : ∀ w, (Go.sizeOf E).run P w = .ok ρ.n w) (hx : yH e x = some v) (hl : yH e lo = some (vI p)) (r : (rpS ρ).Is h v xs)
    (hp : p = (i : Int)) (hi : i ≤ xs.length) : OpX P n w0 h0 ⟨ds, .slice t x (some lo) none none, ty, ps, af, gd⟩ e [] h (fun u => (rpS ρ).Is h u (xs.drop i)) := by
  obtain ⟨cs, s, rl⟩ := of_s r
  refine ox_val (fun L' h' => ov_slice_l i ht hsz hx hl s.shape hp hi) ?_
  have hs := s.sub hi (Nat.le_refl _)
  have hlen := rl.len
  rw [List.take_of_length_le (by rw [List.length_drop, hlen, ← Nat.sub_mul]; exact Nat.le_refl _)] at hs
  exact is_s (by rw [List.length_drop]; exact hs) (rl.drop i)
end
end Bk
namespace Go.Proofs.YtghhjjmjpeehdaaGreat
open Bk Go Tryz
set_option linter.unusedVariables false
set_option linter.unusedSimpArgs false
set_option maxRecDepth 10000
theorem o_cx_around {w0 : World} {h0 : Mem}  (hs : MLe h0 (mem w0)) {m l k : Nat} {vs : Value} {s : ((T3 Rat) × Rat)} (rs : (rpP (rpT (rpQ m)) (rpQ l)).Is h0 vs s) {vps : Value} {ps : (List (T3 Rat))} (rps : (rpS (rpT (rpQ k))).Is h0 vps ps) (hcd0 : k ≤ 10000) (hcd1 : l ≤ 10000) (hcd2 : m ≤ 10000)  :
    Calls Tryz.prog 36 #[vs, vps] w0 (Ret w0 h0 (fun h r => ∃ u0, r = .tuple #[u0, vB (¬ (ps.length = 0 ∨ s.1 = zT))] ∧ (rpS (rpT (rpQ (4 * k + l + 4 * m + 60)))).Is h u0 (aroZ s ps))) := by
 have hlp := s_lt rps
 have hax := ax_sum s.1
 refine zO (n := 154) (e := [(0, vs), (1, vps)]) (vs := [vs, vps]) func36 rfl rfl (bL rfl) hs e2z (zC (zA (zJ (yU (ρ := (rpP (rpT (rpQ m)) (rpQ l))) rfl rs) rfl rfl rfl ?_)))
 intro v2 q2 hq2
 obtain ⟨b2, cs2, rfl, rfl, rb2⟩ := hq2
 refine asg rfl rfl (asg rfl rfl (zD (zB (zC (zC (zA (mv rfl rfl (gv (ov_len_sr underlying27 rfl rps) rfl (gv (ov_eql_i (q := 0) rfl rfl) rfl ?_)))))))))
 refine gl_cut (ι := Mem) 5 (fun m_ => MLe h0 m_) (fun _ => [(28, vB (((↑(ps).length : Int) = (0 : Int)) ∨ (s.1 = (T3.mk (0 : Rat) 0 0)))), (1, vps), (2, vP b2 0)]) (fun _ => [.var b2 34 cs2]) (fun m_ => m_) ?_ ?_
 ·
  refine gl_cases ((↑(ps).length : Int) = (0 : Int)) (fun hg => ?_) (fun hg => ?_)
  ·
   refine gl_val (zH (v := .bool true) (congrArg some (vB_true hg))) rfl rfl rfl (yM rfl rfl rfl rfl rfl rfl (yM rfl rfl rfl rfl rfl rfl (yM rfl rfl rfl rfl rfl rfl (gv (xU rfl rfl) rfl (zD ?_)))))
   refine yR h0 (MLe.refl _) ⟨?_, rfl, rfl, trivial⟩ rfl rfl
   exact congrArg some (vB_or_t hg)
  refine gl_val (zH (v := .bool false) (congrArg some (xD hg))) rfl rfl rfl (yX rfl rfl rfl (gv ((zI underlying34 rfl sizeOf32 rfl).cv (show _ = vP b2 0 from congrArg (vP b2) (by rfl))) rfl (yX rfl rfl rfl (xQ (F := fun v_ => (rpT (rpQ m)).Is h0 v_ s.1) (zE xF (Pc.fst (Pc.here _)) rfl rfl rb2 rfl) (yD (.head _)) rfl ?_))))
  intro v26 r26
  refine yX rfl rfl rfl ?_
  refine zM (vs := [_]) rfl rfl rfl rfl call63 ⟨rfl, trivial⟩ (fun w hs => o_v_zero hs r26 (by omega)) ?_
  intro v27 h1 hh1 r27
  obtain rfl : v27 = vB (s.1 = (T3.mk (0 : Rat) 0 0)) := r27
  refine gv (ov_pick_f rfl rfl) rfl (zD ?_)
  refine yR h1 hh1 ⟨?_, rfl, rfl, trivial⟩ rfl rfl
  exact congrArg some (vB_or_f hg)
 intro mg1_3 hmmg1_3
 show GL _ _ _ _ _ _ _ [(28, vB (((↑(ps).length : Int) = (0 : Int)) ∨ (s.1 = (T3.mk (0 : Rat) 0 0)))), (1, vps), (2, vP b2 0)] [.var b2 34 cs2] mg1_3
 refine zD (zB ?_)
 refine zP rfl (fun hc28 => ?_) (fun hc28 => ?_)
 ·
  have hz : ps.length = 0 ∨ s.1 = zT := hc28.imp (fun e => by omega) id
  refine zC (zA (asg rfl rfl (asg rfl rfl (zD (zB (zR (yA (gq_body2 rfl rfl rfl ?_))))))))
  refine ⟨_, ?_, (Rp.Is.cast (is_nil _) (by exact (if_pos hz).symm))⟩
  rw [xD (fun e => e hz)]
 have hz : ¬ (ps.length = 0 ∨ s.1 = zT) := fun e => hc28 (e.imp (fun e => by omega) id)
 have hp0 : 0 < ps.length := by omega
 refine zL (zB (zC (zA (gv ((zI underlying34 rfl sizeOf32 rfl).cv (show _ = vP b2 0 from congrArg (vP b2) (by rfl))) rfl ?_))))
 replace rb2 := rb2.mono hmmg1_3
 refine xQ (F := fun v_ => (rpT (rpQ m)).Is mg1_3 v_ s.1) (zE xF (Pc.fst (Pc.here _)) rfl rfl rb2 rfl) (yD (.head _)) rfl ?_
 intro v31 r31
 refine zM (vs := [_]) rfl rfl rfl rfl call65 ⟨rfl, trivial⟩ (fun w hs => o_pl_axes hs r31 (by omega)) ?_
 intro v32 h1 hh1 r32
 obtain rfl := r32
 refine mv rfl rfl (gv (zN (vs := [_, _]) rfl rfl) rfl (gv (zN (vs := [_, _]) rfl rfl) rfl (asg rfl rfl (asg rfl rfl (zD (zB (zC ?_)))))))
 refine yG 26 _ [(22, (8, 87, [.bool false, .slice none 0 0, .slice none 0 0, .bool false, .slice none 0 0, .slice none 0 0])), (23, (9, 87, [.bool false, .slice none 0 0, .slice none 0 0, .bool false, .slice none 0 0, .slice none 0 0]))] [(0, .q), (1, .q), (2, .q), (3, .q), (4, .q), (5, .q), (6, .q), (7, .q), (8, .q), (9, .q), (10, .q), (11, .q), (12, .q), (13, .q), (14, .q), (15, .q), (16, .q), (17, .q), (18, .q), (19, .q), (20, .q), (21, .q), (22, .a), (23, .a), (24, .c), (25, .c)] xG (AlOk.cons rfl rfl (zero_run info87 rfl rfl) (AlOk.cons rfl rfl (zero_run info87 rfl rfl) AlOk.nil)) (chk_of [0, 0, 1, 6, 8, 0, 0, 32, 192, 256, 528, 0, 0, 2048, 12288, 16384, 0, 0, 65536, 393216, 524288, 1081344, 0, 0, 12584959, 33554431] [67108863, 67108863, 67108862, 67108857, 67108855, 67108863, 67108863, 67108831, 67108671, 67108607, 67108335, 67108863, 67108863, 67106815, 67096575, 67092479, 67108863, 67108863, 67043327, 66715647, 66584575, 66027519, 67108863, 67108863, 62913535, 56623103] (by kernel_rfl)) (hae_cons rfl rfl (hae_cons rfl rfl hae_nil)) (fun r hr => hr) (w_q rfl (fun h' L' hh hR => zH rfl) rfl (w_q rfl (fun h' L' hh hR => zH rfl) rfl ?_))
 replace rps := rps.mono (hmmg1_3.trans hh1)
 refine yO (F := fun v_ => AtP (rpT (rpQ k)) h1 v_ (ps.getD 0 (T3.mk (0 : Rat) 0 0))) rfl (ox_idx_s (q := 0) (T3.mk (0 : Rat) 0 0) 0 underlying27 xF rfl rfl rps rfl (by omega) p9N) mem0 rfl ?_
 intro v37 r37
 refine yO (F := fun v_ => AtP (rpQ k) h1 v_ ((ps.getD 0 (T3.mk (0 : Rat) 0 0)).at (axI s.1))) rfl (ox_arr_at (axI s.1) underlying32 sizeOf30 (Pc.ta (Pc.here _) (axI s.1) (by exact axI_lt _)) rfl rfl rfl r37 (by rfl) (by exact axI_lt _) rfl) mem0 rfl ?_
 intro v38 r38
 refine yO (F := fun v_ => (rpQ k).Is h1 v_ ((ps.getD 0 (T3.mk (0 : Rat) 0 0)).at (axI s.1))) rfl (ox_load_at xA rfl r38) mem0 rfl ?_
 intro v39 r39
 refine w_q rfl (fun h' L' hh hR => zH rfl) rfl (w_q rfl (fun h' L' hh hR => zH rfl) rfl (yO (F := fun v_ => AtP (rpT (rpQ k)) h1 v_ (ps.getD 0 (T3.mk (0 : Rat) 0 0))) rfl (ox_idx_s (q := 0) (T3.mk (0 : Rat) 0 0) 0 underlying27 xF rfl rfl rps rfl (by omega) p9N) mem0 rfl ?_))
 intro v42 r42
 refine yO (F := fun v_ => AtP (rpQ k) h1 v_ ((ps.getD 0 (T3.mk (0 : Rat) 0 0)).at (axJ s.1))) rfl (ox_arr_at (axJ s.1) underlying32 sizeOf30 (Pc.ta (Pc.here _) (axJ s.1) (by exact axJ_lt _)) rfl rfl rfl r42 (by rfl) (by exact axJ_lt _) rfl) mem0 rfl ?_
 intro v43 r43
 refine yO (F := fun v_ => (rpQ k).Is h1 v_ ((ps.getD 0 (T3.mk (0 : Rat) 0 0)).at (axJ s.1))) rfl (ox_load_at xA rfl r43) mem0 rfl ?_
 intro v44 r44
 refine yO (F := fun v_ => (rpA 2 (rpQ (k + 1))).Is h1 v_ [((ps.getD 0 (T3.mk (0 : Rat) 0 0)).at (axI s.1)), ((ps.getD 0 (T3.mk (0 : Rat) 0 0)).at (axJ s.1))]) rfl (ox_build_arr (ps' := [(0, _), (1, _)]) underlying87 info87 rfl rfl sizeOf30 e4z rfl (zr_a 2 (xS (by omega))) (yN rfl (Pc.arr (Pc.here _) (0 : Rat) 0 (by decide)) (r39.le (Le.q (l := k + 1) (by omega))) (yN rfl (Pc.arr (Pc.here _) (0 : Rat) 1 (by decide)) (r44.le (Le.q (l := k + 1) (by omega))) fx_nil))) mem0 rfl ?_
 intro v45 r45
 refine w_q rfl (fun h' L' hh hR => zH rfl) rfl (w_q rfl (fun h' L' hh hR => zH rfl) rfl (yO (F := fun v_ => AtP (rpT (rpQ k)) h1 v_ (ps.getD 0 (T3.mk (0 : Rat) 0 0))) rfl (ox_idx_s (q := 0) (T3.mk (0 : Rat) 0 0) 0 underlying27 xF rfl rfl rps rfl (by omega) p9N) mem0 rfl ?_))
 intro v48 r48
 refine yO (F := fun v_ => AtP (rpQ k) h1 v_ ((ps.getD 0 (T3.mk (0 : Rat) 0 0)).at (axI s.1))) rfl (ox_arr_at (axI s.1) underlying32 sizeOf30 (Pc.ta (Pc.here _) (axI s.1) (by exact axI_lt _)) rfl rfl rfl r48 (by rfl) (by exact axI_lt _) rfl) mem0 rfl ?_
 intro v49 r49
 refine yO (F := fun v_ => (rpQ k).Is h1 v_ ((ps.getD 0 (T3.mk (0 : Rat) 0 0)).at (axI s.1))) rfl (ox_load_at xA rfl r49) mem0 rfl ?_
 intro v50 r50
 refine w_q rfl (fun h' L' hh hR => zH rfl) rfl (w_q rfl (fun h' L' hh hR => zH rfl) rfl (yO (F := fun v_ => AtP (rpT (rpQ k)) h1 v_ (ps.getD 0 (T3.mk (0 : Rat) 0 0))) rfl (ox_idx_s (q := 0) (T3.mk (0 : Rat) 0 0) 0 underlying27 xF rfl rfl rps rfl (by omega) p9N) mem0 rfl ?_))
 intro v53 r53
 refine yO (F := fun v_ => AtP (rpQ k) h1 v_ ((ps.getD 0 (T3.mk (0 : Rat) 0 0)).at (axJ s.1))) rfl (ox_arr_at (axJ s.1) underlying32 sizeOf30 (Pc.ta (Pc.here _) (axJ s.1) (by exact axJ_lt _)) rfl rfl rfl r53 (by rfl) (by exact axJ_lt _) rfl) mem0 rfl ?_
 intro v54 r54
 refine yO (F := fun v_ => (rpQ k).Is h1 v_ ((ps.getD 0 (T3.mk (0 : Rat) 0 0)).at (axJ s.1))) rfl (ox_load_at xA rfl r54) mem0 rfl ?_
 intro v55 r55
 refine yO (F := fun v_ => (rpA 2 (rpQ (k + 1))).Is h1 v_ [((ps.getD 0 (T3.mk (0 : Rat) 0 0)).at (axI s.1)), ((ps.getD 0 (T3.mk (0 : Rat) 0 0)).at (axJ s.1))]) rfl (ox_build_arr (ps' := [(0, _), (1, _)]) underlying87 info87 rfl rfl sizeOf30 e4z rfl (zr_a 2 (xS (by omega))) (yN rfl (Pc.arr (Pc.here _) (0 : Rat) 0 (by decide)) (r50.le (Le.q (l := k + 1) (by omega))) (yN rfl (Pc.arr (Pc.here _) (0 : Rat) 1 (by decide)) (r55.le (Le.q (l := k + 1) (by omega))) fx_nil))) mem0 rfl ?_
 intro v56 r56
 refine w_a rfl rfl (fun b8 => ?_)
 have rb8 : (rpA 2 (rpQ (k + 3))).R h1 [.bool false, .slice none 0 0, .slice none 0 0, .bool false, .slice none 0 0, .slice none 0 0] (List.replicate 2 (0 : Rat)) := (zr_a 2 (xS (by omega)))
 refine w_a rfl rfl (fun b9 => ?_)
 have rb9 : (rpA 2 (rpQ (k + 3))).R h1 [.bool false, .slice none 0 0, .slice none 0 0, .bool false, .slice none 0 0, .slice none 0 0] (List.replicate 2 (0 : Rat)) := (zr_a 2 (xS (by omega)))
 refine w_c rfl (s_updx (A := [_]) (F := fun c_ => (rpA 2 (rpQ (k + 3))).R h1 c_ [((ps.getD 0 (T3.mk (0 : Rat) 0 0)).at (axI s.1)), ((ps.getD 0 (T3.mk (0 : Rat) 0 0)).at (axJ s.1))]) (zX sizeOf87 (Pc.here _) rfl rfl rfl rb8 (r45.le (Le.a (Le.q (l := k + 3) (by omega)))) rfl) (mem_kept (by first | (simp; done) | grind)) ?_)
 intro cs_1 rb_2
 refine w_c rfl (s_updx (A := []) (F := fun c_ => (rpA 2 (rpQ (k + 3))).R h1 c_ [((ps.getD 0 (T3.mk (0 : Rat) 0 0)).at (axI s.1)), ((ps.getD 0 (T3.mk (0 : Rat) 0 0)).at (axJ s.1))]) (zX sizeOf87 (Pc.here _) rfl rfl rfl rb9 (r56.le (Le.a (Le.q (l := k + 3) (by omega)))) rfl) (mem_kept (by first | (simp; done) | grind)) ?_)
 intro cs_3 rb_4
 refine yZ (zK (e' := [(1, _), (2, _), (6, _), (7, _), (8, _), (9, _)]) e6 (zB (zC (zC (zA (mv rfl rfl (xQ (F := fun v_ => (rpS (rpT (rpQ k))).Is h1 v_ (ps.drop 1)) (ox_slice_l (ρ := (rpT (rpQ k))) (p := 1) 1 underlying27 sizeOf32 rfl rfl rps rfl (by omega)) mem0 rfl ?_)))))))
 intro v58 r58
 refine gv (ov_len_sr underlying27 rfl r58) rfl (mv (v := vI (0)) rfl rfl (zD (zB (zQ ?_))))
 refine gc_loop (ι := Nat × List Value × List Value × Mem) (fun (i, cs_5, cs_7, ma) => MLe h1 ma ∧ ((rpA 2 (rpQ (k + 3))).R ma cs_5 (loK s ps i 0) ∧ (rpA 2 (rpQ (k + 3))).R ma cs_7 (hiK s ps i 0) ∧ i + 1 ≤ ps.length)) (fun (i, cs_5, cs_7, ma) => [(2, vP b2 0), (6, vI (↑(axI s.1) : Int)), (7, vI (↑(axJ s.1) : Int)), (8, vP b8 0), (9, vP b9 0), (58, v58), (59, vI (↑((ps.drop 1)).length : Int)), (60, vI ↑i)]) (fun (i, cs_5, cs_7, ma) => [.var b9 87 cs_7, .var b8 87 cs_5, .var b2 34 cs2]) (fun (i, cs_5, cs_7, ma) => ma) (fun (i, cs_5, cs_7, ma) => ps.length - i) (0, cs_1, cs_3, h1) ?_ e8 rfl rfl ?_
 ·
  refine ⟨MLe.refl _, ?_⟩
  refine ⟨(Rp.castR rb_2 (lo_one s ps).symm), (Rp.castR rb_4 (hi_one s ps).symm), ?_⟩
  exact (by omega)
 intro x hx
 obtain ⟨i, cs_5, cs_7, ma⟩ := x
 obtain ⟨hmma, hinv⟩ := hx
 show GC _ _ _ _ _ _ [(2, vP b2 0), (6, vI (↑(axI s.1) : Int)), (7, vI (↑(axJ s.1) : Int)), (8, vP b8 0), (9, vP b9 0), (58, v58), (59, vI (↑((ps.drop 1)).length : Int)), (60, vI ↑i)] [.var b9 87 cs_7, .var b8 87 cs_5, .var b2 34 cs2] ma
 obtain ⟨rb_6, rb_8, hinv⟩ := hinv
 have hi1 := hinv
 refine zC (zA (gv (zW rfl rfl) rfl (zD (zB (zC ?_)))))
 refine zP rfl (fun hc61 => ?_) (fun hc61 => ?_)
 ·
  refine zL (zB (zC (zQ (zC (zA ?_)))))
  replace r58 := r58.mono hmma
  refine xQ (F := fun v_ => AtP (rpT (rpQ k)) ma v_ ((ps.drop 1).getD i (T3.mk (0 : Rat) 0 0))) (ox_idx_s (T3.mk (0 : Rat) 0 0) i underlying27 xF rfl rfl r58 rfl (by omega) p9N) mem0 rfl ?_
  intro v62 r62
  refine xQ (F := fun v_ => (rpT (rpQ k)).Is ma v_ ((ps.drop 1).getD i (T3.mk (0 : Rat) 0 0))) (ox_load_at xF rfl r62) mem0 rfl ?_
  intro v63 r63
  refine zJ (yQ (ρ := (rpT (rpQ (k + 1)))) (X := (T3.mk (0 : Rat) 0 0)) yI rfl rfl (zr_t (xS (by omega)))) rfl rfl rfl ?_
  intro v11 q11 hq11
  obtain ⟨b11, cs11, rfl, rfl, rb11⟩ := hq11
  refine xO (A := []) (F := fun c_ => (rpT (rpQ (k + 1))).R ma c_ ((ps.drop 1).getD i (T3.mk (0 : Rat) 0 0))) (zX sizeOf32 (Pc.here _) rfl rfl rfl rb11 (r63.le (Le.t (Le.q (l := k + 1) (by omega)))) rfl) ?_
  intro cs_9 rb_10
  refine zD (zB (zC ?_))
  refine yG 9 _ [] [(0, .q), (1, .q), (2, .q), (3, .q), (4, .q), (5, .q), (8, .q), (6, .c), (7, .c)] xG nX (by kernel_rfl) nX (fun r hr => hr) (w_q rfl (fun h' L' hh hR => zH rfl) rfl (w_q rfl (fun h' L' hh hR => (zF (sz := 3) (axI s.1) underlying32 sizeOf30 rfl rfl (by rfl) (by exact axI_lt _)).cv (show _ = vP b11 (((axI s.1) * 3 + 0)) from congrArg (vP b11) (by omega))) rfl (yO (F := fun v_ => (rpQ (k + 1)).Is ma v_ (((ps.drop 1).getD i (T3.mk (0 : Rat) 0 0)).at (axI s.1))) rfl (zE xA (Pc.ta (Pc.here _) (axI s.1) (by exact axI_lt _)) rfl rfl rb_10 rfl) (yD (.head _)) rfl ?_)))
  intro v66 r66
  refine w_q rfl (fun h' L' hh hR => zH rfl) rfl (w_q rfl (fun h' L' hh hR => (zF (sz := 3) (axJ s.1) underlying32 sizeOf30 rfl rfl (by rfl) (by exact axJ_lt _)).cv (show _ = vP b11 (((axJ s.1) * 3 + 0)) from congrArg (vP b11) (by omega))) rfl (yO (F := fun v_ => (rpQ (k + 1)).Is ma v_ (((ps.drop 1).getD i (T3.mk (0 : Rat) 0 0)).at (axJ s.1))) rfl (zE xA (Pc.ta (Pc.here _) (axJ s.1) (by exact axJ_lt _)) rfl rfl rb_10 rfl) (yD (.head _)) rfl ?_))
  intro v69 r69
  refine w_q rfl (fun h' L' hh hR => zH (v := vI (0)) rfl) rfl ?_
  refine w_c rfl (s_new (fun X => new_buildx (ρ := (rpQ (k + 1))) (m := 2) (xs := [(((ps.drop 1).getD i (T3.mk (0 : Rat) 0 0)).at (axI s.1)), (((ps.drop 1).getD i (T3.mk (0 : Rat) 0 0)).at (axJ s.1))]) (ps' := [(0, _), (1, _)]) underlying88 info30 rfl rfl rfl (xS (by omega)) e4z (yN rfl (Pc.arr (Pc.here _) (0 : Rat) 0 (by decide)) r66 (yN rfl (Pc.arr (Pc.here _) (0 : Rat) 1 (by decide)) r69 fx_nil)) (show 2 * 3 ≤ 16777216 from by decide) p3N) rfl ?_)
  intro v70 q70 hq70
  obtain ⟨cs70, rfl, rl70⟩ := hq70
  refine w_c rfl (s_val (fun X => (ov_len_os (.head _) underlying88 rfl).cv (show _ = vI (2 : Int) from rfl)) rfl (yZ (zK (e' := [(2, _), (6, _), (7, _), (8, _), (9, _), (58, _), (59, _), (60, _), (72, _), (70, _), (71, _)]) e11 (zB (zQ ?_)))))
  refine gc_loop (ι := Nat × List Value × List Value × Mem) (fun (j, cs_11, cs_13, mb) => MLe ma mb ∧ ((rpA 2 (rpQ (k + 3))).R mb cs_11 (loK s ps i j) ∧ (rpA 2 (rpQ (k + 3))).R mb cs_13 (hiK s ps i j) ∧ j ≤ 2)) (fun (j, cs_11, cs_13, mb) => [(2, vP b2 0), (6, vI (↑(axI s.1) : Int)), (7, vI (↑(axJ s.1) : Int)), (8, vP b8 0), (9, vP b9 0), (58, v58), (59, vI (↑((ps.drop 1)).length : Int)), (60, vI ↑i), (70, v70), (71, vI (2 : Int)), (72, vI ↑j)]) (fun (j, cs_11, cs_13, mb) => [.gs 30 3 v70 [(((ps.drop 1).getD i (T3.mk (0 : Rat) 0 0)).at (axI s.1)), (((ps.drop 1).getD i (T3.mk (0 : Rat) 0 0)).at (axJ s.1))].length cs70, .var b11 32 cs_9, .var b9 87 cs_13, .var b8 87 cs_11, .var b2 34 cs2]) (fun (j, cs_11, cs_13, mb) => mb) (fun (j, cs_11, cs_13, mb) => 2 - j) (0, cs_5, cs_7, ma) ?_ e11 rfl rfl ?_
  ·
   refine ⟨MLe.refl _, ?_⟩
   refine ⟨rb_6, rb_8, ?_⟩
   exact (by omega)
  intro x hx
  obtain ⟨j, cs_11, cs_13, mb⟩ := x
  obtain ⟨hmmb, hinv⟩ := hx
  show GC _ _ _ _ _ _ [(2, vP b2 0), (6, vI (↑(axI s.1) : Int)), (7, vI (↑(axJ s.1) : Int)), (8, vP b8 0), (9, vP b9 0), (58, v58), (59, vI (↑((ps.drop 1)).length : Int)), (60, vI ↑i), (70, v70), (71, vI (2 : Int)), (72, vI ↑j)] [.gs 30 3 v70 [(((ps.drop 1).getD i (T3.mk (0 : Rat) 0 0)).at (axI s.1)), (((ps.drop 1).getD i (T3.mk (0 : Rat) 0 0)).at (axJ s.1))].length cs70, .var b11 32 cs_9, .var b9 87 cs_13, .var b8 87 cs_11, .var b2 34 cs2] mb
  obtain ⟨rb_12, rb_14, hinv⟩ := hinv
  have hj := hinv
  refine zC (zA (gv (zW rfl rfl) rfl (zD (zB (zC ?_)))))
  refine zP rfl (fun hc73 => ?_) (fun hc73 => ?_)
  ·
   refine zL (zB (zC (zQ (zC (zA (mv rfl rfl (gv ((ov_index_os j (.head _) underlying88 sizeOf30 rfl rfl rfl (by first | omega | (simp only [lAz, lC, lN, lR, lS]; omega)) p3N).cv (show _ = xL 1 v70 ((j * 3 + 0)) from congrArg (xL 1 v70) (by rfl))) rfl ?_)))))))
   replace rl70 := rl70.mono hmmb
   refine xQ (F := fun v_ => (rpQ (k + 1)).Is mb v_ ([(((ps.drop 1).getD i (T3.mk (0 : Rat) 0 0)).at (axI s.1)), (((ps.drop 1).getD i (T3.mk (0 : Rat) 0 0)).at (axJ s.1))].getD j (0 : Rat))) (ox_load_os xA (Pc.arr (Pc.here _) (0 : Rat) j (by first | omega | (simp only [lAz, lC, lN, lR, lS]; omega))) rfl p3N rfl rl70 rfl) (yD (.head _)) rfl ?_
   intro v76 r76
   refine zJ (yQ (ρ := (rpQ (k + 1))) (X := (0 : Rat)) info30 rfl rfl (xS (by omega))) rfl rfl rfl ?_
   intro v13 q13 hq13
   obtain ⟨b13, cs13, rfl, rfl, rb13⟩ := hq13
   refine asg rfl rfl (xO (A := []) (F := fun c_ => (rpQ (k + 1)).R mb c_ ([(((ps.drop 1).getD i (T3.mk (0 : Rat) 0 0)).at (axI s.1)), (((ps.drop 1).getD i (T3.mk (0 : Rat) 0 0)).at (axJ s.1))].getD j (0 : Rat))) (zX sizeOf30 (Pc.here _) rfl rfl rfl rb13 r76 rfl) ?_)
   intro cs_15 rb_16
   refine zD (zB ?_)
   refine yG 13 _ [] [(0, .q), (1, .p), (2, .q), (3, .q), (4, .q), (5, .q), (7, .q), (8, .q), (9, .q), (10, .q), (6, .c), (12, .q), (11, .c), (13, .t), (14, .t), (15, .t)] xG nX (chk_of [0, 0, 0, 4, 8, 0, 48, 0, 128, 256, 0, 1600, 125, 6269, 16383, 32767] [65535, 65535, 65535, 65531, 65527, 65535, 65487, 65535, 65407, 65279, 65535, 63999, 65534, 61375, 65533, 47103] (by kernel_rfl)) nX (fun r hr => hr) (w_q rfl (fun h' L' hh hR => zH rfl) rfl (w_p (⟨.inl rfl,  rfl⟩) rfl rfl (w_q rfl (fun h' L' hh hR => zH rfl) rfl (w_q rfl (fun h' L' hh hR => (zF (sz := 3) j underlying87 sizeOf30 rfl rfl rfl (by omega)).cv (show _ = vP b8 ((j * 3 + 0)) from congrArg (vP b8) (by omega))) rfl (yO (F := fun v_ => (rpQ (k + 3)).Is mb v_ ((loK s ps i j).getD j (0 : Rat))) rfl (zE xA (Pc.arr (Pc.here _) (0 : Rat) j (by omega)) rfl rfl rb_12 rfl) (yD (.tail _ (.tail _ (.tail _ (.tail _ (.head _)))))) rfl ?_)))))
   intro v81 r81
   refine yO (F := fun v_ => (rpQ (k + 1)).Is mb v_ ([(((ps.drop 1).getD i (T3.mk (0 : Rat) 0 0)).at (axI s.1)), (((ps.drop 1).getD i (T3.mk (0 : Rat) 0 0)).at (axJ s.1))].getD j (0 : Rat))) rfl (zE xA (Pc.here _) rfl rfl rb_16 rfl) (yD (.head _)) rfl ?_
   intro v82 r82
   refine w_q rfl (fun h' L' hh hR => zH rfl) rfl (w_q rfl (fun h' L' hh hR => (zF (sz := 3) j underlying87 sizeOf30 rfl rfl rfl (by omega)).cv (show _ = vP b9 ((j * 3 + 0)) from congrArg (vP b9) (by omega))) rfl (yO (F := fun v_ => (rpQ (k + 3)).Is mb v_ ((hiK s ps i j).getD j (0 : Rat))) rfl (zE xA (Pc.arr (Pc.here _) (0 : Rat) j (by omega)) rfl rfl rb_14 rfl) (yD (.tail _ (.tail _ (.tail _ (.head _))))) rfl ?_))
   intro v86 r86
   refine yO (F := fun v_ => (rpQ (k + 1)).Is mb v_ ([(((ps.drop 1).getD i (T3.mk (0 : Rat) 0 0)).at (axI s.1)), (((ps.drop 1).getD i (T3.mk (0 : Rat) 0 0)).at (axJ s.1))].getD j (0 : Rat))) rfl (zE xA (Pc.here _) rfl rfl rb_16 rfl) (yD (.head _)) rfl ?_
   intro v87 r87
   refine w_c rfl ?_
   refine zY (vs := [_, _]) call67 e2z (fun w hs => o_rat_min hs r81 (r82.le (Le.q (l := k + 3) (by omega))) (by omega)) rfl ?_
   intro v83 h2 hh2 r83
   change (rpQ (k + 3)).Is h2 v83 (minQ ((loK s ps i j).getD j (0 : Rat)) ([(((ps.drop 1).getD i (T3.mk (0 : Rat) 0 0)).at (axI s.1)), (((ps.drop 1).getD i (T3.mk (0 : Rat) 0 0)).at (axJ s.1))].getD j (0 : Rat))) at r83
   refine w_q rfl (fun h' L' hh hR => (zF (sz := 3) j underlying87 sizeOf30 rfl rfl rfl (by omega)).cv (show _ = vP b8 ((j * 3 + 0)) from congrArg (vP b8) (by omega))) rfl ?_
   refine w_c rfl ?_
   replace r86 := r86.mono hh2
   replace r87 := r87.mono hh2
   refine zY (vs := [_, _]) call68 e2z (fun w hs => o_rat_max hs r86 (r87.le (Le.q (l := k + 3) (by omega))) (by omega)) rfl ?_
   intro v88 h3 hh3 r88
   change (rpQ (k + 3)).Is h3 v88 (maxQ ((hiK s ps i j).getD j (0 : Rat)) ([(((ps.drop 1).getD i (T3.mk (0 : Rat) 0 0)).at (axI s.1)), (((ps.drop 1).getD i (T3.mk (0 : Rat) 0 0)).at (axJ s.1))].getD j (0 : Rat))) at r88
   replace rb_12 := rb_12.mono (hh2.trans hh3)
   replace r83 := r83.mono hh3
   refine yV (A := [_, _, _, _]) (F := fun c_ => (rpA 2 (rpQ (k + 3))).R h3 c_ ((loK s ps i j).set j (minQ ((loK s ps i j).getD j (0 : Rat)) ([(((ps.drop 1).getD i (T3.mk (0 : Rat) 0 0)).at (axI s.1)), (((ps.drop 1).getD i (T3.mk (0 : Rat) 0 0)).at (axJ s.1))].getD j (0 : Rat))))) rfl (zX sizeOf30 (Pc.arr (Pc.here _) (0 : Rat) j (by omega)) rfl rfl rfl rb_12 r83 rfl) ?_
   intro cs_17 rb_18
   refine w_t_val rfl ((zF (sz := 3) j underlying87 sizeOf30 rfl rfl rfl (by omega)).cv (show _ = vP b9 ((j * 3 + 0)) from congrArg (vP b9) (by omega))) rfl ?_
   replace rb_14 := rb_14.mono (hh2.trans hh3)
   refine yV (A := [_, _, _]) (F := fun c_ => (rpA 2 (rpQ (k + 3))).R h3 c_ ((hiK s ps i j).set j (maxQ ((hiK s ps i j).getD j (0 : Rat)) ([(((ps.drop 1).getD i (T3.mk (0 : Rat) 0 0)).at (axI s.1)), (((ps.drop 1).getD i (T3.mk (0 : Rat) 0 0)).at (axJ s.1))].getD j (0 : Rat))))) rfl (zX sizeOf30 (Pc.arr (Pc.here _) (0 : Rat) j (by omega)) rfl rfl rfl rb_14 r88 rfl) ?_
   intro cs_19 rb_20
   refine yZ (yY (zK (e' := [(2, _), (6, _), (7, _), (8, _), (9, _), (58, _), (59, _), (60, _), (70, _), (71, _), (72, _)]) e11 (zB (zA (gv (zS (q := 1) rfl rfl (by omega) (by omega)) rfl (mv rfl rfl (zD (gq_drop (A := []) ?_))))))))
   refine yW ((j + 1), cs_17, cs_19, h3) ?_ ?_ e11 rfl rfl
   ·
    refine ⟨((hmmb.trans hh2).trans hh3), ?_⟩
    refine ⟨(Rp.castR rb_18 (lo_two s ps i (by omega))), (Rp.castR rb_20 (hi_two s ps i (by omega))), ?_⟩
    exact (by omega)
   dsimp only
   omega
  refine xK (yE (yE (xJ (yY (zB (zA (gv (zS (q := 1) rfl rfl (by omega) (by omega)) rfl (mv rfl rfl (zD (gq_drop (A := []) (gq_drop (A := []) ?_)))))))))))
  refine yW ((i + 1), cs_11, cs_13, mb) ?_ ?_ e8 rfl rfl
  ·
   refine ⟨(hmma.trans hmmb), ?_⟩
   refine ⟨(Rp.castR rb_12 (by rw [show j = 2 by omega]; rfl)), (Rp.castR rb_14 (by rw [show j = 2 by omega]; rfl)), ?_⟩
   exact (by have h := hc61; simp only [List.length_drop] at h; omega)
  dsimp only
  omega
 have ei : i + 1 = ps.length := by have h := hc61; simp only [List.length_drop] at h; omega
 refine xK (yE (yE (xJ (zB (zC (zA ?_))))))
 refine zM (vs := [vI (1)]) rfl rfl rfl rfl call69 ⟨rfl, trivial⟩ (fun w hs => o_rat_int hs (by decide) (by decide)) ?_
 intro v93 h2 hh2 r93
 change (rpQ 2).Is h2 v93 (((1 : Int) : Int) : Rat) at r93
 refine zJ (yQ (ρ := (rpQ 2)) (X := (0 : Rat)) info30 rfl rfl (xS (by decide))) rfl rfl rfl ?_
 intro v14 q14 hq14
 obtain ⟨b14, cs14, rfl, rfl, rb14⟩ := hq14
 refine xO (A := []) (F := fun c_ => (rpQ 2).R h2 c_ (((1 : Int) : Int) : Rat)) (zX sizeOf30 (Pc.here _) rfl rfl rfl rb14 r93 rfl) ?_
 intro cs_21 rb_22
 refine zD (zB ?_)
 refine gc_cut (ι := Rat × Rat × Rat × Rat × List Value × List Value × Mem) (fun (x, y, u, v, cs_23, cs_25, mc) => MLe h2 mc ∧ ((rpA 2 (rpQ (k + 9))).R mc cs_23 [x, y] ∧ (rpA 2 (rpQ (k + 9))).R mc cs_25 [u, v] ∧ sqrL s x y u v = aroZ s ps)) (fun (x, y, u, v, cs_23, cs_25, mc) => [(2, vP b2 0), (8, vP b8 0), (9, vP b9 0)]) (fun (x, y, u, v, cs_23, cs_25, mc) => [.var b14 30 cs_21, .var b9 87 cs_25, .var b8 87 cs_23, .var b2 34 cs2]) (fun (x, y, u, v, cs_23, cs_25, mc) => mc) ?_ ?_
 ·
  refine zC (zA (mv (v := vI (0)) rfl rfl (zD (zB (zQ (gc_loop1 (zC (zA (gv (OpV.tr (by decide) (zW (q := 2) rfl rfl)) rfl (zD (zB (zC (xC rfl ?_)))))))))))))
  refine zL (zB (zC (zQ (zC (zA (mv rfl rfl (asg rfl rfl (zD (zB ?_)))))))))
  refine yG 13 _ [] [(0, .q), (1, .p), (2, .q), (3, .q), (4, .q), (5, .q), (7, .q), (8, .q), (9, .q), (10, .q), (6, .c), (12, .q), (11, .c), (13, .t), (14, .t), (15, .t)] xG nX (chk_of [0, 0, 0, 4, 8, 0, 48, 0, 128, 256, 0, 1600, 125, 6269, 16383, 32767] [65535, 65535, 65535, 65531, 65527, 65535, 65487, 65535, 65407, 65279, 65535, 63999, 65534, 61375, 65533, 47103] (by kernel_rfl)) nX (fun r hr => hr) (w_q rfl (fun h' L' hh hR => zH rfl) rfl (w_p (⟨.inl rfl,  rfl⟩) rfl rfl (w_q rfl (fun h' L' hh hR => zH rfl) rfl (w_q rfl (fun h' L' hh hR => (zF (sz := 3) 0 underlying87 sizeOf30 rfl rfl rfl (by decide)).cv (show _ = vP b8 0 from congrArg (vP b8) (by rfl))) rfl ?_))))
  replace rb_6 := rb_6.mono hh2
  refine yO (F := fun v_ => (rpQ (k + 3)).Is h2 v_ ((loK s ps i 0).getD 0 (0 : Rat))) rfl (zE xA (Pc.arr (Pc.here _) (0 : Rat) 0 (by decide)) rfl rfl rb_6 rfl) (yD (.tail _ (.tail _ (.head _)))) rfl ?_
  intro v101u1 r101u1
  refine yO (F := fun v_ => (rpQ 2).Is h2 v_ (((1 : Int) : Int) : Rat)) rfl (zE xA (Pc.here _) rfl rfl rb_22 rfl) (yD (.head _)) rfl ?_
  intro v102u1 r102u1
  refine w_q rfl (fun h' L' hh hR => zH rfl) rfl (w_q rfl (fun h' L' hh hR => (zF (sz := 3) 0 underlying87 sizeOf30 rfl rfl rfl (by decide)).cv (show _ = vP b9 0 from congrArg (vP b9) (by rfl))) rfl ?_)
  replace rb_8 := rb_8.mono hh2
  refine yO (F := fun v_ => (rpQ (k + 3)).Is h2 v_ ((hiK s ps i 0).getD 0 (0 : Rat))) rfl (zE xA (Pc.arr (Pc.here _) (0 : Rat) 0 (by decide)) rfl rfl rb_8 rfl) (yD (.tail _ (.head _))) rfl ?_
  intro v106u1 r106u1
  refine yO (F := fun v_ => (rpQ 2).Is h2 v_ (((1 : Int) : Int) : Rat)) rfl (zE xA (Pc.here _) rfl rfl rb_22 rfl) (yD (.head _)) rfl ?_
  intro v107u1 r107u1
  refine w_c rfl ?_
  refine zY (vs := [_, _]) call70 e2z (fun w hs => o_rat_sub hs r101u1 r102u1 (by omega)) rfl ?_
  intro v103u1 h3 hh3 r103u1
  change (rpQ ((k + 3) + 2 + 1)).Is h3 v103u1 (((loK s ps i 0).getD 0 (0 : Rat)) - (((1 : Int) : Int) : Rat)) at r103u1
  replace r103u1 := Rp.Is.le r103u1 (Le.q (l := k + 6) (by omega))
  refine w_q rfl (fun h' L' hh hR => (zF (sz := 3) 0 underlying87 sizeOf30 rfl rfl rfl (by decide)).cv (show _ = vP b8 0 from congrArg (vP b8) (by rfl))) rfl ?_
  refine w_c rfl ?_
  replace r106u1 := r106u1.mono hh3
  replace r107u1 := r107u1.mono hh3
  refine zY (vs := [_, _]) call71 e2z (fun w hs => o_rat_add hs r106u1 r107u1 (by omega)) rfl ?_
  intro v108u1 h4 hh4 r108u1
  change (rpQ ((k + 3) + 2 + 1)).Is h4 v108u1 (((hiK s ps i 0).getD 0 (0 : Rat)) + (((1 : Int) : Int) : Rat)) at r108u1
  replace r108u1 := Rp.Is.le r108u1 (Le.q (l := k + 6) (by omega))
  replace rb_6 := rb_6.mono (hh3.trans hh4)
  have rw_27 := (Le.a (Le.q (l := k + 6) (by omega))).R rb_6
  replace r103u1 := r103u1.mono hh4
  refine yV (A := [_, _]) (F := fun c_ => (rpA 2 (rpQ (k + 6))).R h4 c_ ((loK s ps i 0).set 0 (((loK s ps i 0).getD 0 (0 : Rat)) - (((1 : Int) : Int) : Rat)))) rfl (zX sizeOf30 (Pc.arr (Pc.here _) (0 : Rat) 0 (by decide)) rfl rfl rfl rw_27 r103u1 rfl) ?_
  intro cs_28 rb_29
  refine w_t_val rfl ((zF (sz := 3) 0 underlying87 sizeOf30 rfl rfl rfl (by decide)).cv (show _ = vP b9 0 from congrArg (vP b9) (by rfl))) rfl ?_
  replace rb_8 := rb_8.mono (hh3.trans hh4)
  have rw_30 := (Le.a (Le.q (l := k + 6) (by omega))).R rb_8
  refine yV (A := [_]) (F := fun c_ => (rpA 2 (rpQ (k + 6))).R h4 c_ ((hiK s ps i 0).set 0 (((hiK s ps i 0).getD 0 (0 : Rat)) + (((1 : Int) : Int) : Rat)))) rfl (zX sizeOf30 (Pc.arr (Pc.here _) (0 : Rat) 0 (by decide)) rfl rfl rfl rw_30 r108u1 rfl) ?_
  intro cs_31 rb_32
  refine yZ (yY (zK (e' := [(2, _), (8, _), (9, _), (14, _), (94, _)]) e5 (zB (zA (gv ((zS (q := 1) rfl rfl (by omega) (by omega)).cv (show _ = vI (1) from rfl)) rfl (mv rfl rfl (zD (xI (zC (zA (gv (OpV.tr (by decide) (zW (q := 2) rfl rfl)) rfl (zD (zB ?_)))))))))))))
  refine zC (xC rfl (zL (zB (zC (zQ (zC (zA (mv rfl rfl (asg rfl rfl (zD (zB ?_)))))))))))
  refine yG 13 _ [] [(0, .q), (1, .p), (2, .q), (3, .q), (4, .q), (5, .q), (7, .q), (8, .q), (9, .q), (10, .q), (6, .c), (12, .q), (11, .c), (13, .t), (14, .t), (15, .t)] xG nX (chk_of [0, 0, 0, 4, 8, 0, 48, 0, 128, 256, 0, 1600, 125, 6269, 16383, 32767] [65535, 65535, 65535, 65531, 65527, 65535, 65487, 65535, 65407, 65279, 65535, 63999, 65534, 61375, 65533, 47103] (by kernel_rfl)) nX (fun r hr => hr) (w_q rfl (fun h' L' hh hR => zH rfl) rfl (w_p (⟨.inl rfl,  rfl⟩) rfl rfl (w_q rfl (fun h' L' hh hR => zH rfl) rfl (w_q rfl (fun h' L' hh hR => (zF (sz := 3) 1 underlying87 sizeOf30 rfl rfl rfl (by decide)).cv (show _ = vP b8 3 from congrArg (vP b8) (by rfl))) rfl (yO (F := fun v_ => (rpQ (k + 6)).Is h4 v_ (((loK s ps i 0).set 0 (((loK s ps i 0).getD 0 (0 : Rat)) - (((1 : Int) : Int) : Rat))).getD 1 (0 : Rat))) rfl (zE xA (Pc.arr (Pc.here _) (0 : Rat) 1 (by decide)) rfl rfl rb_29 rfl) (yD (.tail _ (.tail _ (.head _)))) rfl ?_)))))
  intro v101u2 r101u2
  replace rb_22 := rb_22.mono (hh3.trans hh4)
  refine yO (F := fun v_ => (rpQ 2).Is h4 v_ (((1 : Int) : Int) : Rat)) rfl (zE xA (Pc.here _) rfl rfl rb_22 rfl) (yD (.head _)) rfl ?_
  intro v102u2 r102u2
  refine w_q rfl (fun h' L' hh hR => zH rfl) rfl (w_q rfl (fun h' L' hh hR => (zF (sz := 3) 1 underlying87 sizeOf30 rfl rfl rfl (by decide)).cv (show _ = vP b9 3 from congrArg (vP b9) (by rfl))) rfl (yO (F := fun v_ => (rpQ (k + 6)).Is h4 v_ (((hiK s ps i 0).set 0 (((hiK s ps i 0).getD 0 (0 : Rat)) + (((1 : Int) : Int) : Rat))).getD 1 (0 : Rat))) rfl (zE xA (Pc.arr (Pc.here _) (0 : Rat) 1 (by decide)) rfl rfl rb_32 rfl) (yD (.tail _ (.head _))) rfl ?_))
  intro v106u2 r106u2
  refine yO (F := fun v_ => (rpQ 2).Is h4 v_ (((1 : Int) : Int) : Rat)) rfl (zE xA (Pc.here _) rfl rfl rb_22 rfl) (yD (.head _)) rfl ?_
  intro v107u2 r107u2
  refine w_c rfl ?_
  refine zY (vs := [_, _]) call70 e2z (fun w hs => o_rat_sub hs r101u2 r102u2 (by omega)) rfl ?_
  intro v103u2 h5 hh5 r103u2
  change (rpQ ((k + 6) + 2 + 1)).Is h5 v103u2 ((((loK s ps i 0).set 0 (((loK s ps i 0).getD 0 (0 : Rat)) - (((1 : Int) : Int) : Rat))).getD 1 (0 : Rat)) - (((1 : Int) : Int) : Rat)) at r103u2
  replace r103u2 := Rp.Is.le r103u2 (Le.q (l := k + 9) (by omega))
  refine w_q rfl (fun h' L' hh hR => (zF (sz := 3) 1 underlying87 sizeOf30 rfl rfl rfl (by decide)).cv (show _ = vP b8 3 from congrArg (vP b8) (by rfl))) rfl ?_
  refine w_c rfl ?_
  replace r106u2 := r106u2.mono hh5
  replace r107u2 := r107u2.mono hh5
  refine zY (vs := [_, _]) call71 e2z (fun w hs => o_rat_add hs r106u2 r107u2 (by omega)) rfl ?_
  intro v108u2 h6 hh6 r108u2
  change (rpQ ((k + 6) + 2 + 1)).Is h6 v108u2 ((((hiK s ps i 0).set 0 (((hiK s ps i 0).getD 0 (0 : Rat)) + (((1 : Int) : Int) : Rat))).getD 1 (0 : Rat)) + (((1 : Int) : Int) : Rat)) at r108u2
  replace r108u2 := Rp.Is.le r108u2 (Le.q (l := k + 9) (by omega))
  replace rb_29 := rb_29.mono (hh5.trans hh6)
  have rw_33 := (Le.a (Le.q (l := k + 9) (by omega))).R rb_29
  replace r103u2 := r103u2.mono hh6
  refine yV (A := [_, _]) (F := fun c_ => (rpA 2 (rpQ (k + 9))).R h6 c_ (((loK s ps i 0).set 0 (((loK s ps i 0).getD 0 (0 : Rat)) - (((1 : Int) : Int) : Rat))).set 1 ((((loK s ps i 0).set 0 (((loK s ps i 0).getD 0 (0 : Rat)) - (((1 : Int) : Int) : Rat))).getD 1 (0 : Rat)) - (((1 : Int) : Int) : Rat)))) rfl (zX sizeOf30 (Pc.arr (Pc.here _) (0 : Rat) 1 (by decide)) rfl rfl rfl rw_33 r103u2 rfl) ?_
  intro cs_34 rb_35
  refine w_t_val rfl ((zF (sz := 3) 1 underlying87 sizeOf30 rfl rfl rfl (by decide)).cv (show _ = vP b9 3 from congrArg (vP b9) (by rfl))) rfl ?_
  replace rb_32 := rb_32.mono (hh5.trans hh6)
  have rw_36 := (Le.a (Le.q (l := k + 9) (by omega))).R rb_32
  refine yV (A := [_]) (F := fun c_ => (rpA 2 (rpQ (k + 9))).R h6 c_ (((hiK s ps i 0).set 0 (((hiK s ps i 0).getD 0 (0 : Rat)) + (((1 : Int) : Int) : Rat))).set 1 ((((hiK s ps i 0).set 0 (((hiK s ps i 0).getD 0 (0 : Rat)) + (((1 : Int) : Int) : Rat))).getD 1 (0 : Rat)) + (((1 : Int) : Int) : Rat)))) rfl (zX sizeOf30 (Pc.arr (Pc.here _) (0 : Rat) 1 (by decide)) rfl rfl rfl rw_36 r108u2 rfl) ?_
  intro cs_37 rb_38
  refine yZ (yY (zK (e' := [(2, _), (8, _), (9, _), (14, _), (94, _)]) e5 (zB (zA (gv ((zS (q := 1) rfl rfl (by omega) (by omega)).cv (show _ = vI (2) from rfl)) rfl (mv rfl rfl (zD (xI (zC (zA (gv (OpV.fa (by decide) (zW (q := 2) rfl rfl)) rfl (zD (zB ?_)))))))))))))
  refine zC (gc_cond_f rfl (xK (yE (yE (xJ ?_)))))
  refine yR (((loT2 s ps (i + 1)).x - ((1 : Int) : Rat)), ((loT2 s ps (i + 1)).y - ((1 : Int) : Rat)), ((hiT2 s ps (i + 1)).x + ((1 : Int) : Rat)), ((hiT2 s ps (i + 1)).y + ((1 : Int) : Rat)), cs_34, cs_37, h6) ?_ e3z rfl rfl
  refine ⟨(((hh3.trans hh4).trans hh5).trans hh6), ?_⟩
  refine ⟨(Rp.castR rb_35 rfl), (Rp.castR rb_38 rfl), ?_⟩
  exact (by rw [ei]; exact (if_neg hz).symm)
 intro x hx
 obtain ⟨x, y, u, v, cs_23, cs_25, mc⟩ := x
 obtain ⟨hmmc, hcut⟩ := hx
 show GC _ _ _ _ _ _ [(2, vP b2 0), (8, vP b8 0), (9, vP b9 0)] [.var b14 30 cs_21, .var b9 87 cs_25, .var b8 87 cs_23, .var b2 34 cs2] mc
 obtain ⟨rb_24, rb_26, hcut⟩ := hcut
 refine zC (zA (asg rfl rfl (zD (zB (zC (zC (zA (gv ((zF (sz := 3) (q := 0) 0 underlying87 sizeOf30 rfl rfl rfl (by decide)).cv (show _ = vP b8 0 from congrArg (vP b8) (by rfl))) rfl (xQ (F := fun v_ => (rpQ (k + 9)).Is mc v_ ([x, y].getD 0 (0 : Rat))) (zE xA (Pc.arr (Pc.here _) (0 : Rat) 0 (by decide)) rfl rfl rb_24 rfl) (yD (.tail _ (.tail _ (.head _)))) rfl ?_)))))))))
 intro v113 r113
 refine gv ((zF (sz := 3) (q := 1) 1 underlying87 sizeOf30 rfl rfl rfl (by decide)).cv (show _ = vP b8 3 from congrArg (vP b8) (by rfl))) rfl (xQ (F := fun v_ => (rpQ (k + 9)).Is mc v_ ([x, y].getD 1 (0 : Rat))) (zE xA (Pc.arr (Pc.here _) (0 : Rat) 1 (by decide)) rfl rfl rb_24 rfl) (yD (.tail _ (.tail _ (.head _)))) rfl ?_)
 intro v115 r115
 refine xQ (F := fun v_ => (rpQ 1).Is mc v_ (0 : Rat)) (ox_build (ps' := []) underlying30 info30 rfl rfl (places30 underlying30) trivial rfl (xS (by decide)) fx_nil) mem0 rfl ?_
 intro v116 r116
 refine xQ (F := fun v_ => (rpT (rpQ (k + 9))).Is mc v_ (T3.mk ([x, y].getD 0 (0 : Rat)) ([x, y].getD 1 (0 : Rat)) (0 : Rat))) (ox_build_arr (ps' := [(0, _), (1, _), (2, _)]) underlying32 yI rfl rfl sizeOf30 e6 rfl (zr_t (xS (by omega))) (yN rfl (Pc.tx (Pc.here _)) r113 (yN rfl (Pc.ty (Pc.here _)) r115 (yN rfl (Pc.tz (Pc.here _)) (r116.le (Le.q (l := k + 9) (by omega))) fx_nil)))) mem0 rfl ?_
 intro v117 r117
 refine gv ((zF (sz := 3) (q := 0) 0 underlying87 sizeOf30 rfl rfl rfl (by decide)).cv (show _ = vP b9 0 from congrArg (vP b9) (by rfl))) rfl (xQ (F := fun v_ => (rpQ (k + 9)).Is mc v_ ([u, v].getD 0 (0 : Rat))) (zE xA (Pc.arr (Pc.here _) (0 : Rat) 0 (by decide)) rfl rfl rb_26 rfl) (yD (.tail _ (.head _))) rfl ?_)
 intro v119 r119
 refine gv ((zF (sz := 3) (q := 1) 1 underlying87 sizeOf30 rfl rfl rfl (by decide)).cv (show _ = vP b8 3 from congrArg (vP b8) (by rfl))) rfl (xQ (F := fun v_ => (rpQ (k + 9)).Is mc v_ ([x, y].getD 1 (0 : Rat))) (zE xA (Pc.arr (Pc.here _) (0 : Rat) 1 (by decide)) rfl rfl rb_24 rfl) (yD (.tail _ (.tail _ (.head _)))) rfl ?_)
 intro v121 r121
 refine xQ (F := fun v_ => (rpQ 1).Is mc v_ (0 : Rat)) (ox_build (ps' := []) underlying30 info30 rfl rfl (places30 underlying30) trivial rfl (xS (by decide)) fx_nil) mem0 rfl ?_
 intro v122 r122
 refine xQ (F := fun v_ => (rpT (rpQ (k + 9))).Is mc v_ (T3.mk ([u, v].getD 0 (0 : Rat)) ([x, y].getD 1 (0 : Rat)) (0 : Rat))) (ox_build_arr (ps' := [(0, _), (1, _), (2, _)]) underlying32 yI rfl rfl sizeOf30 e6 rfl (zr_t (xS (by omega))) (yN rfl (Pc.tx (Pc.here _)) r119 (yN rfl (Pc.ty (Pc.here _)) r121 (yN rfl (Pc.tz (Pc.here _)) (r122.le (Le.q (l := k + 9) (by omega))) fx_nil)))) mem0 rfl ?_
 intro v123 r123
 refine gv ((zF (sz := 3) (q := 0) 0 underlying87 sizeOf30 rfl rfl rfl (by decide)).cv (show _ = vP b9 0 from congrArg (vP b9) (by rfl))) rfl (xQ (F := fun v_ => (rpQ (k + 9)).Is mc v_ ([u, v].getD 0 (0 : Rat))) (zE xA (Pc.arr (Pc.here _) (0 : Rat) 0 (by decide)) rfl rfl rb_26 rfl) (yD (.tail _ (.head _))) rfl ?_)
 intro v125 r125
 refine gv ((zF (sz := 3) (q := 1) 1 underlying87 sizeOf30 rfl rfl rfl (by decide)).cv (show _ = vP b9 3 from congrArg (vP b9) (by rfl))) rfl (xQ (F := fun v_ => (rpQ (k + 9)).Is mc v_ ([u, v].getD 1 (0 : Rat))) (zE xA (Pc.arr (Pc.here _) (0 : Rat) 1 (by decide)) rfl rfl rb_26 rfl) (yD (.tail _ (.head _))) rfl ?_)
 intro v127 r127
 refine xQ (F := fun v_ => (rpQ 1).Is mc v_ (0 : Rat)) (ox_build (ps' := []) underlying30 info30 rfl rfl (places30 underlying30) trivial rfl (xS (by decide)) fx_nil) mem0 rfl ?_
 intro v128 r128
 refine xQ (F := fun v_ => (rpT (rpQ (k + 9))).Is mc v_ (T3.mk ([u, v].getD 0 (0 : Rat)) ([u, v].getD 1 (0 : Rat)) (0 : Rat))) (ox_build_arr (ps' := [(0, _), (1, _), (2, _)]) underlying32 yI rfl rfl sizeOf30 e6 rfl (zr_t (xS (by omega))) (yN rfl (Pc.tx (Pc.here _)) r125 (yN rfl (Pc.ty (Pc.here _)) r127 (yN rfl (Pc.tz (Pc.here _)) (r128.le (Le.q (l := k + 9) (by omega))) fx_nil)))) mem0 rfl ?_
 intro v129 r129
 refine gv ((zF (sz := 3) (q := 0) 0 underlying87 sizeOf30 rfl rfl rfl (by decide)).cv (show _ = vP b8 0 from congrArg (vP b8) (by rfl))) rfl (xQ (F := fun v_ => (rpQ (k + 9)).Is mc v_ ([x, y].getD 0 (0 : Rat))) (zE xA (Pc.arr (Pc.here _) (0 : Rat) 0 (by decide)) rfl rfl rb_24 rfl) (yD (.tail _ (.tail _ (.head _)))) rfl ?_)
 intro v131 r131
 refine gv ((zF (sz := 3) (q := 1) 1 underlying87 sizeOf30 rfl rfl rfl (by decide)).cv (show _ = vP b9 3 from congrArg (vP b9) (by rfl))) rfl (xQ (F := fun v_ => (rpQ (k + 9)).Is mc v_ ([u, v].getD 1 (0 : Rat))) (zE xA (Pc.arr (Pc.here _) (0 : Rat) 1 (by decide)) rfl rfl rb_26 rfl) (yD (.tail _ (.head _))) rfl ?_)
 intro v133 r133
 refine xQ (F := fun v_ => (rpQ 1).Is mc v_ (0 : Rat)) (ox_build (ps' := []) underlying30 info30 rfl rfl (places30 underlying30) trivial rfl (xS (by decide)) fx_nil) mem0 rfl ?_
 intro v134 r134
 refine xQ (F := fun v_ => (rpT (rpQ (k + 9))).Is mc v_ (T3.mk ([x, y].getD 0 (0 : Rat)) ([u, v].getD 1 (0 : Rat)) (0 : Rat))) (ox_build_arr (ps' := [(0, _), (1, _), (2, _)]) underlying32 yI rfl rfl sizeOf30 e6 rfl (zr_t (xS (by omega))) (yN rfl (Pc.tx (Pc.here _)) r131 (yN rfl (Pc.ty (Pc.here _)) r133 (yN rfl (Pc.tz (Pc.here _)) (r134.le (Le.q (l := k + 9) (by omega))) fx_nil)))) mem0 rfl ?_
 intro v135 r135
 refine zJ (new_buildx (ρ := (rpT (rpQ (k + 9)))) (m := 4) (xs := [(T3.mk ([x, y].getD 0 (0 : Rat)) ([x, y].getD 1 (0 : Rat)) (0 : Rat)), (T3.mk ([u, v].getD 0 (0 : Rat)) ([x, y].getD 1 (0 : Rat)) (0 : Rat)), (T3.mk ([u, v].getD 0 (0 : Rat)) ([u, v].getD 1 (0 : Rat)) (0 : Rat)), (T3.mk ([x, y].getD 0 (0 : Rat)) ([u, v].getD 1 (0 : Rat)) (0 : Rat))]) (ps' := [(0, _), (1, _), (2, _), (3, _)]) underlying27 yI rfl rfl rfl (zr_t (xS (by omega))) e8 (yN rfl (Pc.arr (Pc.here _) (T3.mk (0 : Rat) 0 0) 0 (by decide)) r117 (yN rfl (Pc.arr (Pc.here _) (T3.mk (0 : Rat) 0 0) 1 (by decide)) r123 (yN rfl (Pc.arr (Pc.here _) (T3.mk (0 : Rat) 0 0) 2 (by decide)) r129 (yN rfl (Pc.arr (Pc.here _) (T3.mk (0 : Rat) 0 0) 3 (by decide)) r135 fx_nil)))) (show 4 * 9 ≤ 16777216 from by decide) p9N) rfl rfl rfl ?_
 intro v136 q136 hq136
 obtain ⟨cs136, rfl, rl136⟩ := hq136
 refine gv ((ov_len_os (.head _) underlying27 rfl).cv (show _ = vI (4 : Int) from rfl)) rfl (mv (v := vI (0)) rfl rfl (zD (zK (e' := [(2, _), (16, _), (136, _), (137, _), (138, _)]) e5 (zB (zQ (gc_nilown 32 9 ?_))))))
 have rl_39 : RL (rpT (rpQ (4 * k + l + 4 * m + 60))) mc [] ([] : List (T3 Rat)) := RL.nil
 refine gc_loop (ι := Nat × Value × List Value × Value × List Value × Mem) (fun (j, s136_40, cs_41, s16_43, cs_44, md) => MLe mc md ∧ (RL (rpT (rpQ (k + 9))) md cs_41 (cor4 x y u v) ∧ RL (rpT (rpQ (4 * k + l + 4 * m + 60))) md cs_44 (liftTo s (cor4 x y u v) j) ∧ j ≤ 4)) (fun (j, s136_40, cs_41, s16_43, cs_44, md) => [(2, vP b2 0), (16, s16_43), (136, s136_40), (137, vI (4 : Int)), (138, vI ↑j)]) (fun (j, s136_40, cs_41, s16_43, cs_44, md) => [.gs 32 9 s16_43 (liftTo s (cor4 x y u v) j).length cs_44, .gs 32 9 s136_40 (cor4 x y u v).length cs_41, .var b14 30 cs_21, .var b9 87 cs_25, .var b8 87 cs_23, .var b2 34 cs2]) (fun (j, s136_40, cs_41, s16_43, cs_44, md) => md) (fun (j, s136_40, cs_41, s16_43, cs_44, md) => 4 - j) (0, v136, cs136, (.slice none 0 0), [], mc) ?_ e5 rfl rfl ?_
 ·
  refine ⟨MLe.refl _, ?_⟩
  refine ⟨rl136, rl_39, ?_⟩
  exact (by omega)
 intro x hx
 obtain ⟨j, s136_40, cs_41, s16_43, cs_44, md⟩ := x
 obtain ⟨hmmd, hinv⟩ := hx
 show GC _ _ _ _ _ _ [(2, vP b2 0), (16, s16_43), (136, s136_40), (137, vI (4 : Int)), (138, vI ↑j)] [.gs 32 9 s16_43 (liftTo s (cor4 x y u v) j).length cs_44, .gs 32 9 s136_40 (cor4 x y u v).length cs_41, .var b14 30 cs_21, .var b9 87 cs_25, .var b8 87 cs_23, .var b2 34 cs2] md
 obtain ⟨rl_42, rl_45, hinv⟩ := hinv
 have hj := hinv
 have hll := lift_len s (cor4 x y u v) j
 have hcl : (cor4 x y u v).length = 4 := rfl
 refine zC (zA (gv (zW rfl rfl) rfl (zD (zB (zC ?_)))))
 refine zP rfl (fun hc139 => ?_) (fun hc139 => ?_)
 ·
  refine zL (zB (zC (zQ (zC (zA (gv ((ov_index_os j (.tail _ (.head _)) underlying27 sizeOf32 rfl rfl rfl (by first | omega | (simp only [lAz, lC, lN, lR, lS]; omega)) p9N).cv (show _ = xL 1 s136_40 ((j * 9 + 0)) from congrArg (xL 1 s136_40) (by rfl))) rfl (xQ (F := fun v_ => (rpT (rpQ (k + 9))).Is md v_ ((cor4 x y u v).getD j (T3.mk (0 : Rat) 0 0))) (ox_load_os xF (Pc.arr (Pc.here _) (T3.mk (0 : Rat) 0 0) j (by first | omega | (simp only [lAz, lC, lN, lR, lS]; omega))) rfl p9N rfl rl_42 rfl) (yD (.tail _ (.head _))) rfl ?_)))))))
  intro v141 r141
  refine zJ (yQ (ρ := (rpT (rpQ (k + 3)))) (X := (T3.mk (0 : Rat) 0 0)) yI rfl rfl (zr_t (xS (by omega)))) rfl rfl rfl ?_
  intro v18 q18 hq18
  obtain ⟨b18, cs18, rfl, rfl, rb18⟩ := hq18
  have rw_46 := (Le.t (Le.q (l := k + 9) (by omega))).R rb18
  refine xO (A := []) (F := fun c_ => (rpT (rpQ (k + 9))).R md c_ ((cor4 x y u v).getD j (T3.mk (0 : Rat) 0 0))) (zX sizeOf32 (Pc.here _) rfl rfl rfl rw_46 r141 rfl) ?_
  intro cs_47 rb_48
  refine zD (zB (zC (zA ?_)))
  replace rb2 := rb2.mono ((((hh1.trans hmma).trans hh2).trans hmmc).trans hmmd)
  refine xQ (F := fun v_ => (rpP (rpT (rpQ m)) (rpQ l)).Is md v_ s) (zE ty34 (Pc.here _) rfl rfl rb2 rfl) (yD (.tail _ (.tail _ (.tail _ (.tail _ (.tail _ (.tail _ (.head _)))))))) rfl ?_
  intro v143 r143
  refine xQ (F := fun v_ => (rpT (rpQ (k + 9))).Is md v_ ((cor4 x y u v).getD j (T3.mk (0 : Rat) 0 0))) (zE xF (Pc.here _) rfl rfl rb_48 rfl) (yD (.head _)) rfl ?_
  intro v144 r144
  refine zM (vs := [_, _]) rfl rfl rfl rfl call72 e2z (fun w hs => o_pg_lift hs r143 r144 (by omega) (by omega) (by omega)) ?_
  intro v145 h3 hh3 r145
  obtain ⟨v145_0, rfl, r145_0⟩ := r145
  change (rpT (rpQ (4 * (k + 9) + l + 4 * m + 9))).Is h3 v145_0 (liftZ s ((cor4 x y u v).getD j (T3.mk (0 : Rat) 0 0))) at r145_0
  replace r145_0 := Rp.Is.le r145_0 (Le.t (Le.q (l := 4 * k + l + 4 * m + 45) (by omega)))
  refine mv rfl rfl (gv (zN (vs := [_, _]) rfl rfl) rfl (gv (zN (vs := [_, _]) rfl rfl) rfl (zJ (yQ (ρ := (rpT (rpQ (4 * k + l + 4 * m + 60)))) (X := (T3.mk (0 : Rat) 0 0)) yI rfl rfl (zr_t (xS (by omega)))) rfl rfl rfl ?_)))
  intro v19 q19 hq19
  obtain ⟨b19, cs19, rfl, rfl, rb19⟩ := hq19
  refine xO (A := []) (F := fun c_ => (rpT (rpQ (4 * k + l + 4 * m + 60))).R h3 c_ (liftZ s ((cor4 x y u v).getD j (T3.mk (0 : Rat) 0 0)))) (zX sizeOf32 (Pc.here _) rfl rfl rfl rb19 (r145_0.le (Le.t (Le.q (l := 4 * k + l + 4 * m + 60) (by omega)))) rfl) ?_
  intro cs_49 rb_50
  refine asg rfl rfl (zD (zK (e' := [(2, _), (16, _), (136, _), (137, _), (138, _), (19, _)]) e6 (zB (zA (mv rfl rfl (xQ (F := fun v_ => (rpT (rpQ (4 * k + l + 4 * m + 60))).Is h3 v_ (liftZ s ((cor4 x y u v).getD j (T3.mk (0 : Rat) 0 0)))) (zE xF (Pc.here _) rfl rfl rb_50 rfl) (yD (.head _)) rfl ?_))))))
  intro v149 r149
  refine zJ (new_buildx (ρ := (rpT (rpQ (4 * k + l + 4 * m + 60)))) (m := 1) (xs := [liftZ s ((cor4 x y u v).getD j (T3.mk (0 : Rat) 0 0))]) (ps' := [(0, _)]) underlying27 yI rfl rfl rfl (zr_t (xS (by omega))) e2z (yN rfl (Pc.arr (Pc.here _) (T3.mk (0 : Rat) 0 0) 0 (by decide)) r149 fx_nil) (show 1 * 9 ≤ 16777216 from by decide) p9N) rfl rfl rfl ?_
  intro v150 q150 hq150
  obtain ⟨cs150, rfl, rl150⟩ := hq150
  refine gl_freezex (A := []) (ρ := (rpT (rpQ (4 * k + l + 4 * m + 60)))) rl150 ?_
  intro h4 hh4 rs_51
  replace rl_45 := rl_45.mono (hh3.trans hh4)
  refine gl_repop (A := [_, _]) (rep_appendx (ρ := (rpT (rpQ (4 * k + l + 4 * m + 60)))) (bytes := 168) underlying27 yI rfl rfl rfl rfl p9N rfl rfl rl_45 rs_51 (by first | omega | (simp only [lAz, lC, lN, lR, lS]; omega)) (by first | omega | (simp only [lAz, lC, lN, lR, lS]; omega))) rfl rfl rfl ?_
  intro v151 q151 hq151
  obtain ⟨cs151, rfl, rl151⟩ := hq151
  refine asg rfl rfl (zD (yY (zB (zA (gv (zS (q := 1) rfl rfl (by omega) (by omega)) rfl (mv rfl rfl (zD (gq_drop (A := []) (gq_drop (A := []) ?_)))))))))
  refine yW ((j + 1), s136_40, cs_41, v151, cs151, h4) ?_ ?_ e5 rfl rfl
  ·
   refine ⟨((hmmd.trans hh3).trans hh4), ?_⟩
   replace rl_42 := rl_42.mono (hh3.trans hh4)
   refine ⟨rl_42, rl151, ?_⟩
   exact (by omega)
  dsimp only
  omega
 have ej : j = 4 := by omega
 refine xK (yE (yE (xJ (zB (zC (zA (mv rfl rfl (asg rfl rfl (asg rfl rfl (zD (zB (zR (gq_freezex (A := []) (ρ := (rpT (rpQ (4 * k + l + 4 * m + 60)))) rl_45 ?_)))))))))))))
 intro h3 hh3 rs_52
 refine gq_body2 rfl rfl rfl ?_
 refine ⟨_, ?_, (Rp.Is.cast rs_52 (by rw [ej]; exact hcut))⟩
 rw [vB_true hz]
end Go.Proofs.YtghhjjmjpeehdaaGreat
namespace Go.Proofs.YtghhjjmjpeehdaaGreat
open Bk Go Tryz
set_option linter.unusedVariables false
set_option linter.unusedSimpArgs false
set_option maxRecDepth 10000
theorem o_cx_upright {w0 : World} {h0 : Mem}  (hs : MLe h0 (mem w0)) {m l k : Nat} {vs : Value} {s : ((T3 Rat) × Rat)} (rs : (rpP (rpT (rpQ m)) (rpQ l)).Is h0 vs s) {va : Value} {a : (T3 Rat)} (ra : (rpT (rpQ k)).Is h0 va a) {vb : Value} {b : (T3 Rat)} (rb : (rpT (rpQ k)).Is h0 vb b) (hcd0 : k ≤ 50000000) (hcd1 : l ≤ 50000000) (hcd2 : m ≤ 50000000)  :
    Calls Tryz.prog 38 #[vs, va, vb] w0 (Ret w0 h0 (fun h r => (rpP (rpT (rpQ (4 * k + 2 * m + 7))) (rpQ (15 * k + 6 * m + 30))).Is h r (upr s a b))) := by
 refine zO (n := 19) (e := [(0, vs), (1, va), (2, vb)]) (vs := [vs, va, vb]) func38 rfl rfl (bL rfl) hs e3z (zC (zA (zJ (yU (ρ := (rpP (rpT (rpQ m)) (rpQ l))) rfl rs) rfl rfl rfl ?_)))
 intro v3 q3 hq3
 obtain ⟨b3, cs3, rfl, rfl, rb3⟩ := hq3
 refine zJ (yU (ρ := (rpT (rpQ k))) rfl ra) rfl rfl rfl ?_
 intro v4 q4 hq4
 obtain ⟨b4, cs4, rfl, rfl, rb4⟩ := hq4
 refine zJ (yU (ρ := (rpT (rpQ k))) rfl rb) rfl rfl rfl ?_
 intro v5 q5 hq5
 obtain ⟨b5, cs5, rfl, rfl, rb5⟩ := hq5
 refine zJ (yQ (ρ := (rpP (rpT (rpQ 2)) (rpQ 2))) (X := ((T3.mk (0 : Rat) 0 0), (0 : Rat))) info34 rfl rfl (zr_p (zr_t (xS (by decide))) (xS (by decide)))) rfl rfl rfl ?_
 intro v6 q6 hq6
 obtain ⟨b6, cs6, rfl, rfl, rb6⟩ := hq6
 refine zD (zB (zC ?_))
 refine yG 7 _ [(6, (7, 32, [.bool false, .slice none 0 0, .slice none 0 0, .bool false, .slice none 0 0, .slice none 0 0, .bool false, .slice none 0 0, .slice none 0 0]))] [(0, .q), (1, .q), (3, .q), (4, .q), (2, .c), (5, .c), (6, .a), (7, .t)] xG (AlOk.cons rfl rfl (zero_run yI rfl rfl) AlOk.nil) (by kernel_rfl) (hae_cons rfl rfl hae_nil) (fun r hr => hr) (yO (F := fun v_ => (rpT (rpQ k)).Is h0 v_ b) rfl (zE xF (Pc.here _) rfl rfl rb5 rfl) (yD (.tail _ (.head _))) rfl ?_)
 intro v8 r8
 refine yO (F := fun v_ => (rpT (rpQ k)).Is h0 v_ a) rfl (zE xF (Pc.here _) rfl rfl rb4 rfl) (yD (.tail _ (.tail _ (.head _)))) rfl ?_
 intro v9 r9
 refine w_q rfl (fun h' L' hh hR => (zI underlying34 rfl sizeOf32 rfl).cv (show _ = vP b3 0 from congrArg (vP b3) (by rfl))) rfl (yO (F := fun v_ => (rpT (rpQ m)).Is h0 v_ s.1) rfl (zE xF (Pc.fst (Pc.here _)) rfl rfl rb3 rfl) (yD (.tail _ (.tail _ (.tail _ (.head _))))) rfl ?_)
 intro v12 r12
 refine w_c rfl ?_
 refine zY (vs := [_, _]) call78 e2z (fun w hs => o_v_sub hs r8 r9 (by omega)) rfl ?_
 intro v10 h1 hh1 r10
 change (rpT (rpQ (k + k + 2))).Is h1 v10 (T3.mk (b.x - a.x) (b.y - a.y) (b.z - a.z)) at r10
 replace r10 := Rp.Is.le r10 (Le.t (Le.q (l := 2 * k + 2) (by omega)))
 refine w_c rfl ?_
 replace r12 := r12.mono hh1
 refine zY (vs := [_, _]) call77 e2z (fun w hs => o_v_cross hs r10 r12 (by omega)) rfl ?_
 intro v13 h2 hh2 r13
 change (rpT (rpQ (2 * (2 * k + 2) + 2 * m + 3))).Is h2 v13 (crossT (T3.mk (b.x - a.x) (b.y - a.y) (b.z - a.z)) s.1) at r13
 replace r13 := Rp.Is.le r13 (Le.t (Le.q (l := 4 * k + 2 * m + 7) (by omega)))
 refine w_a rfl rfl (fun b7 => ?_)
 have rb7 : (rpT (rpQ (4 * k + 2 * m + 7))).R h2 [.bool false, .slice none 0 0, .slice none 0 0, .bool false, .slice none 0 0, .slice none 0 0, .bool false, .slice none 0 0, .slice none 0 0] (T3.mk (0 : Rat) 0 0) := (zr_t (xS (by omega)))
 refine yV (A := []) (F := fun c_ => (rpT (rpQ (4 * k + 2 * m + 7))).R h2 c_ (crossT (T3.mk (b.x - a.x) (b.y - a.y) (b.z - a.z)) s.1)) rfl (zX sizeOf32 (Pc.here _) rfl rfl rfl rb7 r13 rfl) ?_
 intro cs_1 rb_2
 refine yZ (zK (e' := [(4, _), (6, _), (7, _)]) e3z (zB (zC ?_)))
 refine yG 5 _ [] [(0, .q), (1, .q), (2, .q), (3, .c), (4, .q), (5, .t)] xG nX (by kernel_rfl) nX (fun r hr => hr) (yO (F := fun v_ => (rpT (rpQ (4 * k + 2 * m + 7))).Is h2 v_ (crossT (T3.mk (b.x - a.x) (b.y - a.y) (b.z - a.z)) s.1)) rfl (zE xF (Pc.here _) rfl rfl rb_2 rfl) (yD (.head _)) rfl ?_)
 intro v14 r14
 refine yO (F := fun v_ => (rpT (rpQ (4 * k + 2 * m + 7))).Is h2 v_ (crossT (T3.mk (b.x - a.x) (b.y - a.y) (b.z - a.z)) s.1)) rfl (zE xF (Pc.here _) rfl rfl rb_2 rfl) (yD (.head _)) rfl ?_
 intro v15 r15
 replace rb4 := rb4.mono (hh1.trans hh2)
 refine yO (F := fun v_ => (rpT (rpQ k)).Is h2 v_ a) rfl (zE xF (Pc.here _) rfl rfl rb4 rfl) (yD (.tail _ (.tail _ (.tail _ (.head _))))) rfl ?_
 intro v16 r16
 refine w_c rfl ?_
 refine zY (vs := [_, _]) call79 e2z (fun w hs => o_v_dot hs r15 r16 (by omega)) rfl ?_
 intro v17 h3 hh3 r17
 change (rpQ (3 * (4 * k + 2 * m + 7) + 3 * k + 9)).Is h3 v17 (dotT (crossT (T3.mk (b.x - a.x) (b.y - a.y) (b.z - a.z)) s.1) a) at r17
 replace r17 := Rp.Is.le r17 (Le.q (l := 15 * k + 6 * m + 30) (by omega))
 replace r14 := r14.mono hh3
 refine yO (F := fun v_ => (rpP (rpT (rpQ (4 * k + 2 * m + 7))) (rpQ (15 * k + 6 * m + 30))).Is h3 v_ (crossT (T3.mk (b.x - a.x) (b.y - a.y) (b.z - a.z)) s.1, dotT (crossT (T3.mk (b.x - a.x) (b.y - a.y) (b.z - a.z)) s.1) a)) rfl (ox_build (ps' := [(0, _), (1, _)]) underlying34 info34 rfl rfl (places34 underlying34) e4z rfl (zr_p (zr_t (xS (by omega))) (xS (by omega))) (yN rfl (Pc.fst (Pc.here _)) r14 (yN rfl (Pc.snd (Pc.here _)) r17 fx_nil))) mem0 rfl ?_
 intro v18 r18
 replace rb6 := rb6.mono ((hh1.trans hh2).trans hh3)
 have rw_3 := (Le.p (Le.t (Le.q (l := 4 * k + 2 * m + 7) (by omega))) (Le.q (l := 15 * k + 6 * m + 30) (by omega))).R rb6
 refine yV (A := [_]) (F := fun c_ => (rpP (rpT (rpQ (4 * k + 2 * m + 7))) (rpQ (15 * k + 6 * m + 30))).R h3 c_ (crossT (T3.mk (b.x - a.x) (b.y - a.y) (b.z - a.z)) s.1, dotT (crossT (T3.mk (b.x - a.x) (b.y - a.y) (b.z - a.z)) s.1) a)) rfl (zX sizeOf34 (Pc.here _) rfl rfl rfl rw_3 r18 rfl) ?_
 intro cs_4 rb_5
 refine yZ (zB (zR (gq_exv (rv_o (t := 6) ty34 (.tail _ (.head _)) rfl rb_5) ?_)))
 intro w_6 hvw_6 rr_7
 refine xM (fun E S => yL rfl hvw_6 E S) ?_
 exact rr_7
theorem o_cx_centre {w0 : World} {h0 : Mem}  (hs : MLe h0 (mem w0)) {k : Nat} {vl : Value} {l : (List (T3 Rat))} (rl : (rpS (rpT (rpQ k))).Is h0 vl l) (hcd0 : k ≤ 10000000) (hcd1 : l.length ≤ 32)  :
    Calls Tryz.prog 40 #[vl] w0 (Ret w0 h0 (fun h r => (rpT (rpQ (32 * k + 110))).Is h r (cenZ l))) := by
 refine zO (n := 30) (e := [(0, vl)]) (vs := [vl]) func40 rfl rfl (bL rfl) hs ⟨rfl, trivial⟩ (zC (zA (zJ (yQ (ρ := (rpT (rpQ 2))) (X := (T3.mk (0 : Rat) 0 0)) yI rfl rfl (zr_t (xS (by decide)))) rfl rfl rfl ?_)))
 intro v2 q2 hq2
 obtain ⟨b2, cs2, rfl, rfl, rb2⟩ := hq2
 refine zD (zB (zC (zA (zJ (yQ (ρ := (rpT (rpQ 1))) (X := (T3.mk (0 : Rat) 0 0)) yI rfl rfl (zr_t (xS (by decide)))) rfl rfl rfl ?_))))
 intro v3 q3 hq3
 obtain ⟨b3, cs3, rfl, rfl, rb3⟩ := hq3
 refine zD (zB (zC (zC (zA (mv rfl rfl (gv (ov_len_sr underlying27 rfl rl) rfl (mv (v := vI (0)) rfl rfl (zD (zB (zQ ?_))))))))))
 refine gc_loop (ι := Nat × Nat × List Value × Mem) (fun (i, q, cs_8, ma) => MLe h0 ma ∧ ((rpT (rpQ q)).R ma cs_8 (sumT l i) ∧ i ≤ l.length ∧ q ≤ (k + 3) * i + 1)) (fun (i, q, cs_8, ma) => [(0, vl), (2, vP b2 0), (3, vP b3 0), (8, vl), (9, vI (↑(l).length : Int)), (10, vI ↑i)]) (fun (i, q, cs_8, ma) => [.var b3 32 cs_8, .var b2 32 cs2]) (fun (i, q, cs_8, ma) => ma) (fun (i, q, cs_8, ma) => l.length - i) (0, 1, cs3, h0) ?_ e6 rfl rfl ?_
 ·
  refine ⟨MLe.refl _, ?_⟩
  refine ⟨rb3, ?_⟩
  exact ⟨by omega, by omega⟩
 intro x hx
 obtain ⟨i, q, cs_8, ma⟩ := x
 obtain ⟨hmma, hinv⟩ := hx
 show GC _ _ _ _ _ _ [(0, vl), (2, vP b2 0), (3, vP b3 0), (8, vl), (9, vI (↑(l).length : Int)), (10, vI ↑i)] [.var b3 32 cs_8, .var b2 32 cs2] ma
 obtain ⟨rb_9, hinv⟩ := hinv
 obtain ⟨hi1, hq1⟩ := hinv
 have hq2 := Nat.mul_le_mul_left (k + 3) (show i ≤ 32 by omega)
 refine zC (zA (gv (zW rfl rfl) rfl (zD (zB (zC ?_)))))
 refine zP rfl (fun hc11 => ?_) (fun hc11 => ?_)
 ·
  refine zL (zB (zC (zQ (zC (zA ?_)))))
  replace rl := rl.mono hmma
  refine xQ (F := fun v_ => AtP (rpT (rpQ k)) ma v_ (l.getD i (T3.mk (0 : Rat) 0 0))) (ox_idx_s (T3.mk (0 : Rat) 0 0) i underlying27 xF rfl rfl rl rfl (by omega) p9N) mem0 rfl ?_
  intro v12 r12
  refine xQ (F := fun v_ => (rpT (rpQ k)).Is ma v_ (l.getD i (T3.mk (0 : Rat) 0 0))) (ox_load_at xF rfl r12) mem0 rfl ?_
  intro v13 r13
  refine zJ (yQ (ρ := (rpT (rpQ (k + 1)))) (X := (T3.mk (0 : Rat) 0 0)) yI rfl rfl (zr_t (xS (by omega)))) rfl rfl rfl ?_
  intro v5 q5 hq5
  obtain ⟨b5, cs5, rfl, rfl, rb5⟩ := hq5
  refine xO (A := []) (F := fun c_ => (rpT (rpQ (k + 1))).R ma c_ (l.getD i (T3.mk (0 : Rat) 0 0))) (zX sizeOf32 (Pc.here _) rfl rfl rfl rb5 (r13.le (Le.t (Le.q (l := k + 1) (by omega)))) rfl) ?_
  intro cs_10 rb_11
  refine zD (zB (zA (xQ (F := fun v_ => (rpT (rpQ q)).Is ma v_ (sumT l i)) (zE xF (Pc.here _) rfl rfl rb_9 rfl) (yD (.tail _ (.head _))) rfl ?_)))
  intro v14 r14
  refine xQ (F := fun v_ => (rpT (rpQ (k + 1))).Is ma v_ (l.getD i (T3.mk (0 : Rat) 0 0))) (zE xF (Pc.here _) rfl rfl rb_11 rfl) (yD (.head _)) rfl ?_
  intro v15 r15
  refine zM (vs := [_, _]) rfl rfl rfl rfl call80 e2z (fun w hs => o_v_add hs r14 r15 (by omega)) ?_
  intro v16 h1 hh1 r16
  change (rpT (rpQ (q + (k + 1) + 2))).Is h1 v16 (T3.mk ((sumT l i).x + (l.getD i (T3.mk (0 : Rat) 0 0)).x) ((sumT l i).y + (l.getD i (T3.mk (0 : Rat) 0 0)).y) ((sumT l i).z + (l.getD i (T3.mk (0 : Rat) 0 0)).z)) at r16
  replace r16 := Rp.Is.le r16 (Le.t (Le.q (l := k + q + 3) (by omega)))
  replace rb_9 := rb_9.mono hh1
  have rw_12 := (Le.t (Le.q (l := k + q + 3) (by omega))).R rb_9
  refine xO (A := [_]) (F := fun c_ => (rpT (rpQ (k + q + 3))).R h1 c_ (T3.mk ((sumT l i).x + (l.getD i (T3.mk (0 : Rat) 0 0)).x) ((sumT l i).y + (l.getD i (T3.mk (0 : Rat) 0 0)).y) ((sumT l i).z + (l.getD i (T3.mk (0 : Rat) 0 0)).z))) (zX sizeOf32 (Pc.here _) rfl rfl rfl rw_12 r16 rfl) ?_
  intro cs_13 rb_14
  refine zD (yY (zB (zA (gv (zS (q := 1) rfl rfl (by omega) (by omega)) rfl (mv rfl rfl (zD (gq_drop (A := []) ?_)))))))
  refine yW ((i + 1), (q + (k + 3)), cs_13, h1) ?_ ?_ e6 rfl rfl
  ·
   refine ⟨(hmma.trans hh1), ?_⟩
   refine ⟨(Rp.castR (Le.R (Le.t (Le.q (l := q + (k + 3)) (by omega))) rb_14) rfl), ?_⟩
   exact ⟨by omega, by rw [Nat.mul_succ]; omega⟩
  dsimp only
  omega
 have ei : i = l.length := by omega
 have hq2 := Nat.mul_le_mul_left (k + 3) (show i ≤ 32 by omega)
 refine xK (yE (yE (xJ (zB (zC (zA (mv rfl rfl ?_)))))))
 replace rl := rl.mono hmma
 refine gv (ov_len_sr underlying27 rfl rl) rfl ?_
 refine zM (vs := [vI (1), _]) rfl rfl rfl rfl call81 e2z (fun w hs => rat_make hs (by omega) (by omega) (by omega) (by omega)) ?_
 intro v21 h1 hh1 hr21
 obtain ⟨_, rfl, vn21, vd21, rfl, hn21, hd21⟩ := hr21
 have hlq21 := lq_make (n := (1 : Int)) (d := (↑(l).length : Int)) (by omega) (by omega) (by omega) (by omega)
 refine mv rfl rfl (gv (zN (vs := [_, _]) rfl rfl) rfl (gv (zN (vs := [_, _]) rfl rfl) rfl (zJ (yQ (ρ := (rpQ 2)) (X := (0 : Rat)) info30 rfl rfl (xS (by decide))) rfl rfl rfl ?_)))
 intro v6 q6 hq6
 obtain ⟨b6, cs6, rfl, rfl, rb6⟩ := hq6
 refine xO (A := []) (F := fun c_ => (rpQ 2).R h1 c_ (xR (1 : Int) (↑(l).length : Int))) (zX sizeOf30 (Pc.here _) rfl rfl rfl rb6 (is_q ⟨_, _, rfl, hn21, hd21⟩ (by omega)) rfl) ?_
 intro cs_15 rb_16
 refine asg rfl rfl (zD (zK (e' := [(2, _), (3, _), (6, _), (7, _)]) e4z (zB (zC (zC (zA (mv rfl rfl (gv (ov_neq_i (q := 0) rfl rfl) rfl (zD (zB ?_))))))))))
 refine zP rfl (fun hc25 => ?_) (fun hc25 => ?_)
 ·
  have hz : l.length = 0 := by grind
  refine zC (zA (xQ (F := fun v_ => (rpT (rpQ 1)).Is h1 v_ (T3.mk (0 : Rat) 0 0)) (ox_build_arr (ps' := []) underlying32 yI rfl rfl sizeOf30 trivial rfl (zr_t (xS (by decide))) fx_nil) mem0 rfl ?_))
  intro v26 r26
  replace rb2 := rb2.mono (hmma.trans hh1)
  refine xO (A := [_, _]) (F := fun c_ => (rpT (rpQ 2)).R h1 c_ (T3.mk (0 : Rat) 0 0)) (zX sizeOf32 (Pc.here _) rfl rfl rfl rb2 (r26.le (Le.t (Le.q (l := 2) (by decide)))) rfl) ?_
  intro cs_17 rb_18
  refine zD (zB (zR (yA (gq_exv (rv_o (t := 2) xF (.tail _ (.tail _ (.head _))) rfl rb_18) ?_))))
  intro w_19 hvw_19 rr_20
  refine xM (fun E S => yL rfl hvw_19 E S) ?_
  exact (Rp.Is.cast (Rp.Is.le rr_20 (Le.t (Le.q (l := 32 * k + 110) (by omega)))) (by exact (if_pos hz).symm))
 have hz : ¬ l.length = 0 := by grind
 refine zL (zB (zC (zA (xQ (F := fun v_ => (rpQ 2).Is h1 v_ (xR (1 : Int) (↑(l).length : Int))) (zE xA (Pc.here _) rfl rfl rb_16 rfl) (yD (.head _)) rfl ?_))))
 intro v27 r27
 replace rb_9 := rb_9.mono hh1
 refine xQ (F := fun v_ => (rpT (rpQ q)).Is h1 v_ (sumT l i)) (zE xF (Pc.here _) rfl rfl rb_9 rfl) (yD (.tail _ (.head _))) rfl ?_
 intro v28 r28
 refine zM (vs := [_, _]) rfl rfl rfl rfl call82 e2z (fun w hs => o_v_scale hs r27 r28 (by omega)) ?_
 intro v29 h2 hh2 r29
 change (rpT (rpQ (q + 2 + 2))).Is h2 v29 (T3.mk ((xR (1 : Int) (↑(l).length : Int)) * (sumT l i).x) ((xR (1 : Int) (↑(l).length : Int)) * (sumT l i).y) ((xR (1 : Int) (↑(l).length : Int)) * (sumT l i).z)) at r29
 replace r29 := Rp.Is.le r29 (Le.t (Le.q (l := q + 4) (by omega)))
 replace rb2 := rb2.mono ((hmma.trans hh1).trans hh2)
 have rw_21 := (Le.t (Le.q (l := q + 4) (by omega))).R rb2
 refine xO (A := [_, _]) (F := fun c_ => (rpT (rpQ (q + 4))).R h2 c_ (T3.mk ((xR (1 : Int) (↑(l).length : Int)) * (sumT l i).x) ((xR (1 : Int) (↑(l).length : Int)) * (sumT l i).y) ((xR (1 : Int) (↑(l).length : Int)) * (sumT l i).z))) (zX sizeOf32 (Pc.here _) rfl rfl rfl rw_21 r29 rfl) ?_
 intro cs_22 rb_23
 refine zD (zB (zR (gq_exv (rv_o (t := 2) xF (.tail _ (.tail _ (.head _))) rfl rb_23) ?_)))
 intro w_24 hvw_24 rr_25
 refine xM (fun E S => yL rfl hvw_24 E S) ?_
 exact (Rp.Is.cast (Rp.Is.le rr_25 (Le.t (Le.q (l := 32 * k + 110) (by omega)))) (by rw [ei]; exact (if_neg hz).symm))
theorem o_r4_samenumbers {w0 : World} {h0 : Mem}  (hs : MLe h0 (mem w0)) {m l n : Nat} {va : Value} {a : ((T3 Rat) × Rat)} (ra : (rpP (rpT (rpQ m)) (rpQ l)).Is h0 va a) {vb : Value} {b : ((T3 Rat) × Rat)} (rb : (rpP (rpT (rpQ n)) (rpQ m)).Is h0 vb b) (hcd0 : l ≤ 100000000) (hcd1 : m ≤ 100000000) (hcd2 : n ≤ 100000000)  :
    Calls Tryz.prog 42 #[va, vb] w0 (Ret w0 h0 (fun _ r => r = vB (a = b))) := by
 refine zO (n := 17) (e := [(0, va), (1, vb)]) (vs := [va, vb]) func42 rfl rfl (bL rfl) hs e2z (zC (zA (zJ (yU (ρ := (rpP (rpT (rpQ m)) (rpQ l))) rfl ra) rfl rfl rfl ?_)))
 intro v2 q2 hq2
 obtain ⟨b2, cs2, rfl, rfl, rb2⟩ := hq2
 refine zJ (yU (ρ := (rpP (rpT (rpQ n)) (rpQ m))) rfl rb) rfl rfl rfl ?_
 intro v3 q3 hq3
 obtain ⟨b3, cs3, rfl, rfl, rb3⟩ := hq3
 refine asg rfl rfl (zD (zB (zC (zA (gv ((zI underlying34 rfl sizeOf32 rfl).cv (show _ = vP b2 0 from congrArg (vP b2) (by rfl))) rfl (xQ (F := fun v_ => (rpT (rpQ m)).Is h0 v_ a.1) (zE xF (Pc.fst (Pc.here _)) rfl rfl rb2 rfl) (yD (.tail _ (.head _))) rfl ?_))))))
 intro v6 r6
 refine gv ((zI underlying34 rfl sizeOf32 rfl).cv (show _ = vP b3 0 from congrArg (vP b3) (by rfl))) rfl (xQ (F := fun v_ => (rpT (rpQ n)).Is h0 v_ b.1) (zE xF (Pc.fst (Pc.here _)) rfl rfl rb3 rfl) (yD (.head _)) rfl ?_)
 intro v8 r8
 refine zM (vs := [_, _]) rfl rfl rfl rfl call29 e2z (fun w hs => o_r4_same hs r6 r8 (by omega)) ?_
 intro v9 h1 hh1 r9
 obtain rfl : v9 = vB (a.1 = b.1) := r9
 refine gl_cut (ι := Mem) 7 (fun m_ => MLe h1 m_) (fun _ => [(16, vB ((a.1 = b.1) ∧ (a.2 = b.2)))]) (fun _ => [.var b3 34 cs3, .var b2 34 cs2]) (fun m_ => m_) ?_ ?_
 ·
  refine gl_cases (a.1 = b.1) (fun hg => ?_) (fun hg => ?_)
  ·
   refine gl_val (zH (v := .bool true) (congrArg some (vB_true hg))) rfl rfl rfl (yX rfl rfl rfl (gv ((zI underlying34 rfl sizeOf30 rfl).cv (show _ = vP b2 9 from congrArg (vP b2) (by rfl))) rfl (yX rfl rfl rfl ?_)))
   replace rb2 := rb2.mono hh1
   refine xQ (F := fun v_ => (rpQ l).Is h1 v_ a.2) (zE xA (Pc.snd (Pc.here _)) rfl rfl rb2 rfl) (yD (.tail _ (.head _))) rfl ?_
   intro v12 r12
   refine yX rfl rfl rfl (gv ((zI underlying34 rfl sizeOf30 rfl).cv (show _ = vP b3 9 from congrArg (vP b3) (by rfl))) rfl (yX rfl rfl rfl ?_))
   replace rb3 := rb3.mono hh1
   refine xQ (F := fun v_ => (rpQ m).Is h1 v_ b.2) (zE xA (Pc.snd (Pc.here _)) rfl rfl rb3 rfl) (yD (.head _)) rfl ?_
   intro v14 r14
   refine yX rfl rfl rfl ?_
   refine zM (vs := [_, _]) rfl rfl rfl rfl call62 e2z (fun w hs => o_rref_same hs r12 r14 (by omega)) ?_
   intro v15 h2 hh2 r15
   obtain rfl : v15 = vB (a.2 = b.2) := r15
   refine gv (xU rfl rfl) rfl (zD ?_)
   refine yR h2 hh2 ⟨?_, trivial⟩ rfl rfl
   exact congrArg some (vB_and_t hg)
  refine gl_val (zH (v := .bool false) (congrArg some (xD hg))) rfl rfl rfl (yM rfl rfl rfl rfl rfl rfl (yM rfl rfl rfl rfl rfl rfl (yM rfl rfl rfl rfl rfl rfl (yM rfl rfl rfl rfl rfl rfl (yM rfl rfl rfl rfl rfl rfl (gv (ov_pick_f rfl rfl) rfl (zD ?_)))))))
  refine yR h1 (MLe.refl _) ⟨?_, trivial⟩ rfl rfl
  exact congrArg some (vB_and_f hg)
 intro mg1_5 hmmg1_5
 show GL _ _ _ _ _ _ _ [(16, vB ((a.1 = b.1) ∧ (a.2 = b.2)))] [.var b3 34 cs3, .var b2 34 cs2] mg1_5
 refine asg rfl rfl (zD (zB (zR (yJ rfl rfl ?_))))
 exact vB_iff Prod.ext_iff.symm
end Go.Proofs.YtghhjjmjpeehdaaGreat
namespace Go.Proofs.YtghhjjmjpeehdaaGreat
open Bk Go Tryz
set_option linter.unusedVariables false
set_option linter.unusedSimpArgs false
set_option maxRecDepth 10000
theorem law26_convexhelpers {w0 : World} {h0 : Mem}  (hs : MLe h0 (mem w0)) {vl : Value} {xsl : List Int} (hl : Is h0 vl xsl) :
    Calls Tryz.prog 8 #[vl] w0 (Ret w0 h0 (fun _ r => r = .bool true)) := by
 have hlenl := hl.lt63
 refine zO (n := 100) (e := [(0, vl)]) (vs := [vl]) func8 rfl rfl (bL rfl) hs ⟨rfl, trivial⟩ (zC (zA (asg rfl rfl (zD (zB (zC (zC (zA (mv rfl rfl ?_)))))))))
 refine zM (vs := [_]) rfl rfl rfl rfl call9 ⟨rfl, trivial⟩ (fun w hs => made_light hs hl) ?_
 intro v17 h1 hh1 hr17
 subst hr17
 refine gv (ov_not rfl) rfl (zD (zB ?_))
 refine zP rfl (fun hc18 => ?_) (fun hc18 => ?_)
 ·
  refine zC (zA ?_)
  refine zM (vs := []) rfl rfl rfl rfl call10 trivial (fun w hs => law26_sane hs) ?_
  intro v19 h2 hh2 hr19
  subst hr19
  refine asg rfl rfl (zD (zB (zR (yA (yJ rfl rfl ?_)))))
  rfl
 refine zL (zB (zC (zA (mv rfl rfl ?_))))
 replace hl := hl.mono hh1
 refine gl_call_own (vs := [_]) rfl rfl rfl rfl call11 ⟨rfl, trivial⟩ (fun w hs => made_roll hs hl) ?_
 intro v21 h2 L21 hh2 hr21
 obtain ⟨b21, rfl, rfl⟩ := hr21
 refine asg rfl rfl (zD (zB (zC (zA (mv rfl rfl ?_)))))
 replace hl := hl.mono hh2
 refine xT (A := []) (vs := [_]) call12 ⟨rfl, trivial⟩ (fun X w hs => o_law_polyof hl (by first | omega | exact Nat.zero_le _) hs) rfl ?_
 intro v24 g24 q24 hg24 hr24
 obtain ⟨k24, u24_0, u24_1, p24, s24, rfl, hk24, hx24, rfl, ra24, rb24⟩ := hr24
 refine mv rfl rfl (gv (zN (vs := [_, _]) rfl rfl) rfl (gv (zN (vs := [_, _]) rfl rfl) rfl (zJ (yQ (ρ := (rpP (rpT (rpQ 1)) (rpQ 1))) (X := ((T3.mk (0 : Rat) 0 0), (0 : Rat))) info34 rfl rfl (zr_p (zr_t (xS (by decide))) (xS (by decide)))) rfl rfl rfl ?_)))
 intro v5 q5 hq5
 obtain ⟨b5, cs5, rfl, rfl, rb5⟩ := hq5
 refine asg rfl rfl ?_
 have rw_1 := (Le.p (Le.t (Le.q (l := 2) (by decide))) (Le.q (l := 2) (by decide))).R rb5
 refine xO (A := []) (F := fun c_ => (rpP (rpT (rpQ 2)) (rpQ 2)).R g24 c_ s24) (zX sizeOf34 (Pc.here _) rfl rfl rfl rw_1 rb24 rfl) ?_
 intro cs_2 rb_3
 refine zD (zK (e' := [(3, _), (5, _), (4, _)]) e3z (zB (zC (zA (mv rfl rfl ?_)))))
 replace hl := hl.mono hg24
 refine xT (A := [_]) (vs := [_]) call33 ⟨rfl, trivial⟩ (fun X w hs => o_dice_spot hl (by first | omega | exact Nat.zero_le _) hs) rfl ?_
 intro v28 g28 q28 hg28 hr28
 obtain ⟨k28, p28, rfl, hk28, hr28⟩ := hr28
 refine mv rfl rfl ?_
 replace hl := hl.mono hg28
 refine xT (A := [_]) (vs := [_]) call33 ⟨rfl, trivial⟩ (fun X w hs => o_dice_spot hl (by first | omega | exact Nat.zero_le _) hs) rfl ?_
 intro v30 g30 q30 hg30 hr30
 obtain ⟨k30, p30, rfl, hk30, hr30⟩ := hr30
 refine mv rfl rfl ?_
 replace hl := hl.mono hg30
 refine xT (A := [_]) (vs := [_]) call35 ⟨rfl, trivial⟩ (fun X w hs => o_dice_loose hl (by first | omega | exact Nat.zero_le _) hs) rfl ?_
 intro v32 g32 q32 hg32 hr32
 obtain ⟨k32, p32, rfl, hk32, hr32⟩ := hr32
 replace hr28 := hr28.mono (hg30.trans hg32)
 replace hr30 := hr30.mono hg32
 refine zJ (new_buildx (ρ := (rpT (rpQ 2))) (m := 3) (xs := [p28, p30, p32]) (ps' := [(0, _), (1, _), (2, _)]) underlying27 yI rfl rfl rfl (zr_t (xS (by decide))) e6 (yN rfl (Pc.arr (Pc.here _) (T3.mk (0 : Rat) 0 0) 0 (by decide)) hr28 (yN rfl (Pc.arr (Pc.here _) (T3.mk (0 : Rat) 0 0) 1 (by decide)) hr30 (yN rfl (Pc.arr (Pc.here _) (T3.mk (0 : Rat) 0 0) 2 (by decide)) hr32 fx_nil))) (show 3 * 9 ≤ 16777216 from by decide) p9N) rfl rfl rfl ?_
 intro v33 q33 hq33
 obtain ⟨cs33, rfl, rl33⟩ := hq33
 refine asg rfl rfl (zD (zB (zC (zA (mv rfl rfl ?_)))))
 replace hl := hl.mono hg32
 refine xT (A := [_, _]) (vs := [_]) call13 ⟨rfl, trivial⟩ (fun X w hs => o_dice_plane hl (by first | omega | exact Nat.zero_le _) hs) rfl ?_
 intro v35 g35 q35 hg35 hr35
 obtain ⟨k35, p35, rfl, hk35, hr35⟩ := hr35
 refine zJ (yQ (ρ := (rpP (rpT (rpQ 1)) (rpQ 1))) (X := ((T3.mk (0 : Rat) 0 0), (0 : Rat))) info34 rfl rfl (zr_p (zr_t (xS (by decide))) (xS (by decide)))) rfl rfl rfl ?_
 intro v7 q7 hq7
 obtain ⟨b7, cs7, rfl, rfl, rb7⟩ := hq7
 have rw_4 := (Le.p (Le.t (Le.q (l := 2) (by decide))) (Le.q (l := 2) (by decide))).R rb7
 refine xO (A := []) (F := fun c_ => (rpP (rpT (rpQ 2)) (rpQ 2)).R g35 c_ p35) (zX sizeOf34 (Pc.here _) rfl rfl rfl rw_4 hr35 rfl) ?_
 intro cs_5 rb_6
 refine zD (zK (e' := [(5, _), (4, _), (6, _), (7, _)]) e4z (zB (zC (zA (xQ (F := fun v_ => (rpP (rpT (rpQ 2)) (rpQ 2)).Is g35 v_ p35) (zE ty34 (Pc.here _) rfl rfl rb_6 rfl) (yD (.head _)) rfl ?_)))))
 intro v37 r37
 refine mv rfl rfl ?_
 replace rl33 := rl33.mono hg35
 refine gl_freezex (A := [_]) (ρ := (rpT (rpQ 2))) rl33 ?_
 intro h3 hh3 rs_7
 replace r37 := r37.mono hh3
 refine zM (vs := [_, _]) rfl rfl rfl rfl call36 e2z (fun w hs => o_cx_around hs r37 rs_7 (by decide) (by decide) (by decide)) ?_
 intro v39 h4 hh4 r39
 obtain ⟨v39_0, rfl, r39_0⟩ := r39
 change (rpS (rpT (rpQ (4 * 2 + 2 + 4 * 2 + 60)))).Is h4 v39_0 (aroZ p35 [p28, p30, p32]) at r39_0
 replace r39_0 := Rp.Is.le r39_0 (Le.s (Le.t (Le.q (l := 78) (by omega))))
 refine mv rfl rfl (gv (zN (vs := [_, _]) rfl rfl) rfl (gv (zN (vs := [_, _]) rfl rfl) rfl (asg rfl rfl (asg rfl rfl (zD (zB (zC (zA ?_))))))))
 replace rb_6 := rb_6.mono (hh3.trans hh4)
 refine xQ (F := fun v_ => (rpP (rpT (rpQ 2)) (rpQ 2)).Is h4 v_ p35) (zE ty34 (Pc.here _) rfl rfl rb_6 rfl) (yD (.head _)) rfl ?_
 intro v43 r43
 refine mv rfl rfl ?_
 replace rs_7 := rs_7.mono hh4
 refine zM (vs := [_, _]) rfl rfl rfl rfl call37 e2z (fun w hs => o_r6_around hs r43 rs_7 (by decide) (by decide) (by decide)) ?_
 intro v45 h5 hh5 r45
 obtain ⟨v45_0, rfl, r45_0⟩ := r45
 change (rpS (rpT (rpQ (3 * 2 + 2 + 4 * 2 + 45)))).Is h5 v45_0 (aroZ p35 [p28, p30, p32]) at r45_0
 replace r45_0 := Rp.Is.le r45_0 (Le.s (Le.t (Le.q (l := 61) (by omega))))
 refine mv rfl rfl (gv (zN (vs := [_, _]) rfl rfl) rfl (gv (zN (vs := [_, _]) rfl rfl) rfl (asg rfl rfl (asg rfl rfl (zD (zK (e' := [(5, _), (4, _), (7, _), (8, _), (9, _), (10, _), (11, _)]) e7 (zB (zC (zA ?_)))))))))
 replace rb_6 := rb_6.mono hh5
 refine xQ (F := fun v_ => (rpP (rpT (rpQ 2)) (rpQ 2)).Is h5 v_ p35) (zE ty34 (Pc.here _) rfl rfl rb_6 rfl) (yD (.head _)) rfl ?_
 intro v49 r49
 refine zM (vs := [_, _]) rfl rfl rfl rfl call36 e2z (fun w hs => o_cx_around hs r49 (is_nil (ρ := (rpT (rpQ 1))) _) (by decide) (by decide) (by decide)) ?_
 intro v50 h6 hh6 r50
 obtain ⟨v50_0, rfl, r50_0⟩ := r50
 change (rpS (rpT (rpQ (4 * 1 + 2 + 4 * 2 + 60)))).Is h6 v50_0 (aroZ p35 []) at r50_0
 replace r50_0 := Rp.Is.le r50_0 (Le.s (Le.t (Le.q (l := 74) (by omega))))
 refine mv rfl rfl (gv (zN (vs := [_, _]) rfl rfl) rfl (gv (zN (vs := [_, _]) rfl rfl) rfl (asg rfl rfl (asg rfl rfl (zD (zB (zC ?_)))))))
 refine yG 18 _ [(16, (14, 34, [.bool false, .slice none 0 0, .slice none 0 0, .bool false, .slice none 0 0, .slice none 0 0, .bool false, .slice none 0 0, .slice none 0 0, .bool false, .slice none 0 0, .slice none 0 0])), (17, (15, 34, [.bool false, .slice none 0 0, .slice none 0 0, .bool false, .slice none 0 0, .slice none 0 0, .bool false, .slice none 0 0, .slice none 0 0, .bool false, .slice none 0 0, .slice none 0 0]))] [(0, .q), (1, .q), (2, .q), (3, .q), (4, .q), (5, .q), (6, .q), (8, .q), (9, .q), (10, .q), (11, .q), (12, .q), (13, .q), (14, .q), (7, .c), (15, .c), (16, .a), (17, .a), (18, .t), (19, .t)] xG (AlOk.cons rfl rfl (zero_run info34 rfl rfl) (AlOk.cons rfl rfl (zero_run info34 rfl rfl) AlOk.nil)) (chk_of [0, 0, 2, 4, 0, 16, 32, 73, 0, 0, 512, 1024, 0, 4096, 8192, 18816, 0, 0, 229631, 524287] [1048575, 1048575, 1048573, 1048571, 1048575, 1048559, 1048543, 1048502, 1048575, 1048575, 1048063, 1047551, 1048575, 1044479, 1040383, 1029887, 1048575, 1048575, 982911, 884735] (by kernel_rfl)) (hae_cons rfl rfl (hae_cons rfl rfl hae_nil)) (fun r hr => hr) ?_
 replace rb_3 := rb_3.mono (((((((hg28.trans hg30).trans hg32).trans hg35).trans hh3).trans hh4).trans hh5).trans hh6)
 refine yO (F := fun v_ => (rpP (rpT (rpQ 2)) (rpQ 2)).Is h6 v_ s24) rfl (zE ty34 (Pc.here _) rfl rfl rb_3 rfl) (yD (.tail _ (.head _))) rfl ?_
 intro v53 r53
 refine w_q rfl (fun h' L' hh hR => zH rfl) rfl ?_
 replace ra24 := ra24.mono (((((((hg28.trans hg30).trans hg32).trans hg35).trans hh3).trans hh4).trans hh5).trans hh6)
 refine yO (F := fun v_ => AtP (rpT (rpQ 140000)) h6 v_ (p24.getD 0 (T3.mk (0 : Rat) 0 0))) rfl (ox_idx_s (q := 0) (T3.mk (0 : Rat) 0 0) 0 underlying27 xF rfl rfl ra24 rfl (by have := hx24.1.1; omega) p9N) mem0 rfl ?_
 intro v55 r55
 refine yO (F := fun v_ => (rpT (rpQ 140000)).Is h6 v_ (p24.getD 0 (T3.mk (0 : Rat) 0 0))) rfl (ox_load_at xF rfl r55) mem0 rfl ?_
 intro v56 r56
 refine w_q rfl (fun h' L' hh hR => zH rfl) rfl (yO (F := fun v_ => AtP (rpT (rpQ 140000)) h6 v_ (p24.getD 1 (T3.mk (0 : Rat) 0 0))) rfl (ox_idx_s (q := 1) (T3.mk (0 : Rat) 0 0) 1 underlying27 xF rfl rfl ra24 rfl (by have := hx24.1.1; omega) p9N) mem0 rfl ?_)
 intro v58 r58
 refine yO (F := fun v_ => (rpT (rpQ 140000)).Is h6 v_ (p24.getD 1 (T3.mk (0 : Rat) 0 0))) rfl (ox_load_at xF rfl r58) mem0 rfl ?_
 intro v59 r59
 refine yO (F := fun v_ => (rpP (rpT (rpQ 2)) (rpQ 2)).Is h6 v_ s24) rfl (zE ty34 (Pc.here _) rfl rfl rb_3 rfl) (yD (.tail _ (.head _))) rfl ?_
 intro v61 r61
 refine w_q rfl (fun h' L' hh hR => zH rfl) rfl (yO (F := fun v_ => AtP (rpT (rpQ 140000)) h6 v_ (p24.getD 0 (T3.mk (0 : Rat) 0 0))) rfl (ox_idx_s (q := 0) (T3.mk (0 : Rat) 0 0) 0 underlying27 xF rfl rfl ra24 rfl (by have := hx24.1.1; omega) p9N) mem0 rfl ?_)
 intro v63 r63
 refine yO (F := fun v_ => (rpT (rpQ 140000)).Is h6 v_ (p24.getD 0 (T3.mk (0 : Rat) 0 0))) rfl (ox_load_at xF rfl r63) mem0 rfl ?_
 intro v64 r64
 refine w_q rfl (fun h' L' hh hR => zH rfl) rfl (yO (F := fun v_ => AtP (rpT (rpQ 140000)) h6 v_ (p24.getD 1 (T3.mk (0 : Rat) 0 0))) rfl (ox_idx_s (q := 1) (T3.mk (0 : Rat) 0 0) 1 underlying27 xF rfl rfl ra24 rfl (by have := hx24.1.1; omega) p9N) mem0 rfl ?_)
 intro v66 r66
 refine yO (F := fun v_ => (rpT (rpQ 140000)).Is h6 v_ (p24.getD 1 (T3.mk (0 : Rat) 0 0))) rfl (ox_load_at xF rfl r66) mem0 rfl ?_
 intro v67 r67
 refine w_c rfl ?_
 refine zY (vs := [_, _, _]) call38 e3z (fun w hs => o_cx_upright hs r53 r56 r59 (by decide) (by decide) (by decide)) rfl ?_
 intro v60 h7 hh7 r60
 change (rpP (rpT (rpQ (4 * 140000 + 2 * 2 + 7))) (rpQ (15 * 140000 + 6 * 2 + 30))).Is h7 v60 (upr s24 (p24.getD 0 (T3.mk (0 : Rat) 0 0)) (p24.getD 1 (T3.mk (0 : Rat) 0 0))) at r60
 replace r60 := Rp.Is.le r60 (Le.p (Le.t (Le.q (l := 560011) (by omega))) (Le.q (l := 2100042) (by omega)))
 refine w_c rfl ?_
 replace r61 := r61.mono hh7
 replace r64 := r64.mono hh7
 replace r67 := r67.mono hh7
 refine zY (vs := [_, _, _]) call39 e3z (fun w hs => o_r6_upright hs r61 r64 r67 (by decide) (by decide) (by decide)) rfl ?_
 intro v68 h8 hh8 r68
 change (rpP (rpT (rpQ (4 * 140000 + 2 * 2 + 5))) (rpQ (15 * 140000 + 6 * 2 + 24))).Is h8 v68 (upr s24 (p24.getD 0 (T3.mk (0 : Rat) 0 0)) (p24.getD 1 (T3.mk (0 : Rat) 0 0))) at r68
 replace r68 := Rp.Is.le r68 (Le.p (Le.t (Le.q (l := 560009) (by omega))) (Le.q (l := 2100036) (by omega)))
 refine w_a rfl rfl (fun b14 => ?_)
 have rb14 : (rpP (rpT (rpQ 1)) (rpQ 1)).R h8 [.bool false, .slice none 0 0, .slice none 0 0, .bool false, .slice none 0 0, .slice none 0 0, .bool false, .slice none 0 0, .slice none 0 0, .bool false, .slice none 0 0, .slice none 0 0] ((T3.mk (0 : Rat) 0 0), (0 : Rat)) := (zr_p (zr_t (xS (by decide))) (xS (by decide)))
 refine w_a rfl rfl (fun b15 => ?_)
 have rb15 : (rpP (rpT (rpQ 1)) (rpQ 1)).R h8 [.bool false, .slice none 0 0, .slice none 0 0, .bool false, .slice none 0 0, .slice none 0 0, .bool false, .slice none 0 0, .slice none 0 0, .bool false, .slice none 0 0, .slice none 0 0] ((T3.mk (0 : Rat) 0 0), (0 : Rat)) := (zr_p (zr_t (xS (by decide))) (xS (by decide)))
 have rw_8 := (Le.p (Le.t (Le.q (l := 560011) (by decide))) (Le.q (l := 2100042) (by decide))).R rb14
 replace r60 := r60.mono hh8
 refine yV (A := [_]) (F := fun c_ => (rpP (rpT (rpQ 560011)) (rpQ 2100042)).R h8 c_ (upr s24 (p24.getD 0 (T3.mk (0 : Rat) 0 0)) (p24.getD 1 (T3.mk (0 : Rat) 0 0)))) rfl (zX sizeOf34 (Pc.here _) rfl rfl rfl rw_8 r60 rfl) ?_
 intro cs_9 rb_10
 have rw_11 := (Le.p (Le.t (Le.q (l := 560009) (by decide))) (Le.q (l := 2100036) (by decide))).R rb15
 refine yV (A := []) (F := fun c_ => (rpP (rpT (rpQ 560009)) (rpQ 2100036)).R h8 c_ (upr s24 (p24.getD 0 (T3.mk (0 : Rat) 0 0)) (p24.getD 1 (T3.mk (0 : Rat) 0 0)))) rfl (zX sizeOf34 (Pc.here _) rfl rfl rfl rw_11 r68 rfl) ?_
 intro cs_12 rb_13
 refine yZ (zK (e' := [(4, _), (8, _), (9, _), (10, _), (11, _), (13, _), (14, _), (15, _)]) e8 (zB (zC (zA (mv rfl rfl ?_)))))
 replace ra24 := ra24.mono (hh7.trans hh8)
 refine zM (vs := [_]) rfl rfl rfl rfl call40 ⟨rfl, trivial⟩ (fun w hs => o_cx_centre hs ra24 (by decide) (by first | omega | exact Nat.le_trans hx24.2 (by decide) | exact (by decide))) ?_
 intro v70 h9 hh9 r70
 change (rpT (rpQ (32 * 140000 + 110))).Is h9 v70 (cenZ p24) at r70
 replace r70 := Rp.Is.le r70 (Le.t (Le.q (l := 4480110) (by omega)))
 refine mv rfl rfl ?_
 replace ra24 := ra24.mono hh9
 refine zM (vs := [_]) rfl rfl rfl rfl call18 ⟨rfl, trivial⟩ (fun w hs => o_r6_centre hs ra24 (by decide) (by first | omega | exact Nat.le_trans hx24.2 (by decide) | exact (by decide))) ?_
 intro v72 h10 hh10 r72
 change (rpT (rpQ (32 * 140000 + 100))).Is h10 v72 (cenZ p24) at r72
 replace r72 := Rp.Is.le r72 (Le.t (Le.q (l := 4480100) (by omega)))
 replace r70 := r70.mono hh10
 refine zM (vs := [_, _]) rfl rfl rfl rfl call29 e2z (fun w hs => o_r4_same hs r70 r72 (by decide)) ?_
 intro v73 h11 hh11 r73
 obtain rfl : v73 = .bool true := by rw [show v73 = vB ((cenZ p24) = (cenZ p24)) from r73, vB_true (by exact rfl)]
 refine mv rfl rfl (yX rfl rfl rfl ?_)
 refine zM (vs := [_]) rfl rfl rfl rfl call40 ⟨rfl, trivial⟩ (fun w hs => o_cx_centre hs (is_nil (ρ := (rpT (rpQ 1))) _) (by decide) (by first | omega | exact Nat.le_trans hx24.2 (by decide) | exact (by decide))) ?_
 intro v75 h12 hh12 r75
 change (rpT (rpQ (32 * 1 + 110))).Is h12 v75 (cenZ []) at r75
 replace r75 := Rp.Is.le r75 (Le.t (Le.q (l := 142) (by omega)))
 refine yX rfl rfl rfl ?_
 refine zM (vs := [_]) rfl rfl rfl rfl call41 ⟨rfl, trivial⟩ (fun w hs => o_r4_zero hs r75 (by decide)) ?_
 intro v76 h13 hh13 r76
 obtain rfl : v76 = .bool true := by rw [show v76 = vB ((cenZ []) = (T3.mk (0 : Rat) 0 0)) from r76, vB_true (by exact if_pos rfl)]
 refine gv (xU rfl rfl) rfl (mv rfl rfl (yX rfl rfl rfl (mv rfl rfl (yX rfl rfl rfl (mv rfl rfl (yX rfl rfl rfl (gv (OpV.tr (by exact Iff.rfl) (ov_eql_b underlying4 rfl rfl)) rfl (gv (xU rfl rfl) rfl (mv rfl rfl (yX rfl rfl rfl (mv rfl rfl (yX rfl rfl rfl (mv rfl rfl ?_)))))))))))))
 refine yX rfl rfl rfl ?_
 replace r39_0 := r39_0.mono ((((((((hh5.trans hh6).trans hh7).trans hh8).trans hh9).trans hh10).trans hh11).trans hh12).trans hh13)
 replace r45_0 := r45_0.mono (((((((hh6.trans hh7).trans hh8).trans hh9).trans hh10).trans hh11).trans hh12).trans hh13)
 refine zM (vs := [_, _]) rfl rfl rfl rfl call16 e2z (fun w hs => o_r4_samelist hs r39_0 r45_0 (by decide)) ?_
 intro v86 h14 hh14 r86
 obtain rfl : v86 = .bool true := by rw [show v86 = vB ((aroZ p35 [p28, p30, p32]) = (aroZ p35 [p28, p30, p32])) from r86, vB_true (by exact rfl)]
 refine gv (xU rfl rfl) rfl (mv rfl rfl (yX rfl rfl rfl (mv rfl rfl (yX rfl rfl rfl (gv (OpV.tr (by exact fun e => e (.inl rfl)) (ov_not rfl)) rfl (gv (xU rfl rfl) rfl (mv rfl rfl (yX rfl rfl rfl ?_))))))))
 replace rb_10 := rb_10.mono (((((hh9.trans hh10).trans hh11).trans hh12).trans hh13).trans hh14)
 refine xQ (F := fun v_ => (rpP (rpT (rpQ 560011)) (rpQ 2100042)).Is h14 v_ (upr s24 (p24.getD 0 (T3.mk (0 : Rat) 0 0)) (p24.getD 1 (T3.mk (0 : Rat) 0 0)))) (zE ty34 (Pc.here _) rfl rfl rb_10 rfl) (yD (.tail _ (.head _))) rfl ?_
 intro v93 r93
 refine yX rfl rfl rfl ?_
 replace rb_13 := rb_13.mono (((((hh9.trans hh10).trans hh11).trans hh12).trans hh13).trans hh14)
 refine xQ (F := fun v_ => (rpP (rpT (rpQ 560009)) (rpQ 2100036)).Is h14 v_ (upr s24 (p24.getD 0 (T3.mk (0 : Rat) 0 0)) (p24.getD 1 (T3.mk (0 : Rat) 0 0)))) (zE ty34 (Pc.here _) rfl rfl rb_13 rfl) (yD (.head _)) rfl ?_
 intro v94 r94
 refine yX rfl rfl rfl ?_
 refine zM (vs := [_, _]) rfl rfl rfl rfl call42 e2z (fun w hs => o_r4_samenumbers hs (r93.le (Le.p (Le.t (Le.q (l := 2100036) (by decide))) (Le.refl _))) r94 (by decide) (by decide) (by decide)) ?_
 intro v95 h15 hh15 r95
 obtain rfl : v95 = .bool true := by rw [show v95 = vB ((upr s24 (p24.getD 0 (T3.mk (0 : Rat) 0 0)) (p24.getD 1 (T3.mk (0 : Rat) 0 0))) = (upr s24 (p24.getD 0 (T3.mk (0 : Rat) 0 0)) (p24.getD 1 (T3.mk (0 : Rat) 0 0)))) from r95, vB_true (by exact rfl)]
 refine gv (xU rfl rfl) rfl (mv rfl rfl (yX rfl rfl rfl ?_))
 refine zM (vs := []) rfl rfl rfl rfl call10 trivial (fun w hs => law26_sane hs) ?_
 intro v98 h16 hh16 hr98
 subst hr98
 refine gv (xU rfl rfl) rfl (asg rfl rfl (zD (zK (e' := [(2, _)]) ⟨rfl, trivial⟩ (zB (zR (yJ rfl rfl ?_))))))
 rfl
end Go.Proofs.YtghhjjmjpeehdaaGreat
