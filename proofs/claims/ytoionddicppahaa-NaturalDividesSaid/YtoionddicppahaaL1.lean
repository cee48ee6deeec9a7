/- Contracts of functions, walked by their text (law1). -/
import Derived.Test.YtoionddicppahaaW11
import Derived.Test.YtoionddicppahaaLaw
namespace Go.Proofs.Ytoionddicppahaa
open Bk Go
set_option linter.unusedVariables false
set_option linter.unusedSimpArgs false

theorem law_ring {w0 : World} {h0 : Mem}  (hs : MLe h0 (mem w0)) {va : Value} {xa : List Nat} (hva : Us .u32 h0 va xa) {vb : Value} {xb : List Nat} (hvb : Us .u32 h0 vb xb) {vc : Value} {xc : List Nat} (hvc : Us .u32 h0 vc xc) :
    Calls Try.prog 4 #[va, vb, vc] w0 (Ret w0 h0 (fun _ r => r = .bool true)) := by
  refine calls_begin (n := 86) (e := [(0, va), (1, vb), (2, vc)]) (vs := [va, vb, vc]) Try.func4 rfl rfl (Nat.le_of_ble_eq_true rfl) hs ⟨rfl, rfl, rfl, trivial⟩ ?_
  refine gc_seq ?_
  refine gc_region ?_  -- region 0 (line 90)
  refine gl_val (ov_assign rfl) rfl rfl rfl ?_
  refine gl_nil ?_
  refine gq_keep (e' := [(0, _), (1, _), (2, _)]) ⟨rfl, rfl, rfl, trivial⟩ ?_
  refine gq_then ?_
  refine gc_seq ?_
  refine gc_seq ?_
  refine gc_region ?_  -- region 1 (line 91)
  refine gl_val (ov_move rfl) rfl rfl rfl ?_
  refine gl_val (ov_move rfl) rfl rfl rfl ?_
  refine gl_call (vs := [_, _]) rfl rfl rfl rfl Try.call11 ⟨rfl, rfl, trivial⟩ (fun w hs => law_light hs hva hvb) ?_
  intro v12 h1 hh1 hr12
  replace hva := hva.mono hh1
  replace hvb := hvb.mono hh1
  replace hvc := hvc.mono hh1
  subst hr12
  refine gl_val (ov_not rfl) rfl rfl rfl ?_
  refine gl_cut (ι := Unit) 5 (fun _ => True) (fun _ => [(18, vB ((¬ (xa.length ≤ 40 ∧ xb.length ≤ 40)) ∨ ((40 : Int) < ↑xc.length))), (0, va), (1, vb), (2, vc)]) (fun _ => []) (fun _ => h1) ?_ ?_
  · skip
    refine gl_cases (¬ (xa.length ≤ 40 ∧ xb.length ≤ 40)) (fun hg => ?_) (fun hg => ?_)
    · skip
      refine gl_val (ov_move (v := .bool true) (congrArg some (vB_true hg))) rfl rfl rfl ?_
      refine gl_off rfl rfl rfl rfl rfl rfl ?_
      refine gl_off rfl rfl rfl rfl rfl rfl ?_
      refine gl_off rfl rfl rfl rfl rfl rfl ?_
      refine gl_val (ov_pick_t rfl rfl) rfl rfl rfl ?_
      refine gl_nil ?_
      refine gq_cut () trivial ⟨?_, rfl, rfl, rfl, trivial⟩ rfl rfl
      exact congrArg some (vB_or_t hg)
    · skip
      refine gl_val (ov_move (v := .bool false) (congrArg some (vB_false hg))) rfl rfl rfl ?_
      refine gl_on rfl rfl rfl ?_
      refine gl_val (ov_move rfl) rfl rfl rfl ?_
      refine gl_on rfl rfl rfl ?_
      refine gl_val (ov_len_us Try.underlying22 rfl hvc) rfl rfl rfl ?_
      refine gl_on rfl rfl rfl ?_
      refine gl_val (ov_gtr_i (q := 40) rfl rfl) rfl rfl rfl ?_
      refine gl_val (ov_pick_f rfl rfl) rfl rfl rfl ?_
      refine gl_nil ?_
      refine gq_cut () trivial ⟨?_, rfl, rfl, rfl, trivial⟩ rfl rfl
      exact congrArg some (vB_or_f hg)
  · skip
    intro _ _
    show GL _ _ _ _ _ _ _ [(18, vB ((¬ (xa.length ≤ 40 ∧ xb.length ≤ 40)) ∨ ((40 : Int) < ↑xc.length))), (0, va), (1, vb), (2, vc)] [] h1
    refine gl_nil ?_
    refine gq_then ?_
    refine gc_cond rfl (fun hc18 => ?_) (fun hc18 => ?_)
    · skip
      refine gc_keep (e' := []) trivial ?_
      refine gc_seq ?_
      refine gc_region ?_  -- region 2 (line 92)
      refine gl_call (vs := []) rfl rfl rfl rfl Try.call12 trivial (fun w hs => law_awake hs) ?_
      intro v19 h2 hh2 hr19
      replace hva := hva.mono hh2
      replace hvb := hvb.mono hh2
      replace hvc := hvc.mono hh2
      subst hr19
      refine gl_val (ov_assign rfl) rfl rfl rfl ?_
      refine gl_nil ?_
      refine gq_keep (e' := [(6, _)]) ⟨rfl, trivial⟩ ?_
      refine gq_then ?_
      refine gc_ret ?_
      refine gr_then ?_
      refine gq_body1 rfl rfl ?_
      rfl
    · skip
      have hlen : xa.length ≤ 40 ∧ xb.length ≤ 40 := Classical.byContradiction fun h => hc18 (.inl h)
      have hlenc : xc.length ≤ 40 := by have := fun h => hc18 (.inr h); omega
      refine gc_keep (e' := [(0, _), (1, _), (2, _)]) ⟨rfl, rfl, rfl, trivial⟩ ?_
      refine gc_skip ?_
      refine gq_then ?_
      refine gc_seq ?_
      refine gc_region ?_  -- region 3 (line 94)
      refine gl_val (ov_move rfl) rfl rfl rfl ?_
      refine gl_call (vs := [_]) rfl rfl rfl rfl Try.call13 ⟨rfl, trivial⟩ (fun w hs => made_mag hs hva (by omega)) ?_
      intro v21 h2 hh2 hr21
      replace hva := hva.mono hh2
      replace hvb := hvb.mono hh2
      replace hvc := hvc.mono hh2
      refine gl_val (ov_move rfl) rfl rfl rfl ?_
      refine gl_call (vs := [_]) rfl rfl rfl rfl Try.call13 ⟨rfl, trivial⟩ (fun w hs => made_mag hs hvb (by omega)) ?_
      intro v23 h3 hh3 hr23
      replace hva := hva.mono hh3
      replace hvb := hvb.mono hh3
      replace hvc := hvc.mono hh3
      replace hr21 := hr21.mono hh3
      refine gl_val (ov_move rfl) rfl rfl rfl ?_
      refine gl_call (vs := [_]) rfl rfl rfl rfl Try.call13 ⟨rfl, trivial⟩ (fun w hs => made_mag hs hvc (by omega)) ?_
      intro v25 h4 hh4 hr25
      replace hva := hva.mono hh4
      replace hvb := hvb.mono hh4
      replace hvc := hvc.mono hh4
      replace hr21 := hr21.mono hh4
      replace hr23 := hr23.mono hh4
      refine gl_val (ov_assign rfl) rfl rfl rfl ?_
      refine gl_val (ov_assign rfl) rfl rfl rfl ?_
      refine gl_val (ov_assign rfl) rfl rfl rfl ?_
      have hlma := limbs_len_le hva.lt
      have hlmb := limbs_len_le hvb.lt
      have hlmc := limbs_len_le hvc.lt
      generalize val xa = A at *
      generalize val xb = B at *
      generalize val xc = C at *
      refine gl_nil ?_
      refine gq_keep (e' := [(7, _), (8, _), (9, _)]) ⟨rfl, rfl, rfl, trivial⟩ ?_
      refine gq_then ?_
      refine gc_seq ?_
      refine gc_region ?_  -- region 4 (line 95)
      refine gl_val (ov_move rfl) rfl rfl rfl ?_
      refine gl_val (ov_move rfl) rfl rfl rfl ?_
      refine gl_call (vs := [_, _]) rfl rfl rfl rfl Try.call23 ⟨rfl, rfl, trivial⟩ (fun w hs => nat_add hs hr21 hr23 (by omega) (by omega)) ?_
      intro v28 h5 hh5 hr28
      replace hva := hva.mono hh5
      replace hvb := hvb.mono hh5
      replace hvc := hvc.mono hh5
      replace hr21 := hr21.mono hh5
      replace hr23 := hr23.mono hh5
      replace hr25 := hr25.mono hh5
      simp only [val_limbs] at hr28
      have hl28 := us_len_add hr28
      refine gl_val (ov_move rfl) rfl rfl rfl ?_
      refine gl_val (ov_move rfl) rfl rfl rfl ?_
      refine gl_call (vs := [_, _]) rfl rfl rfl rfl Try.call23 ⟨rfl, rfl, trivial⟩ (fun w hs => nat_add hs hr23 hr21 (by omega) (by omega)) ?_
      intro v31 h6 hh6 hr31
      replace hva := hva.mono hh6
      replace hvb := hvb.mono hh6
      replace hvc := hvc.mono hh6
      replace hr21 := hr21.mono hh6
      replace hr23 := hr23.mono hh6
      replace hr25 := hr25.mono hh6
      replace hr28 := hr28.mono hh6
      simp only [val_limbs] at hr31
      have hl31 := us_len_add hr31
      refine gl_call (vs := [_, _]) rfl rfl rfl rfl Try.call20 ⟨rfl, rfl, trivial⟩ (fun w hs => law_same hs hr28 hr31) ?_
      intro v32 h7 hh7 hr32
      replace hva := hva.mono hh7
      replace hvb := hvb.mono hh7
      replace hvc := hvc.mono hh7
      replace hr21 := hr21.mono hh7
      replace hr23 := hr23.mono hh7
      replace hr25 := hr25.mono hh7
      replace hr28 := hr28.mono hh7
      replace hr31 := hr31.mono hh7
      rw [vB_true (by rw [Nat.add_comm])] at hr32
      subst hr32
      refine gl_val (ov_move rfl) rfl rfl rfl ?_
      refine gl_on rfl rfl rfl ?_
      refine gl_val (ov_move rfl) rfl rfl rfl ?_
      refine gl_on rfl rfl rfl ?_
      refine gl_val (ov_move rfl) rfl rfl rfl ?_
      refine gl_on rfl rfl rfl ?_
      refine gl_call (vs := [_, _]) rfl rfl rfl rfl Try.call24 ⟨rfl, rfl, trivial⟩ (fun w hs => nat_mul hs hr21 hr23 (by omega) (by omega)) ?_
      intro v36 h8 hh8 hr36
      replace hva := hva.mono hh8
      replace hvb := hvb.mono hh8
      replace hvc := hvc.mono hh8
      replace hr21 := hr21.mono hh8
      replace hr23 := hr23.mono hh8
      replace hr25 := hr25.mono hh8
      replace hr28 := hr28.mono hh8
      replace hr31 := hr31.mono hh8
      simp only [val_limbs] at hr36
      have hl36 := us_len_mul hr36
      refine gl_on rfl rfl rfl ?_
      refine gl_val (ov_move rfl) rfl rfl rfl ?_
      refine gl_on rfl rfl rfl ?_
      refine gl_val (ov_move rfl) rfl rfl rfl ?_
      refine gl_on rfl rfl rfl ?_
      refine gl_call (vs := [_, _]) rfl rfl rfl rfl Try.call24 ⟨rfl, rfl, trivial⟩ (fun w hs => nat_mul hs hr23 hr21 (by omega) (by omega)) ?_
      intro v39 h9 hh9 hr39
      replace hva := hva.mono hh9
      replace hvb := hvb.mono hh9
      replace hvc := hvc.mono hh9
      replace hr21 := hr21.mono hh9
      replace hr23 := hr23.mono hh9
      replace hr25 := hr25.mono hh9
      replace hr28 := hr28.mono hh9
      replace hr31 := hr31.mono hh9
      replace hr36 := hr36.mono hh9
      simp only [val_limbs] at hr39
      have hl39 := us_len_mul hr39
      refine gl_on rfl rfl rfl ?_
      refine gl_call (vs := [_, _]) rfl rfl rfl rfl Try.call20 ⟨rfl, rfl, trivial⟩ (fun w hs => law_same hs hr36 hr39) ?_
      intro v40 h10 hh10 hr40
      replace hva := hva.mono hh10
      replace hvb := hvb.mono hh10
      replace hvc := hvc.mono hh10
      replace hr21 := hr21.mono hh10
      replace hr23 := hr23.mono hh10
      replace hr25 := hr25.mono hh10
      replace hr28 := hr28.mono hh10
      replace hr31 := hr31.mono hh10
      replace hr36 := hr36.mono hh10
      replace hr39 := hr39.mono hh10
      rw [vB_true (by rw [Nat.mul_comm])] at hr40
      subst hr40
      refine gl_val (ov_pick_t rfl rfl) rfl rfl rfl ?_
      refine gl_val (ov_move rfl) rfl rfl rfl ?_
      refine gl_on rfl rfl rfl ?_
      refine gl_val (ov_move rfl) rfl rfl rfl ?_
      refine gl_on rfl rfl rfl ?_
      refine gl_val (ov_move rfl) rfl rfl rfl ?_
      refine gl_on rfl rfl rfl ?_
      refine gl_call (vs := [_, _]) rfl rfl rfl rfl Try.call23 ⟨rfl, rfl, trivial⟩ (fun w hs => nat_add hs hr21 hr23 (by omega) (by omega)) ?_
      intro v45 h11 hh11 hr45
      replace hva := hva.mono hh11
      replace hvb := hvb.mono hh11
      replace hvc := hvc.mono hh11
      replace hr21 := hr21.mono hh11
      replace hr23 := hr23.mono hh11
      replace hr25 := hr25.mono hh11
      replace hr28 := hr28.mono hh11
      replace hr31 := hr31.mono hh11
      replace hr36 := hr36.mono hh11
      replace hr39 := hr39.mono hh11
      simp only [val_limbs] at hr45
      have hl45 := us_len_add hr45
      refine gl_on rfl rfl rfl ?_
      refine gl_val (ov_move rfl) rfl rfl rfl ?_
      refine gl_on rfl rfl rfl ?_
      refine gl_call (vs := [_, _]) rfl rfl rfl rfl Try.call23 ⟨rfl, rfl, trivial⟩ (fun w hs => nat_add hs hr45 hr25 (by omega) (by omega)) ?_
      intro v47 h12 hh12 hr47
      replace hva := hva.mono hh12
      replace hvb := hvb.mono hh12
      replace hvc := hvc.mono hh12
      replace hr21 := hr21.mono hh12
      replace hr23 := hr23.mono hh12
      replace hr25 := hr25.mono hh12
      replace hr28 := hr28.mono hh12
      replace hr31 := hr31.mono hh12
      replace hr36 := hr36.mono hh12
      replace hr39 := hr39.mono hh12
      replace hr45 := hr45.mono hh12
      simp only [val_limbs] at hr47
      have hl47 := us_len_add hr47
      refine gl_on rfl rfl rfl ?_
      refine gl_val (ov_move rfl) rfl rfl rfl ?_
      refine gl_on rfl rfl rfl ?_
      refine gl_val (ov_move rfl) rfl rfl rfl ?_
      refine gl_on rfl rfl rfl ?_
      refine gl_val (ov_move rfl) rfl rfl rfl ?_
      refine gl_on rfl rfl rfl ?_
      refine gl_call (vs := [_, _]) rfl rfl rfl rfl Try.call23 ⟨rfl, rfl, trivial⟩ (fun w hs => nat_add hs hr23 hr25 (by omega) (by omega)) ?_
      intro v51 h13 hh13 hr51
      replace hva := hva.mono hh13
      replace hvb := hvb.mono hh13
      replace hvc := hvc.mono hh13
      replace hr21 := hr21.mono hh13
      replace hr23 := hr23.mono hh13
      replace hr25 := hr25.mono hh13
      replace hr28 := hr28.mono hh13
      replace hr31 := hr31.mono hh13
      replace hr36 := hr36.mono hh13
      replace hr39 := hr39.mono hh13
      replace hr45 := hr45.mono hh13
      replace hr47 := hr47.mono hh13
      simp only [val_limbs] at hr51
      have hl51 := us_len_add hr51
      refine gl_on rfl rfl rfl ?_
      refine gl_call (vs := [_, _]) rfl rfl rfl rfl Try.call23 ⟨rfl, rfl, trivial⟩ (fun w hs => nat_add hs hr21 hr51 (by omega) (by omega)) ?_
      intro v52 h14 hh14 hr52
      replace hva := hva.mono hh14
      replace hvb := hvb.mono hh14
      replace hvc := hvc.mono hh14
      replace hr21 := hr21.mono hh14
      replace hr23 := hr23.mono hh14
      replace hr25 := hr25.mono hh14
      replace hr28 := hr28.mono hh14
      replace hr31 := hr31.mono hh14
      replace hr36 := hr36.mono hh14
      replace hr39 := hr39.mono hh14
      replace hr45 := hr45.mono hh14
      replace hr47 := hr47.mono hh14
      replace hr51 := hr51.mono hh14
      simp only [val_limbs] at hr52
      have hl52 := us_len_add hr52
      refine gl_on rfl rfl rfl ?_
      refine gl_call (vs := [_, _]) rfl rfl rfl rfl Try.call20 ⟨rfl, rfl, trivial⟩ (fun w hs => law_same hs hr47 hr52) ?_
      intro v53 h15 hh15 hr53
      replace hva := hva.mono hh15
      replace hvb := hvb.mono hh15
      replace hvc := hvc.mono hh15
      replace hr21 := hr21.mono hh15
      replace hr23 := hr23.mono hh15
      replace hr25 := hr25.mono hh15
      replace hr28 := hr28.mono hh15
      replace hr31 := hr31.mono hh15
      replace hr36 := hr36.mono hh15
      replace hr39 := hr39.mono hh15
      replace hr45 := hr45.mono hh15
      replace hr47 := hr47.mono hh15
      replace hr51 := hr51.mono hh15
      replace hr52 := hr52.mono hh15
      rw [vB_true (by rw [Nat.add_assoc])] at hr53
      subst hr53
      refine gl_val (ov_pick_t rfl rfl) rfl rfl rfl ?_
      refine gl_val (ov_move rfl) rfl rfl rfl ?_
      refine gl_on rfl rfl rfl ?_
      refine gl_val (ov_move rfl) rfl rfl rfl ?_
      refine gl_on rfl rfl rfl ?_
      refine gl_val (ov_move rfl) rfl rfl rfl ?_
      refine gl_on rfl rfl rfl ?_
      refine gl_call (vs := [_, _]) rfl rfl rfl rfl Try.call24 ⟨rfl, rfl, trivial⟩ (fun w hs => nat_mul hs hr21 hr23 (by omega) (by omega)) ?_
      intro v58 h16 hh16 hr58
      replace hva := hva.mono hh16
      replace hvb := hvb.mono hh16
      replace hvc := hvc.mono hh16
      replace hr21 := hr21.mono hh16
      replace hr23 := hr23.mono hh16
      replace hr25 := hr25.mono hh16
      replace hr28 := hr28.mono hh16
      replace hr31 := hr31.mono hh16
      replace hr36 := hr36.mono hh16
      replace hr39 := hr39.mono hh16
      replace hr45 := hr45.mono hh16
      replace hr47 := hr47.mono hh16
      replace hr51 := hr51.mono hh16
      replace hr52 := hr52.mono hh16
      simp only [val_limbs] at hr58
      have hl58 := us_len_mul hr58
      refine gl_on rfl rfl rfl ?_
      refine gl_val (ov_move rfl) rfl rfl rfl ?_
      refine gl_on rfl rfl rfl ?_
      refine gl_call (vs := [_, _]) rfl rfl rfl rfl Try.call24 ⟨rfl, rfl, trivial⟩ (fun w hs => nat_mul hs hr58 hr25 (by omega) (by omega)) ?_
      intro v60 h17 hh17 hr60
      replace hva := hva.mono hh17
      replace hvb := hvb.mono hh17
      replace hvc := hvc.mono hh17
      replace hr21 := hr21.mono hh17
      replace hr23 := hr23.mono hh17
      replace hr25 := hr25.mono hh17
      replace hr28 := hr28.mono hh17
      replace hr31 := hr31.mono hh17
      replace hr36 := hr36.mono hh17
      replace hr39 := hr39.mono hh17
      replace hr45 := hr45.mono hh17
      replace hr47 := hr47.mono hh17
      replace hr51 := hr51.mono hh17
      replace hr52 := hr52.mono hh17
      replace hr58 := hr58.mono hh17
      simp only [val_limbs] at hr60
      have hl60 := us_len_mul hr60
      refine gl_on rfl rfl rfl ?_
      refine gl_val (ov_move rfl) rfl rfl rfl ?_
      refine gl_on rfl rfl rfl ?_
      refine gl_val (ov_move rfl) rfl rfl rfl ?_
      refine gl_on rfl rfl rfl ?_
      refine gl_val (ov_move rfl) rfl rfl rfl ?_
      refine gl_on rfl rfl rfl ?_
      refine gl_call (vs := [_, _]) rfl rfl rfl rfl Try.call24 ⟨rfl, rfl, trivial⟩ (fun w hs => nat_mul hs hr23 hr25 (by omega) (by omega)) ?_
      intro v64 h18 hh18 hr64
      replace hva := hva.mono hh18
      replace hvb := hvb.mono hh18
      replace hvc := hvc.mono hh18
      replace hr21 := hr21.mono hh18
      replace hr23 := hr23.mono hh18
      replace hr25 := hr25.mono hh18
      replace hr28 := hr28.mono hh18
      replace hr31 := hr31.mono hh18
      replace hr36 := hr36.mono hh18
      replace hr39 := hr39.mono hh18
      replace hr45 := hr45.mono hh18
      replace hr47 := hr47.mono hh18
      replace hr51 := hr51.mono hh18
      replace hr52 := hr52.mono hh18
      replace hr58 := hr58.mono hh18
      replace hr60 := hr60.mono hh18
      simp only [val_limbs] at hr64
      have hl64 := us_len_mul hr64
      refine gl_on rfl rfl rfl ?_
      refine gl_call (vs := [_, _]) rfl rfl rfl rfl Try.call24 ⟨rfl, rfl, trivial⟩ (fun w hs => nat_mul hs hr21 hr64 (by omega) (by omega)) ?_
      intro v65 h19 hh19 hr65
      replace hva := hva.mono hh19
      replace hvb := hvb.mono hh19
      replace hvc := hvc.mono hh19
      replace hr21 := hr21.mono hh19
      replace hr23 := hr23.mono hh19
      replace hr25 := hr25.mono hh19
      replace hr28 := hr28.mono hh19
      replace hr31 := hr31.mono hh19
      replace hr36 := hr36.mono hh19
      replace hr39 := hr39.mono hh19
      replace hr45 := hr45.mono hh19
      replace hr47 := hr47.mono hh19
      replace hr51 := hr51.mono hh19
      replace hr52 := hr52.mono hh19
      replace hr58 := hr58.mono hh19
      replace hr60 := hr60.mono hh19
      replace hr64 := hr64.mono hh19
      simp only [val_limbs] at hr65
      have hl65 := us_len_mul hr65
      refine gl_on rfl rfl rfl ?_
      refine gl_call (vs := [_, _]) rfl rfl rfl rfl Try.call20 ⟨rfl, rfl, trivial⟩ (fun w hs => law_same hs hr60 hr65) ?_
      intro v66 h20 hh20 hr66
      replace hva := hva.mono hh20
      replace hvb := hvb.mono hh20
      replace hvc := hvc.mono hh20
      replace hr21 := hr21.mono hh20
      replace hr23 := hr23.mono hh20
      replace hr25 := hr25.mono hh20
      replace hr28 := hr28.mono hh20
      replace hr31 := hr31.mono hh20
      replace hr36 := hr36.mono hh20
      replace hr39 := hr39.mono hh20
      replace hr45 := hr45.mono hh20
      replace hr47 := hr47.mono hh20
      replace hr51 := hr51.mono hh20
      replace hr52 := hr52.mono hh20
      replace hr58 := hr58.mono hh20
      replace hr60 := hr60.mono hh20
      replace hr64 := hr64.mono hh20
      replace hr65 := hr65.mono hh20
      rw [vB_true (by rw [Nat.mul_assoc])] at hr66
      subst hr66
      refine gl_val (ov_pick_t rfl rfl) rfl rfl rfl ?_
      refine gl_val (ov_move rfl) rfl rfl rfl ?_
      refine gl_on rfl rfl rfl ?_
      refine gl_val (ov_move rfl) rfl rfl rfl ?_
      refine gl_on rfl rfl rfl ?_
      refine gl_val (ov_move rfl) rfl rfl rfl ?_
      refine gl_on rfl rfl rfl ?_
      refine gl_val (ov_move rfl) rfl rfl rfl ?_
      refine gl_on rfl rfl rfl ?_
      refine gl_call (vs := [_, _]) rfl rfl rfl rfl Try.call23 ⟨rfl, rfl, trivial⟩ (fun w hs => nat_add hs hr23 hr25 (by omega) (by omega)) ?_
      intro v72 h21 hh21 hr72
      replace hva := hva.mono hh21
      replace hvb := hvb.mono hh21
      replace hvc := hvc.mono hh21
      replace hr21 := hr21.mono hh21
      replace hr23 := hr23.mono hh21
      replace hr25 := hr25.mono hh21
      replace hr28 := hr28.mono hh21
      replace hr31 := hr31.mono hh21
      replace hr36 := hr36.mono hh21
      replace hr39 := hr39.mono hh21
      replace hr45 := hr45.mono hh21
      replace hr47 := hr47.mono hh21
      replace hr51 := hr51.mono hh21
      replace hr52 := hr52.mono hh21
      replace hr58 := hr58.mono hh21
      replace hr60 := hr60.mono hh21
      replace hr64 := hr64.mono hh21
      replace hr65 := hr65.mono hh21
      simp only [val_limbs] at hr72
      have hl72 := us_len_add hr72
      refine gl_on rfl rfl rfl ?_
      refine gl_call (vs := [_, _]) rfl rfl rfl rfl Try.call24 ⟨rfl, rfl, trivial⟩ (fun w hs => nat_mul hs hr21 hr72 (by omega) (by omega)) ?_
      intro v73 h22 hh22 hr73
      replace hva := hva.mono hh22
      replace hvb := hvb.mono hh22
      replace hvc := hvc.mono hh22
      replace hr21 := hr21.mono hh22
      replace hr23 := hr23.mono hh22
      replace hr25 := hr25.mono hh22
      replace hr28 := hr28.mono hh22
      replace hr31 := hr31.mono hh22
      replace hr36 := hr36.mono hh22
      replace hr39 := hr39.mono hh22
      replace hr45 := hr45.mono hh22
      replace hr47 := hr47.mono hh22
      replace hr51 := hr51.mono hh22
      replace hr52 := hr52.mono hh22
      replace hr58 := hr58.mono hh22
      replace hr60 := hr60.mono hh22
      replace hr64 := hr64.mono hh22
      replace hr65 := hr65.mono hh22
      replace hr72 := hr72.mono hh22
      simp only [val_limbs] at hr73
      have hl73 := us_len_mul hr73
      refine gl_on rfl rfl rfl ?_
      refine gl_val (ov_move rfl) rfl rfl rfl ?_
      refine gl_on rfl rfl rfl ?_
      refine gl_val (ov_move rfl) rfl rfl rfl ?_
      refine gl_on rfl rfl rfl ?_
      refine gl_call (vs := [_, _]) rfl rfl rfl rfl Try.call24 ⟨rfl, rfl, trivial⟩ (fun w hs => nat_mul hs hr21 hr23 (by omega) (by omega)) ?_
      intro v76 h23 hh23 hr76
      replace hva := hva.mono hh23
      replace hvb := hvb.mono hh23
      replace hvc := hvc.mono hh23
      replace hr21 := hr21.mono hh23
      replace hr23 := hr23.mono hh23
      replace hr25 := hr25.mono hh23
      replace hr28 := hr28.mono hh23
      replace hr31 := hr31.mono hh23
      replace hr36 := hr36.mono hh23
      replace hr39 := hr39.mono hh23
      replace hr45 := hr45.mono hh23
      replace hr47 := hr47.mono hh23
      replace hr51 := hr51.mono hh23
      replace hr52 := hr52.mono hh23
      replace hr58 := hr58.mono hh23
      replace hr60 := hr60.mono hh23
      replace hr64 := hr64.mono hh23
      replace hr65 := hr65.mono hh23
      replace hr72 := hr72.mono hh23
      replace hr73 := hr73.mono hh23
      simp only [val_limbs] at hr76
      have hl76 := us_len_mul hr76
      refine gl_on rfl rfl rfl ?_
      refine gl_val (ov_move rfl) rfl rfl rfl ?_
      refine gl_on rfl rfl rfl ?_
      refine gl_val (ov_move rfl) rfl rfl rfl ?_
      refine gl_on rfl rfl rfl ?_
      refine gl_call (vs := [_, _]) rfl rfl rfl rfl Try.call24 ⟨rfl, rfl, trivial⟩ (fun w hs => nat_mul hs hr21 hr25 (by omega) (by omega)) ?_
      intro v79 h24 hh24 hr79
      replace hva := hva.mono hh24
      replace hvb := hvb.mono hh24
      replace hvc := hvc.mono hh24
      replace hr21 := hr21.mono hh24
      replace hr23 := hr23.mono hh24
      replace hr25 := hr25.mono hh24
      replace hr28 := hr28.mono hh24
      replace hr31 := hr31.mono hh24
      replace hr36 := hr36.mono hh24
      replace hr39 := hr39.mono hh24
      replace hr45 := hr45.mono hh24
      replace hr47 := hr47.mono hh24
      replace hr51 := hr51.mono hh24
      replace hr52 := hr52.mono hh24
      replace hr58 := hr58.mono hh24
      replace hr60 := hr60.mono hh24
      replace hr64 := hr64.mono hh24
      replace hr65 := hr65.mono hh24
      replace hr72 := hr72.mono hh24
      replace hr73 := hr73.mono hh24
      replace hr76 := hr76.mono hh24
      simp only [val_limbs] at hr79
      have hl79 := us_len_mul hr79
      refine gl_on rfl rfl rfl ?_
      refine gl_call (vs := [_, _]) rfl rfl rfl rfl Try.call23 ⟨rfl, rfl, trivial⟩ (fun w hs => nat_add hs hr76 hr79 (by omega) (by omega)) ?_
      intro v80 h25 hh25 hr80
      replace hva := hva.mono hh25
      replace hvb := hvb.mono hh25
      replace hvc := hvc.mono hh25
      replace hr21 := hr21.mono hh25
      replace hr23 := hr23.mono hh25
      replace hr25 := hr25.mono hh25
      replace hr28 := hr28.mono hh25
      replace hr31 := hr31.mono hh25
      replace hr36 := hr36.mono hh25
      replace hr39 := hr39.mono hh25
      replace hr45 := hr45.mono hh25
      replace hr47 := hr47.mono hh25
      replace hr51 := hr51.mono hh25
      replace hr52 := hr52.mono hh25
      replace hr58 := hr58.mono hh25
      replace hr60 := hr60.mono hh25
      replace hr64 := hr64.mono hh25
      replace hr65 := hr65.mono hh25
      replace hr72 := hr72.mono hh25
      replace hr73 := hr73.mono hh25
      replace hr76 := hr76.mono hh25
      replace hr79 := hr79.mono hh25
      simp only [val_limbs] at hr80
      have hl80 := us_len_add hr80
      refine gl_on rfl rfl rfl ?_
      refine gl_call (vs := [_, _]) rfl rfl rfl rfl Try.call20 ⟨rfl, rfl, trivial⟩ (fun w hs => law_same hs hr73 hr80) ?_
      intro v81 h26 hh26 hr81
      replace hva := hva.mono hh26
      replace hvb := hvb.mono hh26
      replace hvc := hvc.mono hh26
      replace hr21 := hr21.mono hh26
      replace hr23 := hr23.mono hh26
      replace hr25 := hr25.mono hh26
      replace hr28 := hr28.mono hh26
      replace hr31 := hr31.mono hh26
      replace hr36 := hr36.mono hh26
      replace hr39 := hr39.mono hh26
      replace hr45 := hr45.mono hh26
      replace hr47 := hr47.mono hh26
      replace hr51 := hr51.mono hh26
      replace hr52 := hr52.mono hh26
      replace hr58 := hr58.mono hh26
      replace hr60 := hr60.mono hh26
      replace hr64 := hr64.mono hh26
      replace hr65 := hr65.mono hh26
      replace hr72 := hr72.mono hh26
      replace hr73 := hr73.mono hh26
      replace hr76 := hr76.mono hh26
      replace hr79 := hr79.mono hh26
      replace hr80 := hr80.mono hh26
      rw [vB_true (by rw [Nat.mul_add])] at hr81
      subst hr81
      refine gl_val (ov_pick_t rfl rfl) rfl rfl rfl ?_
      refine gl_val (ov_move rfl) rfl rfl rfl ?_
      refine gl_on rfl rfl rfl ?_
      refine gl_call (vs := []) rfl rfl rfl rfl Try.call12 trivial (fun w hs => law_awake hs) ?_
      intro v84 h27 hh27 hr84
      replace hva := hva.mono hh27
      replace hvb := hvb.mono hh27
      replace hvc := hvc.mono hh27
      replace hr21 := hr21.mono hh27
      replace hr23 := hr23.mono hh27
      replace hr25 := hr25.mono hh27
      replace hr28 := hr28.mono hh27
      replace hr31 := hr31.mono hh27
      replace hr36 := hr36.mono hh27
      replace hr39 := hr39.mono hh27
      replace hr45 := hr45.mono hh27
      replace hr47 := hr47.mono hh27
      replace hr51 := hr51.mono hh27
      replace hr52 := hr52.mono hh27
      replace hr58 := hr58.mono hh27
      replace hr60 := hr60.mono hh27
      replace hr64 := hr64.mono hh27
      replace hr65 := hr65.mono hh27
      replace hr72 := hr72.mono hh27
      replace hr73 := hr73.mono hh27
      replace hr76 := hr76.mono hh27
      replace hr79 := hr79.mono hh27
      replace hr80 := hr80.mono hh27
      subst hr84
      refine gl_val (ov_pick_t rfl rfl) rfl rfl rfl ?_
      refine gl_val (ov_assign rfl) rfl rfl rfl ?_
      refine gl_nil ?_
      refine gq_keep (e' := [(6, _)]) ⟨rfl, trivial⟩ ?_
      refine gq_then ?_
      refine gc_ret ?_
      refine gq_body1 rfl rfl ?_
      rfl

theorem law_reads {w0 : World} {h0 : Mem}  (hs : MLe h0 (mem w0)) {va : Value} {xa : List Nat} (hva : Us .u32 h0 va xa) {vb : Value} {xb : List Nat} (hvb : Us .u32 h0 vb xb) {n : Nat} (hn : n < 18446744073709551616) :
    Calls Try.prog 3 #[va, vb, vU .u64 n] w0 (Ret w0 h0 (fun _ r => r = .bool true)) := by
  refine calls_begin (n := 53) (e := [(0, va), (1, vb), (2, vU .u64 n)]) (vs := [va, vb, vU .u64 n]) Try.func3 rfl rfl (Nat.le_of_ble_eq_true rfl) hs ⟨rfl, rfl, rfl, trivial⟩ ?_
  refine gc_seq ?_
  refine gc_region ?_  -- region 0 (line 35)
  refine gl_val (ov_assign rfl) rfl rfl rfl ?_
  refine gl_nil ?_
  refine gq_keep (e' := [(0, _), (1, _), (2, _)]) ⟨rfl, rfl, rfl, trivial⟩ ?_
  refine gq_then ?_
  refine gc_seq ?_
  refine gc_seq ?_
  refine gc_region ?_  -- region 1 (line 36)
  refine gl_val (ov_move rfl) rfl rfl rfl ?_
  refine gl_val (ov_move rfl) rfl rfl rfl ?_
  refine gl_call (vs := [_, _]) rfl rfl rfl rfl Try.call11 ⟨rfl, rfl, trivial⟩ (fun w hs => law_light hs hva hvb) ?_
  intro v11 h1 hh1 hr11
  replace hva := hva.mono hh1
  replace hvb := hvb.mono hh1
  subst hr11
  refine gl_val (ov_not rfl) rfl rfl rfl ?_
  refine gl_nil ?_
  refine gq_keep (e' := [(0, _), (1, _), (2, _), (12, _)]) ⟨rfl, rfl, rfl, rfl, trivial⟩ ?_
  refine gq_then ?_
  refine gc_cond rfl (fun hc12 => ?_) (fun hc12 => ?_)
  · skip
    refine gc_keep (e' := []) trivial ?_
    refine gc_seq ?_
    refine gc_region ?_  -- region 2 (line 37)
    refine gl_call (vs := []) rfl rfl rfl rfl Try.call12 trivial (fun w hs => law_awake hs) ?_
    intro v13 h2 hh2 hr13
    replace hva := hva.mono hh2
    replace hvb := hvb.mono hh2
    subst hr13
    refine gl_val (ov_assign rfl) rfl rfl rfl ?_
    refine gl_nil ?_
    refine gq_keep (e' := [(6, _)]) ⟨rfl, trivial⟩ ?_
    refine gq_then ?_
    refine gc_ret ?_
    refine gr_then ?_
    refine gq_body1 rfl rfl ?_
    rfl
  · skip
    have hlen : xa.length ≤ 40 ∧ xb.length ≤ 40 := Classical.not_not.1 hc12
    refine gc_keep (e' := [(0, _), (1, _), (2, _)]) ⟨rfl, rfl, rfl, trivial⟩ ?_
    refine gc_skip ?_
    refine gq_then ?_
    refine gc_seq ?_
    refine gc_region ?_  -- region 3 (line 39)
    refine gl_val (ov_move rfl) rfl rfl rfl ?_
    refine gl_call (vs := [_]) rfl rfl rfl rfl Try.call13 ⟨rfl, trivial⟩ (fun w hs => made_mag hs hva (by omega)) ?_
    intro v15 h2 hh2 hr15
    replace hva := hva.mono hh2
    replace hvb := hvb.mono hh2
    refine gl_val (ov_move rfl) rfl rfl rfl ?_
    refine gl_call (vs := [_]) rfl rfl rfl rfl Try.call13 ⟨rfl, trivial⟩ (fun w hs => made_mag hs hvb (by omega)) ?_
    intro v17 h3 hh3 hr17
    replace hva := hva.mono hh3
    replace hvb := hvb.mono hh3
    replace hr15 := hr15.mono hh3
    refine gl_val (ov_assign rfl) rfl rfl rfl ?_
    refine gl_val (ov_assign rfl) rfl rfl rfl ?_
    have hlma := limbs_len_le hva.lt
    have hlmb := limbs_len_le hvb.lt
    refine gl_nil ?_
    refine gq_keep (e' := [(0, _), (2, _), (7, _), (8, _)]) ⟨rfl, rfl, rfl, rfl, trivial⟩ ?_
    refine gq_then ?_
    refine gc_seq ?_
    refine gc_region ?_  -- region 4 (line 40)
    refine gl_val (ov_move rfl) rfl rfl rfl ?_
    refine gl_call (vs := [_]) rfl rfl rfl rfl Try.call14 ⟨rfl, trivial⟩ (fun w hs => nat_valid hs hva) ?_
    intro v19 h4 hh4 hr19
    replace hva := hva.mono hh4
    replace hvb := hvb.mono hh4
    replace hr15 := hr15.mono hh4
    replace hr17 := hr17.mono hh4
    subst hr19
    refine gl_val (ov_move rfl) rfl rfl rfl ?_
    refine gl_call (vs := [_]) rfl rfl rfl rfl Try.call15 ⟨rfl, trivial⟩ (fun w hs => ref_valid hs hva) ?_
    intro v21 h5 hh5 hr21
    replace hva := hva.mono hh5
    replace hvb := hvb.mono hh5
    replace hr15 := hr15.mono hh5
    replace hr17 := hr17.mono hh5
    subst hr21
    refine gl_val (OpV.tr (by rfl) (ov_eql_b Try.underlying4 rfl rfl)) rfl rfl rfl ?_
    refine gl_val (ov_move rfl) rfl rfl rfl ?_
    refine gl_on rfl rfl rfl ?_
    refine gl_val (ov_move rfl) rfl rfl rfl ?_
    refine gl_on rfl rfl rfl ?_
    refine gl_call (vs := [_]) rfl rfl rfl rfl Try.call14 ⟨rfl, trivial⟩ (fun w hs => nat_valid hs hr15) ?_
    intro v25 h6 hh6 hr25
    replace hva := hva.mono hh6
    replace hvb := hvb.mono hh6
    replace hr15 := hr15.mono hh6
    replace hr17 := hr17.mono hh6
    rw [vB_true (valid_limbs _)] at hr25
    subst hr25
    refine gl_val (ov_pick_t rfl rfl) rfl rfl rfl ?_
    refine gl_val (ov_move rfl) rfl rfl rfl ?_
    refine gl_on rfl rfl rfl ?_
    refine gl_val (ov_move rfl) rfl rfl rfl ?_
    refine gl_on rfl rfl rfl ?_
    refine gl_val (ov_move rfl) rfl rfl rfl ?_
    refine gl_on rfl rfl rfl ?_
    refine gl_call (vs := [_, _]) rfl rfl rfl rfl Try.call16 ⟨rfl, rfl, trivial⟩ (fun w hs => nat_cmp hs hr15 hr17) ?_
    intro v30 h7 hh7 hr30
    replace hva := hva.mono hh7
    replace hvb := hvb.mono hh7
    replace hr15 := hr15.mono hh7
    replace hr17 := hr17.mono hh7
    subst hr30
    rw [val_limbs, val_limbs]
    refine gl_on rfl rfl rfl ?_
    refine gl_val (ov_move rfl) rfl rfl rfl ?_
    refine gl_on rfl rfl rfl ?_
    refine gl_val (ov_move rfl) rfl rfl rfl ?_
    refine gl_on rfl rfl rfl ?_
    refine gl_call (vs := [_, _]) rfl rfl rfl rfl Try.call17 ⟨rfl, rfl, trivial⟩ (fun w hs => ref_cmp hs hr15 hr17) ?_
    intro v33 h8 hh8 hr33
    replace hva := hva.mono hh8
    replace hvb := hvb.mono hh8
    replace hr15 := hr15.mono hh8
    replace hr17 := hr17.mono hh8
    subst hr33
    refine gl_on rfl rfl rfl ?_
    refine gl_val (OpV.tr (by rfl) (ov_eql_i rfl rfl)) rfl rfl rfl ?_
    refine gl_val (ov_pick_t rfl rfl) rfl rfl rfl ?_
    refine gl_val (ov_move rfl) rfl rfl rfl ?_
    refine gl_on rfl rfl rfl ?_
    refine gl_val (ov_move rfl) rfl rfl rfl ?_
    refine gl_on rfl rfl rfl ?_
    refine gl_call (vs := [_]) rfl rfl rfl rfl Try.call18 ⟨rfl, trivial⟩ (fun w hs => nat_bits hs hr15 (by omega)) ?_
    intro v38 h9 hh9 hr38
    replace hva := hva.mono hh9
    replace hvb := hvb.mono hh9
    replace hr15 := hr15.mono hh9
    replace hr17 := hr17.mono hh9
    subst hr38
    rw [val_limbs]
    refine gl_on rfl rfl rfl ?_
    refine gl_val (ov_move rfl) rfl rfl rfl ?_
    refine gl_on rfl rfl rfl ?_
    refine gl_call (vs := [_]) rfl rfl rfl rfl Try.call19 ⟨rfl, trivial⟩ (fun w hs => ref_bits hs hr15 (by omega)) ?_
    intro v40 h10 hh10 hr40
    replace hva := hva.mono hh10
    replace hvb := hvb.mono hh10
    replace hr15 := hr15.mono hh10
    replace hr17 := hr17.mono hh10
    subst hr40
    refine gl_on rfl rfl rfl ?_
    refine gl_val (OpV.tr (by rfl) (ov_eql_i rfl rfl)) rfl rfl rfl ?_
    refine gl_val (ov_pick_t rfl rfl) rfl rfl rfl ?_
    refine gl_val (ov_move rfl) rfl rfl rfl ?_
    refine gl_on rfl rfl rfl ?_
    refine gl_val (ov_move rfl) rfl rfl rfl ?_
    refine gl_on rfl rfl rfl ?_
    refine gl_call (vs := [_]) rfl rfl rfl rfl Try.call21 ⟨rfl, trivial⟩ (fun w hs => nat_of hs (by omega)) ?_
    intro v45 h11 hh11 hr45
    replace hva := hva.mono hh11
    replace hvb := hvb.mono hh11
    replace hr15 := hr15.mono hh11
    replace hr17 := hr17.mono hh11
    refine gl_on rfl rfl rfl ?_
    refine gl_val (ov_move rfl) rfl rfl rfl ?_
    refine gl_on rfl rfl rfl ?_
    refine gl_call (vs := [_]) rfl rfl rfl rfl Try.call22 ⟨rfl, trivial⟩ (fun w hs => ref_of hs (by omega)) ?_
    intro v47 h12 hh12 hr47
    replace hva := hva.mono hh12
    replace hvb := hvb.mono hh12
    replace hr15 := hr15.mono hh12
    replace hr17 := hr17.mono hh12
    replace hr45 := hr45.mono hh12
    refine gl_on rfl rfl rfl ?_
    refine gl_call (vs := [_, _]) rfl rfl rfl rfl Try.call20 ⟨rfl, rfl, trivial⟩ (fun w hs => law_same hs hr45 hr47) ?_
    intro v48 h13 hh13 hr48
    replace hva := hva.mono hh13
    replace hvb := hvb.mono hh13
    replace hr15 := hr15.mono hh13
    replace hr17 := hr17.mono hh13
    replace hr45 := hr45.mono hh13
    replace hr47 := hr47.mono hh13
    rw [vB_true (by rfl)] at hr48
    subst hr48
    refine gl_val (ov_pick_t rfl rfl) rfl rfl rfl ?_
    refine gl_val (ov_move rfl) rfl rfl rfl ?_
    refine gl_on rfl rfl rfl ?_
    refine gl_call (vs := []) rfl rfl rfl rfl Try.call12 trivial (fun w hs => law_awake hs) ?_
    intro v51 h14 hh14 hr51
    replace hva := hva.mono hh14
    replace hvb := hvb.mono hh14
    replace hr15 := hr15.mono hh14
    replace hr17 := hr17.mono hh14
    replace hr45 := hr45.mono hh14
    replace hr47 := hr47.mono hh14
    subst hr51
    refine gl_val (ov_pick_t rfl rfl) rfl rfl rfl ?_
    refine gl_val (ov_assign rfl) rfl rfl rfl ?_
    refine gl_nil ?_
    refine gq_keep (e' := [(6, _)]) ⟨rfl, trivial⟩ ?_
    refine gq_then ?_
    refine gc_ret ?_
    refine gq_body1 rfl rfl ?_
    rfl

theorem law_quotient {w0 : World} {h0 : Mem}  (hs : MLe h0 (mem w0)) {va : Value} {xa : List Nat} (hva : Us .u32 h0 va xa) {vb : Value} {xb : List Nat} (hvb : Us .u32 h0 vb xb) :
    Calls Try.prog 9 #[va, vb] w0 (Ret w0 h0 (fun _ r => r = .bool true)) := by
  refine calls_begin (n := 106) (e := [(0, va), (1, vb)]) (vs := [va, vb]) Try.func9 rfl rfl (Nat.le_of_ble_eq_true rfl) hs ⟨rfl, rfl, trivial⟩ ?_
  refine gc_seq ?_
  refine gc_region ?_  -- region 0 (line 99)
  refine gl_val (ov_assign rfl) rfl rfl rfl ?_
  refine gl_nil ?_
  refine gq_keep (e' := [(0, _), (1, _)]) ⟨rfl, rfl, trivial⟩ ?_
  refine gq_then ?_
  refine gc_seq ?_
  refine gc_seq ?_
  refine gc_region ?_  -- region 1 (line 100)
  refine gl_val (ov_move rfl) rfl rfl rfl ?_
  refine gl_val (ov_move rfl) rfl rfl rfl ?_
  refine gl_call (vs := [_, _]) rfl rfl rfl rfl Try.call11 ⟨rfl, rfl, trivial⟩ (fun w hs => law_light hs hva hvb) ?_
  intro v19 h1 hh1 hr19
  replace hva := hva.mono hh1
  replace hvb := hvb.mono hh1
  subst hr19
  refine gl_val (ov_not rfl) rfl rfl rfl ?_
  refine gl_nil ?_
  refine gq_keep (e' := [(0, _), (1, _), (20, _)]) ⟨rfl, rfl, rfl, trivial⟩ ?_
  refine gq_then ?_
  refine gc_cond rfl (fun hc20 => ?_) (fun hc20 => ?_)
  · skip
    refine gc_keep (e' := []) trivial ?_
    refine gc_seq ?_
    refine gc_region ?_  -- region 2 (line 101)
    refine gl_call (vs := []) rfl rfl rfl rfl Try.call12 trivial (fun w hs => law_awake hs) ?_
    intro v21 h2 hh2 hr21
    replace hva := hva.mono hh2
    replace hvb := hvb.mono hh2
    subst hr21
    refine gl_val (ov_assign rfl) rfl rfl rfl ?_
    refine gl_nil ?_
    refine gq_keep (e' := [(4, _)]) ⟨rfl, trivial⟩ ?_
    refine gq_then ?_
    refine gc_ret ?_
    refine gr_then ?_
    refine gq_body1 rfl rfl ?_
    rfl
  · skip
    have hlen : xa.length ≤ 40 ∧ xb.length ≤ 40 := Classical.not_not.1 hc20
    refine gc_keep (e' := [(0, _), (1, _)]) ⟨rfl, rfl, trivial⟩ ?_
    refine gc_skip ?_
    refine gq_then ?_
    refine gc_seq ?_
    refine gc_region ?_  -- region 3 (line 103)
    refine gl_val (ov_move rfl) rfl rfl rfl ?_
    refine gl_call (vs := [_]) rfl rfl rfl rfl Try.call13 ⟨rfl, trivial⟩ (fun w hs => made_mag hs hva (by omega)) ?_
    intro v23 h2 hh2 hr23
    replace hva := hva.mono hh2
    replace hvb := hvb.mono hh2
    refine gl_val (ov_move rfl) rfl rfl rfl ?_
    refine gl_call (vs := [_]) rfl rfl rfl rfl Try.call13 ⟨rfl, trivial⟩ (fun w hs => made_mag hs hvb (by omega)) ?_
    intro v25 h3 hh3 hr25
    replace hva := hva.mono hh3
    replace hvb := hvb.mono hh3
    replace hr23 := hr23.mono hh3
    refine gl_val (ov_assign rfl) rfl rfl rfl ?_
    refine gl_val (ov_assign rfl) rfl rfl rfl ?_
    have hlma := limbs_len_le hva.lt
    have hlmb := limbs_len_le hvb.lt
    generalize val xa = A at *
    generalize val xb = B at *
    refine gl_nil ?_
    refine gq_keep (e' := [(5, _), (6, _)]) ⟨rfl, rfl, trivial⟩ ?_
    refine gq_then ?_
    refine gc_seq ?_
    refine gc_region ?_  -- region 4 (line 104)
    refine gl_val (ov_move rfl) rfl rfl rfl ?_
    refine gl_val (ov_move rfl) rfl rfl rfl ?_
    refine gl_call (vs := [_, _]) rfl rfl rfl rfl Try.call32 ⟨rfl, rfl, trivial⟩ (fun w hs => nat_div hs hr23 hr25 (by omega) (by omega)) ?_
    intro v29 h4 hh4 hr29
    replace hva := hva.mono hh4
    replace hvb := hvb.mono hh4
    replace hr23 := hr23.mono hh4
    replace hr25 := hr25.mono hh4
    obtain ⟨q29, r29, rfl, hq29, hr29⟩ := hr29
    simp only [val_limbs] at hq29 hr29 ⊢
    have hl1 := limbs_len_mono (Nat.div_le_self A B)
    have hl2 := limbs_len_mono (Nat.mod_le A B)
    refine gl_val (ov_move rfl) rfl rfl rfl ?_
    refine gl_val (ov_extract (vs := [_, _, _]) rfl rfl) rfl rfl rfl ?_
    refine gl_val (ov_extract (vs := [_, _, _]) rfl rfl) rfl rfl rfl ?_
    refine gl_val (ov_extract (vs := [_, _, _]) rfl rfl) rfl rfl rfl ?_
    refine gl_val (ov_assign rfl) rfl rfl rfl ?_
    refine gl_val (ov_assign rfl) rfl rfl rfl ?_
    refine gl_val (ov_assign rfl) rfl rfl rfl ?_
    refine gl_nil ?_
    refine gq_keep (e' := [(5, _), (6, _), (7, _), (8, _), (9, _)]) ⟨rfl, rfl, rfl, rfl, rfl, trivial⟩ ?_
    refine gq_then ?_
    refine gc_seq ?_
    refine gc_seq ?_
    refine gc_region ?_  -- region 5 (line 105)
    refine gl_val (ov_move rfl) rfl rfl rfl ?_
    refine gl_val (ov_len_us Try.underlying22 rfl hr25) rfl rfl rfl ?_
    refine gl_val (ov_eql_i (q := 0) rfl rfl) rfl rfl rfl ?_
    refine gl_nil ?_
    refine gq_keep (e' := [(5, _), (6, _), (7, _), (8, _), (9, _), (35, _)]) ⟨rfl, rfl, rfl, rfl, rfl, rfl, trivial⟩ ?_
    refine gq_then ?_
    refine gc_cond rfl (fun hc35 => ?_) (fun hc35 => ?_)
    · skip
      have hB0 : B = 0 := Classical.byContradiction fun hne => by have := limbs_len_pos.2 hne; omega
      subst hB0
      refine gc_keep (e' := [(7, _), (8, _), (9, _)]) ⟨rfl, rfl, rfl, trivial⟩ ?_
      refine gc_seq ?_
      refine gc_region ?_  -- region 6 (line 106)
      refine gl_val (ov_move rfl) rfl rfl rfl ?_
      refine gl_val (OpV.tr (by rw [if_pos rfl]) (ov_eql_i (q := 3) rfl rfl)) rfl rfl rfl ?_
      refine gl_val (ov_move rfl) rfl rfl rfl ?_
      refine gl_on rfl rfl rfl ?_
      refine gl_val (ov_move rfl) rfl rfl rfl ?_
      refine gl_on rfl rfl rfl ?_
      refine gl_val (ov_len_us Try.underlying22 rfl hq29) rfl rfl rfl ?_
      refine gl_on rfl rfl rfl ?_
      refine gl_val (OpV.tr (by rw [Nat.div_zero, limbs_zero]; rfl) (ov_eql_i (q := 0) rfl rfl)) rfl rfl rfl ?_
      refine gl_val (ov_pick_t rfl rfl) rfl rfl rfl ?_
      refine gl_val (ov_move rfl) rfl rfl rfl ?_
      refine gl_on rfl rfl rfl ?_
      refine gl_val (ov_move rfl) rfl rfl rfl ?_
      refine gl_on rfl rfl rfl ?_
      refine gl_val (ov_len_us Try.underlying22 rfl hr29) rfl rfl rfl ?_
      refine gl_on rfl rfl rfl ?_
      refine gl_val (OpV.tr (by rw [if_pos rfl, limbs_zero]; rfl) (ov_eql_i (q := 0) rfl rfl)) rfl rfl rfl ?_
      refine gl_val (ov_pick_t rfl rfl) rfl rfl rfl ?_
      refine gl_val (ov_move rfl) rfl rfl rfl ?_
      refine gl_on rfl rfl rfl ?_
      refine gl_call (vs := []) rfl rfl rfl rfl Try.call12 trivial (fun w hs => law_awake hs) ?_
      intro v49 h5 hh5 hr49
      replace hva := hva.mono hh5
      replace hvb := hvb.mono hh5
      replace hr23 := hr23.mono hh5
      replace hr25 := hr25.mono hh5
      replace hq29 := hq29.mono hh5
      replace hr29 := hr29.mono hh5
      subst hr49
      refine gl_val (ov_pick_t rfl rfl) rfl rfl rfl ?_
      refine gl_val (ov_assign rfl) rfl rfl rfl ?_
      refine gl_nil ?_
      refine gq_keep (e' := [(4, _)]) ⟨rfl, trivial⟩ ?_
      refine gq_then ?_
      refine gc_ret ?_
      refine gr_then ?_
      refine gq_body1 rfl rfl ?_
      rfl
    · skip
      have hB0 : B ≠ 0 := limbs_len_pos.1 (by omega)
      rw [if_neg hB0] at hr29
      have hg0 : Nat.gcd A B ≠ 0 := fun h => hB0 (Nat.eq_zero_of_gcd_eq_zero_right h)
      have hgl : (limbs (Nat.gcd A B)).length ≤ 40 := Nat.le_trans (limbs_len_mono (Nat.le_of_dvd (Nat.pos_of_ne_zero hB0) (Nat.gcd_dvd_right A B))) (by omega)
      refine gc_keep (e' := [(5, _), (6, _), (7, _), (8, _), (9, _)]) ⟨rfl, rfl, rfl, rfl, rfl, trivial⟩ ?_
      refine gc_skip ?_
      refine gq_then ?_
      refine gc_seq ?_
      refine gc_region ?_  -- region 7 (line 108)
      refine gl_val (ov_move rfl) rfl rfl rfl ?_
      refine gl_val (ov_move rfl) rfl rfl rfl ?_
      refine gl_call (vs := [_, _]) rfl rfl rfl rfl Try.call34 ⟨rfl, rfl, trivial⟩ (fun w hs => nat_gcd hs hr23 hr25 (by omega) (by omega)) ?_
      intro v53 h5 hh5 hr53
      replace hva := hva.mono hh5
      replace hvb := hvb.mono hh5
      replace hr23 := hr23.mono hh5
      replace hr25 := hr25.mono hh5
      replace hq29 := hq29.mono hh5
      replace hr29 := hr29.mono hh5
      simp only [val_limbs] at hr53
      refine gl_val (ov_assign rfl) rfl rfl rfl ?_
      refine gl_nil ?_
      refine gq_keep (e' := [(5, _), (6, _), (7, _), (8, _), (9, _), (10, _)]) ⟨rfl, rfl, rfl, rfl, rfl, rfl, trivial⟩ ?_
      refine gq_then ?_
      refine gc_seq ?_
      refine gc_region ?_  -- region 8 (line 109)
      refine gl_val (ov_move rfl) rfl rfl rfl ?_
      refine gl_val (ov_move rfl) rfl rfl rfl ?_
      refine gl_call (vs := [_, _]) rfl rfl rfl rfl Try.call32 ⟨rfl, rfl, trivial⟩ (fun w hs => nat_div hs hr23 hr53 (by omega) (by omega)) ?_
      intro v57 h6 hh6 hr57
      replace hva := hva.mono hh6
      replace hvb := hvb.mono hh6
      replace hr23 := hr23.mono hh6
      replace hr25 := hr25.mono hh6
      replace hq29 := hq29.mono hh6
      replace hr29 := hr29.mono hh6
      replace hr53 := hr53.mono hh6
      obtain ⟨q57, r57, rfl, hq57, hr57⟩ := hr57
      simp only [val_limbs] at hq57 hr57 ⊢
      rw [if_neg hg0, Nat.mod_eq_zero_of_dvd (Nat.gcd_dvd_left A B), limbs_zero] at hr57
      refine gl_val (ov_move rfl) rfl rfl rfl ?_
      refine gl_val (ov_extract (vs := [_, _, _]) rfl rfl) rfl rfl rfl ?_
      refine gl_val (ov_extract (vs := [_, _, _]) rfl rfl) rfl rfl rfl ?_
      refine gl_val (ov_extract (vs := [_, _, _]) rfl rfl) rfl rfl rfl ?_
      refine gl_val (ov_assign rfl) rfl rfl rfl ?_
      refine gl_val (ov_assign rfl) rfl rfl rfl ?_
      refine gl_val (ov_assign rfl) rfl rfl rfl ?_
      refine gl_nil ?_
      refine gq_keep (e' := [(5, _), (6, _), (7, _), (8, _), (9, _), (10, _), (12, _), (13, _)]) ⟨rfl, rfl, rfl, rfl, rfl, rfl, rfl, rfl, trivial⟩ ?_
      refine gq_then ?_
      refine gc_seq ?_
      refine gc_region ?_  -- region 9 (line 110)
      refine gl_val (ov_move rfl) rfl rfl rfl ?_
      refine gl_val (ov_move rfl) rfl rfl rfl ?_
      refine gl_call (vs := [_, _]) rfl rfl rfl rfl Try.call32 ⟨rfl, rfl, trivial⟩ (fun w hs => nat_div hs hr25 hr53 (by omega) (by omega)) ?_
      intro v64 h7 hh7 hr64
      replace hva := hva.mono hh7
      replace hvb := hvb.mono hh7
      replace hr23 := hr23.mono hh7
      replace hr25 := hr25.mono hh7
      replace hq29 := hq29.mono hh7
      replace hr29 := hr29.mono hh7
      replace hr53 := hr53.mono hh7
      replace hq57 := hq57.mono hh7
      replace hr57 := hr57.mono hh7
      obtain ⟨q64, r64, rfl, hq64, hr64⟩ := hr64
      simp only [val_limbs] at hq64 hr64 ⊢
      rw [if_neg hg0, Nat.mod_eq_zero_of_dvd (Nat.gcd_dvd_right A B), limbs_zero] at hr64
      refine gl_val (ov_move rfl) rfl rfl rfl ?_
      refine gl_val (ov_extract (vs := [_, _, _]) rfl rfl) rfl rfl rfl ?_
      refine gl_val (ov_extract (vs := [_, _, _]) rfl rfl) rfl rfl rfl ?_
      refine gl_val (ov_extract (vs := [_, _, _]) rfl rfl) rfl rfl rfl ?_
      refine gl_val (ov_assign rfl) rfl rfl rfl ?_
      refine gl_val (ov_assign rfl) rfl rfl rfl ?_
      refine gl_val (ov_assign rfl) rfl rfl rfl ?_
      refine gl_nil ?_
      refine gq_keep (e' := [(5, _), (6, _), (7, _), (8, _), (9, _), (12, _), (13, _), (15, _), (16, _)]) ⟨rfl, rfl, rfl, rfl, rfl, rfl, rfl, rfl, rfl, trivial⟩ ?_
      refine gq_then ?_
      refine gc_seq ?_
      refine gc_region ?_  -- region 10 (line 111)
      refine gl_val (ov_move rfl) rfl rfl rfl ?_
      refine gl_val (OpV.tr (by rw [if_neg hB0]) (ov_eql_i (q := 0) rfl rfl)) rfl rfl rfl ?_
      refine gl_val (ov_move rfl) rfl rfl rfl ?_
      refine gl_on rfl rfl rfl ?_
      refine gl_val (ov_move rfl) rfl rfl rfl ?_
      refine gl_on rfl rfl rfl ?_
      refine gl_val (ov_move rfl) rfl rfl rfl ?_
      refine gl_on rfl rfl rfl ?_
      refine gl_call (vs := [_, _]) rfl rfl rfl rfl Try.call16 ⟨rfl, rfl, trivial⟩ (fun w hs => nat_cmp hs hr29 hr25) ?_
      intro v73 h8 hh8 hr73
      replace hva := hva.mono hh8
      replace hvb := hvb.mono hh8
      replace hr23 := hr23.mono hh8
      replace hr25 := hr25.mono hh8
      replace hq29 := hq29.mono hh8
      replace hr29 := hr29.mono hh8
      replace hr53 := hr53.mono hh8
      replace hq57 := hq57.mono hh8
      replace hr57 := hr57.mono hh8
      replace hq64 := hq64.mono hh8
      replace hr64 := hr64.mono hh8
      subst hr73
      rw [val_limbs, val_limbs]
      refine gl_on rfl rfl rfl ?_
      refine gl_val (OpV.tr (by exact cmpN_neg.2 (Nat.mod_lt _ (Nat.pos_of_ne_zero hB0))) (ov_lss_i (q := 0) rfl rfl)) rfl rfl rfl ?_
      refine gl_val (ov_pick_t rfl rfl) rfl rfl rfl ?_
      refine gl_val (ov_move rfl) rfl rfl rfl ?_
      refine gl_on rfl rfl rfl ?_
      refine gl_val (ov_move rfl) rfl rfl rfl ?_
      refine gl_on rfl rfl rfl ?_
      refine gl_val (ov_move rfl) rfl rfl rfl ?_
      refine gl_on rfl rfl rfl ?_
      refine gl_call (vs := [_, _]) rfl rfl rfl rfl Try.call24 ⟨rfl, rfl, trivial⟩ (fun w hs => nat_mul hs hq29 hr25 (by omega) (by omega)) ?_
      intro v79 h9 hh9 hr79
      replace hva := hva.mono hh9
      replace hvb := hvb.mono hh9
      replace hr23 := hr23.mono hh9
      replace hr25 := hr25.mono hh9
      replace hq29 := hq29.mono hh9
      replace hr29 := hr29.mono hh9
      replace hr53 := hr53.mono hh9
      replace hq57 := hq57.mono hh9
      replace hr57 := hr57.mono hh9
      replace hq64 := hq64.mono hh9
      replace hr64 := hr64.mono hh9
      simp only [val_limbs] at hr79
      have hl79 := us_len_mul hr79
      refine gl_on rfl rfl rfl ?_
      refine gl_val (ov_move rfl) rfl rfl rfl ?_
      refine gl_on rfl rfl rfl ?_
      refine gl_call (vs := [_, _]) rfl rfl rfl rfl Try.call23 ⟨rfl, rfl, trivial⟩ (fun w hs => nat_add hs hr79 hr29 (by omega) (by omega)) ?_
      intro v81 h10 hh10 hr81
      replace hva := hva.mono hh10
      replace hvb := hvb.mono hh10
      replace hr23 := hr23.mono hh10
      replace hr25 := hr25.mono hh10
      replace hq29 := hq29.mono hh10
      replace hr29 := hr29.mono hh10
      replace hr53 := hr53.mono hh10
      replace hq57 := hq57.mono hh10
      replace hr57 := hr57.mono hh10
      replace hq64 := hq64.mono hh10
      replace hr64 := hr64.mono hh10
      replace hr79 := hr79.mono hh10
      simp only [val_limbs] at hr81
      have hl81 := us_len_add hr81
      refine gl_on rfl rfl rfl ?_
      refine gl_val (ov_move rfl) rfl rfl rfl ?_
      refine gl_on rfl rfl rfl ?_
      refine gl_call (vs := [_, _]) rfl rfl rfl rfl Try.call20 ⟨rfl, rfl, trivial⟩ (fun w hs => law_same hs hr81 hr23) ?_
      intro v83 h11 hh11 hr83
      replace hva := hva.mono hh11
      replace hvb := hvb.mono hh11
      replace hr23 := hr23.mono hh11
      replace hr25 := hr25.mono hh11
      replace hq29 := hq29.mono hh11
      replace hr29 := hr29.mono hh11
      replace hr53 := hr53.mono hh11
      replace hq57 := hq57.mono hh11
      replace hr57 := hr57.mono hh11
      replace hq64 := hq64.mono hh11
      replace hr64 := hr64.mono hh11
      replace hr79 := hr79.mono hh11
      replace hr81 := hr81.mono hh11
      rw [vB_true (by rw [Nat.mul_comm, Nat.div_add_mod])] at hr83
      subst hr83
      refine gl_val (ov_pick_t rfl rfl) rfl rfl rfl ?_
      refine gl_val (ov_move rfl) rfl rfl rfl ?_
      refine gl_on rfl rfl rfl ?_
      refine gl_val (ov_move rfl) rfl rfl rfl ?_
      refine gl_on rfl rfl rfl ?_
      refine gl_val (OpV.tr (by rw [if_neg hg0]) (ov_eql_i (q := 0) rfl rfl)) rfl rfl rfl ?_
      refine gl_val (ov_pick_t rfl rfl) rfl rfl rfl ?_
      refine gl_val (ov_move rfl) rfl rfl rfl ?_
      refine gl_on rfl rfl rfl ?_
      refine gl_val (ov_move rfl) rfl rfl rfl ?_
      refine gl_on rfl rfl rfl ?_
      refine gl_val (OpV.tr (by rw [if_neg hg0]) (ov_eql_i (q := 0) rfl rfl)) rfl rfl rfl ?_
      refine gl_val (ov_pick_t rfl rfl) rfl rfl rfl ?_
      refine gl_val (ov_move rfl) rfl rfl rfl ?_
      refine gl_on rfl rfl rfl ?_
      refine gl_val (ov_move rfl) rfl rfl rfl ?_
      refine gl_on rfl rfl rfl ?_
      refine gl_val (ov_len_us Try.underlying22 rfl hr57) rfl rfl rfl ?_
      refine gl_on rfl rfl rfl ?_
      refine gl_val (OpV.tr (by rfl) (ov_eql_i (q := 0) rfl rfl)) rfl rfl rfl ?_
      refine gl_val (ov_pick_t rfl rfl) rfl rfl rfl ?_
      refine gl_val (ov_move rfl) rfl rfl rfl ?_
      refine gl_on rfl rfl rfl ?_
      refine gl_val (ov_move rfl) rfl rfl rfl ?_
      refine gl_on rfl rfl rfl ?_
      refine gl_val (ov_len_us Try.underlying22 rfl hr64) rfl rfl rfl ?_
      refine gl_on rfl rfl rfl ?_
      refine gl_val (OpV.tr (by rfl) (ov_eql_i (q := 0) rfl rfl)) rfl rfl rfl ?_
      refine gl_val (ov_pick_t rfl rfl) rfl rfl rfl ?_
      refine gl_val (ov_move rfl) rfl rfl rfl ?_
      refine gl_on rfl rfl rfl ?_
      refine gl_call (vs := []) rfl rfl rfl rfl Try.call12 trivial (fun w hs => law_awake hs) ?_
      intro v104 h12 hh12 hr104
      replace hva := hva.mono hh12
      replace hvb := hvb.mono hh12
      replace hr23 := hr23.mono hh12
      replace hr25 := hr25.mono hh12
      replace hq29 := hq29.mono hh12
      replace hr29 := hr29.mono hh12
      replace hr53 := hr53.mono hh12
      replace hq57 := hq57.mono hh12
      replace hr57 := hr57.mono hh12
      replace hq64 := hq64.mono hh12
      replace hr64 := hr64.mono hh12
      replace hr79 := hr79.mono hh12
      replace hr81 := hr81.mono hh12
      subst hr104
      refine gl_val (ov_pick_t rfl rfl) rfl rfl rfl ?_
      refine gl_val (ov_assign rfl) rfl rfl rfl ?_
      refine gl_nil ?_
      refine gq_keep (e' := [(4, _)]) ⟨rfl, trivial⟩ ?_
      refine gq_then ?_
      refine gc_ret ?_
      refine gq_body1 rfl rfl ?_
      rfl

theorem law_adds {w0 : World} {h0 : Mem}  (hs : MLe h0 (mem w0)) {va : Value} {xa : List Nat} (hva : Us .u32 h0 va xa) {vb : Value} {xb : List Nat} (hvb : Us .u32 h0 vb xb) :
    Calls Try.prog 8 #[va, vb] w0 (Ret w0 h0 (fun _ r => r = .bool true)) := by
  refine calls_begin (n := 61) (e := [(0, va), (1, vb)]) (vs := [va, vb]) Try.func8 rfl rfl (Nat.le_of_ble_eq_true rfl) hs ⟨rfl, rfl, trivial⟩ ?_
  refine gc_seq ?_
  refine gc_region ?_  -- region 0 (line 44)
  refine gl_val (ov_assign rfl) rfl rfl rfl ?_
  refine gl_nil ?_
  refine gq_keep (e' := [(0, _), (1, _)]) ⟨rfl, rfl, trivial⟩ ?_
  refine gq_then ?_
  refine gc_seq ?_
  refine gc_seq ?_
  refine gc_region ?_  -- region 1 (line 45)
  refine gl_val (ov_move rfl) rfl rfl rfl ?_
  refine gl_val (ov_move rfl) rfl rfl rfl ?_
  refine gl_call (vs := [_, _]) rfl rfl rfl rfl Try.call11 ⟨rfl, rfl, trivial⟩ (fun w hs => law_light hs hva hvb) ?_
  intro v13 h1 hh1 hr13
  replace hva := hva.mono hh1
  replace hvb := hvb.mono hh1
  subst hr13
  refine gl_val (ov_not rfl) rfl rfl rfl ?_
  refine gl_nil ?_
  refine gq_keep (e' := [(0, _), (1, _), (14, _)]) ⟨rfl, rfl, rfl, trivial⟩ ?_
  refine gq_then ?_
  refine gc_cond rfl (fun hc14 => ?_) (fun hc14 => ?_)
  · skip
    refine gc_keep (e' := []) trivial ?_
    refine gc_seq ?_
    refine gc_region ?_  -- region 2 (line 46)
    refine gl_call (vs := []) rfl rfl rfl rfl Try.call12 trivial (fun w hs => law_awake hs) ?_
    intro v15 h2 hh2 hr15
    replace hva := hva.mono hh2
    replace hvb := hvb.mono hh2
    subst hr15
    refine gl_val (ov_assign rfl) rfl rfl rfl ?_
    refine gl_nil ?_
    refine gq_keep (e' := [(4, _)]) ⟨rfl, trivial⟩ ?_
    refine gq_then ?_
    refine gc_ret ?_
    refine gr_then ?_
    refine gq_body1 rfl rfl ?_
    rfl
  · skip
    have hlen : xa.length ≤ 40 ∧ xb.length ≤ 40 := Classical.not_not.1 hc14
    refine gc_keep (e' := [(0, _), (1, _)]) ⟨rfl, rfl, trivial⟩ ?_
    refine gc_skip ?_
    refine gq_then ?_
    refine gc_seq ?_
    refine gc_region ?_  -- region 3 (line 48)
    refine gl_val (ov_move rfl) rfl rfl rfl ?_
    refine gl_call (vs := [_]) rfl rfl rfl rfl Try.call13 ⟨rfl, trivial⟩ (fun w hs => made_mag hs hva (by omega)) ?_
    intro v17 h2 hh2 hr17
    replace hva := hva.mono hh2
    replace hvb := hvb.mono hh2
    refine gl_val (ov_move rfl) rfl rfl rfl ?_
    refine gl_call (vs := [_]) rfl rfl rfl rfl Try.call13 ⟨rfl, trivial⟩ (fun w hs => made_mag hs hvb (by omega)) ?_
    intro v19 h3 hh3 hr19
    replace hva := hva.mono hh3
    replace hvb := hvb.mono hh3
    replace hr17 := hr17.mono hh3
    refine gl_val (ov_assign rfl) rfl rfl rfl ?_
    refine gl_val (ov_assign rfl) rfl rfl rfl ?_
    have hlma := limbs_len_le hva.lt
    have hlmb := limbs_len_le hvb.lt
    generalize val xa = A at *
    generalize val xb = B at *
    refine gl_nil ?_
    refine gq_keep (e' := [(5, _), (6, _)]) ⟨rfl, rfl, trivial⟩ ?_
    refine gq_then ?_
    refine gc_seq ?_
    refine gc_region ?_  -- region 4 (line 49)
    refine gl_val (ov_move rfl) rfl rfl rfl ?_
    refine gl_val (ov_move rfl) rfl rfl rfl ?_
    refine gl_call (vs := [_, _]) rfl rfl rfl rfl Try.call36 ⟨rfl, rfl, trivial⟩ (fun w hs => nat_sub hs hr17 hr19 (by omega)) ?_
    intro v23 h4 hh4 hr23
    replace hva := hva.mono hh4
    replace hvb := hvb.mono hh4
    replace hr17 := hr17.mono hh4
    replace hr19 := hr19.mono hh4
    obtain ⟨u23, rfl, hu23⟩ := hr23
    simp only [val_limbs] at hu23 ⊢
    refine gl_val (ov_move rfl) rfl rfl rfl ?_
    refine gl_val (ov_extract (vs := [_, _]) rfl rfl) rfl rfl rfl ?_
    refine gl_val (ov_extract (vs := [_, _]) rfl rfl) rfl rfl rfl ?_
    refine gl_val (ov_assign rfl) rfl rfl rfl ?_
    refine gl_val (ov_assign rfl) rfl rfl rfl ?_
    refine gl_nil ?_
    refine gq_keep (e' := [(5, _), (6, _), (7, _), (8, _)]) ⟨rfl, rfl, rfl, rfl, trivial⟩ ?_
    refine gq_then ?_
    refine gc_seq ?_
    refine gc_region ?_  -- region 5 (line 50)
    refine gl_val (ov_move rfl) rfl rfl rfl ?_
    refine gl_val (ov_move rfl) rfl rfl rfl ?_
    refine gl_call (vs := [_, _]) rfl rfl rfl rfl Try.call37 ⟨rfl, rfl, trivial⟩ (fun w hs => ref_sub hs hr17 hr19 (by omega)) ?_
    intro v29 h5 hh5 hr29
    replace hva := hva.mono hh5
    replace hvb := hvb.mono hh5
    replace hr17 := hr17.mono hh5
    replace hr19 := hr19.mono hh5
    replace hu23 := hu23.mono hh5
    obtain ⟨u29, rfl, hu29⟩ := hr29
    refine gl_val (ov_move rfl) rfl rfl rfl ?_
    refine gl_val (ov_extract (vs := [_, _]) rfl rfl) rfl rfl rfl ?_
    refine gl_val (ov_extract (vs := [_, _]) rfl rfl) rfl rfl rfl ?_
    refine gl_val (ov_assign rfl) rfl rfl rfl ?_
    refine gl_val (ov_assign rfl) rfl rfl rfl ?_
    refine gl_nil ?_
    refine gq_keep (e' := [(5, _), (6, _), (7, _), (8, _), (9, _), (10, _)]) ⟨rfl, rfl, rfl, rfl, rfl, rfl, trivial⟩ ?_
    refine gq_then ?_
    refine gc_seq ?_
    refine gc_region ?_  -- region 6 (line 51)
    refine gl_val (ov_move rfl) rfl rfl rfl ?_
    refine gl_val (ov_move rfl) rfl rfl rfl ?_
    refine gl_call (vs := [_, _]) rfl rfl rfl rfl Try.call23 ⟨rfl, rfl, trivial⟩ (fun w hs => nat_add hs hr17 hr19 (by omega) (by omega)) ?_
    intro v34 h6 hh6 hr34
    replace hva := hva.mono hh6
    replace hvb := hvb.mono hh6
    replace hr17 := hr17.mono hh6
    replace hr19 := hr19.mono hh6
    replace hu23 := hu23.mono hh6
    replace hu29 := hu29.mono hh6
    simp only [val_limbs] at hr34
    have hl34 := us_len_add hr34
    refine gl_val (ov_move rfl) rfl rfl rfl ?_
    refine gl_val (ov_move rfl) rfl rfl rfl ?_
    refine gl_call (vs := [_, _]) rfl rfl rfl rfl Try.call38 ⟨rfl, rfl, trivial⟩ (fun w hs => ref_add hs hr17 hr19 (by omega) (by omega)) ?_
    intro v37 h7 hh7 hr37
    replace hva := hva.mono hh7
    replace hvb := hvb.mono hh7
    replace hr17 := hr17.mono hh7
    replace hr19 := hr19.mono hh7
    replace hu23 := hu23.mono hh7
    replace hu29 := hu29.mono hh7
    replace hr34 := hr34.mono hh7
    refine gl_call (vs := [_, _]) rfl rfl rfl rfl Try.call20 ⟨rfl, rfl, trivial⟩ (fun w hs => law_same hs hr34 hr37) ?_
    intro v38 h8 hh8 hr38
    replace hva := hva.mono hh8
    replace hvb := hvb.mono hh8
    replace hr17 := hr17.mono hh8
    replace hr19 := hr19.mono hh8
    replace hu23 := hu23.mono hh8
    replace hu29 := hu29.mono hh8
    replace hr34 := hr34.mono hh8
    replace hr37 := hr37.mono hh8
    rw [vB_true (by rfl)] at hr38
    subst hr38
    refine gl_val (ov_move rfl) rfl rfl rfl ?_
    refine gl_on rfl rfl rfl ?_
    refine gl_val (ov_move rfl) rfl rfl rfl ?_
    refine gl_on rfl rfl rfl ?_
    refine gl_val (ov_move rfl) rfl rfl rfl ?_
    refine gl_on rfl rfl rfl ?_
    refine gl_call (vs := [_, _]) rfl rfl rfl rfl Try.call24 ⟨rfl, rfl, trivial⟩ (fun w hs => nat_mul hs hr17 hr19 (by omega) (by omega)) ?_
    intro v42 h9 hh9 hr42
    replace hva := hva.mono hh9
    replace hvb := hvb.mono hh9
    replace hr17 := hr17.mono hh9
    replace hr19 := hr19.mono hh9
    replace hu23 := hu23.mono hh9
    replace hu29 := hu29.mono hh9
    replace hr34 := hr34.mono hh9
    replace hr37 := hr37.mono hh9
    simp only [val_limbs] at hr42
    have hl42 := us_len_mul hr42
    refine gl_on rfl rfl rfl ?_
    refine gl_val (ov_move rfl) rfl rfl rfl ?_
    refine gl_on rfl rfl rfl ?_
    refine gl_val (ov_move rfl) rfl rfl rfl ?_
    refine gl_on rfl rfl rfl ?_
    refine gl_call (vs := [_, _]) rfl rfl rfl rfl Try.call31 ⟨rfl, rfl, trivial⟩ (fun w hs => ref_mul hs hr17 hr19 (by omega) (by omega)) ?_
    intro v45 h10 hh10 hr45
    replace hva := hva.mono hh10
    replace hvb := hvb.mono hh10
    replace hr17 := hr17.mono hh10
    replace hr19 := hr19.mono hh10
    replace hu23 := hu23.mono hh10
    replace hu29 := hu29.mono hh10
    replace hr34 := hr34.mono hh10
    replace hr37 := hr37.mono hh10
    replace hr42 := hr42.mono hh10
    simp only [val_limbs] at hr45
    have hl45 := us_len_mul hr45
    refine gl_on rfl rfl rfl ?_
    refine gl_call (vs := [_, _]) rfl rfl rfl rfl Try.call20 ⟨rfl, rfl, trivial⟩ (fun w hs => law_same hs hr42 hr45) ?_
    intro v46 h11 hh11 hr46
    replace hva := hva.mono hh11
    replace hvb := hvb.mono hh11
    replace hr17 := hr17.mono hh11
    replace hr19 := hr19.mono hh11
    replace hu23 := hu23.mono hh11
    replace hu29 := hu29.mono hh11
    replace hr34 := hr34.mono hh11
    replace hr37 := hr37.mono hh11
    replace hr42 := hr42.mono hh11
    replace hr45 := hr45.mono hh11
    rw [vB_true (by rfl)] at hr46
    subst hr46
    refine gl_val (ov_pick_t rfl rfl) rfl rfl rfl ?_
    refine gl_val (ov_move rfl) rfl rfl rfl ?_
    refine gl_on rfl rfl rfl ?_
    refine gl_val (ov_move rfl) rfl rfl rfl ?_
    refine gl_on rfl rfl rfl ?_
    refine gl_val (ov_move rfl) rfl rfl rfl ?_
    refine gl_on rfl rfl rfl ?_
    refine gl_val (OpV.tr (by rfl) (ov_eql_i rfl rfl)) rfl rfl rfl ?_
    refine gl_val (ov_pick_t rfl rfl) rfl rfl rfl ?_
    refine gl_val (ov_move rfl) rfl rfl rfl ?_
    refine gl_on rfl rfl rfl ?_
    refine gl_val (ov_move rfl) rfl rfl rfl ?_
    refine gl_on rfl rfl rfl ?_
    refine gl_val (ov_move rfl) rfl rfl rfl ?_
    refine gl_on rfl rfl rfl ?_
    refine gl_call (vs := [_, _]) rfl rfl rfl rfl Try.call20 ⟨rfl, rfl, trivial⟩ (fun w hs => law_same hs hu23 hu29) ?_
    intro v56 h12 hh12 hr56
    replace hva := hva.mono hh12
    replace hvb := hvb.mono hh12
    replace hr17 := hr17.mono hh12
    replace hr19 := hr19.mono hh12
    replace hu23 := hu23.mono hh12
    replace hu29 := hu29.mono hh12
    replace hr34 := hr34.mono hh12
    replace hr37 := hr37.mono hh12
    replace hr42 := hr42.mono hh12
    replace hr45 := hr45.mono hh12
    rw [vB_true (by rfl)] at hr56
    subst hr56
    refine gl_val (ov_pick_t rfl rfl) rfl rfl rfl ?_
    refine gl_val (ov_move rfl) rfl rfl rfl ?_
    refine gl_on rfl rfl rfl ?_
    refine gl_call (vs := []) rfl rfl rfl rfl Try.call12 trivial (fun w hs => law_awake hs) ?_
    intro v59 h13 hh13 hr59
    replace hva := hva.mono hh13
    replace hvb := hvb.mono hh13
    replace hr17 := hr17.mono hh13
    replace hr19 := hr19.mono hh13
    replace hu23 := hu23.mono hh13
    replace hu29 := hu29.mono hh13
    replace hr34 := hr34.mono hh13
    replace hr37 := hr37.mono hh13
    replace hr42 := hr42.mono hh13
    replace hr45 := hr45.mono hh13
    subst hr59
    refine gl_val (ov_pick_t rfl rfl) rfl rfl rfl ?_
    refine gl_val (ov_assign rfl) rfl rfl rfl ?_
    refine gl_nil ?_
    refine gq_keep (e' := [(4, _)]) ⟨rfl, trivial⟩ ?_
    refine gq_then ?_
    refine gc_ret ?_
    refine gq_body1 rfl rfl ?_
    rfl

theorem law_texts {w0 : World} {h0 : Mem}  (hs : MLe h0 (mem w0)) {va : Value} {xa : List Nat} (hva : Us .u32 h0 va xa) {s : ByteArray} (hsz0 : s.size ≤ maxLen) :
    Calls Try.prog 6 #[va, .string s] w0 (Ret w0 h0 (fun _ r => r = .bool true)) := by
  have hsz : s.size ≤ 9223372036854775807 := Nat.le_trans hsz0 (by decide)
  refine calls_begin (n := 54) (e := [(0, va), (1, .string s)]) (vs := [va, .string s]) Try.func6 rfl rfl (Nat.le_of_ble_eq_true rfl) hs ⟨rfl, rfl, trivial⟩ ?_
  refine gc_seq ?_
  refine gc_region ?_  -- region 0 (line 79)
  refine gl_val (ov_assign rfl) rfl rfl rfl ?_
  refine gl_nil ?_
  refine gq_keep (e' := [(0, _), (1, _)]) ⟨rfl, rfl, trivial⟩ ?_
  refine gq_then ?_
  refine gc_seq ?_
  refine gc_seq ?_
  refine gc_region ?_  -- region 1 (line 80)
  refine gl_val (ov_move rfl) rfl rfl rfl ?_
  refine gl_val (ov_len_us Try.underlying22 rfl hva) rfl rfl rfl ?_
  refine gl_val (ov_gtr_i (q := 40) rfl rfl) rfl rfl rfl ?_
  refine gl_cut (ι := Unit) 10 (fun _ => True) (fun _ => [(22, vB (((40 : Int) < ↑xa.length) ∨ ((300 : Int) < ↑s.size ∧ (↑s.size : Int) ≤ 4096))), (0, va), (1, .string s)]) (fun _ => []) (fun _ => h0) ?_ ?_
  · skip
    refine gl_cases ((40 : Int) < ↑xa.length) (fun hg => ?_) (fun hg => ?_)
    · skip
      refine gl_val (ov_move (v := .bool true) (congrArg some (vB_true hg))) rfl rfl rfl ?_
      refine gl_off rfl rfl rfl rfl rfl rfl ?_
      refine gl_off rfl rfl rfl rfl rfl rfl ?_
      refine gl_off rfl rfl rfl rfl rfl rfl ?_
      refine gl_off rfl rfl rfl rfl rfl rfl ?_
      refine gl_offu rfl rfl rfl rfl rfl ?_
      refine gl_offu rfl rfl rfl rfl rfl ?_
      refine gl_offu rfl rfl rfl rfl rfl ?_
      refine gl_off rfl rfl rfl rfl rfl rfl ?_
      refine gl_val (ov_pick_t rfl rfl) rfl rfl rfl ?_
      refine gl_nil ?_
      refine gq_cut () trivial ⟨?_, rfl, rfl, trivial⟩ rfl rfl
      exact congrArg some (vB_or_t hg)
    · skip
      refine gl_val (ov_move (v := .bool false) (congrArg some (vB_false hg))) rfl rfl rfl ?_
      refine gl_on rfl rfl rfl ?_
      refine gl_val (ov_move rfl) rfl rfl rfl ?_
      refine gl_on rfl rfl rfl ?_
      refine gl_val (ov_len_str Try.underlying9 rfl) rfl rfl rfl ?_
      refine gl_on rfl rfl rfl ?_
      refine gl_val (ov_gtr_i (q := 300) rfl rfl) rfl rfl rfl ?_
      refine gl_cut (ι := Unit) 5 (fun _ => True) (fun _ => [(21, vB (((300 : Int) < ↑s.size) ∧ ((↑s.size : Int) ≤ 4096))), (0, va), (1, .string s), (13, .bool false)]) (fun _ => []) (fun _ => h0) ?_ ?_
      · skip
        refine gl_cases ((300 : Int) < ↑s.size) (fun hg => ?_) (fun hg => ?_)
        · skip
          refine gl_on rfl rfl rfl ?_
          refine gl_val (ov_move (v := .bool true) (congrArg some (vB_true hg))) rfl rfl rfl ?_
          refine gl_on rfl rfl rfl ?_
          refine gl_val (ov_move rfl) rfl rfl rfl ?_
          refine gl_on rfl rfl rfl ?_
          refine gl_val (ov_len_str Try.underlying9 rfl) rfl rfl rfl ?_
          refine gl_on rfl rfl rfl ?_
          refine gl_val (ov_leq_i (q := 4096) rfl rfl) rfl rfl rfl ?_
          refine gl_on rfl rfl rfl ?_
          refine gl_val (ov_pick_t rfl rfl) rfl rfl rfl ?_
          refine gl_nil ?_
          refine gq_cut () trivial ⟨?_, rfl, rfl, rfl, trivial⟩ rfl rfl
          exact congrArg some (vB_and_t hg)
        · skip
          refine gl_on rfl rfl rfl ?_
          refine gl_val (ov_move (v := .bool false) (congrArg some (vB_false hg))) rfl rfl rfl ?_
          refine gl_off rfl rfl rfl rfl rfl rfl ?_
          refine gl_off rfl rfl rfl rfl rfl rfl ?_
          refine gl_off rfl rfl rfl rfl rfl rfl ?_
          refine gl_on rfl rfl rfl ?_
          refine gl_val (ov_pick_f rfl rfl) rfl rfl rfl ?_
          refine gl_nil ?_
          refine gq_cut () trivial ⟨?_, rfl, rfl, rfl, trivial⟩ rfl rfl
          exact congrArg some (vB_and_f hg)
      · skip
        intro _ _
        show GL _ _ _ _ _ _ _ [(21, vB (((300 : Int) < ↑s.size) ∧ ((↑s.size : Int) ≤ 4096))), (0, va), (1, .string s), (13, .bool false)] [] h0
        refine gl_val (ov_pick_f rfl rfl) rfl rfl rfl ?_
        refine gl_nil ?_
        refine gq_cut () trivial ⟨?_, rfl, rfl, trivial⟩ rfl rfl
        exact congrArg some (vB_or_f hg)
  · skip
    intro _ _
    show GL _ _ _ _ _ _ _ [(22, vB (((40 : Int) < ↑xa.length) ∨ ((300 : Int) < ↑s.size ∧ (↑s.size : Int) ≤ 4096))), (0, va), (1, .string s)] [] h0
    refine gl_nil ?_
    refine gq_then ?_
    refine gc_cond rfl (fun hc22 => ?_) (fun hc22 => ?_)
    · skip
      refine gc_keep (e' := []) trivial ?_
      refine gc_seq ?_
      refine gc_region ?_  -- region 2 (line 81)
      refine gl_call (vs := []) rfl rfl rfl rfl Try.call12 trivial (fun w hs => law_awake hs) ?_
      intro v23 h1 hh1 hr23
      replace hva := hva.mono hh1
      subst hr23
      refine gl_val (ov_assign rfl) rfl rfl rfl ?_
      refine gl_nil ?_
      refine gq_keep (e' := [(4, _)]) ⟨rfl, trivial⟩ ?_
      refine gq_then ?_
      refine gc_ret ?_
      refine gr_then ?_
      refine gq_body1 rfl rfl ?_
      rfl
    · skip
      have hlen : xa.length ≤ 40 := by have := fun h => hc22 (.inl h); omega
      refine gc_keep (e' := [(0, _), (1, _)]) ⟨rfl, rfl, trivial⟩ ?_
      refine gc_skip ?_
      refine gq_then ?_
      refine gc_seq ?_
      refine gc_region ?_  -- region 3 (line 83)
      refine gl_val (ov_move rfl) rfl rfl rfl ?_
      refine gl_call (vs := [_]) rfl rfl rfl rfl Try.call13 ⟨rfl, trivial⟩ (fun w hs => made_mag hs hva (by omega)) ?_
      intro v25 h1 hh1 hr25
      replace hva := hva.mono hh1
      refine gl_val (ov_assign rfl) rfl rfl rfl ?_
      have hlma := limbs_len_le hva.lt
      generalize val xa = A at *
      refine gl_nil ?_
      refine gq_keep (e' := [(1, _), (5, _)]) ⟨rfl, rfl, trivial⟩ ?_
      refine gq_then ?_
      refine gc_seq ?_
      refine gc_region ?_  -- region 4 (line 84)
      refine gl_val (ov_move rfl) rfl rfl rfl ?_
      refine gl_call (vs := [_]) rfl rfl rfl rfl Try.call27 ⟨rfl, trivial⟩ (fun w hs => nat_parse hs (by omega)) ?_
      intro v28 h2 hh2 hr28
      replace hva := hva.mono hh2
      replace hr25 := hr25.mono hh2
      obtain ⟨u28, rfl, hu28⟩ := hr28
      refine gl_val (ov_move rfl) rfl rfl rfl ?_
      refine gl_val (ov_extract (vs := [_, _]) rfl rfl) rfl rfl rfl ?_
      refine gl_val (ov_extract (vs := [_, _]) rfl rfl) rfl rfl rfl ?_
      refine gl_val (ov_assign rfl) rfl rfl rfl ?_
      refine gl_val (ov_assign rfl) rfl rfl rfl ?_
      refine gl_nil ?_
      refine gq_keep (e' := [(1, _), (5, _), (6, _), (7, _)]) ⟨rfl, rfl, rfl, rfl, trivial⟩ ?_
      refine gq_then ?_
      refine gc_seq ?_
      refine gc_region ?_  -- region 5 (line 85)
      refine gl_val (ov_move rfl) rfl rfl rfl ?_
      refine gl_call (vs := [_]) rfl rfl rfl rfl Try.call28 ⟨rfl, trivial⟩ (fun w hs => ref_parse hs (by omega)) ?_
      intro v33 h3 hh3 hr33
      replace hva := hva.mono hh3
      replace hr25 := hr25.mono hh3
      replace hu28 := hu28.mono hh3
      obtain ⟨u33, rfl, hu33⟩ := hr33
      refine gl_val (ov_move rfl) rfl rfl rfl ?_
      refine gl_val (ov_extract (vs := [_, _]) rfl rfl) rfl rfl rfl ?_
      refine gl_val (ov_extract (vs := [_, _]) rfl rfl) rfl rfl rfl ?_
      refine gl_val (ov_assign rfl) rfl rfl rfl ?_
      refine gl_val (ov_assign rfl) rfl rfl rfl ?_
      refine gl_nil ?_
      refine gq_keep (e' := [(5, _), (6, _), (7, _), (8, _), (9, _)]) ⟨rfl, rfl, rfl, rfl, rfl, trivial⟩ ?_
      refine gq_then ?_
      refine gc_seq ?_
      refine gc_region ?_  -- region 6 (line 86)
      refine gl_val (ov_move rfl) rfl rfl rfl ?_
      refine gl_call (vs := [_]) rfl rfl rfl rfl Try.call29 ⟨rfl, trivial⟩ (fun w hs => nat_text hs hr25 (by omega)) ?_
      intro v37 h4 hh4 hr37
      replace hva := hva.mono hh4
      replace hr25 := hr25.mono hh4
      replace hu28 := hu28.mono hh4
      replace hu33 := hu33.mono hh4
      subst hr37
      refine gl_val (ov_move rfl) rfl rfl rfl ?_
      refine gl_call (vs := [_]) rfl rfl rfl rfl Try.call30 ⟨rfl, trivial⟩ (fun w hs => ref_text hs hr25 (by omega)) ?_
      intro v39 h5 hh5 hr39
      replace hva := hva.mono hh5
      replace hr25 := hr25.mono hh5
      replace hu28 := hu28.mono hh5
      replace hu33 := hu33.mono hh5
      subst hr39
      refine gl_val (OpV.tr (by rw [val_limbs]) (ov_eql_str rfl rfl)) rfl rfl rfl ?_
      refine gl_val (ov_move rfl) rfl rfl rfl ?_
      refine gl_on rfl rfl rfl ?_
      refine gl_val (ov_move rfl) rfl rfl rfl ?_
      refine gl_on rfl rfl rfl ?_
      refine gl_val (ov_move rfl) rfl rfl rfl ?_
      refine gl_on rfl rfl rfl ?_
      refine gl_val (OpV.tr (by rfl) (ov_eql_i rfl rfl)) rfl rfl rfl ?_
      refine gl_val (ov_pick_t rfl rfl) rfl rfl rfl ?_
      refine gl_val (ov_move rfl) rfl rfl rfl ?_
      refine gl_on rfl rfl rfl ?_
      refine gl_val (ov_move rfl) rfl rfl rfl ?_
      refine gl_on rfl rfl rfl ?_
      refine gl_val (ov_move rfl) rfl rfl rfl ?_
      refine gl_on rfl rfl rfl ?_
      refine gl_call (vs := [_, _]) rfl rfl rfl rfl Try.call20 ⟨rfl, rfl, trivial⟩ (fun w hs => law_same hs hu28 hu33) ?_
      intro v49 h6 hh6 hr49
      replace hva := hva.mono hh6
      replace hr25 := hr25.mono hh6
      replace hu28 := hu28.mono hh6
      replace hu33 := hu33.mono hh6
      rw [vB_true (by rfl)] at hr49
      subst hr49
      refine gl_val (ov_pick_t rfl rfl) rfl rfl rfl ?_
      refine gl_val (ov_move rfl) rfl rfl rfl ?_
      refine gl_on rfl rfl rfl ?_
      refine gl_call (vs := []) rfl rfl rfl rfl Try.call12 trivial (fun w hs => law_awake hs) ?_
      intro v52 h7 hh7 hr52
      replace hva := hva.mono hh7
      replace hr25 := hr25.mono hh7
      replace hu28 := hu28.mono hh7
      replace hu33 := hu33.mono hh7
      subst hr52
      refine gl_val (ov_pick_t rfl rfl) rfl rfl rfl ?_
      refine gl_val (ov_assign rfl) rfl rfl rfl ?_
      refine gl_nil ?_
      refine gq_keep (e' := [(4, _)]) ⟨rfl, trivial⟩ ?_
      refine gq_then ?_
      refine gc_ret ?_
      refine gq_body1 rfl rfl ?_
      rfl

theorem law_shifts {w0 : World} {h0 : Mem}  (hs : MLe h0 (mem w0)) {va : Value} {xa : List Nat} (hva : Us .u32 h0 va xa) {n : Int} (hn : -9223372036854775808 ≤ n ∧ n < 9223372036854775808) :
    Calls Try.prog 5 #[va, vI n] w0 (Ret w0 h0 (fun _ r => r = .bool true)) := by
  obtain ⟨hn1, hn2⟩ := hn
  refine calls_begin (n := 39) (e := [(0, va), (1, vI n)]) (vs := [va, vI n]) Try.func5 rfl rfl (Nat.le_of_ble_eq_true rfl) hs ⟨rfl, rfl, trivial⟩ ?_
  refine gc_seq ?_
  refine gc_region ?_  -- region 0 (line 68)
  refine gl_val (ov_assign rfl) rfl rfl rfl ?_
  refine gl_nil ?_
  refine gq_keep (e' := [(0, _), (1, _)]) ⟨rfl, rfl, trivial⟩ ?_
  refine gq_then ?_
  refine gc_seq ?_
  refine gc_seq ?_
  refine gc_region ?_  -- region 1 (line 69)
  refine gl_val (ov_move rfl) rfl rfl rfl ?_
  refine gl_val (ov_len_us Try.underlying22 rfl hva) rfl rfl rfl ?_
  refine gl_val (ov_gtr_i (q := 40) rfl rfl) rfl rfl rfl ?_
  refine gl_nil ?_
  refine gq_keep (e' := [(0, _), (1, _), (12, _)]) ⟨rfl, rfl, rfl, trivial⟩ ?_
  refine gq_then ?_
  refine gc_cond rfl (fun hc12 => ?_) (fun hc12 => ?_)
  · skip
    refine gc_keep (e' := []) trivial ?_
    refine gc_seq ?_
    refine gc_region ?_  -- region 2 (line 70)
    refine gl_call (vs := []) rfl rfl rfl rfl Try.call12 trivial (fun w hs => law_awake hs) ?_
    intro v13 h1 hh1 hr13
    replace hva := hva.mono hh1
    subst hr13
    refine gl_val (ov_assign rfl) rfl rfl rfl ?_
    refine gl_nil ?_
    refine gq_keep (e' := [(4, _)]) ⟨rfl, trivial⟩ ?_
    refine gq_then ?_
    refine gc_ret ?_
    refine gr_then ?_
    refine gq_body1 rfl rfl ?_
    rfl
  · skip
    have hlen : xa.length ≤ 40 := by omega
    refine gc_keep (e' := [(0, _), (1, _)]) ⟨rfl, rfl, trivial⟩ ?_
    refine gc_skip ?_
    refine gq_then ?_
    refine gc_seq ?_
    refine gc_region ?_  -- region 3 (line 72)
    refine gl_val (ov_move rfl) rfl rfl rfl ?_
    refine gl_call (vs := [_]) rfl rfl rfl rfl Try.call13 ⟨rfl, trivial⟩ (fun w hs => made_mag hs hva (by omega)) ?_
    intro v15 h1 hh1 hr15
    replace hva := hva.mono hh1
    refine gl_val (ov_assign rfl) rfl rfl rfl ?_
    have hlma := limbs_len_le hva.lt
    generalize val xa = A at *
    refine gl_nil ?_
    refine gq_keep (e' := [(1, _), (5, _)]) ⟨rfl, rfl, trivial⟩ ?_
    refine gq_then ?_
    refine gc_seq ?_
    refine gc_region ?_  -- region 4 (line 73)
    refine gl_val (ov_move rfl) rfl rfl rfl ?_
    refine gl_val (ov_move rfl) rfl rfl rfl ?_
    refine gl_call (vs := [_, _]) rfl rfl rfl rfl Try.call25 ⟨rfl, rfl, trivial⟩ (fun w hs => nat_shift hs hr15 (by omega) (by omega) (by omega)) ?_
    intro v19 h2 hh2 hr19
    replace hva := hva.mono hh2
    replace hr15 := hr15.mono hh2
    obtain ⟨u19, rfl, hu19⟩ := hr19
    simp only [val_limbs] at hu19
    refine gl_val (ov_move rfl) rfl rfl rfl ?_
    refine gl_val (ov_extract (vs := [_, _]) rfl rfl) rfl rfl rfl ?_
    refine gl_val (ov_extract (vs := [_, _]) rfl rfl) rfl rfl rfl ?_
    refine gl_val (ov_assign rfl) rfl rfl rfl ?_
    refine gl_val (ov_assign rfl) rfl rfl rfl ?_
    refine gl_nil ?_
    refine gq_keep (e' := [(1, _), (5, _), (6, _), (7, _)]) ⟨rfl, rfl, rfl, rfl, trivial⟩ ?_
    refine gq_then ?_
    refine gc_seq ?_
    refine gc_region ?_  -- region 5 (line 74)
    refine gl_val (ov_move rfl) rfl rfl rfl ?_
    refine gl_val (ov_move rfl) rfl rfl rfl ?_
    refine gl_call (vs := [_, _]) rfl rfl rfl rfl Try.call26 ⟨rfl, rfl, trivial⟩ (fun w hs => ref_shift hs hr15 (by omega) (by omega) (by omega)) ?_
    intro v25 h3 hh3 hr25
    replace hva := hva.mono hh3
    replace hr15 := hr15.mono hh3
    replace hu19 := hu19.mono hh3
    obtain ⟨u25, rfl, hu25⟩ := hr25
    refine gl_val (ov_move rfl) rfl rfl rfl ?_
    refine gl_val (ov_extract (vs := [_, _]) rfl rfl) rfl rfl rfl ?_
    refine gl_val (ov_extract (vs := [_, _]) rfl rfl) rfl rfl rfl ?_
    refine gl_val (ov_assign rfl) rfl rfl rfl ?_
    refine gl_val (ov_assign rfl) rfl rfl rfl ?_
    refine gl_nil ?_
    refine gq_keep (e' := [(6, _), (7, _), (8, _), (9, _)]) ⟨rfl, rfl, rfl, rfl, trivial⟩ ?_
    refine gq_then ?_
    refine gc_seq ?_
    refine gc_region ?_  -- region 6 (line 75)
    refine gl_val (ov_move rfl) rfl rfl rfl ?_
    refine gl_val (ov_move rfl) rfl rfl rfl ?_
    refine gl_val (OpV.tr (by rfl) (ov_eql_i rfl rfl)) rfl rfl rfl ?_
    refine gl_val (ov_move rfl) rfl rfl rfl ?_
    refine gl_on rfl rfl rfl ?_
    refine gl_val (ov_move rfl) rfl rfl rfl ?_
    refine gl_on rfl rfl rfl ?_
    refine gl_val (ov_move rfl) rfl rfl rfl ?_
    refine gl_on rfl rfl rfl ?_
    refine gl_call (vs := [_, _]) rfl rfl rfl rfl Try.call20 ⟨rfl, rfl, trivial⟩ (fun w hs => law_same hs hu19 hu25) ?_
    intro v34 h4 hh4 hr34
    replace hva := hva.mono hh4
    replace hr15 := hr15.mono hh4
    replace hu19 := hu19.mono hh4
    replace hu25 := hu25.mono hh4
    rw [vB_true (by rfl)] at hr34
    subst hr34
    refine gl_val (ov_pick_t rfl rfl) rfl rfl rfl ?_
    refine gl_val (ov_move rfl) rfl rfl rfl ?_
    refine gl_on rfl rfl rfl ?_
    refine gl_call (vs := []) rfl rfl rfl rfl Try.call12 trivial (fun w hs => law_awake hs) ?_
    intro v37 h5 hh5 hr37
    replace hva := hva.mono hh5
    replace hr15 := hr15.mono hh5
    replace hu19 := hu19.mono hh5
    replace hu25 := hu25.mono hh5
    subst hr37
    refine gl_val (ov_pick_t rfl rfl) rfl rfl rfl ?_
    refine gl_val (ov_assign rfl) rfl rfl rfl ?_
    refine gl_nil ?_
    refine gq_keep (e' := [(4, _)]) ⟨rfl, trivial⟩ ?_
    refine gq_then ?_
    refine gc_ret ?_
    refine gq_body1 rfl rfl ?_
    rfl

theorem law_back {w0 : World} {h0 : Mem}  (hs : MLe h0 (mem w0)) {va : Value} {xa : List Nat} (hva : Us .u32 h0 va xa) {vb : Value} {xb : List Nat} (hvb : Us .u32 h0 vb xb) {n : Nat} (hn : n < 256) :
    Calls Try.prog 10 #[va, vb, vU .u8 n] w0 (Ret w0 h0 (fun _ r => r = .bool true)) := by
  refine calls_begin (n := 102) (e := [(0, va), (1, vb), (2, vU .u8 n)]) (vs := [va, vb, vU .u8 n]) Try.func10 rfl rfl (Nat.le_of_ble_eq_true rfl) hs ⟨rfl, rfl, rfl, trivial⟩ ?_
  refine gc_seq ?_
  refine gc_region ?_  -- region 0 (line 115)
  refine gl_val (ov_assign rfl) rfl rfl rfl ?_
  refine gl_nil ?_
  refine gq_keep (e' := [(0, _), (1, _), (2, _)]) ⟨rfl, rfl, rfl, trivial⟩ ?_
  refine gq_then ?_
  refine gc_seq ?_
  refine gc_seq ?_
  refine gc_region ?_  -- region 1 (line 116)
  refine gl_val (ov_move rfl) rfl rfl rfl ?_
  refine gl_val (ov_move rfl) rfl rfl rfl ?_
  refine gl_call (vs := [_, _]) rfl rfl rfl rfl Try.call11 ⟨rfl, rfl, trivial⟩ (fun w hs => law_light hs hva hvb) ?_
  intro v19 h1 hh1 hr19
  replace hva := hva.mono hh1
  replace hvb := hvb.mono hh1
  subst hr19
  refine gl_val (ov_not rfl) rfl rfl rfl ?_
  refine gl_nil ?_
  refine gq_keep (e' := [(0, _), (1, _), (2, _), (20, _)]) ⟨rfl, rfl, rfl, rfl, trivial⟩ ?_
  refine gq_then ?_
  refine gc_cond rfl (fun hc20 => ?_) (fun hc20 => ?_)
  · skip
    refine gc_keep (e' := []) trivial ?_
    refine gc_seq ?_
    refine gc_region ?_  -- region 2 (line 117)
    refine gl_call (vs := []) rfl rfl rfl rfl Try.call12 trivial (fun w hs => law_awake hs) ?_
    intro v21 h2 hh2 hr21
    replace hva := hva.mono hh2
    replace hvb := hvb.mono hh2
    subst hr21
    refine gl_val (ov_assign rfl) rfl rfl rfl ?_
    refine gl_nil ?_
    refine gq_keep (e' := [(6, _)]) ⟨rfl, trivial⟩ ?_
    refine gq_then ?_
    refine gc_ret ?_
    refine gr_then ?_
    refine gq_body1 rfl rfl ?_
    rfl
  · skip
    have hlen : xa.length ≤ 40 ∧ xb.length ≤ 40 := Classical.not_not.1 hc20
    refine gc_keep (e' := [(0, _), (1, _), (2, _)]) ⟨rfl, rfl, rfl, trivial⟩ ?_
    refine gc_skip ?_
    refine gq_then ?_
    refine gc_seq ?_
    refine gc_region ?_  -- region 3 (line 119)
    refine gl_val (ov_move rfl) rfl rfl rfl ?_
    refine gl_call (vs := [_]) rfl rfl rfl rfl Try.call13 ⟨rfl, trivial⟩ (fun w hs => made_mag hs hva (by omega)) ?_
    intro v23 h2 hh2 hr23
    replace hva := hva.mono hh2
    replace hvb := hvb.mono hh2
    refine gl_val (ov_move rfl) rfl rfl rfl ?_
    refine gl_call (vs := [_]) rfl rfl rfl rfl Try.call13 ⟨rfl, trivial⟩ (fun w hs => made_mag hs hvb (by omega)) ?_
    intro v25 h3 hh3 hr25
    replace hva := hva.mono hh3
    replace hvb := hvb.mono hh3
    replace hr23 := hr23.mono hh3
    refine gl_val (ov_assign rfl) rfl rfl rfl ?_
    refine gl_val (ov_assign rfl) rfl rfl rfl ?_
    have hlma := limbs_len_le hva.lt
    have hlmb := limbs_len_le hvb.lt
    generalize val xa = A at *
    generalize val xb = B at *
    have htl := txt_len A
    have hts := Us.str_size (xs := txt A)
    obtain ⟨hpe, hpv⟩ := parse_ok (bs := txt A) (by omega) (by have := txt_ne A; omega) (digB_txt A)
    rw [hor_txt] at hpv
    have hl2n := limbs_len_pow hn
    have hlmn := limbs_len_mul A (2 ^ n)
    have hbA := bits_len A
    refine gl_nil ?_
    refine gq_keep (e' := [(2, _), (7, _), (8, _)]) ⟨rfl, rfl, rfl, trivial⟩ ?_
    refine gq_then ?_
    refine gc_seq ?_
    refine gc_region ?_  -- region 4 (line 120)
    refine gl_val (ov_move rfl) rfl rfl rfl ?_
    refine gl_call (vs := [_]) rfl rfl rfl rfl Try.call29 ⟨rfl, trivial⟩ (fun w hs => nat_text hs hr23 (by omega)) ?_
    intro v28 h4 hh4 hr28
    replace hva := hva.mono hh4
    replace hvb := hvb.mono hh4
    replace hr23 := hr23.mono hh4
    replace hr25 := hr25.mono hh4
    subst hr28
    rw [val_limbs]
    refine gl_call (vs := [_]) rfl rfl rfl rfl Try.call27 ⟨rfl, trivial⟩ (fun w hs => nat_parse hs (by omega)) ?_
    intro v29 h5 hh5 hr29
    replace hva := hva.mono hh5
    replace hvb := hvb.mono hh5
    replace hr23 := hr23.mono hh5
    replace hr25 := hr25.mono hh5
    obtain ⟨u29, rfl, hu29⟩ := hr29
    rw [byt_strOf (txt_lt A)] at hu29 ⊢
    rw [hpv] at hu29
    rw [hpe]
    refine gl_val (ov_move rfl) rfl rfl rfl ?_
    refine gl_val (ov_extract (vs := [_, _]) rfl rfl) rfl rfl rfl ?_
    refine gl_val (ov_extract (vs := [_, _]) rfl rfl) rfl rfl rfl ?_
    refine gl_val (ov_assign rfl) rfl rfl rfl ?_
    refine gl_val (ov_assign rfl) rfl rfl rfl ?_
    refine gl_nil ?_
    refine gq_keep (e' := [(2, _), (7, _), (8, _), (9, _), (10, _)]) ⟨rfl, rfl, rfl, rfl, rfl, trivial⟩ ?_
    refine gq_then ?_
    refine gc_seq ?_
    refine gc_region ?_  -- region 5 (line 121)
    refine gl_val (ov_move rfl) rfl rfl rfl ?_
    refine gl_val (ov_move rfl) rfl rfl rfl ?_
    refine gl_val (ov_conv_ui (k := .u8) Try.underlying5 Try.underlying3 rfl (by omega)) rfl rfl rfl ?_
    refine gl_call (vs := [_, _]) rfl rfl rfl rfl Try.call25 ⟨rfl, rfl, trivial⟩ (fun w hs => nat_shift hs hr23 (by omega) (by omega) (by omega)) ?_
    intro v36 h6 hh6 hr36
    replace hva := hva.mono hh6
    replace hvb := hvb.mono hh6
    replace hr23 := hr23.mono hh6
    replace hr25 := hr25.mono hh6
    replace hu29 := hu29.mono hh6
    obtain ⟨u36, rfl, hu36⟩ := hr36
    simp only [val_limbs] at hu36
    rw [shN_up (by omega) (by omega), Int.toNat_natCast] at hu36
    rw [shE_zero (by omega)]
    refine gl_val (ov_move rfl) rfl rfl rfl ?_
    refine gl_val (ov_extract (vs := [_, _]) rfl rfl) rfl rfl rfl ?_
    refine gl_val (ov_extract (vs := [_, _]) rfl rfl) rfl rfl rfl ?_
    refine gl_val (ov_assign rfl) rfl rfl rfl ?_
    refine gl_val (ov_assign rfl) rfl rfl rfl ?_
    refine gl_nil ?_
    refine gq_keep (e' := [(2, _), (7, _), (8, _), (9, _), (10, _), (11, _), (12, _)]) ⟨rfl, rfl, rfl, rfl, rfl, rfl, rfl, trivial⟩ ?_
    refine gq_then ?_
    refine gc_seq ?_
    refine gc_region ?_  -- region 6 (line 122)
    refine gl_val (ov_move rfl) rfl rfl rfl ?_
    refine gl_val (ov_move rfl) rfl rfl rfl ?_
    refine gl_val (ov_conv_ui (k := .u8) Try.underlying5 Try.underlying3 rfl (by omega)) rfl rfl rfl ?_
    refine gl_val (ov_neg_i rfl (by omega) (by omega)) rfl rfl rfl ?_
    refine gl_call (vs := [_, _]) rfl rfl rfl rfl Try.call25 ⟨rfl, rfl, trivial⟩ (fun w hs => nat_shift hs hu36 (by omega) (by omega) (by omega)) ?_
    intro v44 h7 hh7 hr44
    replace hva := hva.mono hh7
    replace hvb := hvb.mono hh7
    replace hr23 := hr23.mono hh7
    replace hr25 := hr25.mono hh7
    replace hu29 := hu29.mono hh7
    replace hu36 := hu36.mono hh7
    obtain ⟨u44, rfl, hu44⟩ := hr44
    simp only [val_limbs] at hu44
    rw [shN_back] at hu44
    rw [shE_zero (by omega)]
    refine gl_val (ov_move rfl) rfl rfl rfl ?_
    refine gl_val (ov_extract (vs := [_, _]) rfl rfl) rfl rfl rfl ?_
    refine gl_val (ov_extract (vs := [_, _]) rfl rfl) rfl rfl rfl ?_
    refine gl_val (ov_assign rfl) rfl rfl rfl ?_
    refine gl_val (ov_assign rfl) rfl rfl rfl ?_
    refine gl_nil ?_
    refine gq_keep (e' := [(2, _), (7, _), (8, _), (9, _), (10, _), (11, _), (12, _), (13, _), (14, _)]) ⟨rfl, rfl, rfl, rfl, rfl, rfl, rfl, rfl, rfl, trivial⟩ ?_
    refine gq_then ?_
    refine gc_seq ?_
    refine gc_region ?_  -- region 7 (line 123)
    refine gl_val (ov_move rfl) rfl rfl rfl ?_
    refine gl_val (ov_move rfl) rfl rfl rfl ?_
    refine gl_call (vs := [_, _]) rfl rfl rfl rfl Try.call23 ⟨rfl, rfl, trivial⟩ (fun w hs => nat_add hs hr23 hr25 (by omega) (by omega)) ?_
    intro v50 h8 hh8 hr50
    replace hva := hva.mono hh8
    replace hvb := hvb.mono hh8
    replace hr23 := hr23.mono hh8
    replace hr25 := hr25.mono hh8
    replace hu29 := hu29.mono hh8
    replace hu36 := hu36.mono hh8
    replace hu44 := hu44.mono hh8
    simp only [val_limbs] at hr50
    have hl50 := us_len_add hr50
    refine gl_val (ov_move rfl) rfl rfl rfl ?_
    refine gl_call (vs := [_, _]) rfl rfl rfl rfl Try.call36 ⟨rfl, rfl, trivial⟩ (fun w hs => nat_sub hs hr50 hr25 (by omega)) ?_
    intro v52 h9 hh9 hr52
    replace hva := hva.mono hh9
    replace hvb := hvb.mono hh9
    replace hr23 := hr23.mono hh9
    replace hr25 := hr25.mono hh9
    replace hu29 := hu29.mono hh9
    replace hu36 := hu36.mono hh9
    replace hu44 := hu44.mono hh9
    replace hr50 := hr50.mono hh9
    obtain ⟨u52, rfl, hu52⟩ := hr52
    simp only [val_limbs] at hu52 ⊢
    rw [Nat.add_sub_cancel] at hu52
    rw [if_neg (by omega)]
    refine gl_val (ov_move rfl) rfl rfl rfl ?_
    refine gl_val (ov_extract (vs := [_, _]) rfl rfl) rfl rfl rfl ?_
    refine gl_val (ov_extract (vs := [_, _]) rfl rfl) rfl rfl rfl ?_
    refine gl_val (ov_assign rfl) rfl rfl rfl ?_
    refine gl_val (ov_assign rfl) rfl rfl rfl ?_
    refine gl_nil ?_
    refine gq_keep (e' := [(2, _), (7, _), (9, _), (10, _), (11, _), (12, _), (13, _), (14, _), (15, _), (16, _)]) ⟨rfl, rfl, rfl, rfl, rfl, rfl, rfl, rfl, rfl, rfl, trivial⟩ ?_
    refine gq_then ?_
    refine gc_seq ?_
    refine gc_region ?_  -- region 8 (line 124)
    refine gl_val (ov_move rfl) rfl rfl rfl ?_
    refine gl_val (OpV.tr (by rfl) (ov_eql_i (q := 0) rfl rfl)) rfl rfl rfl ?_
    refine gl_val (ov_move rfl) rfl rfl rfl ?_
    refine gl_on rfl rfl rfl ?_
    refine gl_val (ov_move rfl) rfl rfl rfl ?_
    refine gl_on rfl rfl rfl ?_
    refine gl_val (ov_move rfl) rfl rfl rfl ?_
    refine gl_on rfl rfl rfl ?_
    refine gl_call (vs := [_, _]) rfl rfl rfl rfl Try.call20 ⟨rfl, rfl, trivial⟩ (fun w hs => law_same hs hu29 hr23) ?_
    intro v60 h10 hh10 hr60
    replace hva := hva.mono hh10
    replace hvb := hvb.mono hh10
    replace hr23 := hr23.mono hh10
    replace hr25 := hr25.mono hh10
    replace hu29 := hu29.mono hh10
    replace hu36 := hu36.mono hh10
    replace hu44 := hu44.mono hh10
    replace hr50 := hr50.mono hh10
    replace hu52 := hu52.mono hh10
    rw [vB_true (by rfl)] at hr60
    subst hr60
    refine gl_val (ov_pick_t rfl rfl) rfl rfl rfl ?_
    refine gl_val (ov_move rfl) rfl rfl rfl ?_
    refine gl_on rfl rfl rfl ?_
    refine gl_val (ov_move rfl) rfl rfl rfl ?_
    refine gl_on rfl rfl rfl ?_
    refine gl_val (OpV.tr (by rfl) (ov_eql_i (q := 0) rfl rfl)) rfl rfl rfl ?_
    refine gl_val (ov_pick_t rfl rfl) rfl rfl rfl ?_
    refine gl_val (ov_move rfl) rfl rfl rfl ?_
    refine gl_on rfl rfl rfl ?_
    refine gl_val (ov_move rfl) rfl rfl rfl ?_
    refine gl_on rfl rfl rfl ?_
    refine gl_val (OpV.tr (by rfl) (ov_eql_i (q := 0) rfl rfl)) rfl rfl rfl ?_
    refine gl_val (ov_pick_t rfl rfl) rfl rfl rfl ?_
    refine gl_val (ov_move rfl) rfl rfl rfl ?_
    refine gl_on rfl rfl rfl ?_
    refine gl_val (ov_move rfl) rfl rfl rfl ?_
    refine gl_on rfl rfl rfl ?_
    refine gl_val (ov_move rfl) rfl rfl rfl ?_
    refine gl_on rfl rfl rfl ?_
    refine gl_call (vs := [_, _]) rfl rfl rfl rfl Try.call20 ⟨rfl, rfl, trivial⟩ (fun w hs => law_same hs hu44 hr23) ?_
    intro v73 h11 hh11 hr73
    replace hva := hva.mono hh11
    replace hvb := hvb.mono hh11
    replace hr23 := hr23.mono hh11
    replace hr25 := hr25.mono hh11
    replace hu29 := hu29.mono hh11
    replace hu36 := hu36.mono hh11
    replace hu44 := hu44.mono hh11
    replace hr50 := hr50.mono hh11
    replace hu52 := hu52.mono hh11
    rw [vB_true (by rfl)] at hr73
    subst hr73
    refine gl_val (ov_pick_t rfl rfl) rfl rfl rfl ?_
    refine gl_val (ov_move rfl) rfl rfl rfl ?_
    refine gl_on rfl rfl rfl ?_
    refine gl_val (ov_move rfl) rfl rfl rfl ?_
    refine gl_on rfl rfl rfl ?_
    refine gl_val (OpV.tr (by rfl) (ov_eql_i (q := 0) rfl rfl)) rfl rfl rfl ?_
    refine gl_val (ov_pick_t rfl rfl) rfl rfl rfl ?_
    refine gl_val (ov_move rfl) rfl rfl rfl ?_
    refine gl_on rfl rfl rfl ?_
    refine gl_val (ov_move rfl) rfl rfl rfl ?_
    refine gl_on rfl rfl rfl ?_
    refine gl_val (ov_move rfl) rfl rfl rfl ?_
    refine gl_on rfl rfl rfl ?_
    refine gl_call (vs := [_, _]) rfl rfl rfl rfl Try.call20 ⟨rfl, rfl, trivial⟩ (fun w hs => law_same hs hu52 hr23) ?_
    intro v82 h12 hh12 hr82
    replace hva := hva.mono hh12
    replace hvb := hvb.mono hh12
    replace hr23 := hr23.mono hh12
    replace hr25 := hr25.mono hh12
    replace hu29 := hu29.mono hh12
    replace hu36 := hu36.mono hh12
    replace hu44 := hu44.mono hh12
    replace hr50 := hr50.mono hh12
    replace hu52 := hu52.mono hh12
    rw [vB_true (by rfl)] at hr82
    subst hr82
    refine gl_val (ov_pick_t rfl rfl) rfl rfl rfl ?_
    refine gl_val (ov_move rfl) rfl rfl rfl ?_
    refine gl_on rfl rfl rfl ?_
    refine gl_val (ov_move rfl) rfl rfl rfl ?_
    refine gl_on rfl rfl rfl ?_
    refine gl_val (ov_len_us Try.underlying22 rfl hr23) rfl rfl rfl ?_
    refine gl_on rfl rfl rfl ?_
    refine gl_val (ov_eql_i (q := 0) rfl rfl) rfl rfl rfl ?_
    refine gl_cut (ι := Mem) 10 (fun m_ => MLe h12 m_) (fun _ => [(97, .bool true), (84, .bool true)]) (fun _ => []) (fun m_ => m_) ?_ ?_
    · skip
      refine gl_cases ((↑(limbs A).length : Int) = 0) (fun hg => ?_) (fun hg => ?_)
      · skip
        refine gl_on rfl rfl rfl ?_
        refine gl_val (ov_move (v := .bool true) (congrArg some (vB_true hg))) rfl rfl rfl ?_
        refine gl_off rfl rfl rfl rfl rfl rfl ?_
        refine gl_off rfl rfl rfl rfl rfl rfl ?_
        refine gl_off rfl rfl rfl rfl rfl rfl ?_
        refine gl_off rfl rfl rfl rfl rfl rfl ?_
        refine gl_off rfl rfl rfl rfl rfl rfl ?_
        refine gl_off rfl rfl rfl rfl rfl rfl ?_
        refine gl_off rfl rfl rfl rfl rfl rfl ?_
        refine gl_off rfl rfl rfl rfl rfl rfl ?_
        refine gl_on rfl rfl rfl ?_
        refine gl_val (ov_pick_t rfl rfl) rfl rfl rfl ?_
        refine gl_nil ?_
        refine gq_cut h12 (MLe.refl _) ⟨?_, rfl, trivial⟩ rfl rfl
        exact rfl
      · skip
        have hA0 : A ≠ 0 := limbs_len_pos.1 (by omega)
        refine gl_on rfl rfl rfl ?_
        refine gl_val (ov_move (v := .bool false) (congrArg some (vB_false hg))) rfl rfl rfl ?_
        refine gl_on rfl rfl rfl ?_
        refine gl_val (ov_move rfl) rfl rfl rfl ?_
        refine gl_on rfl rfl rfl ?_
        refine gl_call (vs := [_]) rfl rfl rfl rfl Try.call18 ⟨rfl, trivial⟩ (fun w hs => nat_bits hs hu36 (by omega)) ?_
        intro v90 h13 hh13 hr90
        replace hva := hva.mono hh13
        replace hvb := hvb.mono hh13
        replace hr23 := hr23.mono hh13
        replace hr25 := hr25.mono hh13
        replace hu29 := hu29.mono hh13
        replace hu36 := hu36.mono hh13
        replace hu44 := hu44.mono hh13
        replace hr50 := hr50.mono hh13
        replace hu52 := hu52.mono hh13
        subst hr90
        rw [val_limbs]
        refine gl_on rfl rfl rfl ?_
        refine gl_val (ov_move rfl) rfl rfl rfl ?_
        refine gl_on rfl rfl rfl ?_
        refine gl_call (vs := [_]) rfl rfl rfl rfl Try.call18 ⟨rfl, trivial⟩ (fun w hs => nat_bits hs hr23 (by omega)) ?_
        intro v92 h14 hh14 hr92
        replace hva := hva.mono hh14
        replace hvb := hvb.mono hh14
        replace hr23 := hr23.mono hh14
        replace hr25 := hr25.mono hh14
        replace hu29 := hu29.mono hh14
        replace hu36 := hu36.mono hh14
        replace hu44 := hu44.mono hh14
        replace hr50 := hr50.mono hh14
        replace hu52 := hu52.mono hh14
        subst hr92
        rw [val_limbs]
        refine gl_on rfl rfl rfl ?_
        refine gl_val (ov_move rfl) rfl rfl rfl ?_
        refine gl_on rfl rfl rfl ?_
        refine gl_val (ov_conv_ui (k := .u8) Try.underlying5 Try.underlying3 rfl (by omega)) rfl rfl rfl ?_
        refine gl_on rfl rfl rfl ?_
        refine gl_val (ov_add_i rfl rfl (by omega) (by omega)) rfl rfl rfl ?_
        refine gl_on rfl rfl rfl ?_
        refine gl_val (OpV.tr (by rw [bitsN_mul_pow hA0]; omega) (ov_eql_i rfl rfl)) rfl rfl rfl ?_
        refine gl_on rfl rfl rfl ?_
        refine gl_val (ov_pick_f rfl rfl) rfl rfl rfl ?_
        refine gl_nil ?_
        refine gq_cut h14 (hh13.trans hh14) ⟨?_, rfl, trivial⟩ rfl rfl
        exact rfl
    · skip
      intro m9 hmm9
      replace hva := hva.mono hmm9
      replace hvb := hvb.mono hmm9
      replace hr23 := hr23.mono hmm9
      replace hr25 := hr25.mono hmm9
      replace hu29 := hu29.mono hmm9
      replace hu36 := hu36.mono hmm9
      replace hu44 := hu44.mono hmm9
      replace hr50 := hr50.mono hmm9
      replace hu52 := hu52.mono hmm9
      show GL _ _ _ _ _ _ _ [(97, .bool true), (84, .bool true)] [] m9
      refine gl_val (ov_pick_t rfl rfl) rfl rfl rfl ?_
      refine gl_val (ov_move rfl) rfl rfl rfl ?_
      refine gl_on rfl rfl rfl ?_
      refine gl_call (vs := []) rfl rfl rfl rfl Try.call12 trivial (fun w hs => law_awake hs) ?_
      intro v100 h13 hh13 hr100
      replace hva := hva.mono hh13
      replace hvb := hvb.mono hh13
      replace hr23 := hr23.mono hh13
      replace hr25 := hr25.mono hh13
      replace hu29 := hu29.mono hh13
      replace hu36 := hu36.mono hh13
      replace hu44 := hu44.mono hh13
      replace hr50 := hr50.mono hh13
      replace hu52 := hu52.mono hh13
      subst hr100
      refine gl_val (ov_pick_t rfl rfl) rfl rfl rfl ?_
      refine gl_val (ov_assign rfl) rfl rfl rfl ?_
      refine gl_nil ?_
      refine gq_keep (e' := [(6, _)]) ⟨rfl, trivial⟩ ?_
      refine gq_then ?_
      refine gc_ret ?_
      refine gq_body1 rfl rfl ?_
      rfl

theorem law_divides {w0 : World} {h0 : Mem}  (hs : MLe h0 (mem w0)) {va : Value} {xa : List Nat} (hva : Us .u32 h0 va xa) {vb : Value} {xb : List Nat} (hvb : Us .u32 h0 vb xb) {vc : Value} {xc : List Nat} (hvc : Us .u32 h0 vc xc) :
    Calls Try.prog 7 #[va, vb, vc] w0 (Ret w0 h0 (fun _ r => r = .bool true)) := by
  refine calls_begin (n := 113) (e := [(0, va), (1, vb), (2, vc)]) (vs := [va, vb, vc]) Try.func7 rfl rfl (Nat.le_of_ble_eq_true rfl) hs ⟨rfl, rfl, rfl, trivial⟩ ?_
  refine gc_seq ?_
  refine gc_region ?_  -- region 0 (line 55)
  refine gl_val (ov_assign rfl) rfl rfl rfl ?_
  refine gl_nil ?_
  refine gq_keep (e' := [(0, _), (1, _), (2, _)]) ⟨rfl, rfl, rfl, trivial⟩ ?_
  refine gq_then ?_
  refine gc_seq ?_
  refine gc_seq ?_
  refine gc_region ?_  -- region 1 (line 56)
  refine gl_val (ov_move rfl) rfl rfl rfl ?_
  refine gl_val (ov_move rfl) rfl rfl rfl ?_
  refine gl_call (vs := [_, _]) rfl rfl rfl rfl Try.call11 ⟨rfl, rfl, trivial⟩ (fun w hs => law_light hs hva hvb) ?_
  intro v22 h1 hh1 hr22
  replace hva := hva.mono hh1
  replace hvb := hvb.mono hh1
  replace hvc := hvc.mono hh1
  subst hr22
  refine gl_val (ov_not rfl) rfl rfl rfl ?_
  refine gl_cut (ι := Unit) 5 (fun _ => True) (fun _ => [(28, vB ((¬ (xa.length ≤ 40 ∧ xb.length ≤ 40)) ∨ ((20 : Int) < ↑xc.length))), (0, va), (1, vb), (2, vc)]) (fun _ => []) (fun _ => h1) ?_ ?_
  · skip
    refine gl_cases (¬ (xa.length ≤ 40 ∧ xb.length ≤ 40)) (fun hg => ?_) (fun hg => ?_)
    · skip
      refine gl_val (ov_move (v := .bool true) (congrArg some (vB_true hg))) rfl rfl rfl ?_
      refine gl_off rfl rfl rfl rfl rfl rfl ?_
      refine gl_off rfl rfl rfl rfl rfl rfl ?_
      refine gl_off rfl rfl rfl rfl rfl rfl ?_
      refine gl_val (ov_pick_t rfl rfl) rfl rfl rfl ?_
      refine gl_nil ?_
      refine gq_cut () trivial ⟨?_, rfl, rfl, rfl, trivial⟩ rfl rfl
      exact congrArg some (vB_or_t hg)
    · skip
      refine gl_val (ov_move (v := .bool false) (congrArg some (vB_false hg))) rfl rfl rfl ?_
      refine gl_on rfl rfl rfl ?_
      refine gl_val (ov_move rfl) rfl rfl rfl ?_
      refine gl_on rfl rfl rfl ?_
      refine gl_val (ov_len_us Try.underlying22 rfl hvc) rfl rfl rfl ?_
      refine gl_on rfl rfl rfl ?_
      refine gl_val (ov_gtr_i (q := 20) rfl rfl) rfl rfl rfl ?_
      refine gl_val (ov_pick_f rfl rfl) rfl rfl rfl ?_
      refine gl_nil ?_
      refine gq_cut () trivial ⟨?_, rfl, rfl, rfl, trivial⟩ rfl rfl
      exact congrArg some (vB_or_f hg)
  · skip
    intro _ _
    show GL _ _ _ _ _ _ _ [(28, vB ((¬ (xa.length ≤ 40 ∧ xb.length ≤ 40)) ∨ ((20 : Int) < ↑xc.length))), (0, va), (1, vb), (2, vc)] [] h1
    refine gl_nil ?_
    refine gq_then ?_
    refine gc_cond rfl (fun hc28 => ?_) (fun hc28 => ?_)
    · skip
      refine gc_keep (e' := []) trivial ?_
      refine gc_seq ?_
      refine gc_region ?_  -- region 2 (line 57)
      refine gl_call (vs := []) rfl rfl rfl rfl Try.call12 trivial (fun w hs => law_awake hs) ?_
      intro v29 h2 hh2 hr29
      replace hva := hva.mono hh2
      replace hvb := hvb.mono hh2
      replace hvc := hvc.mono hh2
      subst hr29
      refine gl_val (ov_assign rfl) rfl rfl rfl ?_
      refine gl_nil ?_
      refine gq_keep (e' := [(6, _)]) ⟨rfl, trivial⟩ ?_
      refine gq_then ?_
      refine gc_ret ?_
      refine gr_then ?_
      refine gq_body1 rfl rfl ?_
      rfl
    · skip
      have hlen : xa.length ≤ 40 ∧ xb.length ≤ 40 := Classical.byContradiction fun h => hc28 (.inl h)
      have hlenc : xc.length ≤ 20 := by have := fun h => hc28 (.inr h); omega
      refine gc_keep (e' := [(0, _), (1, _), (2, _)]) ⟨rfl, rfl, rfl, trivial⟩ ?_
      refine gc_skip ?_
      refine gq_then ?_
      refine gc_seq ?_
      refine gc_region ?_  -- region 3 (line 59)
      refine gl_val (ov_move rfl) rfl rfl rfl ?_
      refine gl_call (vs := [_]) rfl rfl rfl rfl Try.call13 ⟨rfl, trivial⟩ (fun w hs => made_mag hs hva (by omega)) ?_
      intro v31 h2 hh2 hr31
      replace hva := hva.mono hh2
      replace hvb := hvb.mono hh2
      replace hvc := hvc.mono hh2
      refine gl_val (ov_move rfl) rfl rfl rfl ?_
      refine gl_call (vs := [_]) rfl rfl rfl rfl Try.call13 ⟨rfl, trivial⟩ (fun w hs => made_mag hs hvb (by omega)) ?_
      intro v33 h3 hh3 hr33
      replace hva := hva.mono hh3
      replace hvb := hvb.mono hh3
      replace hvc := hvc.mono hh3
      replace hr31 := hr31.mono hh3
      refine gl_val (ov_move rfl) rfl rfl rfl ?_
      refine gl_call (vs := [_]) rfl rfl rfl rfl Try.call13 ⟨rfl, trivial⟩ (fun w hs => made_mag hs hvc (by omega)) ?_
      intro v35 h4 hh4 hr35
      replace hva := hva.mono hh4
      replace hvb := hvb.mono hh4
      replace hvc := hvc.mono hh4
      replace hr31 := hr31.mono hh4
      replace hr33 := hr33.mono hh4
      refine gl_val (ov_assign rfl) rfl rfl rfl ?_
      refine gl_val (ov_assign rfl) rfl rfl rfl ?_
      refine gl_val (ov_assign rfl) rfl rfl rfl ?_
      have hlma := limbs_len_le hva.lt
      have hlmb := limbs_len_le hvb.lt
      have hlmc := limbs_len_le hvc.lt
      generalize val xa = A at *
      generalize val xb = B at *
      generalize val xc = C at *
      refine gl_nil ?_
      refine gq_keep (e' := [(7, _), (8, _), (9, _)]) ⟨rfl, rfl, rfl, trivial⟩ ?_
      refine gq_then ?_
      refine gc_seq ?_
      refine gc_region ?_  -- region 4 (line 60)
      refine gl_val (ov_move rfl) rfl rfl rfl ?_
      refine gl_val (ov_move rfl) rfl rfl rfl ?_
      refine gl_call (vs := [_, _]) rfl rfl rfl rfl Try.call31 ⟨rfl, rfl, trivial⟩ (fun w hs => ref_mul hs hr33 hr35 (by omega) (by omega)) ?_
      intro v38 h5 hh5 hr38
      replace hva := hva.mono hh5
      replace hvb := hvb.mono hh5
      replace hvc := hvc.mono hh5
      replace hr31 := hr31.mono hh5
      replace hr33 := hr33.mono hh5
      replace hr35 := hr35.mono hh5
      simp only [val_limbs] at hr38
      have hl38 := us_len_mul hr38
      refine gl_val (ov_assign rfl) rfl rfl rfl ?_
      refine gl_nil ?_
      refine gq_keep (e' := [(7, _), (8, _), (9, _), (10, _)]) ⟨rfl, rfl, rfl, rfl, trivial⟩ ?_
      refine gq_then ?_
      refine gc_seq ?_
      refine gc_region ?_  -- region 5 (line 61)
      refine gl_val (ov_move rfl) rfl rfl rfl ?_
      refine gl_val (ov_move rfl) rfl rfl rfl ?_
      refine gl_call (vs := [_, _]) rfl rfl rfl rfl Try.call32 ⟨rfl, rfl, trivial⟩ (fun w hs => nat_div hs hr31 hr33 (by omega) (by omega)) ?_
      intro v42 h6 hh6 hr42
      replace hva := hva.mono hh6
      replace hvb := hvb.mono hh6
      replace hvc := hvc.mono hh6
      replace hr31 := hr31.mono hh6
      replace hr33 := hr33.mono hh6
      replace hr35 := hr35.mono hh6
      replace hr38 := hr38.mono hh6
      obtain ⟨q42, r42, rfl, hq42, hr42⟩ := hr42
      simp only [val_limbs] at hq42 hr42 ⊢
      refine gl_val (ov_move rfl) rfl rfl rfl ?_
      refine gl_val (ov_extract (vs := [_, _, _]) rfl rfl) rfl rfl rfl ?_
      refine gl_val (ov_extract (vs := [_, _, _]) rfl rfl) rfl rfl rfl ?_
      refine gl_val (ov_extract (vs := [_, _, _]) rfl rfl) rfl rfl rfl ?_
      refine gl_val (ov_assign rfl) rfl rfl rfl ?_
      refine gl_val (ov_assign rfl) rfl rfl rfl ?_
      refine gl_val (ov_assign rfl) rfl rfl rfl ?_
      refine gl_nil ?_
      refine gq_keep (e' := [(7, _), (8, _), (9, _), (10, _), (11, _), (12, _), (13, _)]) ⟨rfl, rfl, rfl, rfl, rfl, rfl, rfl, trivial⟩ ?_
      refine gq_then ?_
      refine gc_seq ?_
      refine gc_region ?_  -- region 6 (line 62)
      refine gl_val (ov_move rfl) rfl rfl rfl ?_
      refine gl_val (ov_move rfl) rfl rfl rfl ?_
      refine gl_call (vs := [_, _]) rfl rfl rfl rfl Try.call33 ⟨rfl, rfl, trivial⟩ (fun w hs => ref_div hs hr31 hr33 (by omega) (by omega)) ?_
      intro v49 h7 hh7 hr49
      replace hva := hva.mono hh7
      replace hvb := hvb.mono hh7
      replace hvc := hvc.mono hh7
      replace hr31 := hr31.mono hh7
      replace hr33 := hr33.mono hh7
      replace hr35 := hr35.mono hh7
      replace hr38 := hr38.mono hh7
      replace hq42 := hq42.mono hh7
      replace hr42 := hr42.mono hh7
      obtain ⟨q49, r49, rfl, hq49, hr49⟩ := hr49
      refine gl_val (ov_move rfl) rfl rfl rfl ?_
      refine gl_val (ov_extract (vs := [_, _, _]) rfl rfl) rfl rfl rfl ?_
      refine gl_val (ov_extract (vs := [_, _, _]) rfl rfl) rfl rfl rfl ?_
      refine gl_val (ov_extract (vs := [_, _, _]) rfl rfl) rfl rfl rfl ?_
      refine gl_val (ov_assign rfl) rfl rfl rfl ?_
      refine gl_val (ov_assign rfl) rfl rfl rfl ?_
      refine gl_val (ov_assign rfl) rfl rfl rfl ?_
      refine gl_nil ?_
      refine gq_keep (e' := [(7, _), (8, _), (9, _), (10, _), (11, _), (12, _), (13, _), (14, _), (15, _), (16, _)]) ⟨rfl, rfl, rfl, rfl, rfl, rfl, rfl, rfl, rfl, rfl, trivial⟩ ?_
      refine gq_then ?_
      refine gc_seq ?_
      refine gc_region ?_  -- region 7 (line 63)
      refine gl_val (ov_move rfl) rfl rfl rfl ?_
      refine gl_val (ov_move rfl) rfl rfl rfl ?_
      refine gl_call (vs := [_, _]) rfl rfl rfl rfl Try.call32 ⟨rfl, rfl, trivial⟩ (fun w hs => nat_div hs hr38 hr33 (by omega) (by omega)) ?_
      intro v56 h8 hh8 hr56
      replace hva := hva.mono hh8
      replace hvb := hvb.mono hh8
      replace hvc := hvc.mono hh8
      replace hr31 := hr31.mono hh8
      replace hr33 := hr33.mono hh8
      replace hr35 := hr35.mono hh8
      replace hr38 := hr38.mono hh8
      replace hq42 := hq42.mono hh8
      replace hr42 := hr42.mono hh8
      replace hq49 := hq49.mono hh8
      replace hr49 := hr49.mono hh8
      obtain ⟨q56, r56, rfl, hq56, hr56⟩ := hr56
      simp only [val_limbs] at hq56 hr56 ⊢
      refine gl_val (ov_move rfl) rfl rfl rfl ?_
      refine gl_val (ov_extract (vs := [_, _, _]) rfl rfl) rfl rfl rfl ?_
      refine gl_val (ov_extract (vs := [_, _, _]) rfl rfl) rfl rfl rfl ?_
      refine gl_val (ov_extract (vs := [_, _, _]) rfl rfl) rfl rfl rfl ?_
      refine gl_val (ov_assign rfl) rfl rfl rfl ?_
      refine gl_val (ov_assign rfl) rfl rfl rfl ?_
      refine gl_val (ov_assign rfl) rfl rfl rfl ?_
      refine gl_nil ?_
      refine gq_keep (e' := [(7, _), (8, _), (9, _), (10, _), (11, _), (12, _), (13, _), (14, _), (15, _), (16, _), (17, _), (18, _), (19, _)]) ⟨rfl, rfl, rfl, rfl, rfl, rfl, rfl, rfl, rfl, rfl, rfl, rfl, rfl, trivial⟩ ?_
      refine gq_then ?_
      refine gc_seq ?_
      refine gc_region ?_  -- region 8 (line 64)
      refine gl_val (ov_move rfl) rfl rfl rfl ?_
      refine gl_val (ov_move rfl) rfl rfl rfl ?_
      refine gl_val (OpV.tr (by rfl) (ov_eql_i rfl rfl)) rfl rfl rfl ?_
      refine gl_val (ov_move rfl) rfl rfl rfl ?_
      refine gl_on rfl rfl rfl ?_
      refine gl_val (ov_move rfl) rfl rfl rfl ?_
      refine gl_on rfl rfl rfl ?_
      refine gl_val (ov_move rfl) rfl rfl rfl ?_
      refine gl_on rfl rfl rfl ?_
      refine gl_call (vs := [_, _]) rfl rfl rfl rfl Try.call20 ⟨rfl, rfl, trivial⟩ (fun w hs => law_same hs hq42 hq49) ?_
      intro v66 h9 hh9 hr66
      replace hva := hva.mono hh9
      replace hvb := hvb.mono hh9
      replace hvc := hvc.mono hh9
      replace hr31 := hr31.mono hh9
      replace hr33 := hr33.mono hh9
      replace hr35 := hr35.mono hh9
      replace hr38 := hr38.mono hh9
      replace hq42 := hq42.mono hh9
      replace hr42 := hr42.mono hh9
      replace hq49 := hq49.mono hh9
      replace hr49 := hr49.mono hh9
      replace hq56 := hq56.mono hh9
      replace hr56 := hr56.mono hh9
      rw [vB_true (by rfl)] at hr66
      subst hr66
      refine gl_val (ov_pick_t rfl rfl) rfl rfl rfl ?_
      refine gl_val (ov_move rfl) rfl rfl rfl ?_
      refine gl_on rfl rfl rfl ?_
      refine gl_val (ov_move rfl) rfl rfl rfl ?_
      refine gl_on rfl rfl rfl ?_
      refine gl_val (ov_move rfl) rfl rfl rfl ?_
      refine gl_on rfl rfl rfl ?_
      refine gl_call (vs := [_, _]) rfl rfl rfl rfl Try.call20 ⟨rfl, rfl, trivial⟩ (fun w hs => law_same hs hr42 hr49) ?_
      intro v71 h10 hh10 hr71
      replace hva := hva.mono hh10
      replace hvb := hvb.mono hh10
      replace hvc := hvc.mono hh10
      replace hr31 := hr31.mono hh10
      replace hr33 := hr33.mono hh10
      replace hr35 := hr35.mono hh10
      replace hr38 := hr38.mono hh10
      replace hq42 := hq42.mono hh10
      replace hr42 := hr42.mono hh10
      replace hq49 := hq49.mono hh10
      replace hr49 := hr49.mono hh10
      replace hq56 := hq56.mono hh10
      replace hr56 := hr56.mono hh10
      rw [vB_true (by rfl)] at hr71
      subst hr71
      refine gl_val (ov_pick_t rfl rfl) rfl rfl rfl ?_
      refine gl_val (ov_move rfl) rfl rfl rfl ?_
      refine gl_on rfl rfl rfl ?_
      refine gl_val (ov_move rfl) rfl rfl rfl ?_
      refine gl_on rfl rfl rfl ?_
      refine gl_val (ov_len_us Try.underlying22 rfl hr33) rfl rfl rfl ?_
      refine gl_on rfl rfl rfl ?_
      refine gl_val (ov_eql_i (q := 0) rfl rfl) rfl rfl rfl ?_
      refine gl_cut (ι := Mem) 14 (fun m_ => MLe h10 m_) (fun _ => [(90, .bool true), (7, v31), (8, v33), (10, v38), (73, .bool true)]) (fun _ => []) (fun m_ => m_) ?_ ?_
      · skip
        refine gl_cases ((↑(limbs B).length : Int) = 0) (fun hg => ?_) (fun hg => ?_)
        · skip
          refine gl_on rfl rfl rfl ?_
          refine gl_val (ov_move (v := .bool true) (congrArg some (vB_true hg))) rfl rfl rfl ?_
          refine gl_off rfl rfl rfl rfl rfl rfl ?_
          refine gl_off rfl rfl rfl rfl rfl rfl ?_
          refine gl_off rfl rfl rfl rfl rfl rfl ?_
          refine gl_offu rfl rfl rfl rfl rfl ?_
          refine gl_offu rfl rfl rfl rfl rfl ?_
          refine gl_offu rfl rfl rfl rfl rfl ?_
          refine gl_off rfl rfl rfl rfl rfl rfl ?_
          refine gl_off rfl rfl rfl rfl rfl rfl ?_
          refine gl_offu rfl rfl rfl rfl rfl ?_
          refine gl_offu rfl rfl rfl rfl rfl ?_
          refine gl_offu rfl rfl rfl rfl rfl ?_
          refine gl_off rfl rfl rfl rfl rfl rfl ?_
          refine gl_on rfl rfl rfl ?_
          refine gl_val (ov_pick_t rfl rfl) rfl rfl rfl ?_
          refine gl_nil ?_
          refine gq_cut h10 (MLe.refl _) ⟨?_, rfl, rfl, rfl, rfl, trivial⟩ rfl rfl
          exact rfl
        · skip
          have hB0 : B ≠ 0 := limbs_len_pos.1 (by omega)
          have eq1 : B * C / B = C := Nat.mul_div_cancel_left C (Nat.pos_of_ne_zero hB0)
          refine gl_on rfl rfl rfl ?_
          refine gl_val (ov_move (v := .bool false) (congrArg some (vB_false hg))) rfl rfl rfl ?_
          refine gl_on rfl rfl rfl ?_
          refine gl_val (ov_move rfl) rfl rfl rfl ?_
          refine gl_on rfl rfl rfl ?_
          refine gl_val (OpV.tr (by rw [if_neg hB0]) (ov_eql_i (q := 0) rfl rfl)) rfl rfl rfl ?_
          refine gl_on rfl rfl rfl ?_
          refine gl_val (ov_move rfl) rfl rfl rfl ?_
          refine gl_on rfl rfl rfl ?_
          refine gl_val (ov_move rfl) rfl rfl rfl ?_
          refine gl_on rfl rfl rfl ?_
          refine gl_val (ov_move rfl) rfl rfl rfl ?_
          refine gl_on rfl rfl rfl ?_
          refine gl_call (vs := [_, _]) rfl rfl rfl rfl Try.call20 ⟨rfl, rfl, trivial⟩ (fun w hs => law_same hs hq56 hr35) ?_
          intro v83 h11 hh11 hr83
          replace hva := hva.mono hh11
          replace hvb := hvb.mono hh11
          replace hvc := hvc.mono hh11
          replace hr31 := hr31.mono hh11
          replace hr33 := hr33.mono hh11
          replace hr35 := hr35.mono hh11
          replace hr38 := hr38.mono hh11
          replace hq42 := hq42.mono hh11
          replace hr42 := hr42.mono hh11
          replace hq49 := hq49.mono hh11
          replace hr49 := hr49.mono hh11
          replace hq56 := hq56.mono hh11
          replace hr56 := hr56.mono hh11
          rw [vB_true (by rw [eq1])] at hr83
          subst hr83
          refine gl_on rfl rfl rfl ?_
          refine gl_val (ov_pick_t rfl rfl) rfl rfl rfl ?_
          refine gl_on rfl rfl rfl ?_
          refine gl_val (ov_move rfl) rfl rfl rfl ?_
          refine gl_on rfl rfl rfl ?_
          refine gl_val (ov_move rfl) rfl rfl rfl ?_
          refine gl_on rfl rfl rfl ?_
          refine gl_val (ov_len_us Try.underlying22 rfl hr56) rfl rfl rfl ?_
          refine gl_on rfl rfl rfl ?_
          refine gl_val (OpV.tr (by rw [if_neg hB0, Nat.mul_mod_right, limbs_zero]; rfl) (ov_eql_i (q := 0) rfl rfl)) rfl rfl rfl ?_
          refine gl_on rfl rfl rfl ?_
          refine gl_val (ov_pick_t rfl rfl) rfl rfl rfl ?_
          refine gl_on rfl rfl rfl ?_
          refine gl_val (ov_pick_f rfl rfl) rfl rfl rfl ?_
          refine gl_nil ?_
          refine gq_cut h11 hh11 ⟨?_, rfl, rfl, rfl, rfl, trivial⟩ rfl rfl
          exact rfl
      · skip
        intro m8 hmm8
        replace hva := hva.mono hmm8
        replace hvb := hvb.mono hmm8
        replace hvc := hvc.mono hmm8
        replace hr31 := hr31.mono hmm8
        replace hr33 := hr33.mono hmm8
        replace hr35 := hr35.mono hmm8
        replace hr38 := hr38.mono hmm8
        replace hq42 := hq42.mono hmm8
        replace hr42 := hr42.mono hmm8
        replace hq49 := hq49.mono hmm8
        replace hr49 := hr49.mono hmm8
        replace hq56 := hq56.mono hmm8
        replace hr56 := hr56.mono hmm8
        show GL _ _ _ _ _ _ _ [(90, .bool true), (7, v31), (8, v33), (10, v38), (73, .bool true)] [] m8
        refine gl_val (ov_pick_t rfl rfl) rfl rfl rfl ?_
        refine gl_val (ov_move rfl) rfl rfl rfl ?_
        refine gl_on rfl rfl rfl ?_
        refine gl_val (ov_move rfl) rfl rfl rfl ?_
        refine gl_on rfl rfl rfl ?_
        refine gl_val (ov_move rfl) rfl rfl rfl ?_
        refine gl_on rfl rfl rfl ?_
        refine gl_call (vs := [_, _]) rfl rfl rfl rfl Try.call34 ⟨rfl, rfl, trivial⟩ (fun w hs => nat_gcd hs hr31 hr33 (by omega) (by omega)) ?_
        intro v95 h11 hh11 hr95
        replace hva := hva.mono hh11
        replace hvb := hvb.mono hh11
        replace hvc := hvc.mono hh11
        replace hr31 := hr31.mono hh11
        replace hr33 := hr33.mono hh11
        replace hr35 := hr35.mono hh11
        replace hr38 := hr38.mono hh11
        replace hq42 := hq42.mono hh11
        replace hr42 := hr42.mono hh11
        replace hq49 := hq49.mono hh11
        replace hr49 := hr49.mono hh11
        replace hq56 := hq56.mono hh11
        replace hr56 := hr56.mono hh11
        simp only [val_limbs] at hr95
        refine gl_on rfl rfl rfl ?_
        refine gl_val (ov_move rfl) rfl rfl rfl ?_
        refine gl_on rfl rfl rfl ?_
        refine gl_val (ov_move rfl) rfl rfl rfl ?_
        refine gl_on rfl rfl rfl ?_
        refine gl_call (vs := [_, _]) rfl rfl rfl rfl Try.call35 ⟨rfl, rfl, trivial⟩ (fun w hs => ref_gcd hs hr31 hr33 (by omega) (by omega)) ?_
        intro v98 h12 hh12 hr98
        replace hva := hva.mono hh12
        replace hvb := hvb.mono hh12
        replace hvc := hvc.mono hh12
        replace hr31 := hr31.mono hh12
        replace hr33 := hr33.mono hh12
        replace hr35 := hr35.mono hh12
        replace hr38 := hr38.mono hh12
        replace hq42 := hq42.mono hh12
        replace hr42 := hr42.mono hh12
        replace hq49 := hq49.mono hh12
        replace hr49 := hr49.mono hh12
        replace hq56 := hq56.mono hh12
        replace hr56 := hr56.mono hh12
        replace hr95 := hr95.mono hh12
        refine gl_on rfl rfl rfl ?_
        refine gl_call (vs := [_, _]) rfl rfl rfl rfl Try.call20 ⟨rfl, rfl, trivial⟩ (fun w hs => law_same hs hr95 hr98) ?_
        intro v99 h13 hh13 hr99
        replace hva := hva.mono hh13
        replace hvb := hvb.mono hh13
        replace hvc := hvc.mono hh13
        replace hr31 := hr31.mono hh13
        replace hr33 := hr33.mono hh13
        replace hr35 := hr35.mono hh13
        replace hr38 := hr38.mono hh13
        replace hq42 := hq42.mono hh13
        replace hr42 := hr42.mono hh13
        replace hq49 := hq49.mono hh13
        replace hr49 := hr49.mono hh13
        replace hq56 := hq56.mono hh13
        replace hr56 := hr56.mono hh13
        replace hr95 := hr95.mono hh13
        replace hr98 := hr98.mono hh13
        rw [vB_true (by rfl)] at hr99
        subst hr99
        refine gl_val (ov_pick_t rfl rfl) rfl rfl rfl ?_
        refine gl_val (ov_move rfl) rfl rfl rfl ?_
        refine gl_on rfl rfl rfl ?_
        refine gl_val (ov_move rfl) rfl rfl rfl ?_
        refine gl_on rfl rfl rfl ?_
        refine gl_val (ov_move rfl) rfl rfl rfl ?_
        refine gl_on rfl rfl rfl ?_
        refine gl_call (vs := [_, _]) rfl rfl rfl rfl Try.call34 ⟨rfl, rfl, trivial⟩ (fun w hs => nat_gcd hs hr38 hr33 (by omega) (by omega)) ?_
        intro v104 h14 hh14 hr104
        replace hva := hva.mono hh14
        replace hvb := hvb.mono hh14
        replace hvc := hvc.mono hh14
        replace hr31 := hr31.mono hh14
        replace hr33 := hr33.mono hh14
        replace hr35 := hr35.mono hh14
        replace hr38 := hr38.mono hh14
        replace hq42 := hq42.mono hh14
        replace hr42 := hr42.mono hh14
        replace hq49 := hq49.mono hh14
        replace hr49 := hr49.mono hh14
        replace hq56 := hq56.mono hh14
        replace hr56 := hr56.mono hh14
        replace hr95 := hr95.mono hh14
        replace hr98 := hr98.mono hh14
        simp only [val_limbs] at hr104
        refine gl_on rfl rfl rfl ?_
        refine gl_val (ov_move rfl) rfl rfl rfl ?_
        refine gl_on rfl rfl rfl ?_
        refine gl_val (ov_move rfl) rfl rfl rfl ?_
        refine gl_on rfl rfl rfl ?_
        refine gl_call (vs := [_, _]) rfl rfl rfl rfl Try.call35 ⟨rfl, rfl, trivial⟩ (fun w hs => ref_gcd hs hr38 hr33 (by omega) (by omega)) ?_
        intro v107 h15 hh15 hr107
        replace hva := hva.mono hh15
        replace hvb := hvb.mono hh15
        replace hvc := hvc.mono hh15
        replace hr31 := hr31.mono hh15
        replace hr33 := hr33.mono hh15
        replace hr35 := hr35.mono hh15
        replace hr38 := hr38.mono hh15
        replace hq42 := hq42.mono hh15
        replace hr42 := hr42.mono hh15
        replace hq49 := hq49.mono hh15
        replace hr49 := hr49.mono hh15
        replace hq56 := hq56.mono hh15
        replace hr56 := hr56.mono hh15
        replace hr95 := hr95.mono hh15
        replace hr98 := hr98.mono hh15
        replace hr104 := hr104.mono hh15
        refine gl_on rfl rfl rfl ?_
        refine gl_call (vs := [_, _]) rfl rfl rfl rfl Try.call20 ⟨rfl, rfl, trivial⟩ (fun w hs => law_same hs hr104 hr107) ?_
        intro v108 h16 hh16 hr108
        replace hva := hva.mono hh16
        replace hvb := hvb.mono hh16
        replace hvc := hvc.mono hh16
        replace hr31 := hr31.mono hh16
        replace hr33 := hr33.mono hh16
        replace hr35 := hr35.mono hh16
        replace hr38 := hr38.mono hh16
        replace hq42 := hq42.mono hh16
        replace hr42 := hr42.mono hh16
        replace hq49 := hq49.mono hh16
        replace hr49 := hr49.mono hh16
        replace hq56 := hq56.mono hh16
        replace hr56 := hr56.mono hh16
        replace hr95 := hr95.mono hh16
        replace hr98 := hr98.mono hh16
        replace hr104 := hr104.mono hh16
        replace hr107 := hr107.mono hh16
        rw [vB_true (by rfl)] at hr108
        subst hr108
        refine gl_val (ov_pick_t rfl rfl) rfl rfl rfl ?_
        refine gl_val (ov_move rfl) rfl rfl rfl ?_
        refine gl_on rfl rfl rfl ?_
        refine gl_call (vs := []) rfl rfl rfl rfl Try.call12 trivial (fun w hs => law_awake hs) ?_
        intro v111 h17 hh17 hr111
        replace hva := hva.mono hh17
        replace hvb := hvb.mono hh17
        replace hvc := hvc.mono hh17
        replace hr31 := hr31.mono hh17
        replace hr33 := hr33.mono hh17
        replace hr35 := hr35.mono hh17
        replace hr38 := hr38.mono hh17
        replace hq42 := hq42.mono hh17
        replace hr42 := hr42.mono hh17
        replace hq49 := hq49.mono hh17
        replace hr49 := hr49.mono hh17
        replace hq56 := hq56.mono hh17
        replace hr56 := hr56.mono hh17
        replace hr95 := hr95.mono hh17
        replace hr98 := hr98.mono hh17
        replace hr104 := hr104.mono hh17
        replace hr107 := hr107.mono hh17
        subst hr111
        refine gl_val (ov_pick_t rfl rfl) rfl rfl rfl ?_
        refine gl_val (ov_assign rfl) rfl rfl rfl ?_
        refine gl_nil ?_
        refine gq_keep (e' := [(6, _)]) ⟨rfl, trivial⟩ ?_
        refine gq_then ?_
        refine gc_ret ?_
        refine gq_body1 rfl rfl ?_
        rfl

end Go.Proofs.Ytoionddicppahaa
