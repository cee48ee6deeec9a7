/- Contracts of functions, walked by their text (nat7). -/
import Derived.Test.YtoionddicppahaaW6
namespace Go.Proofs.Ytoionddicppahaa
open Bk Go
set_option linter.unusedVariables false
set_option linter.unusedSimpArgs false

theorem ref_add {w0 : World} {h0 : Mem}  (hs : MLe h0 (mem w0)) {v v' : Value} {X Y : Nat} (hv : Us .u32 h0 v (limbs X)) (hv' : Us .u32 h0 v' (limbs Y)) (hl : (limbs X).length ≤ 1099511627776) (hl' : (limbs Y).length ≤ 1099511627776) :
    Calls Try.prog 38 #[v, v'] w0 (Ret w0 h0 (fun h r => Us .u32 h r (limbs (X + Y)))) := by
  have hlA := limbs_len_mono (Nat.le_add_right X Y)
  have hlB := limbs_len_mono (Nat.le_add_left Y X)
  have hls := limbs_len_add X Y
  refine calls_begin (n := 54) (e := [(0, v), (1, v')]) (vs := [v, v']) Try.func38 rfl rfl (Nat.le_of_ble_eq_true rfl) hs ⟨rfl, rfl, trivial⟩ ?_
  refine gc_seq ?_
  refine gc_region ?_  -- region 0 (line 66)
  refine gl_val (ov_assign rfl) rfl rfl rfl ?_
  refine gl_nil ?_
  refine gq_keep (e' := [(0, _), (1, _)]) ⟨rfl, rfl, trivial⟩ ?_
  refine gq_then ?_
  refine gc_seq ?_
  refine gc_region ?_  -- region 1 (line 67)
  refine gl_val (ov_assign (v := .slice none 0 0) rfl) rfl rfl rfl ?_
  refine gl_addnil (E := 45) (k := .u32) ?_
  refine gl_nil ?_
  refine gq_then ?_
  refine gc_seq ?_
  refine gc_region ?_  -- region 2 (line 68)
  refine gl_val (ov_assign (v := vU .u64 0) rfl) rfl rfl rfl ?_
  refine gl_nil ?_
  refine gq_then ?_
  refine gc_seq ?_
  refine gc_seq ?_
  refine gc_region ?_  -- region 3 (line 69)
  refine gl_val (ov_assign (v := vI (0)) rfl) rfl rfl rfl ?_
  refine gl_nil ?_
  refine gq_then ?_
  refine gc_block ?_
  refine gc_loop (ι := Value × List Nat × Nat × Mem) (fun (x_ : (Value × List Nat × Nat × Mem)) => match x_ with | (vo, ss, c, k1) => MLe h0 k1 ∧ (ss.length ≤ (limbs (X + Y)).length ∧ Fit ss ∧ c ≤ 1 ∧ val ss + 4294967296 ^ ss.length * c = val ((limbs X).take ss.length) + val ((limbs Y).take ss.length))) (fun (x_ : (Value × List Nat × Nat × Mem)) => match x_ with | (vo, ss, c, k1) => [(0, v), (1, v'), (5, vo), (6, vU .u64 c), (7, vI ↑ss.length)]) (fun (x_ : (Value × List Nat × Nat × Mem)) => match x_ with | (vo, ss, c, k1) => [.us 45 .u32 vo ss]) (fun (x_ : (Value × List Nat × Nat × Mem)) => match x_ with | (vo, ss, c, k1) => k1) (fun (x_ : (Value × List Nat × Nat × Mem)) => match x_ with | (vo, ss, c, k1) => (limbs (X + Y)).length - ss.length) (.slice none 0 0, [], 0, h0) ?_ ⟨rfl, rfl, rfl, rfl, rfl, trivial⟩ rfl rfl ?_
  · skip
    refine ⟨MLe.refl _, ?_⟩
    exact ⟨by simp, fun x hx => by simp at hx, by omega, by simp [val]⟩
  · skip
    intro x hx
    obtain ⟨vo, ss, c, k1⟩ := x
    obtain ⟨hmk1, ⟨hss, hfs, hc1, hval⟩⟩ := hx
    replace hv := hv.mono hmk1
    replace hv' := hv'.mono hmk1
    show GC _ _ _ _ _ _ [(0, v), (1, v'), (5, vo), (6, vU .u64 c), (7, vI ↑ss.length)] [.us 45 .u32 vo ss] k1
    have hx1 := hv.get32 ss.length
    have hx2 := hv'.get32 ss.length
    refine gc_seq ?_
    refine gc_seq ?_
    refine gc_region ?_  -- region 4 (line 69)
    refine gl_val (ov_move rfl) rfl rfl rfl ?_
    refine gl_val (ov_move rfl) rfl rfl rfl ?_
    refine gl_val (ov_len_us Try.underlying22 rfl hv) rfl rfl rfl ?_
    refine gl_val (ov_lss_i rfl rfl) rfl rfl rfl ?_
    refine gl_cut (ι := Unit) 6 (fun _ => True) (fun _ => [(17, vB (((↑ss.length : Int) < ↑(limbs X).length) ∨ ((↑ss.length : Int) < ↑(limbs Y).length))), (0, v), (1, v'), (5, vo), (6, vU .u64 c), (7, vI ↑ss.length)]) (fun _ => [.us 45 .u32 vo ss]) (fun _ => k1) ?_ ?_
    · skip
      refine gl_cases ((↑ss.length : Int) < ↑(limbs X).length) (fun hg => ?_) (fun hg => ?_)
      · skip
        refine gl_val (ov_move (v := .bool true) (congrArg some (vB_true hg))) rfl rfl rfl ?_
        refine gl_off rfl rfl rfl rfl rfl rfl ?_
        refine gl_off rfl rfl rfl rfl rfl rfl ?_
        refine gl_off rfl rfl rfl rfl rfl rfl ?_
        refine gl_off rfl rfl rfl rfl rfl rfl ?_
        refine gl_val (ov_pick_t rfl rfl) rfl rfl rfl ?_
        refine gl_nil ?_
        refine gq_cut () trivial ⟨?_, rfl, rfl, rfl, rfl, rfl, trivial⟩ rfl rfl
        exact congrArg some (vB_or_t hg)
      · skip
        refine gl_val (ov_move (v := .bool false) (congrArg some (vB_false hg))) rfl rfl rfl ?_
        refine gl_on rfl rfl rfl ?_
        refine gl_val (ov_move rfl) rfl rfl rfl ?_
        refine gl_on rfl rfl rfl ?_
        refine gl_val (ov_move rfl) rfl rfl rfl ?_
        refine gl_on rfl rfl rfl ?_
        refine gl_val (ov_len_us Try.underlying22 rfl hv') rfl rfl rfl ?_
        refine gl_on rfl rfl rfl ?_
        refine gl_val (ov_lss_i rfl rfl) rfl rfl rfl ?_
        refine gl_val (ov_pick_f rfl rfl) rfl rfl rfl ?_
        refine gl_nil ?_
        refine gq_cut () trivial ⟨?_, rfl, rfl, rfl, rfl, rfl, trivial⟩ rfl rfl
        exact congrArg some (vB_or_f hg)
    · skip
      intro _ _
      show GL _ _ _ _ _ _ _ [(17, vB (((↑ss.length : Int) < ↑(limbs X).length) ∨ ((↑ss.length : Int) < ↑(limbs Y).length))), (0, v), (1, v'), (5, vo), (6, vU .u64 c), (7, vI ↑ss.length)] [.us 45 .u32 vo ss] k1
      refine gl_cut (ι := Unit) 4 (fun _ => True) (fun _ => [(21, vB (((↑ss.length : Int) < ↑(limbs X).length ∨ (↑ss.length : Int) < ↑(limbs Y).length) ∨ (c ≠ 0))), (0, v), (1, v'), (5, vo), (6, vU .u64 c), (7, vI ↑ss.length)]) (fun _ => [.us 45 .u32 vo ss]) (fun _ => k1) ?_ ?_
      · skip
        refine gl_cases ((↑ss.length : Int) < ↑(limbs X).length ∨ (↑ss.length : Int) < ↑(limbs Y).length) (fun hg => ?_) (fun hg => ?_)
        · skip
          refine gl_val (ov_move (v := .bool true) (congrArg some (vB_true hg))) rfl rfl rfl ?_
          refine gl_off rfl rfl rfl rfl rfl rfl ?_
          refine gl_off rfl rfl rfl rfl rfl rfl ?_
          refine gl_val (ov_pick_t rfl rfl) rfl rfl rfl ?_
          refine gl_nil ?_
          refine gq_cut () trivial ⟨?_, rfl, rfl, rfl, rfl, rfl, trivial⟩ rfl rfl
          exact congrArg some (vB_or_t hg)
        · skip
          refine gl_val (ov_move (v := .bool false) (congrArg some (vB_false hg))) rfl rfl rfl ?_
          refine gl_on rfl rfl rfl ?_
          refine gl_val (ov_move rfl) rfl rfl rfl ?_
          refine gl_on rfl rfl rfl ?_
          refine gl_val (ov_neq_u (k := .u64) (q := 0) rfl rfl) rfl rfl rfl ?_
          refine gl_val (ov_pick_f rfl rfl) rfl rfl rfl ?_
          refine gl_nil ?_
          refine gq_cut () trivial ⟨?_, rfl, rfl, rfl, rfl, rfl, trivial⟩ rfl rfl
          exact congrArg some (vB_or_f hg)
      · skip
        intro _ _
        show GL _ _ _ _ _ _ _ [(21, vB (((↑ss.length : Int) < ↑(limbs X).length ∨ (↑ss.length : Int) < ↑(limbs Y).length) ∨ (c ≠ 0))), (0, v), (1, v'), (5, vo), (6, vU .u64 c), (7, vI ↑ss.length)] [.us 45 .u32 vo ss] k1
        refine gl_nil ?_
        refine gq_then ?_
        refine gc_cond rfl (fun hc21 => ?_) (fun hc21 => ?_)
        · skip
          refine gc_keep (e' := [(0, _), (1, _), (5, _), (6, _), (7, _)]) ⟨rfl, rfl, rfl, rfl, rfl, trivial⟩ ?_
          refine gc_skip ?_
          refine gq_then ?_
          refine gc_seq ?_
          refine gc_block ?_
          refine gc_cut (ι := Unit) (fun (_u : (Unit)) => True) (fun (_u : (Unit)) => [(0, v), (1, v'), (5, vo), (6, vU .u64 (c + (limbs X).getD ss.length 0)), (7, vI ↑ss.length)]) (fun (_u : (Unit)) => [.us 45 .u32 vo ss]) (fun (_u : (Unit)) => k1) ?_ ?_
          · skip
            refine gc_seq ?_
            refine gc_region ?_  -- region 6 (line 70)
            refine gl_val (ov_move rfl) rfl rfl rfl ?_
            refine gl_val (ov_move rfl) rfl rfl rfl ?_
            refine gl_val (ov_len_us Try.underlying22 rfl hv) rfl rfl rfl ?_
            refine gl_val (ov_lss_i rfl rfl) rfl rfl rfl ?_
            refine gl_nil ?_
            refine gq_keep (e' := [(0, _), (1, _), (5, _), (6, _), (7, _), (27, _)]) ⟨rfl, rfl, rfl, rfl, rfl, rfl, trivial⟩ ?_
            refine gq_then ?_
            refine gc_cond rfl (fun hc27 => ?_) (fun hc27 => ?_)
            · skip
              refine gc_keep (e' := [(0, _), (1, _), (5, _), (6, _), (7, _)]) ⟨rfl, rfl, rfl, rfl, rfl, trivial⟩ ?_
              refine gc_region ?_  -- region 7 (line 71)
              refine gl_val (ov_move rfl) rfl rfl rfl ?_
              refine gl_val (ov_move rfl) rfl rfl rfl ?_
              refine gl_val (ov_move rfl) rfl rfl rfl ?_
              refine gl_val (ov_index_us (ss.length) Try.underlying22 Try.sizeOf45 rfl rfl hv (by omega) (by omega)) rfl rfl rfl ?_
              refine gl_val (ov_load_us Try.isAgg45 rfl hv (by omega)) rfl rfl rfl ?_
              refine gl_val (ov_conv_u (k := .u32) (k' := .u64) (W := 18446744073709551616) Try.underlying45 Try.underlying23 rfl rfl rfl (by omega)) rfl rfl rfl ?_
              refine gl_val (ov_add_u (k := .u64) (W := 18446744073709551616) rfl rfl rfl rfl (by omega)) rfl rfl rfl ?_
              refine gl_val (ov_assign rfl) rfl rfl rfl ?_
              refine gl_nil ?_
              refine gq_cut (()) ?_ ⟨?_, ?_, ?_, ?_, ?_, trivial⟩ ?_ rfl
              · skip
                trivial
              · exact rfl
              · exact rfl
              · exact rfl
              · exact rfl
              · exact rfl
              · exact rfl
            · skip
              refine gc_keep (e' := [(0, _), (1, _), (5, _), (6, _), (7, _)]) ⟨rfl, rfl, rfl, rfl, rfl, trivial⟩ ?_
              refine gc_skip ?_
              refine gq_cut (()) ?_ ⟨?_, ?_, ?_, ?_, ?_, trivial⟩ ?_ rfl
              · skip
                trivial
              · exact rfl
              · exact rfl
              · exact rfl
              · exact congrArg some (congrArg (vU .u64) (by rw [getD_out (xs := limbs X) (by omega)]; omega))
              · exact rfl
              · exact rfl
          · skip
            intro _u hx
            obtain hcut := hx
            show GC _ _ _ _ _ _ [(0, v), (1, v'), (5, vo), (6, vU .u64 (c + (limbs X).getD ss.length 0)), (7, vI ↑ss.length)] [.us 45 .u32 vo ss] k1
            refine gc_cut (ι := Unit) (fun (_u : (Unit)) => True) (fun (_u : (Unit)) => [(0, v), (1, v'), (5, vo), (6, vU .u64 (c + (limbs X).getD ss.length 0 + (limbs Y).getD ss.length 0)), (7, vI ↑ss.length)]) (fun (_u : (Unit)) => [.us 45 .u32 vo ss]) (fun (_u : (Unit)) => k1) ?_ ?_
            · skip
              refine gc_seq ?_
              refine gc_region ?_  -- region 8 (line 73)
              refine gl_val (ov_move rfl) rfl rfl rfl ?_
              refine gl_val (ov_move rfl) rfl rfl rfl ?_
              refine gl_val (ov_len_us Try.underlying22 rfl hv') rfl rfl rfl ?_
              refine gl_val (ov_lss_i rfl rfl) rfl rfl rfl ?_
              refine gl_nil ?_
              refine gq_keep (e' := [(0, _), (1, _), (5, _), (6, _), (7, _), (38, _)]) ⟨rfl, rfl, rfl, rfl, rfl, rfl, trivial⟩ ?_
              refine gq_then ?_
              refine gc_cond rfl (fun hc38 => ?_) (fun hc38 => ?_)
              · skip
                refine gc_keep (e' := [(0, _), (1, _), (5, _), (6, _), (7, _)]) ⟨rfl, rfl, rfl, rfl, rfl, trivial⟩ ?_
                refine gc_region ?_  -- region 9 (line 74)
                refine gl_val (ov_move rfl) rfl rfl rfl ?_
                refine gl_val (ov_move rfl) rfl rfl rfl ?_
                refine gl_val (ov_move rfl) rfl rfl rfl ?_
                refine gl_val (ov_index_us (ss.length) Try.underlying22 Try.sizeOf45 rfl rfl hv' (by omega) (by omega)) rfl rfl rfl ?_
                refine gl_val (ov_load_us Try.isAgg45 rfl hv' (by omega)) rfl rfl rfl ?_
                refine gl_val (ov_conv_u (k := .u32) (k' := .u64) (W := 18446744073709551616) Try.underlying45 Try.underlying23 rfl rfl rfl (by omega)) rfl rfl rfl ?_
                refine gl_val (ov_add_u (k := .u64) (W := 18446744073709551616) rfl rfl rfl rfl (by omega)) rfl rfl rfl ?_
                refine gl_val (ov_assign rfl) rfl rfl rfl ?_
                refine gl_nil ?_
                refine gq_cut (()) ?_ ⟨?_, ?_, ?_, ?_, ?_, trivial⟩ ?_ rfl
                · skip
                  trivial
                · exact rfl
                · exact rfl
                · exact rfl
                · exact rfl
                · exact rfl
                · exact rfl
              · skip
                refine gc_keep (e' := [(0, _), (1, _), (5, _), (6, _), (7, _)]) ⟨rfl, rfl, rfl, rfl, rfl, trivial⟩ ?_
                refine gc_skip ?_
                refine gq_cut (()) ?_ ⟨?_, ?_, ?_, ?_, ?_, trivial⟩ ?_ rfl
                · skip
                  trivial
                · exact rfl
                · exact rfl
                · exact rfl
                · exact congrArg some (congrArg (vU .u64) (by rw [getD_out (xs := limbs Y) (by omega)]; omega))
                · exact rfl
                · exact rfl
            · skip
              intro _u hx
              obtain hcut := hx
              show GC _ _ _ _ _ _ [(0, v), (1, v'), (5, vo), (6, vU .u64 (c + (limbs X).getD ss.length 0 + (limbs Y).getD ss.length 0)), (7, vI ↑ss.length)] [.us 45 .u32 vo ss] k1
              refine gc_seq ?_
              refine gc_region ?_  -- region 10 (line 76)
              refine gl_val (ov_move rfl) rfl rfl rfl ?_
              refine gl_val (ov_move rfl) rfl rfl rfl ?_
              refine gl_val (ov_conv_uu (k := .u64) (k' := .u32) (W := 4294967296) Try.underlying23 Try.underlying45 rfl rfl rfl) rfl rfl rfl ?_
              refine gl_newop (new_build1 (kd := .u32) Try.underlying22 info45 rfl rfl rfl) rfl rfl rfl ?_
              intro v49 r49 hr49
              obtain rfl := hr49
              refine gl_freeze_us0 (by intro z hz; simp only [List.mem_singleton] at hz; subst hz; simp only [ub]; omega) ?_
              intro h1 hh1 hch
              replace hv := hv.mono hh1
              replace hv' := hv'.mono hh1
              refine gl_repop (A := []) (rep_append_us (kd := .u32) (bytes := 4) Try.underlying22 info45 rfl rfl rfl rfl rfl hch (by simp only [List.length_singleton]; omega) (by simp only [List.length_singleton]; omega)) rfl rfl rfl ?_
              intro v50 r50 hr50
              obtain rfl := hr50
              refine gl_val (ov_assign rfl) rfl rfl rfl ?_
              refine gl_nil ?_
              refine gq_keep (e' := [(0, _), (1, _), (6, _), (7, _), (5, _)]) ⟨rfl, rfl, rfl, rfl, rfl, trivial⟩ ?_
              refine gq_then ?_
              refine gc_region ?_  -- region 11 (line 77)
              refine gl_val (ov_move rfl) rfl rfl rfl ?_
              refine gl_val (ov_shr_u (k := .u64) (s := 32) (yk := .u64) rfl rfl rfl (by simp only [ub]; omega)) rfl rfl rfl ?_
              refine gl_val (ov_assign rfl) rfl rfl rfl ?_
              refine gl_nil ?_
              refine gq_in ?_
              refine gq_keep (e' := [(0, _), (1, _), (7, _), (5, _), (6, _)]) ⟨rfl, rfl, rfl, rfl, rfl, trivial⟩ ?_
              refine gq_then ?_
              refine gc_region ?_  -- region 5 (line 69)
              refine gl_val (ov_move rfl) rfl rfl rfl ?_
              refine gl_val (ov_add_i (q := 1) rfl rfl (by omega) (by omega)) rfl rfl rfl ?_
              refine gl_val (ov_assign rfl) rfl rfl rfl ?_
              refine gl_nil ?_
              generalize hXi : (limbs X).getD ss.length 0 = p at *
              generalize hYi : (limbs Y).getD ss.length 0 = q at *
              have hgrow : ss.length < (limbs (X + Y)).length := by
                rcases hc21 with (h | h) | h
                · omega
                · omega
                · by_cases h1 : ss.length < (limbs X).length
                  · omega
                  · by_cases h2 : ss.length < (limbs Y).length
                    · omega
                    · rw [val_take_all (by omega), val_take_all (by omega), val_limbs, val_limbs] at hval
                      refine limbs_len_gt ?_
                      have := Nat.le_mul_of_pos_right (4294967296 ^ ss.length) (Nat.pos_of_ne_zero h)
                      omega
              refine gq_round (v50, ss ++ [(c + p + q) % 4294967296], (c + p + q) / 2 ^ 32, h1) ?_ ?_ ⟨?_, ?_, ?_, ?_, ?_, trivial⟩ ?_ rfl
              · skip
                refine ⟨(hmk1.trans hh1), ?_⟩
                refine ⟨by simp; omega, fit_append hfs (fit_one (by omega)), by omega, ?_⟩
                rw [List.length_append, List.length_singleton, val_take_getD, val_take_getD, hXi, hYi, val_snoc, Nat.pow_succ]
                have e := Nat.div_add_mod (c + p + q) 4294967296
                rw [show (2 : Nat) ^ 32 = 4294967296 from rfl]
                generalize (c + p + q) / 4294967296 = s at *
                generalize (c + p + q) % 4294967296 = r at *
                grind
              · skip
                dsimp only
                simp; omega
              · exact rfl
              · exact rfl
              · exact rfl
              · exact rfl
              · exact congrArg some (congrArg vI (by simp))
              · exact rfl
        · skip
          refine gc_keep (e' := [(5, _)]) ⟨rfl, trivial⟩ ?_
          refine gc_exit ?_
          refine gx_then ?_
          refine gx_then ?_
          refine gx_here ?_
          refine gq_then ?_
          refine gc_seq ?_
          refine gc_region ?_  -- region 12 (line 79)
          refine gl_val (ov_move rfl) rfl rfl rfl ?_
          refine gl_freeze_us0 (by exact hfs) ?_
          intro h1 hh1 ho
          replace hv := hv.mono hh1
          replace hv' := hv'.mono hh1
          refine gl_val (ov_assign rfl) rfl rfl rfl ?_
          refine gl_nil ?_
          refine gq_keep (e' := [(4, _)]) ⟨rfl, trivial⟩ ?_
          refine gq_then ?_
          refine gc_ret ?_
          refine gq_body1 rfl rfl ?_
          have h1 : ¬ ss.length < (limbs X).length := fun h => hc21 (.inl (.inl (by omega)))
          have h2 : ¬ ss.length < (limbs Y).length := fun h => hc21 (.inl (.inr (by omega)))
          have h3 : c = 0 := Classical.byContradiction fun h => hc21 (.inr h)
          rw [val_take_all (by omega), val_take_all (by omega), val_limbs, val_limbs, h3] at hval
          have e : val ss = X + Y := by omega
          rw [← e, limbs_eq hfs (by rw [e]; exact hss)]
          exact ho

theorem ref_minus {w0 : World} {h0 : Mem}  (hs : MLe h0 (mem w0)) {v v' : Value} {X Y : Nat} (hv : Us .u32 h0 v (limbs X)) (hv' : Us .u32 h0 v' (limbs Y)) (hle : Y ≤ X) (hl : (limbs X).length ≤ 1099511627776) :
    Calls Try.prog 53 #[v, v'] w0 (Ret w0 h0 (fun h r => Us .u32 h r (limbs (X - Y)))) := by
  have hlm := limbs_len_mono hle
  refine calls_begin (n := 50) (e := [(0, v), (1, v')]) (vs := [v, v']) Try.func53 rfl rfl (Nat.le_of_ble_eq_true rfl) hs ⟨rfl, rfl, trivial⟩ ?_
  refine gc_seq ?_
  refine gc_region ?_  -- region 0 (line 83)
  refine gl_val (ov_assign rfl) rfl rfl rfl ?_
  refine gl_nil ?_
  refine gq_keep (e' := [(0, _), (1, _)]) ⟨rfl, rfl, trivial⟩ ?_
  refine gq_then ?_
  refine gc_seq ?_
  refine gc_region ?_  -- region 1 (line 84)
  refine gl_val (ov_move rfl) rfl rfl rfl ?_
  refine gl_val (ov_len_us Try.underlying22 rfl hv) rfl rfl rfl ?_
  refine gl_make_us (kd := .u32) (by' := 4) _ Try.underlying22 info45 rfl rfl rfl rfl rfl rfl rfl (by omega) (by omega) rfl ?_
  intro v12
  refine gl_val (ov_assign rfl) rfl rfl rfl ?_
  refine gl_nil ?_
  refine gq_keep (e' := [(0, _), (1, _), (5, _)]) ⟨rfl, rfl, rfl, trivial⟩ ?_
  refine gq_then ?_
  refine gc_seq ?_
  refine gc_region ?_  -- region 2 (line 85)
  refine gl_val (ov_assign (v := vU .u64 0) rfl) rfl rfl rfl ?_
  refine gl_nil ?_
  refine gq_then ?_
  refine gc_seq ?_
  refine gc_seq ?_
  refine gc_region ?_  -- region 3 (line 86)
  refine gl_val (ov_assign (v := vI (0)) rfl) rfl rfl rfl ?_
  refine gl_nil ?_
  refine gq_then ?_
  refine gc_block ?_
  refine gc_loop (ι := List Nat × Nat) (fun (x_ : (List Nat × Nat)) => match x_ with | (ss, c) => ss.length ≤ (limbs X).length ∧ Fit ss ∧ c ≤ 1 ∧ val ss + val ((limbs Y).take ss.length) = val ((limbs X).take ss.length) + 4294967296 ^ ss.length * c) (fun (x_ : (List Nat × Nat)) => match x_ with | (ss, c) => [(0, v), (1, v'), (5, v12), (6, vU .u64 c), (7, vI ↑ss.length)]) (fun (x_ : (List Nat × Nat)) => match x_ with | (ss, c) => [.us 45 .u32 v12 (fillTo ss (limbs X).length)]) (fun (x_ : (List Nat × Nat)) => match x_ with | (ss, c) => h0) (fun (x_ : (List Nat × Nat)) => match x_ with | (ss, c) => (limbs X).length - ss.length) ([], 0) ?_ ⟨rfl, rfl, rfl, rfl, rfl, trivial⟩ rfl rfl ?_
  · skip
    exact ⟨by simp, fun x hx => by simp at hx, by omega, by simp [val]⟩
  · skip
    intro x hx
    obtain ⟨ss, c⟩ := x
    obtain ⟨hss, hfs, hc1, hval⟩ := hx
    show GC _ _ _ _ _ _ [(0, v), (1, v'), (5, v12), (6, vU .u64 c), (7, vI ↑ss.length)] [.us 45 .u32 v12 (fillTo ss (limbs X).length)] h0
    have hx1 := hv.get32 ss.length
    have hx2 := hv'.get32 ss.length
    refine gc_seq ?_
    refine gc_seq ?_
    refine gc_region ?_  -- region 4 (line 86)
    refine gl_val (ov_move rfl) rfl rfl rfl ?_
    refine gl_val (ov_move rfl) rfl rfl rfl ?_
    refine gl_val (ov_len_us Try.underlying22 rfl hv) rfl rfl rfl ?_
    refine gl_val (ov_lss_i rfl rfl) rfl rfl rfl ?_
    refine gl_nil ?_
    refine gq_keep (e' := [(0, _), (1, _), (5, _), (6, _), (7, _), (16, _)]) ⟨rfl, rfl, rfl, rfl, rfl, rfl, trivial⟩ ?_
    refine gq_then ?_
    refine gc_cond rfl (fun hc16 => ?_) (fun hc16 => ?_)
    · skip
      refine gc_keep (e' := [(0, _), (1, _), (5, _), (6, _), (7, _)]) ⟨rfl, rfl, rfl, rfl, rfl, trivial⟩ ?_
      refine gc_skip ?_
      refine gq_then ?_
      refine gc_seq ?_
      refine gc_block ?_
      refine gc_seq ?_
      refine gc_region ?_  -- region 6 (line 87)
      refine gl_val (ov_move rfl) rfl rfl rfl ?_
      refine gl_val (ov_assign rfl) rfl rfl rfl ?_
      refine gl_nil ?_
      refine gq_keep (e' := [(0, _), (1, _), (5, _), (7, _), (8, _)]) ⟨rfl, rfl, rfl, rfl, rfl, trivial⟩ ?_
      refine gq_then ?_
      refine gc_cut (ι := Unit) (fun (_u : (Unit)) => True) (fun (_u : (Unit)) => [(0, v), (1, v'), (5, v12), (7, vI ↑ss.length), (8, vU .u64 (c + (limbs Y).getD ss.length 0))]) (fun (_u : (Unit)) => [.us 45 .u32 v12 (fillTo ss (limbs X).length)]) (fun (_u : (Unit)) => h0) ?_ ?_
      · skip
        refine gc_seq ?_
        refine gc_region ?_  -- region 7 (line 88)
        refine gl_val (ov_move rfl) rfl rfl rfl ?_
        refine gl_val (ov_move rfl) rfl rfl rfl ?_
        refine gl_val (ov_len_us Try.underlying22 rfl hv') rfl rfl rfl ?_
        refine gl_val (ov_lss_i rfl rfl) rfl rfl rfl ?_
        refine gl_nil ?_
        refine gq_keep (e' := [(0, _), (1, _), (5, _), (7, _), (8, _), (23, _)]) ⟨rfl, rfl, rfl, rfl, rfl, rfl, trivial⟩ ?_
        refine gq_then ?_
        refine gc_cond rfl (fun hc23 => ?_) (fun hc23 => ?_)
        · skip
          refine gc_keep (e' := [(0, _), (1, _), (5, _), (7, _), (8, _)]) ⟨rfl, rfl, rfl, rfl, rfl, trivial⟩ ?_
          refine gc_region ?_  -- region 8 (line 89)
          refine gl_val (ov_move rfl) rfl rfl rfl ?_
          refine gl_val (ov_move rfl) rfl rfl rfl ?_
          refine gl_val (ov_move rfl) rfl rfl rfl ?_
          refine gl_val (ov_index_us (ss.length) Try.underlying22 Try.sizeOf45 rfl rfl hv' (by omega) (by omega)) rfl rfl rfl ?_
          refine gl_val (ov_load_us Try.isAgg45 rfl hv' (by omega)) rfl rfl rfl ?_
          refine gl_val (ov_conv_u (k := .u32) (k' := .u64) (W := 18446744073709551616) Try.underlying45 Try.underlying23 rfl rfl rfl (by omega)) rfl rfl rfl ?_
          refine gl_val (ov_add_u (k := .u64) (W := 18446744073709551616) rfl rfl rfl rfl (by omega)) rfl rfl rfl ?_
          refine gl_val (ov_assign rfl) rfl rfl rfl ?_
          refine gl_nil ?_
          refine gq_cut (()) ?_ ⟨?_, ?_, ?_, ?_, ?_, trivial⟩ ?_ rfl
          · skip
            trivial
          · exact rfl
          · exact rfl
          · exact rfl
          · exact rfl
          · exact rfl
          · exact rfl
        · skip
          refine gc_keep (e' := [(0, _), (1, _), (5, _), (7, _), (8, _)]) ⟨rfl, rfl, rfl, rfl, rfl, trivial⟩ ?_
          refine gc_skip ?_
          refine gq_cut (()) ?_ ⟨?_, ?_, ?_, ?_, ?_, trivial⟩ ?_ rfl
          · skip
            trivial
          · exact rfl
          · exact rfl
          · exact rfl
          · exact rfl
          · exact congrArg some (congrArg (vU .u64) (by rw [getD_out (xs := limbs Y) (by omega)]; omega))
          · exact rfl
      · skip
        intro _u hx
        obtain hcut := hx
        show GC _ _ _ _ _ _ [(0, v), (1, v'), (5, v12), (7, vI ↑ss.length), (8, vU .u64 (c + (limbs Y).getD ss.length 0))] [.us 45 .u32 v12 (fillTo ss (limbs X).length)] h0
        refine gc_seq ?_
        refine gc_region ?_  -- region 9 (line 91)
        refine gl_val (ov_move rfl) rfl rfl rfl ?_
        refine gl_val (ov_move rfl) rfl rfl rfl ?_
        refine gl_val (ov_index_us (ss.length) Try.underlying22 Try.sizeOf45 rfl rfl hv (by omega) (by omega)) rfl rfl rfl ?_
        refine gl_val (ov_load_us Try.isAgg45 rfl hv (by omega)) rfl rfl rfl ?_
        refine gl_val (ov_conv_u (k := .u32) (k' := .u64) (W := 18446744073709551616) Try.underlying45 Try.underlying23 rfl rfl rfl (by omega)) rfl rfl rfl ?_
        refine gl_val (ov_assign rfl) rfl rfl rfl ?_
        refine gl_nil ?_
        refine gq_keep (e' := [(0, _), (1, _), (5, _), (7, _), (8, _), (9, _)]) ⟨rfl, rfl, rfl, rfl, rfl, rfl, trivial⟩ ?_
        refine gq_then ?_
        refine gc_seq ?_
        refine gc_region ?_  -- region 10 (line 92)
        refine gl_val (ov_assign (v := vU .u64 0) rfl) rfl rfl rfl ?_
        refine gl_nil ?_
        refine gq_then ?_
        refine gc_cut (ι := Nat) (fun (d : (Nat)) => d ≤ 1 ∧ c + (limbs Y).getD ss.length 0 ≤ (limbs X).getD ss.length 0 + 4294967296 * d ∧ (limbs X).getD ss.length 0 + 4294967296 * d < c + (limbs Y).getD ss.length 0 + 4294967296) (fun (d : (Nat)) => [(0, v), (1, v'), (5, v12), (6, vU .u64 d), (7, vI ↑ss.length), (8, vU .u64 (c + (limbs Y).getD ss.length 0)), (9, vU .u64 ((limbs X).getD ss.length 0 + 4294967296 * d))]) (fun (d : (Nat)) => [.us 45 .u32 v12 (fillTo ss (limbs X).length)]) (fun (d : (Nat)) => h0) ?_ ?_
        · skip
          refine gc_seq ?_
          refine gc_region ?_  -- region 11 (line 93)
          refine gl_val (ov_move rfl) rfl rfl rfl ?_
          refine gl_val (ov_move rfl) rfl rfl rfl ?_
          refine gl_val (ov_lss_u (k := .u64) rfl rfl) rfl rfl rfl ?_
          refine gl_nil ?_
          refine gq_keep (e' := [(0, _), (1, _), (5, _), (7, _), (8, _), (9, _), (6, _), (38, _)]) ⟨rfl, rfl, rfl, rfl, rfl, rfl, rfl, rfl, trivial⟩ ?_
          refine gq_then ?_
          refine gc_cond rfl (fun hc38 => ?_) (fun hc38 => ?_)
          · skip
            refine gc_keep (e' := [(0, _), (1, _), (5, _), (7, _), (8, _), (9, _)]) ⟨rfl, rfl, rfl, rfl, rfl, rfl, trivial⟩ ?_
            refine gc_seq ?_
            refine gc_region ?_  -- region 12 (line 94)
            refine gl_val (ov_move rfl) rfl rfl rfl ?_
            refine gl_val (ov_add_u (k := .u64) (q := 4294967296) (W := 18446744073709551616) rfl rfl rfl rfl (by omega)) rfl rfl rfl ?_
            refine gl_val (ov_assign rfl) rfl rfl rfl ?_
            refine gl_nil ?_
            refine gq_keep (e' := [(0, _), (1, _), (5, _), (7, _), (8, _), (9, _)]) ⟨rfl, rfl, rfl, rfl, rfl, rfl, trivial⟩ ?_
            refine gq_then ?_
            refine gc_region ?_  -- region 13 (line 95)
            refine gl_val (ov_assign (v := vU .u64 1) rfl) rfl rfl rfl ?_
            refine gl_nil ?_
            refine gq_cut (1) ?_ ⟨?_, ?_, ?_, ?_, ?_, ?_, ?_, trivial⟩ ?_ rfl
            · skip
              exact ⟨by omega, by omega, by omega⟩
            · exact rfl
            · exact rfl
            · exact rfl
            · exact rfl
            · exact rfl
            · exact rfl
            · exact rfl
            · exact rfl
          · skip
            refine gc_keep (e' := [(0, _), (1, _), (5, _), (7, _), (8, _), (9, _), (6, _)]) ⟨rfl, rfl, rfl, rfl, rfl, rfl, rfl, trivial⟩ ?_
            refine gc_skip ?_
            refine gq_cut (0) ?_ ⟨?_, ?_, ?_, ?_, ?_, ?_, ?_, trivial⟩ ?_ rfl
            · skip
              exact ⟨by omega, by omega, by omega⟩
            · exact rfl
            · exact rfl
            · exact rfl
            · exact rfl
            · exact rfl
            · exact rfl
            · exact rfl
            · exact rfl
        · skip
          intro d hx
          obtain ⟨hd1, hd2, hd3⟩ := hx
          show GC _ _ _ _ _ _ [(0, v), (1, v'), (5, v12), (6, vU .u64 d), (7, vI ↑ss.length), (8, vU .u64 (c + (limbs Y).getD ss.length 0)), (9, vU .u64 ((limbs X).getD ss.length 0 + 4294967296 * d))] [.us 45 .u32 v12 (fillTo ss (limbs X).length)] h0
          refine gc_region ?_  -- region 14 (line 97)
          refine gl_val (ov_move rfl) rfl rfl rfl ?_
          refine gl_val (ov_move rfl) rfl rfl rfl ?_
          refine gl_val (ov_move rfl) rfl rfl rfl ?_
          refine gl_val (ov_move rfl) rfl rfl rfl ?_
          refine gl_val (ov_sub_u (k := .u64) (W := 18446744073709551616) rfl rfl rfl rfl (by omega) (by omega)) rfl rfl rfl ?_
          refine gl_val (ov_conv_u (k := .u64) (k' := .u32) (W := 4294967296) Try.underlying23 Try.underlying45 rfl rfl rfl (by omega)) rfl rfl rfl ?_
          refine gl_val (ov_index_ous (A := []) (ss.length) Try.underlying22 Try.sizeOf45 rfl rfl (by omega) (by rw [length_fillTo (by omega)]; omega)) rfl rfl rfl ?_
          refine gl_store_ous0 Try.sizeOf45 rfl rfl (by rw [length_fillTo (by omega)]; omega) ?_
          refine gl_nil ?_
          refine gq_in ?_
          refine gq_keep (e' := [(0, _), (1, _), (5, _), (6, _), (7, _)]) ⟨rfl, rfl, rfl, rfl, rfl, trivial⟩ ?_
          refine gq_then ?_
          refine gc_region ?_  -- region 5 (line 86)
          refine gl_val (ov_move rfl) rfl rfl rfl ?_
          refine gl_val (ov_add_i (q := 1) rfl rfl (by omega) (by omega)) rfl rfl rfl ?_
          refine gl_val (ov_assign rfl) rfl rfl rfl ?_
          refine gl_nil ?_
          generalize hXi : (limbs X).getD ss.length 0 = p at *
          generalize hYi : (limbs Y).getD ss.length 0 = q at *
          refine gq_round (ss ++ [p + 4294967296 * d - (c + q)], d) ?_ ?_ ⟨?_, ?_, ?_, ?_, ?_, trivial⟩ ?_ rfl
          · skip
            refine ⟨by simp; omega, fit_append hfs (fit_one (by omega)), hd1, ?_⟩
            rw [List.length_append, List.length_singleton, val_take_getD, val_take_getD, hXi, hYi, val_snoc, Nat.pow_succ]
            have e : p + 4294967296 * d - (c + q) + c + q = p + 4294967296 * d := by omega
            generalize p + 4294967296 * d - (c + q) = r at *
            grind
          · skip
            dsimp only
            simp; omega
          · exact rfl
          · exact rfl
          · exact rfl
          · exact rfl
          · exact congrArg some (congrArg vI (by simp))
          · skip
            try dsimp only [List.nil_append, List.cons_append]
            rw [fillTo_set (by omega)]
    · skip
      refine gc_keep (e' := [(5, _)]) ⟨rfl, trivial⟩ ?_
      refine gc_exit ?_
      refine gx_then ?_
      refine gx_then ?_
      refine gx_here ?_
      refine gq_then ?_
      refine gc_seq ?_
      refine gc_region ?_  -- region 15 (line 99)
      refine gl_val (ov_move rfl) rfl rfl rfl ?_
      have hk : ss.length = (limbs X).length := by omega
      rw [fillTo_full hk]
      refine gl_freeze_us0 (by exact hfs) ?_
      intro h1 hh1 ho
      replace hv := hv.mono hh1
      replace hv' := hv'.mono hh1
      refine gl_call (vs := [_]) rfl rfl rfl rfl Try.call39 ⟨rfl, trivial⟩ (fun w hs => ref_trim hs ho (by omega)) ?_
      intro v49 h2 hh2 hr49
      replace hv := hv.mono hh2
      replace hv' := hv'.mono hh2
      replace ho := ho.mono hh2
      refine gl_val (ov_assign rfl) rfl rfl rfl ?_
      refine gl_nil ?_
      refine gq_keep (e' := [(4, _)]) ⟨rfl, trivial⟩ ?_
      refine gq_then ?_
      refine gc_ret ?_
      refine gq_body1 rfl rfl ?_
      have hk : ss.length = (limbs X).length := by omega
      rw [val_take_all (by omega), val_take_all (by omega), val_limbs, val_limbs] at hval
      have h1 := val_lt hfs
      have h2 : c = 0 := Classical.byContradiction fun hne => by
        have : c = 1 := by omega
        subst this
        omega
      subst h2
      have e : val ss = X - Y := by omega
      rw [e] at hr49
      exact hr49

theorem ref_sub {w0 : World} {h0 : Mem}  (hs : MLe h0 (mem w0)) {v v' : Value} {X Y : Nat} (hv : Us .u32 h0 v (limbs X)) (hv' : Us .u32 h0 v' (limbs Y)) (hl : (limbs X).length ≤ 1099511627776) :
    Calls Try.prog 37 #[v, v'] w0 (Ret w0 h0 (fun h r => ∃ u, r = .tuple #[u, vI (if X < Y then 7 else 0)] ∧ Us .u32 h u (limbs (X - Y)))) := by
  refine calls_begin (n := 13) (e := [(0, v), (1, v')]) (vs := [v, v']) Try.func37 rfl rfl (Nat.le_of_ble_eq_true rfl) hs ⟨rfl, rfl, trivial⟩ ?_
  refine gc_seq ?_
  refine gc_region ?_  -- region 0 (line 103)
  refine gl_val (ov_assign rfl) rfl rfl rfl ?_
  refine gl_val (ov_assign (v := vI (0)) rfl) rfl rfl rfl ?_
  refine gl_nil ?_
  refine gq_keep (e' := [(0, _), (1, _)]) ⟨rfl, rfl, trivial⟩ ?_
  refine gq_then ?_
  refine gc_seq ?_
  refine gc_seq ?_
  refine gc_region ?_  -- region 1 (line 104)
  refine gl_val (ov_move rfl) rfl rfl rfl ?_
  refine gl_val (ov_move rfl) rfl rfl rfl ?_
  refine gl_call (vs := [_, _]) rfl rfl rfl rfl Try.call17 ⟨rfl, rfl, trivial⟩ (fun w hs => ref_cmp hs hv hv') ?_
  intro v8 h1 hh1 hr8
  replace hv := hv.mono hh1
  replace hv' := hv'.mono hh1
  subst hr8
  refine gl_val (ov_lss_i (q := 0) rfl rfl) rfl rfl rfl ?_
  refine gl_nil ?_
  refine gq_keep (e' := [(0, _), (1, _), (9, _)]) ⟨rfl, rfl, rfl, trivial⟩ ?_
  refine gq_then ?_
  refine gc_cond rfl (fun hc9 => ?_) (fun hc9 => ?_)
  · skip
    have hlt := cmpN_neg.1 hc9
    refine gc_keep (e' := []) trivial ?_
    refine gc_seq ?_
    refine gc_region ?_  -- region 2 (line 105)
    refine gl_val (ov_assign rfl) rfl rfl rfl ?_
    refine gl_val (ov_assign (v := vI (7)) rfl) rfl rfl rfl ?_
    refine gl_nil ?_
    refine gq_then ?_
    refine gc_ret ?_
    refine gr_then ?_
    refine gq_body2 rfl rfl rfl ?_
    rw [if_pos hlt, Nat.sub_eq_zero_of_le (Nat.le_of_lt hlt), limbs_zero]
    exact ⟨_, rfl, Us.nil _ _⟩
  · skip
    have hge : Y ≤ X := Nat.le_of_not_lt fun hc => hc9 (cmpN_neg.2 hc)
    refine gc_keep (e' := [(0, _), (1, _)]) ⟨rfl, rfl, trivial⟩ ?_
    refine gc_skip ?_
    refine gq_then ?_
    refine gc_seq ?_
    refine gc_region ?_  -- region 3 (line 107)
    refine gl_val (ov_move rfl) rfl rfl rfl ?_
    refine gl_val (ov_move rfl) rfl rfl rfl ?_
    refine gl_call (vs := [_, _]) rfl rfl rfl rfl Try.call53 ⟨rfl, rfl, trivial⟩ (fun w hs => ref_minus hs hv hv' (by omega) (by omega)) ?_
    intro v12 h2 hh2 hr12
    replace hv := hv.mono hh2
    replace hv' := hv'.mono hh2
    refine gl_val (ov_assign rfl) rfl rfl rfl ?_
    refine gl_val (ov_assign (v := vI (0)) rfl) rfl rfl rfl ?_
    refine gl_nil ?_
    refine gq_keep (e' := [(4, _), (5, _)]) ⟨rfl, rfl, trivial⟩ ?_
    refine gq_then ?_
    refine gc_ret ?_
    refine gq_body2 rfl rfl rfl ?_
    rw [if_neg (by omega)]
    exact ⟨_, rfl, hr12⟩

theorem ref_mul {w0 : World} {h0 : Mem}  (hs : MLe h0 (mem w0)) {v v' : Value} {xs ys : List Nat} (hv : Us .u32 h0 v xs) (hv' : Us .u32 h0 v' ys) (hl : xs.length ≤ 1099511627776) (hl' : ys.length ≤ 1099511627776) :
    Calls Try.prog 31 #[v, v'] w0 (Ret w0 h0 (fun h r => Us .u32 h r (limbs (val xs * val ys)))) := by
  have hfx : Fit xs := hv.lt
  have hfy : Fit ys := hv'.lt
  refine calls_begin (n := 67) (e := [(0, v), (1, v')]) (vs := [v, v']) Try.func31 rfl rfl (Nat.le_of_ble_eq_true rfl) hs ⟨rfl, rfl, trivial⟩ ?_
  refine gc_seq ?_
  refine gc_region ?_  -- region 0 (line 111)
  refine gl_val (ov_assign rfl) rfl rfl rfl ?_
  refine gl_nil ?_
  refine gq_keep (e' := [(0, _), (1, _)]) ⟨rfl, rfl, trivial⟩ ?_
  refine gq_then ?_
  refine gc_seq ?_
  refine gc_region ?_  -- region 1 (line 112)
  refine gl_val (ov_move rfl) rfl rfl rfl ?_
  refine gl_val (ov_len_us Try.underlying22 rfl hv) rfl rfl rfl ?_
  refine gl_val (ov_move rfl) rfl rfl rfl ?_
  refine gl_val (ov_len_us Try.underlying22 rfl hv') rfl rfl rfl ?_
  refine gl_val (ov_add_i rfl rfl (by omega) (by omega)) rfl rfl rfl ?_
  refine gl_make_us (kd := .u32) (by' := 4) (xs.length + ys.length) Try.underlying22 info45 rfl rfl rfl rfl rfl (by omega) (by omega) (by omega) (by omega) rfl ?_
  intro v14
  refine gl_val (ov_assign rfl) rfl rfl rfl ?_
  refine gl_nil ?_
  refine gq_keep (e' := [(0, _), (1, _), (5, _)]) ⟨rfl, rfl, rfl, trivial⟩ ?_
  refine gq_then ?_
  refine gc_seq ?_
  refine gc_seq ?_
  refine gc_region ?_  -- region 2 (line 113)
  refine gl_val (ov_assign (v := vI (0)) rfl) rfl rfl rfl ?_
  refine gl_nil ?_
  refine gq_then ?_
  refine gc_block ?_
  refine gc_loop (ι := Nat × List Nat) (fun (x_ : (Nat × List Nat)) => match x_ with | (k, os) => k ≤ xs.length ∧ os.length = xs.length + ys.length ∧ Fit os ∧ val os = val (xs.take k) * val ys ∧ ∀ i, k + ys.length ≤ i → os.getD i 0 = 0) (fun (x_ : (Nat × List Nat)) => match x_ with | (k, os) => [(0, v), (1, v'), (5, v14), (6, vI ↑k)]) (fun (x_ : (Nat × List Nat)) => match x_ with | (k, os) => [.us 45 .u32 v14 os]) (fun (x_ : (Nat × List Nat)) => match x_ with | (k, os) => h0) (fun (x_ : (Nat × List Nat)) => match x_ with | (k, os) => xs.length - k) (0, List.replicate (xs.length + ys.length) 0) ?_ ⟨rfl, rfl, rfl, rfl, trivial⟩ rfl rfl ?_
  · skip
    exact ⟨Nat.zero_le _, by simp, fit_replicate _, by rw [val_replicate]; simp [val], fun i _ => getD_replicate _ _⟩
  · skip
    intro x hx
    obtain ⟨k, os⟩ := x
    obtain ⟨hk, hos, hfo, hval, hz⟩ := hx
    show GC _ _ _ _ _ _ [(0, v), (1, v'), (5, v14), (6, vI ↑k)] [.us 45 .u32 v14 os] h0
    refine gc_seq ?_
    refine gc_seq ?_
    refine gc_region ?_  -- region 3 (line 113)
    refine gl_val (ov_move rfl) rfl rfl rfl ?_
    refine gl_val (ov_move rfl) rfl rfl rfl ?_
    refine gl_val (ov_len_us Try.underlying22 rfl hv) rfl rfl rfl ?_
    refine gl_val (ov_lss_i rfl rfl) rfl rfl rfl ?_
    refine gl_nil ?_
    refine gq_keep (e' := [(0, _), (1, _), (5, _), (6, _), (18, _)]) ⟨rfl, rfl, rfl, rfl, rfl, trivial⟩ ?_
    refine gq_then ?_
    refine gc_cond rfl (fun hc18 => ?_) (fun hc18 => ?_)
    · skip
      refine gc_keep (e' := [(0, _), (1, _), (5, _), (6, _)]) ⟨rfl, rfl, rfl, rfl, trivial⟩ ?_
      refine gc_skip ?_
      refine gq_then ?_
      refine gc_seq ?_
      refine gc_block ?_
      refine gc_seq ?_
      refine gc_region ?_  -- region 5 (line 114)
      refine gl_val (ov_assign (v := vU .u64 0) rfl) rfl rfl rfl ?_
      refine gl_nil ?_
      refine gq_then ?_
      refine gc_seq ?_
      refine gc_seq ?_
      refine gc_region ?_  -- region 6 (line 115)
      refine gl_val (ov_assign (v := vI (0)) rfl) rfl rfl rfl ?_
      refine gl_nil ?_
      refine gq_then ?_
      refine gc_block ?_
      refine gc_loop (ι := Nat × List Nat × Nat) (fun (x_ : (Nat × List Nat × Nat)) => match x_ with | (j, ts, c) => j ≤ ys.length ∧ ts.length = xs.length + ys.length ∧ Fit ts ∧ c < 4294967296 ∧ val ts + 4294967296 ^ (k + j) * c = val os + 4294967296 ^ k * (xs.getD k 0 * val (ys.take j)) ∧ ∀ i, k + ys.length ≤ i → ts.getD i 0 = 0) (fun (x_ : (Nat × List Nat × Nat)) => match x_ with | (j, ts, c) => [(0, v), (1, v'), (5, v14), (6, vI ↑k), (7, vU .u64 c), (8, vI ↑j)]) (fun (x_ : (Nat × List Nat × Nat)) => match x_ with | (j, ts, c) => [.us 45 .u32 v14 ts]) (fun (x_ : (Nat × List Nat × Nat)) => match x_ with | (j, ts, c) => h0) (fun (x_ : (Nat × List Nat × Nat)) => match x_ with | (j, ts, c) => ys.length - j) (0, os, 0) ?_ ⟨rfl, rfl, rfl, rfl, rfl, rfl, trivial⟩ rfl rfl ?_
      · skip
        exact ⟨Nat.zero_le _, hos, hfo, by omega, by simp [val], hz⟩
      · skip
        intro x hx
        obtain ⟨j, ts, c⟩ := x
        obtain ⟨hj, hts, hft, hcb, htv, htz⟩ := hx
        show GC _ _ _ _ _ _ [(0, v), (1, v'), (5, v14), (6, vI ↑k), (7, vU .u64 c), (8, vI ↑j)] [.us 45 .u32 v14 ts] h0
        have hx1 := hv.get32 k
        have hx2 := hv'.get32 j
        have hx3 := fit_get hft (k + j)
        have hxy : xs.getD k 0 * ys.getD j 0 ≤ 4294967295 * 4294967295 := Nat.mul_le_mul (by omega) (by omega)
        refine gc_seq ?_
        refine gc_seq ?_
        refine gc_region ?_  -- region 7 (line 115)
        refine gl_val (ov_move rfl) rfl rfl rfl ?_
        refine gl_val (ov_move rfl) rfl rfl rfl ?_
        refine gl_val (ov_len_us Try.underlying22 rfl hv') rfl rfl rfl ?_
        refine gl_val (ov_lss_i rfl rfl) rfl rfl rfl ?_
        refine gl_nil ?_
        refine gq_keep (e' := [(0, _), (1, _), (5, _), (6, _), (7, _), (8, _), (24, _)]) ⟨rfl, rfl, rfl, rfl, rfl, rfl, rfl, trivial⟩ ?_
        refine gq_then ?_
        refine gc_cond rfl (fun hc24 => ?_) (fun hc24 => ?_)
        · skip
          refine gc_keep (e' := [(0, _), (1, _), (5, _), (6, _), (7, _), (8, _)]) ⟨rfl, rfl, rfl, rfl, rfl, rfl, trivial⟩ ?_
          refine gc_skip ?_
          refine gq_then ?_
          refine gc_seq ?_
          refine gc_block ?_
          refine gc_seq ?_
          refine gc_draw 22 _ [] [(0, .q), (1, .q), (2, .q), (3, .q), (4, .q), (5, .q), (6, .q), (7, .q), (8, .q), (9, .q), (10, .q), (11, .q), (12, .q), (13, .q), (14, .q), (15, .q), (16, .q), (17, .q), (18, .q), (19, .q), (20, .q), (21, .q)] mixed (fun x hx => by cases hx) (by kernel_rfl) (fun x hx => by cases hx) (fun r hr => hr) ?_  -- region 9 (line 116)
          refine w_q rfl (fun h' L' hh hR => ov_move rfl) rfl ?_
          refine w_q rfl (fun h' L' hh hR => ov_move rfl) rfl ?_
          refine w_q rfl (fun h' L' hh hR => ov_move rfl) rfl ?_
          refine w_q rfl (fun h' L' hh hR => ov_index_us (k) Try.underlying22 Try.sizeOf45 rfl rfl (hv.mono hh) (by omega) (by omega)) rfl ?_
          refine w_q rfl (fun h' L' hh hR => ov_load_us Try.isAgg45 rfl (hv.mono hh) (by omega)) rfl ?_
          refine w_q rfl (fun h' L' hh hR => ov_conv_u (k := .u32) (k' := .u64) (W := 18446744073709551616) Try.underlying45 Try.underlying23 rfl rfl rfl (by omega)) rfl ?_
          refine w_q rfl (fun h' L' hh hR => ov_move rfl) rfl ?_
          refine w_q rfl (fun h' L' hh hR => ov_move rfl) rfl ?_
          refine w_q rfl (fun h' L' hh hR => ov_index_us (j) Try.underlying22 Try.sizeOf45 rfl rfl (hv'.mono hh) (by omega) (by omega)) rfl ?_
          refine w_q rfl (fun h' L' hh hR => ov_load_us Try.isAgg45 rfl (hv'.mono hh) (by omega)) rfl ?_
          refine w_q rfl (fun h' L' hh hR => ov_conv_u (k := .u32) (k' := .u64) (W := 18446744073709551616) Try.underlying45 Try.underlying23 rfl rfl rfl (by omega)) rfl ?_
          refine w_q rfl (fun h' L' hh hR => ov_mul_u (k := .u64) (W := 18446744073709551616) rfl rfl rfl rfl (by omega)) rfl ?_
          refine w_q rfl (fun h' L' hh hR => ov_move rfl) rfl ?_
          refine w_q rfl (fun h' L' hh hR => ov_move rfl) rfl ?_
          refine w_q rfl (fun h' L' hh hR => ov_move rfl) rfl ?_
          refine w_q rfl (fun h' L' hh hR => ov_add_i rfl rfl (by omega) (by omega)) rfl ?_
          refine w_q rfl (fun h' L' hh hR => ov_index_ousM (hR _ (.head _)) (k + j) Try.underlying22 Try.sizeOf45 rfl rfl (by omega) (by omega)) rfl ?_
          refine w_q rfl (fun h' L' hh hR => ov_load_ousM (hR _ (.head _)) Try.isAgg45 rfl (by omega)) rfl ?_
          refine w_q rfl (fun h' L' hh hR => ov_conv_u (k := .u32) (k' := .u64) (W := 18446744073709551616) Try.underlying45 Try.underlying23 rfl rfl rfl (by omega)) rfl ?_
          refine w_q rfl (fun h' L' hh hR => ov_add_u (k := .u64) (W := 18446744073709551616) rfl rfl rfl rfl (by omega)) rfl ?_
          refine w_q rfl (fun h' L' hh hR => ov_add_u (k := .u64) (W := 18446744073709551616) rfl rfl rfl rfl (by omega)) rfl ?_
          refine w_q rfl (fun h' L' hh hR => ov_assign rfl) rfl ?_
          refine w_nil ?_
          refine gq_keep (e' := [(0, _), (1, _), (5, _), (6, _), (8, _), (7, _)]) ⟨rfl, rfl, rfl, rfl, rfl, rfl, trivial⟩ ?_
          refine gq_then ?_
          refine gc_seq ?_
          refine gc_region ?_  -- region 10 (line 117)
          refine gl_val (ov_move rfl) rfl rfl rfl ?_
          refine gl_val (ov_move rfl) rfl rfl rfl ?_
          refine gl_val (ov_move rfl) rfl rfl rfl ?_
          refine gl_val (ov_add_i rfl rfl (by omega) (by omega)) rfl rfl rfl ?_
          refine gl_val (ov_move rfl) rfl rfl rfl ?_
          refine gl_val (ov_conv_uu (k := .u64) (k' := .u32) (W := 4294967296) Try.underlying23 Try.underlying45 rfl rfl rfl) rfl rfl rfl ?_
          refine gl_val (ov_index_ous (A := []) (k + j) Try.underlying22 Try.sizeOf45 rfl rfl (by omega) (by omega)) rfl rfl rfl ?_
          refine gl_store_ous0 Try.sizeOf45 rfl rfl (by omega) ?_
          refine gl_nil ?_
          refine gq_keep (e' := [(0, _), (1, _), (5, _), (6, _), (8, _), (7, _)]) ⟨rfl, rfl, rfl, rfl, rfl, rfl, trivial⟩ ?_
          refine gq_then ?_
          refine gc_region ?_  -- region 11 (line 118)
          refine gl_val (ov_move rfl) rfl rfl rfl ?_
          refine gl_val (ov_shr_u (k := .u64) (s := 32) (yk := .u64) rfl rfl rfl (by simp only [ub]; omega)) rfl rfl rfl ?_
          refine gl_val (ov_assign rfl) rfl rfl rfl ?_
          refine gl_nil ?_
          refine gq_in ?_
          refine gq_keep (e' := [(0, _), (1, _), (5, _), (6, _), (8, _), (7, _)]) ⟨rfl, rfl, rfl, rfl, rfl, rfl, trivial⟩ ?_
          refine gq_then ?_
          refine gc_region ?_  -- region 8 (line 115)
          refine gl_val (ov_move rfl) rfl rfl rfl ?_
          refine gl_val (ov_add_i (q := 1) rfl rfl (by omega) (by omega)) rfl rfl rfl ?_
          refine gl_val (ov_assign rfl) rfl rfl rfl ?_
          refine gl_nil ?_
          refine gq_round (j + 1, ts.set (k + j) ((c + (xs.getD k 0 * ys.getD j 0 + ts.getD (k + j) 0)) % 4294967296), (c + (xs.getD k 0 * ys.getD j 0 + ts.getD (k + j) 0)) / 2 ^ 32) ?_ ?_ ⟨?_, ?_, ?_, ?_, ?_, ?_, trivial⟩ ?_ rfl
          · skip
            refine ⟨by omega, by simp [hts], fit_set hft _ (by omega), by omega, ?_, fun i hi => ?_⟩
            · have h1 := val_set (xs := ts) (i := k + j) (by omega) ((c + (xs.getD k 0 * ys.getD j 0 + ts.getD (k + j) 0)) % 4294967296)
              have e := Nat.div_add_mod (c + (xs.getD k 0 * ys.getD j 0 + ts.getD (k + j) 0)) 4294967296
              have e2 : (2 : Nat) ^ 32 = 4294967296 := rfl
              rw [val_take_succ ys j (by omega), e2]
              have ep : (4294967296 : Nat) ^ (k + (j + 1)) = 4294967296 ^ k * 4294967296 ^ j * 4294967296 := by rw [← Nat.add_assoc, Nat.pow_succ, Nat.pow_add]
              rw [ep]
              rw [Nat.pow_add] at h1 htv
              generalize (c + (xs.getD k 0 * ys.getD j 0 + ts.getD (k + j) 0)) / 4294967296 = q at *
              generalize (c + (xs.getD k 0 * ys.getD j 0 + ts.getD (k + j) 0)) % 4294967296 = r at *
              grind
            · rw [getD_set_other (by omega)]; exact htz i hi
          · skip
            dsimp only
            omega
          · exact rfl
          · exact rfl
          · exact rfl
          · exact rfl
          · exact rfl
          · exact rfl
          · exact rfl
        · skip
          refine gc_keep (e' := [(0, _), (1, _), (5, _), (6, _), (7, _)]) ⟨rfl, rfl, rfl, rfl, rfl, trivial⟩ ?_
          refine gc_exit ?_
          refine gx_then ?_
          refine gx_then ?_
          refine gx_here ?_
          refine gq_then ?_
          refine gc_region ?_  -- region 12 (line 120)
          refine gl_val (ov_move rfl) rfl rfl rfl ?_
          refine gl_val (ov_move rfl) rfl rfl rfl ?_
          refine gl_val (ov_move rfl) rfl rfl rfl ?_
          refine gl_val (ov_len_us Try.underlying22 rfl hv') rfl rfl rfl ?_
          refine gl_val (ov_add_i rfl rfl (by omega) (by omega)) rfl rfl rfl ?_
          refine gl_val (ov_move rfl) rfl rfl rfl ?_
          refine gl_val (ov_conv_uu (k := .u64) (k' := .u32) (W := 4294967296) Try.underlying23 Try.underlying45 rfl rfl rfl) rfl rfl rfl ?_
          refine gl_val (ov_index_ous (A := []) (k + ys.length) Try.underlying22 Try.sizeOf45 rfl rfl (by omega) (by omega)) rfl rfl rfl ?_
          refine gl_store_ous0 Try.sizeOf45 rfl rfl (by omega) ?_
          refine gl_nil ?_
          refine gq_in ?_
          refine gq_keep (e' := [(0, _), (1, _), (5, _), (6, _)]) ⟨rfl, rfl, rfl, rfl, trivial⟩ ?_
          refine gq_then ?_
          refine gc_region ?_  -- region 4 (line 113)
          refine gl_val (ov_move rfl) rfl rfl rfl ?_
          refine gl_val (ov_add_i (q := 1) rfl rfl (by omega) (by omega)) rfl rfl rfl ?_
          refine gl_val (ov_assign rfl) rfl rfl rfl ?_
          refine gl_nil ?_
          refine gq_round (k + 1, ts.set (k + ys.length) (c % 4294967296)) ?_ ?_ ⟨?_, ?_, ?_, ?_, trivial⟩ ?_ rfl
          · skip
            have hj : j = ys.length := by omega
            subst hj
            refine ⟨by omega, by simp [hts], fit_set hft _ (by omega), ?_, fun i hi => ?_⟩
            · have h1 := val_set (xs := ts) (i := k + ys.length) (by omega) (c % 4294967296)
              rw [htz _ (Nat.le_refl _)] at h1
              rw [val_take_all (Nat.le_refl _)] at htv
              rw [Nat.mod_eq_of_lt hcb] at h1 ⊢
              rw [val_take_succ xs k (by omega)]
              grind
            · rw [getD_set_other (by omega)]; exact htz i (by omega)
          · skip
            dsimp only
            omega
          · exact rfl
          · exact rfl
          · exact rfl
          · exact rfl
          · exact rfl
    · skip
      refine gc_keep (e' := [(5, _)]) ⟨rfl, trivial⟩ ?_
      refine gc_exit ?_
      refine gx_then ?_
      refine gx_then ?_
      refine gx_here ?_
      refine gq_then ?_
      refine gc_seq ?_
      refine gc_region ?_  -- region 13 (line 122)
      refine gl_val (ov_move rfl) rfl rfl rfl ?_
      refine gl_freeze_us0 (by exact hfo) ?_
      intro h1 hh1 ho
      replace hv := hv.mono hh1
      replace hv' := hv'.mono hh1
      refine gl_call (vs := [_]) rfl rfl rfl rfl Try.call39 ⟨rfl, trivial⟩ (fun w hs => ref_trim hs ho (by omega)) ?_
      intro v66 h2 hh2 hr66
      replace hv := hv.mono hh2
      replace hv' := hv'.mono hh2
      replace ho := ho.mono hh2
      refine gl_val (ov_assign rfl) rfl rfl rfl ?_
      refine gl_nil ?_
      refine gq_keep (e' := [(4, _)]) ⟨rfl, trivial⟩ ?_
      refine gq_then ?_
      refine gc_ret ?_
      refine gq_body1 rfl rfl ?_
      rw [hval, val_take_all (by omega)] at hr66
      exact hr66

theorem ref_times {w0 : World} {h0 : Mem}  (hs : MLe h0 (mem w0)) {v : Value} {X d : Nat} (hv : Us .u32 h0 v (limbs X)) (hd : d < 4294967296) (hl : (limbs X).length ≤ 1099511627776) :
    Calls Try.prog 52 #[v, vU .u32 d] w0 (Ret w0 h0 (fun h r => Us .u32 h r (limbs (X * d)))) := by
  refine calls_begin (n := 10) (e := [(0, v), (1, vU .u32 d)]) (vs := [v, vU .u32 d]) Try.func52 rfl rfl (Nat.le_of_ble_eq_true rfl) hs ⟨rfl, rfl, trivial⟩ ?_
  refine gc_seq ?_
  refine gc_region ?_  -- region 0 (line 126)
  refine gl_val (ov_assign rfl) rfl rfl rfl ?_
  refine gl_nil ?_
  refine gq_keep (e' := [(0, _), (1, _)]) ⟨rfl, rfl, trivial⟩ ?_
  refine gq_then ?_
  refine gc_seq ?_
  refine gc_region ?_  -- region 1 (line 126)
  refine gl_val (ov_move rfl) rfl rfl rfl ?_
  refine gl_val (ov_move rfl) rfl rfl rfl ?_
  refine gl_val (ov_conv_u (k := .u32) (k' := .u64) (W := 18446744073709551616) Try.underlying45 Try.underlying23 rfl rfl rfl (by omega)) rfl rfl rfl ?_
  refine gl_call (vs := [_]) rfl rfl rfl rfl Try.call22 ⟨rfl, trivial⟩ (fun w hs => ref_of hs (by omega)) ?_
  intro v8 h1 hh1 hr8
  replace hv := hv.mono hh1
  have hdl := limbs_len_word (n := d) (by omega)
  refine gl_call (vs := [_, _]) rfl rfl rfl rfl Try.call31 ⟨rfl, rfl, trivial⟩ (fun w hs => ref_mul hs hv hr8 (by omega) (by omega)) ?_
  intro v9 h2 hh2 hr9
  replace hv := hv.mono hh2
  replace hr8 := hr8.mono hh2
  simp only [val_limbs] at hr9
  refine gl_val (ov_assign rfl) rfl rfl rfl ?_
  refine gl_nil ?_
  refine gq_keep (e' := [(4, _)]) ⟨rfl, trivial⟩ ?_
  refine gq_then ?_
  refine gc_ret ?_
  refine gq_body1 rfl rfl ?_
  exact hr9

end Go.Proofs.Ytoionddicppahaa
