/- Contracts of functions, walked by their text (nat11). -/
import Derived.Test.YtoionddicppahaaW10
namespace Go.Proofs.Ytoionddicppahaa
open Bk Go
set_option linter.unusedVariables false
set_option linter.unusedSimpArgs false

theorem ref_small {w0 : World} {h0 : Mem}  (hs : MLe h0 (mem w0)) {v : Value} {X : Nat} (hv : Us .u32 h0 v (limbs X)) :
    Calls Try.prog 50 #[v] w0 (Ret w0 h0 (fun _ r => r = .tuple #[vU .u64 (if (limbs X).length ≤ 2 then X else 0), vB ((limbs X).length ≤ 2)])) := by
  have hx0 := hv.get32 0
  have hx1 := hv.get32 1
  have hvl := val_limbs X
  have hlen := hv.lt63
  refine calls_begin (n := 26) (e := [(0, v)]) (vs := [v]) Try.func50 rfl rfl (Nat.le_of_ble_eq_true rfl) hs ⟨rfl, trivial⟩ ?_
  refine gc_seq ?_
  refine gc_region ?_  -- region 0 (line 22)
  refine gl_val (ov_assign (v := vU .u64 0) rfl) rfl rfl rfl ?_
  refine gl_val (ov_assign rfl) rfl rfl rfl ?_
  refine gl_nil ?_
  refine gq_keep (e' := [(0, _)]) ⟨rfl, trivial⟩ ?_
  refine gq_then ?_
  refine gc_seq ?_
  refine gc_seq ?_
  refine gc_region ?_  -- region 1 (line 23)
  refine gl_val (ov_move rfl) rfl rfl rfl ?_
  refine gl_val (ov_len_us Try.underlying22 rfl hv) rfl rfl rfl ?_
  refine gl_nil ?_
  refine gq_keep (e' := [(0, _), (5, _)]) ⟨rfl, rfl, trivial⟩ ?_
  refine gq_then ?_
  refine gc_block ?_
  refine gc_seq ?_
  refine gc_region ?_  -- region 2 (line 24)
  refine gl_val (ov_eql_i (q := 0) rfl rfl) rfl rfl rfl ?_
  refine gl_val (ov_assign rfl) rfl rfl rfl ?_
  refine gl_nil ?_
  refine gq_keep (e' := [(0, _), (5, _), (6, _)]) ⟨rfl, rfl, rfl, trivial⟩ ?_
  refine gq_then ?_
  refine gc_cond rfl (fun hc6 => ?_) (fun hc6 => ?_)
  · skip
    refine gc_keep (e' := []) trivial ?_
    refine gc_seq ?_
    refine gc_region ?_  -- region 3 (line 25)
    refine gl_val (ov_assign (v := vU .u64 0) rfl) rfl rfl rfl ?_
    refine gl_val (ov_assign rfl) rfl rfl rfl ?_
    refine gl_nil ?_
    refine gq_then ?_
    refine gc_ret ?_
    refine gr_in ?_
    refine gr_then ?_
    refine gq_body2 rfl rfl rfl ?_
    have h0 : X = 0 := Classical.byContradiction fun hne => by have := limbs_len_pos.2 hne; omega
    rw [vB_true (by omega), if_pos (by omega), h0]
  · skip
    refine gc_keep (e' := [(0, _), (5, _)]) ⟨rfl, rfl, trivial⟩ ?_
    refine gc_seq ?_
    refine gc_region ?_  -- region 4 (line 26)
    refine gl_val (ov_eql_i (q := 1) rfl rfl) rfl rfl rfl ?_
    refine gl_val (ov_assign rfl) rfl rfl rfl ?_
    refine gl_nil ?_
    refine gq_keep (e' := [(0, _), (5, _), (8, _)]) ⟨rfl, rfl, rfl, trivial⟩ ?_
    refine gq_then ?_
    refine gc_cond rfl (fun hc8 => ?_) (fun hc8 => ?_)
    · skip
      have hvo := val_one (xs := limbs X) (by omega)
      refine gc_keep (e' := [(0, _)]) ⟨rfl, trivial⟩ ?_
      refine gc_seq ?_
      refine gc_region ?_  -- region 5 (line 27)
      refine gl_val (ov_move rfl) rfl rfl rfl ?_
      refine gl_val (ov_index_us (q := 0) (0) Try.underlying22 Try.sizeOf45 rfl rfl hv rfl (by omega)) rfl rfl rfl ?_
      refine gl_val (ov_load_us Try.isAgg45 rfl hv (by omega)) rfl rfl rfl ?_
      refine gl_val (ov_conv_u (k := .u32) (k' := .u64) (W := 18446744073709551616) Try.underlying45 Try.underlying23 rfl rfl rfl (by omega)) rfl rfl rfl ?_
      refine gl_val (ov_assign rfl) rfl rfl rfl ?_
      refine gl_val (ov_assign rfl) rfl rfl rfl ?_
      refine gl_nil ?_
      refine gq_keep (e' := [(2, _), (3, _)]) ⟨rfl, rfl, trivial⟩ ?_
      refine gq_then ?_
      refine gc_ret ?_
      refine gr_in ?_
      refine gr_then ?_
      refine gq_body2 rfl rfl rfl ?_
      rw [vB_true (by omega), if_pos (by omega), ← hvo, val_limbs]
    · skip
      refine gc_keep (e' := [(0, _), (5, _)]) ⟨rfl, rfl, trivial⟩ ?_
      refine gc_seq ?_
      refine gc_region ?_  -- region 6 (line 28)
      refine gl_val (ov_eql_i (q := 2) rfl rfl) rfl rfl rfl ?_
      refine gl_val (ov_assign rfl) rfl rfl rfl ?_
      refine gl_nil ?_
      refine gq_keep (e' := [(0, _), (14, _)]) ⟨rfl, rfl, trivial⟩ ?_
      refine gq_then ?_
      refine gc_cond rfl (fun hc14 => ?_) (fun hc14 => ?_)
      · skip
        refine gc_keep (e' := [(0, _)]) ⟨rfl, trivial⟩ ?_
        refine gc_seq ?_
        refine gc_draw 12 _ [] [(0, .q), (1, .q), (2, .q), (3, .q), (4, .q), (5, .q), (6, .q), (7, .q), (8, .q), (9, .q), (10, .q), (11, .q)] mixed (fun x hx => by cases hx) (by kernel_rfl) (fun x hx => by cases hx) (fun r hr => hr) ?_  -- region 7 (line 29)
        refine w_q rfl (fun h' L' hh hR => ov_move rfl) rfl ?_
        refine w_q rfl (fun h' L' hh hR => ov_index_us (q := 0) (0) Try.underlying22 Try.sizeOf45 rfl rfl (hv.mono hh) rfl (by omega)) rfl ?_
        refine w_q rfl (fun h' L' hh hR => ov_load_us Try.isAgg45 rfl (hv.mono hh) (by omega)) rfl ?_
        refine w_q rfl (fun h' L' hh hR => ov_conv_u (k := .u32) (k' := .u64) (W := 18446744073709551616) Try.underlying45 Try.underlying23 rfl rfl rfl (by omega)) rfl ?_
        refine w_q rfl (fun h' L' hh hR => ov_move rfl) rfl ?_
        refine w_q rfl (fun h' L' hh hR => ov_index_us (q := 1) (1) Try.underlying22 Try.sizeOf45 rfl rfl (hv.mono hh) rfl (by omega)) rfl ?_
        refine w_q rfl (fun h' L' hh hR => ov_load_us Try.isAgg45 rfl (hv.mono hh) (by omega)) rfl ?_
        refine w_q rfl (fun h' L' hh hR => ov_conv_u (k := .u32) (k' := .u64) (W := 18446744073709551616) Try.underlying45 Try.underlying23 rfl rfl rfl (by omega)) rfl ?_
        refine w_q rfl (fun h' L' hh hR => ov_shl_u (k := .u64) (s := 32) (yk := .u64) (W := 18446744073709551616) rfl rfl rfl rfl) rfl ?_
        refine w_q rfl (fun h' L' hh hR => ov_or_u (k := .u64) rfl rfl rfl (by simp only [ub]; omega) (by simp only [ub]; omega)) rfl ?_
        rw [Nat.or_comm, or_shift (by omega) (by omega)]
        refine w_q rfl (fun h' L' hh hR => ov_assign rfl) rfl ?_
        refine w_q rfl (fun h' L' hh hR => ov_assign rfl) rfl ?_
        refine w_nil ?_
        refine gq_keep (e' := [(2, _), (3, _)]) ⟨rfl, rfl, trivial⟩ ?_
        refine gq_then ?_
        refine gc_ret ?_
        refine gr_in ?_
        refine gr_then ?_
        refine gq_body2 rfl rfl rfl ?_
        have h1 := val_take_getD (limbs X) 1
        have h2 := val_take_getD (limbs X) 0
        rw [val_take_all (by omega), val_limbs] at h1
        rw [List.take_zero] at h2
        simp only [val, Nat.zero_add] at h2
        rw [vB_true (by omega), if_pos (by omega)]
        have e : (limbs X).getD 1 0 * 4294967296 + (limbs X).getD 0 0 = X := by omega
        rw [e]
      · skip
        refine gc_keep (e' := []) trivial ?_
        refine gc_skip ?_
        refine gq_in ?_
        refine gq_then ?_
        refine gc_seq ?_
        refine gc_region ?_  -- region 8 (line 31)
        refine gl_val (ov_assign (v := vU .u64 0) rfl) rfl rfl rfl ?_
        refine gl_val (ov_assign rfl) rfl rfl rfl ?_
        refine gl_nil ?_
        refine gq_then ?_
        refine gc_ret ?_
        refine gq_body2 rfl rfl rfl ?_
        rw [vB_false (by omega), if_neg (by omega)]

theorem ref_shifted {w0 : World} {h0 : Mem}  (hs : MLe h0 (mem w0)) {v : Value} {X k : Nat} (hv : Us .u32 h0 v (limbs X)) (hk : k ≤ 4398046511104) (hl : (limbs X).length ≤ 4398046511104) :
    Calls Try.prog 51 #[v, vI ↑k] w0 (Ret w0 h0 (fun h r => Us .u32 h r (limbs (X * 4294967296 ^ k)))) := by
  refine calls_begin (n := 12) (e := [(0, v), (1, vI ↑k)]) (vs := [v, vI ↑k]) Try.func51 rfl rfl (Nat.le_of_ble_eq_true rfl) hs ⟨rfl, rfl, trivial⟩ ?_
  refine gc_seq ?_
  refine gc_region ?_  -- region 0 (line 184)
  refine gl_val (ov_assign rfl) rfl rfl rfl ?_
  refine gl_nil ?_
  refine gq_keep (e' := [(0, _), (1, _)]) ⟨rfl, rfl, trivial⟩ ?_
  refine gq_then ?_
  refine gc_seq ?_
  refine gc_seq ?_
  refine gc_region ?_  -- region 1 (line 185)
  refine gl_val (ov_move rfl) rfl rfl rfl ?_
  refine gl_val (ov_len_us Try.underlying22 rfl hv) rfl rfl rfl ?_
  refine gl_val (ov_eql_i (q := 0) rfl rfl) rfl rfl rfl ?_
  refine gl_nil ?_
  refine gq_keep (e' := [(0, _), (1, _), (7, _)]) ⟨rfl, rfl, rfl, trivial⟩ ?_
  refine gq_then ?_
  refine gc_cond rfl (fun hc7 => ?_) (fun hc7 => ?_)
  · skip
    have h0 : X = 0 := Classical.byContradiction fun hne => by have := limbs_len_pos.2 hne; omega
    refine gc_keep (e' := []) trivial ?_
    refine gc_seq ?_
    refine gc_region ?_  -- region 2 (line 186)
    refine gl_val (ov_assign rfl) rfl rfl rfl ?_
    refine gl_nil ?_
    refine gq_then ?_
    refine gc_ret ?_
    refine gr_then ?_
    refine gq_body1 rfl rfl ?_
    rw [h0, Nat.zero_mul, limbs_zero]
    exact Us.nil _ _
  · skip
    have h0 : X ≠ 0 := limbs_len_pos.1 (by omega)
    refine gc_keep (e' := [(0, _), (1, _)]) ⟨rfl, rfl, trivial⟩ ?_
    refine gc_skip ?_
    refine gq_then ?_
    refine gc_seq ?_
    refine gc_region ?_  -- region 3 (line 188)
    refine gl_val (ov_move rfl) rfl rfl rfl ?_
    refine gl_make_us (kd := .u32) (by' := 4) (k) Try.underlying22 info45 rfl rfl rfl rfl rfl (by omega) (by omega) (by omega) (by omega) rfl ?_
    intro v9
    refine gl_val (ov_move rfl) rfl rfl rfl ?_
    refine gl_repop (A := []) (rep_append_us (kd := .u32) (bytes := 4) Try.underlying22 info45 rfl rfl rfl rfl rfl hv (by rw [List.length_replicate]; omega) (by rw [List.length_replicate]; omega)) rfl rfl rfl ?_
    intro v11 r11 hr11
    obtain rfl := hr11
    refine gl_freeze_us0 (by exact fit_append (fit_replicate _) (fit_limbs _)) ?_
    intro h1 hh1 ho
    replace hv := hv.mono hh1
    refine gl_val (ov_assign rfl) rfl rfl rfl ?_
    refine gl_nil ?_
    refine gq_keep (e' := [(4, _)]) ⟨rfl, trivial⟩ ?_
    refine gq_then ?_
    refine gc_ret ?_
    refine gq_body1 rfl rfl ?_
    rw [← limbs_shift h0]
    exact ho

set_option maxHeartbeats 1000000 in
theorem ref_div {w0 : World} {h0 : Mem}  (hs : MLe h0 (mem w0)) {v v' : Value} {X Y : Nat} (hv : Us .u32 h0 v (limbs X)) (hv' : Us .u32 h0 v' (limbs Y)) (hl : (limbs X).length ≤ 549755813888) (hl' : (limbs Y).length ≤ 549755813888) :
    Calls Try.prog 33 #[v, v'] w0 (Ret w0 h0 (fun h z => ∃ q r, z = .tuple #[q, r, vI (if Y = 0 then 3 else 0)] ∧ Us .u32 h q (limbs (X / Y)) ∧ Us .u32 h r (limbs (if Y = 0 then 0 else X % Y)))) := by
  refine calls_begin (n := 163) (e := [(0, v), (1, v')]) (vs := [v, v']) Try.func33 rfl rfl (Nat.le_of_ble_eq_true rfl) hs ⟨rfl, rfl, trivial⟩ ?_
  refine gc_seq ?_
  refine gc_region ?_  -- region 0 (line 141)
  refine gl_val (ov_assign rfl) rfl rfl rfl ?_
  refine gl_val (ov_assign rfl) rfl rfl rfl ?_
  refine gl_val (ov_assign (v := vI (0)) rfl) rfl rfl rfl ?_
  refine gl_nil ?_
  refine gq_keep (e' := [(0, _), (1, _)]) ⟨rfl, rfl, trivial⟩ ?_
  refine gq_then ?_
  refine gc_seq ?_
  refine gc_seq ?_
  refine gc_region ?_  -- region 1 (line 142)
  refine gl_val (ov_move rfl) rfl rfl rfl ?_
  refine gl_val (ov_len_us Try.underlying22 rfl hv') rfl rfl rfl ?_
  refine gl_val (ov_eql_i (q := 0) rfl rfl) rfl rfl rfl ?_
  refine gl_nil ?_
  refine gq_keep (e' := [(0, _), (1, _), (21, _)]) ⟨rfl, rfl, rfl, trivial⟩ ?_
  refine gq_then ?_
  refine gc_cond rfl (fun hc21 => ?_) (fun hc21 => ?_)
  · skip
    have hy0 : Y = 0 := Classical.byContradiction fun hne => by have := limbs_len_pos.2 hne; omega
    refine gc_keep (e' := []) trivial ?_
    refine gc_seq ?_
    refine gc_region ?_  -- region 2 (line 143)
    refine gl_val (ov_assign rfl) rfl rfl rfl ?_
    refine gl_val (ov_assign rfl) rfl rfl rfl ?_
    refine gl_val (ov_assign (v := vI (3)) rfl) rfl rfl rfl ?_
    refine gl_nil ?_
    refine gq_then ?_
    refine gc_ret ?_
    refine gr_then ?_
    refine gq_body3 rfl rfl rfl rfl ?_
    rw [hy0, Nat.div_zero, if_pos rfl, if_pos rfl, limbs_zero]
    exact ⟨_, _, rfl, Us.nil _ _, Us.nil _ _⟩
  · skip
    have hyne : Y ≠ 0 := limbs_len_pos.1 (by omega)
    refine gc_keep (e' := [(0, _), (1, _)]) ⟨rfl, rfl, trivial⟩ ?_
    refine gc_skip ?_
    refine gq_then ?_
    refine gc_seq ?_
    refine gc_seq ?_
    refine gc_region ?_  -- region 3 (line 145)
    refine gl_val (ov_move rfl) rfl rfl rfl ?_
    refine gl_val (ov_move rfl) rfl rfl rfl ?_
    refine gl_call (vs := [_, _]) rfl rfl rfl rfl Try.call17 ⟨rfl, rfl, trivial⟩ (fun w hs => ref_cmp hs hv hv') ?_
    intro v24 h1 hh1 hr24
    replace hv := hv.mono hh1
    replace hv' := hv'.mono hh1
    subst hr24
    refine gl_val (ov_lss_i (q := 0) rfl rfl) rfl rfl rfl ?_
    refine gl_nil ?_
    refine gq_keep (e' := [(0, _), (1, _), (25, _)]) ⟨rfl, rfl, rfl, trivial⟩ ?_
    refine gq_then ?_
    refine gc_cond rfl (fun hc25 => ?_) (fun hc25 => ?_)
    · skip
      have hlt := cmpN_neg.1 hc25
      refine gc_keep (e' := [(0, _)]) ⟨rfl, trivial⟩ ?_
      refine gc_seq ?_
      refine gc_region ?_  -- region 4 (line 146)
      refine gl_val (ov_move rfl) rfl rfl rfl ?_
      refine gl_call (vs := [_]) rfl rfl rfl rfl Try.call39 ⟨rfl, trivial⟩ (fun w hs => ref_trim hs hv (by omega)) ?_
      intro v27 h2 hh2 hr27
      replace hv := hv.mono hh2
      replace hv' := hv'.mono hh2
      rw [val_limbs] at hr27
      refine gl_val (ov_assign rfl) rfl rfl rfl ?_
      refine gl_val (ov_assign rfl) rfl rfl rfl ?_
      refine gl_val (ov_assign (v := vI (0)) rfl) rfl rfl rfl ?_
      refine gl_nil ?_
      refine gq_keep (e' := [(4, _), (5, _), (6, _)]) ⟨rfl, rfl, rfl, trivial⟩ ?_
      refine gq_then ?_
      refine gc_ret ?_
      refine gr_then ?_
      refine gq_body3 rfl rfl rfl rfl ?_
      rw [Nat.div_eq_of_lt hlt, Nat.mod_eq_of_lt hlt, if_neg hyne, if_neg hyne, limbs_zero]
      exact ⟨_, _, rfl, Us.nil _ _, hr27⟩
    · skip
      have hge : Y ≤ X := Nat.le_of_not_lt fun hc => hc25 (cmpN_neg.2 hc)
      have hlm := limbs_len_mono hge
      refine gc_keep (e' := [(0, _), (1, _)]) ⟨rfl, rfl, trivial⟩ ?_
      refine gc_skip ?_
      refine gq_then ?_
      refine gc_seq ?_
      refine gc_seq ?_
      refine gc_region ?_  -- region 5 (line 148)
      refine gl_val (ov_move rfl) rfl rfl rfl ?_
      refine gl_call (vs := [_]) rfl rfl rfl rfl Try.call50 ⟨rfl, trivial⟩ (fun w hs => ref_small hs hv) ?_
      intro v30 h2 hh2 hr30
      replace hv := hv.mono hh2
      replace hv' := hv'.mono hh2
      subst hr30
      refine gl_val (ov_move rfl) rfl rfl rfl ?_
      refine gl_val (ov_extract (vs := [_, _]) rfl rfl) rfl rfl rfl ?_
      refine gl_val (ov_extract (vs := [_, _]) rfl rfl) rfl rfl rfl ?_
      refine gl_val (ov_assign rfl) rfl rfl rfl ?_
      refine gl_val (ov_assign rfl) rfl rfl rfl ?_
      refine gl_nil ?_
      refine gq_keep (e' := [(0, _), (1, _), (7, _), (8, _)]) ⟨rfl, rfl, rfl, rfl, trivial⟩ ?_
      refine gq_then ?_
      refine gc_seq ?_
      refine gc_region ?_  -- region 6 (line 148)
      refine gl_val (ov_move rfl) rfl rfl rfl ?_
      refine gl_nil ?_
      refine gq_keep (e' := [(0, _), (1, _), (7, _), (33, _)]) ⟨rfl, rfl, rfl, rfl, trivial⟩ ?_
      refine gq_then ?_
      refine gc_cond rfl (fun hc33 => ?_) (fun hc33 => ?_)
      · skip
        have hw := lt_word hc33
        have hyw := lt_word (n := Y) (by omega)
        refine gc_keep (e' := [(1, _), (7, _)]) ⟨rfl, rfl, trivial⟩ ?_
        refine gc_seq ?_
        refine gc_region ?_  -- region 7 (line 149)
        refine gl_val (ov_move rfl) rfl rfl rfl ?_
        refine gl_call (vs := [_]) rfl rfl rfl rfl Try.call50 ⟨rfl, trivial⟩ (fun w hs => ref_small hs hv') ?_
        intro v36 h3 hh3 hr36
        replace hv := hv.mono hh3
        replace hv' := hv'.mono hh3
        subst hr36
        refine gl_val (ov_move rfl) rfl rfl rfl ?_
        refine gl_val (ov_extract (vs := [_, _]) rfl rfl) rfl rfl rfl ?_
        rw [if_pos hc33, if_pos (show (limbs Y).length ≤ 2 by omega)]
        refine gl_val (ov_extract (vs := [_, _]) rfl rfl) rfl rfl rfl ?_
        refine gl_val (ov_assign rfl) rfl rfl rfl ?_
        refine gl_val (ov_assign rfl) rfl rfl rfl ?_
        refine gl_nil ?_
        refine gq_keep (e' := [(7, _), (9, _)]) ⟨rfl, rfl, trivial⟩ ?_
        refine gq_then ?_
        refine gc_seq ?_
        refine gc_draw 11 _ [] [(0, .q), (1, .q), (2, .q), (4, .q), (5, .q), (6, .q), (3, .c), (7, .c), (8, .q), (9, .q), (10, .q)] mixed (fun x hx => by cases hx) (by kernel_rfl) (fun x hx => by cases hx) (fun r hr => hr) ?_  -- region 8 (line 150)
        refine w_q rfl (fun h' L' hh hR => ov_move rfl) rfl ?_
        refine w_q rfl (fun h' L' hh hR => ov_move rfl) rfl ?_
        refine w_q rfl (fun h' L' hh hR => ov_quo_u (k := .u64) (W := 18446744073709551616) rfl rfl rfl rfl (by omega) (by omega)) rfl ?_
        refine w_q rfl (fun h' L' hh hR => ov_move rfl) rfl ?_
        refine w_q rfl (fun h' L' hh hR => ov_move rfl) rfl ?_
        refine w_q rfl (fun h' L' hh hR => ov_rem_u (k := .u64) rfl rfl (by omega)) rfl ?_
        refine w_c rfl ?_
        have hqle := Nat.div_le_self X Y
        have hrlt := Nat.mod_lt X (Nat.pos_of_ne_zero hyne)
        refine s_call (vs := [_]) Try.call22 ⟨rfl, trivial⟩ (fun w hs => ref_of hs (by omega)) rfl ?_
        intro v42 h4 hh4 hr42
        replace hv := hv.mono hh4
        replace hv' := hv'.mono hh4
        refine w_c rfl ?_
        refine s_call (vs := [_]) Try.call22 ⟨rfl, trivial⟩ (fun w hs => ref_of hs (by omega)) rfl ?_
        intro v46 h5 hh5 hr46
        replace hv := hv.mono hh5
        replace hv' := hv'.mono hh5
        replace hr42 := hr42.mono hh5
        refine w_q rfl (fun h' L' hh hR => ov_assign rfl) rfl ?_
        refine w_q rfl (fun h' L' hh hR => ov_assign rfl) rfl ?_
        refine w_q rfl (fun h' L' hh hR => ov_assign (v := vI (0)) rfl) rfl ?_
        refine w_nil ?_
        refine gq_keep (e' := [(4, _), (5, _), (6, _)]) ⟨rfl, rfl, rfl, trivial⟩ ?_
        refine gq_then ?_
        refine gc_ret ?_
        refine gr_then ?_
        refine gq_body3 rfl rfl rfl rfl ?_
        rw [if_neg hyne, if_neg hyne]
        exact ⟨_, _, rfl, hr42, hr46⟩
      · skip
        refine gc_keep (e' := [(0, _), (1, _)]) ⟨rfl, rfl, trivial⟩ ?_
        refine gc_skip ?_
        refine gq_then ?_
        refine gc_seq ?_
        refine gc_seq ?_
        refine gc_region ?_  -- region 9 (line 152)
        refine gl_val (ov_move rfl) rfl rfl rfl ?_
        refine gl_val (ov_len_us Try.underlying22 rfl hv') rfl rfl rfl ?_
        refine gl_val (ov_eql_i (q := 1) rfl rfl) rfl rfl rfl ?_
        refine gl_nil ?_
        refine gq_keep (e' := [(0, _), (1, _), (49, _)]) ⟨rfl, rfl, rfl, trivial⟩ ?_
        refine gq_then ?_
        refine gc_cond rfl (fun hc49 => ?_) (fun hc49 => ?_)
        · skip
          have hone : (limbs Y).length = 1 := by omega
          have hb0 : (limbs Y).getD 0 0 ≠ 0 := by have := limbs_top_ne (n := Y) (by omega); rwa [hone] at this
          have hvy := val_one hone
          rw [val_limbs] at hvy
          refine gc_keep (e' := [(0, _), (1, _)]) ⟨rfl, rfl, trivial⟩ ?_
          refine gc_seq ?_
          refine gc_region ?_  -- region 10 (line 153)
          refine gl_val (ov_move rfl) rfl rfl rfl ?_
          refine gl_val (ov_move rfl) rfl rfl rfl ?_
          refine gl_val (ov_index_us (q := 0) (0) Try.underlying22 Try.sizeOf45 rfl rfl hv' rfl (by omega)) rfl rfl rfl ?_
          refine gl_val (ov_load_us Try.isAgg45 rfl hv' (by omega)) rfl rfl rfl ?_
          have hb1 := hv'.get32 0
          refine gl_call (vs := [_, _]) rfl rfl rfl rfl Try.call48 ⟨rfl, rfl, trivial⟩ (fun w hs => ref_bylimb hs hv (by omega) (by omega) (by omega)) ?_
          intro v55 h3 hh3 hr55
          replace hv := hv.mono hh3
          replace hv' := hv'.mono hh3
          obtain ⟨u55, rfl, hu55⟩ := hr55
          rw [val_limbs] at hu55 ⊢
          have hrlt := Nat.mod_lt X (Nat.pos_of_ne_zero hb0)
          refine gl_val (ov_move rfl) rfl rfl rfl ?_
          refine gl_val (ov_extract (vs := [_, _]) rfl rfl) rfl rfl rfl ?_
          refine gl_val (ov_extract (vs := [_, _]) rfl rfl) rfl rfl rfl ?_
          refine gl_val (ov_assign rfl) rfl rfl rfl ?_
          refine gl_val (ov_assign rfl) rfl rfl rfl ?_
          refine gl_nil ?_
          refine gq_keep (e' := [(11, _), (12, _)]) ⟨rfl, rfl, trivial⟩ ?_
          refine gq_then ?_
          refine gc_seq ?_
          refine gc_region ?_  -- region 11 (line 154)
          refine gl_val (ov_move rfl) rfl rfl rfl ?_
          refine gl_val (ov_move rfl) rfl rfl rfl ?_
          refine gl_val (ov_conv_u (k := .u32) (k' := .u64) (W := 18446744073709551616) Try.underlying45 Try.underlying23 rfl rfl rfl (by omega)) rfl rfl rfl ?_
          refine gl_call (vs := [_]) rfl rfl rfl rfl Try.call22 ⟨rfl, trivial⟩ (fun w hs => ref_of hs (by omega)) ?_
          intro v61 h4 hh4 hr61
          replace hv := hv.mono hh4
          replace hv' := hv'.mono hh4
          replace hu55 := hu55.mono hh4
          refine gl_val (ov_assign rfl) rfl rfl rfl ?_
          refine gl_val (ov_assign rfl) rfl rfl rfl ?_
          refine gl_val (ov_assign (v := vI (0)) rfl) rfl rfl rfl ?_
          refine gl_nil ?_
          refine gq_keep (e' := [(4, _), (5, _), (6, _)]) ⟨rfl, rfl, rfl, trivial⟩ ?_
          refine gq_then ?_
          refine gc_ret ?_
          refine gr_then ?_
          refine gq_body3 rfl rfl rfl rfl ?_
          rw [← hvy] at hu55 hr61
          rw [if_neg hyne, if_neg hyne]
          exact ⟨_, _, rfl, hu55, hr61⟩
        · skip
          have hn2 : 2 ≤ (limbs Y).length := by omega
          refine gc_keep (e' := [(0, _), (1, _)]) ⟨rfl, rfl, trivial⟩ ?_
          refine gc_skip ?_
          refine gq_then ?_
          refine gc_seq ?_
          refine gc_region ?_  -- region 12 (line 157)
          refine gl_val (ov_move rfl) rfl rfl rfl ?_
          refine gl_val (ov_move rfl) rfl rfl rfl ?_
          refine gl_val (ov_len_us Try.underlying22 rfl hv') rfl rfl rfl ?_
          refine gl_val (ov_sub_i (q := 1) rfl rfl (by omega) (by omega)) rfl rfl rfl ?_
          refine gl_val (ov_slice_l ((limbs Y).length - 1) Try.underlying22 Try.sizeOf45 rfl rfl hv'.shape (by omega) (by omega)) rfl rfl rfl ?_
          have hsl66 := hv'.sub (lo := (limbs Y).length - 1) (hi := (limbs Y).length) (by omega) (by omega)
          rw [List.take_of_length_le (by rw [List.length_drop]; omega), limbs_last (by omega)] at hsl66
          have hgt := hv'.get32 ((limbs Y).length - 1)
          have htw := limbs_len_word (n := (limbs Y).getD ((limbs Y).length - 1) 0) (by omega)
          have hb32 := bitsN_le (n := (limbs Y).getD ((limbs Y).length - 1) 0) (k := 32) hgt
          refine gl_call (vs := [_]) rfl rfl rfl rfl Try.call19 ⟨rfl, trivial⟩ (fun w hs => ref_bits hs hsl66 (by omega)) ?_
          intro v67 h3 hh3 hr67
          replace hv := hv.mono hh3
          replace hv' := hv'.mono hh3
          replace hsl66 := hsl66.mono hh3
          subst hr67
          refine gl_val (ov_sub_i (p := 32) rfl rfl (by omega) (by omega)) rfl rfl rfl ?_
          obtain ⟨s, hsd⟩ : ∃ s, s = 32 - bitsN ((limbs Y).getD ((limbs Y).length - 1) 0) := ⟨_, rfl⟩
          rw [show (32 : Int) - ↑(bitsN ((limbs Y).getD ((limbs Y).length - 1) 0)) = ↑s by omega]
          obtain ⟨hs32, hvl, hv1⟩ := norm_limbs (k := (limbs Y).length - 1) hyne (by omega) hsd
          refine gl_val (ov_assign rfl) rfl rfl rfl ?_
          refine gl_nil ?_
          refine gq_keep (e' := [(0, _), (1, _), (13, _)]) ⟨rfl, rfl, rfl, trivial⟩ ?_
          refine gq_then ?_
          refine gc_seq ?_
          refine gc_region ?_  -- region 13 (line 158)
          refine gl_val (ov_move rfl) rfl rfl rfl ?_
          refine gl_val (ov_move rfl) rfl rfl rfl ?_
          refine gl_call (vs := [_, _]) rfl rfl rfl rfl Try.call44 ⟨rfl, rfl, trivial⟩ (fun w hs => ref_up hs hv' (by omega) (by omega)) ?_
          intro v71 h4 hh4 hr71
          replace hv := hv.mono hh4
          replace hv' := hv'.mono hh4
          replace hsl66 := hsl66.mono hh4
          refine gl_val (ov_move rfl) rfl rfl rfl ?_
          refine gl_val (ov_move rfl) rfl rfl rfl ?_
          refine gl_call (vs := [_, _]) rfl rfl rfl rfl Try.call44 ⟨rfl, rfl, trivial⟩ (fun w hs => ref_up hs hv (by omega) (by omega)) ?_
          intro v74 h5 hh5 hr74
          replace hv := hv.mono hh5
          replace hv' := hv'.mono hh5
          replace hsl66 := hsl66.mono hh5
          replace hr71 := hr71.mono hh5
          refine gl_val (ov_assign rfl) rfl rfl rfl ?_
          refine gl_val (ov_assign rfl) rfl rfl rfl ?_
          replace hvl : (limbs (Y * 2 ^ s)).length = (limbs Y).length := by omega
          have hYn := pow_le_of_limbs_len (n := Y * 2 ^ s) (k := (limbs Y).length - 1) (by omega)
          generalize hnd : (limbs Y).length = n at *
          obtain ⟨V, hV⟩ : ∃ V, V = Y * 2 ^ s := ⟨_, rfl⟩
          obtain ⟨U, hU⟩ : ∃ U, U = X * 2 ^ s := ⟨_, rfl⟩
          rw [← hV] at hr71 hvl hv1 hYn
          rw [← hU] at hr74
          have hVd := val_two hn2 hvl
          rw [val_limbs] at hVd
          have hvr := val_lt (fit_take (fit_limbs V) (n - 2))
          rw [List.length_take, Nat.min_eq_left (by omega)] at hvr
          have hUl : (limbs U).length ≤ (limbs X).length + 1 := by rw [hU]; exact Nat.le_trans (limbs_len_mul X (2 ^ s)) (Nat.add_le_add_left (limbs_len_of_lt (k := 1) (by rw [Nat.pow_one]; exact Nat.lt_of_lt_of_le (Nat.pow_lt_pow_right (by decide) hs32) (by decide))) _)
          have hVU : V ≤ U := by rw [hV, hU]; exact Nat.mul_le_mul_right _ hge
          have hnr := limbs_len_mono hVU
          rw [hvl] at hnr
          have hst := rdiv_start (limbs_lt_pow U) hYn (by omega) hnr
          generalize hrd : (limbs U).length = r at *
          have hv1b := fit_get (fit_limbs V) (n - 1)
          refine gl_nil ?_
          refine gq_keep (e' := [(13, _), (1, _), (5, _)]) ⟨rfl, rfl, rfl, trivial⟩ ?_
          refine gq_then ?_
          refine gc_seq ?_
          refine gc_region ?_  -- region 14 (line 159)
          refine gl_val (ov_move rfl) rfl rfl rfl ?_
          refine gl_val (ov_len_us Try.underlying22 rfl hr71) rfl rfl rfl ?_
          rw [hvl]
          refine gl_val (ov_assign rfl) rfl rfl rfl ?_
          refine gl_nil ?_
          refine gq_keep (e' := [(13, _), (1, _), (5, _), (14, _)]) ⟨rfl, rfl, rfl, rfl, trivial⟩ ?_
          refine gq_then ?_
          refine gc_seq ?_
          refine gc_region ?_  -- region 15 (line 160)
          refine gl_val (ov_move rfl) rfl rfl rfl ?_
          refine gl_val (ov_len_us Try.underlying22 rfl hr74) rfl rfl rfl ?_
          rw [hrd]
          refine gl_val (ov_move rfl) rfl rfl rfl ?_
          refine gl_val (ov_sub_i rfl rfl (by omega) (by omega)) rfl rfl rfl ?_
          refine gl_val (ov_add_i (q := 1) rfl rfl (by omega) (by omega)) rfl rfl rfl ?_
          refine gl_make_us (kd := .u32) (by' := 4) (r - n + 1) Try.underlying22 info45 rfl rfl rfl rfl rfl (by omega) (by omega) (by omega) (by omega) rfl ?_
          intro v82
          refine gl_val (ov_assign rfl) rfl rfl rfl ?_
          refine gl_nil ?_
          refine gq_keep (e' := [(13, _), (1, _), (5, _), (14, _), (4, _)]) ⟨rfl, rfl, rfl, rfl, rfl, trivial⟩ ?_
          refine gq_then ?_
          refine gc_seq ?_
          refine gc_seq ?_
          refine gc_region ?_  -- region 16 (line 161)
          refine gl_val (ov_move rfl) rfl rfl rfl ?_
          refine gl_val (ov_len_us Try.underlying22 rfl hr74) rfl rfl rfl ?_
          rw [hrd]
          refine gl_val (ov_move rfl) rfl rfl rfl ?_
          refine gl_val (ov_sub_i rfl rfl (by omega) (by omega)) rfl rfl rfl ?_
          refine gl_val (ov_assign rfl) rfl rfl rfl ?_
          refine gl_nil ?_
          refine gq_keep (e' := [(13, _), (1, _), (5, _), (14, _), (4, _), (15, _)]) ⟨rfl, rfl, rfl, rfl, rfl, rfl, trivial⟩ ?_
          refine gq_then ?_
          refine gc_block ?_
          refine gc_loop (ι := Nat × Value × Nat × List Nat × Mem) (fun (x_ : (Nat × Value × Nat × List Nat × Mem)) => match x_ with | (K, vr, R, qs, k1) => MLe h5 k1 ∧ (Us .u32 k1 vr (limbs R) ∧ K ≤ r - n + 1 ∧ qs.length = r - n + 1 - K ∧ Fit qs ∧ R + 4294967296 ^ K * (val qs * V) = U ∧ R < 4294967296 ^ K * V ∧ (limbs R).length ≤ r)) (fun (x_ : (Nat × Value × Nat × List Nat × Mem)) => match x_ with | (K, vr, R, qs, k1) => [(1, v71), (4, v82), (5, vr), (13, vI ↑s), (14, vI ↑n), (15, vI (↑K - 1))]) (fun (x_ : (Nat × Value × Nat × List Nat × Mem)) => match x_ with | (K, vr, R, qs, k1) => [.us 45 .u32 v82 (fillDn K qs)]) (fun (x_ : (Nat × Value × Nat × List Nat × Mem)) => match x_ with | (K, vr, R, qs, k1) => k1) (fun (x_ : (Nat × Value × Nat × List Nat × Mem)) => match x_ with | (K, vr, R, qs, k1) => K) (r - n + 1, v74, U, [], h5) ?_ ⟨?_, ?_, ?_, ?_, ?_, ?_, trivial⟩ ?_ rfl ?_
          · skip
            refine ⟨MLe.refl _, ?_⟩
            exact ⟨hr74, Nat.le_refl _, by simp, fun x hx => by simp at hx, by simp [val], hst, by omega⟩
          · exact rfl
          · exact rfl
          · exact rfl
          · exact rfl
          · exact rfl
          · exact congrArg some (congrArg vI (by omega))
          · skip
            try dsimp only [List.nil_append, List.cons_append]
            exact congrArg (fun z => [Res.us 45 .u32 v82 z]) (fillDn_nil _)
          · skip
            intro x hx
            obtain ⟨K, vr, R, qs, k1⟩ := x
            obtain ⟨hmk1, ⟨hR, hK, hql, hfq, hval, hlt, hRl⟩⟩ := hx
            replace hv := hv.mono hmk1
            replace hv' := hv'.mono hmk1
            replace hsl66 := hsl66.mono hmk1
            replace hr71 := hr71.mono hmk1
            replace hr74 := hr74.mono hmk1
            show GC _ _ _ _ _ _ [(1, v71), (4, v82), (5, vr), (13, vI ↑s), (14, vI ↑n), (15, vI (↑K - 1))] [.us 45 .u32 v82 (fillDn K qs)] k1
            refine gc_seq ?_
            refine gc_seq ?_
            refine gc_region ?_  -- region 17 (line 161)
            refine gl_val (ov_move rfl) rfl rfl rfl ?_
            refine gl_val (ov_geq_i (q := 0) rfl rfl) rfl rfl rfl ?_
            refine gl_nil ?_
            refine gq_keep (e' := [(1, _), (4, _), (5, _), (13, _), (14, _), (15, _), (88, _)]) ⟨rfl, rfl, rfl, rfl, rfl, rfl, rfl, trivial⟩ ?_
            refine gq_then ?_
            refine gc_cond rfl (fun hc88 => ?_) (fun hc88 => ?_)
            · skip
              refine gc_keep (e' := [(1, _), (4, _), (5, _), (13, _), (14, _), (15, _)]) ⟨rfl, rfl, rfl, rfl, rfl, rfl, trivial⟩ ?_
              refine gc_skip ?_
              refine gq_then ?_
              refine gc_seq ?_
              refine gc_block ?_
              refine gc_seq ?_
              refine gc_region ?_  -- region 19 (line 162)
              refine gl_val (ov_assign (v := vU .u64 0) rfl) rfl rfl rfl ?_
              refine gl_nil ?_
              refine gq_then ?_
              have ha1 := fit_get (fit_limbs R) (K - 1 + n)
              have ha2 := fit_get (fit_limbs R) (K - 1 + n - 1)
              have ha3 := fit_get (fit_limbs R) (K - 1 + n - 2)
              refine gc_cut (ι := Unit) (fun (_u : (Unit)) => True) (fun (_u : (Unit)) => [(1, v71), (4, v82), (5, vr), (13, vI ↑s), (14, vI ↑n), (15, vI (↑K - 1)), (16, vU .u64 ((limbs R).getD (K - 1 + n) 0))]) (fun (_u : (Unit)) => [.us 45 .u32 v82 (fillDn K qs)]) (fun (_u : (Unit)) => k1) ?_ ?_
              · skip
                refine gc_seq ?_
                refine gc_region ?_  -- region 20 (line 163)
                refine gl_val (ov_move rfl) rfl rfl rfl ?_
                refine gl_val (ov_move rfl) rfl rfl rfl ?_
                refine gl_val (ov_add_i rfl rfl (by omega) (by omega)) rfl rfl rfl ?_
                refine gl_val (ov_move rfl) rfl rfl rfl ?_
                refine gl_val (ov_len_us Try.underlying22 rfl hR) rfl rfl rfl ?_
                refine gl_val (ov_lss_i rfl rfl) rfl rfl rfl ?_
                refine gl_nil ?_
                refine gq_keep (e' := [(1, _), (4, _), (5, _), (13, _), (14, _), (15, _), (16, _), (96, _)]) ⟨rfl, rfl, rfl, rfl, rfl, rfl, rfl, rfl, trivial⟩ ?_
                refine gq_then ?_
                refine gc_cond rfl (fun hc96 => ?_) (fun hc96 => ?_)
                · skip
                  refine gc_keep (e' := [(1, _), (4, _), (5, _), (13, _), (14, _), (15, _)]) ⟨rfl, rfl, rfl, rfl, rfl, rfl, trivial⟩ ?_
                  refine gc_region ?_  -- region 21 (line 164)
                  refine gl_val (ov_move rfl) rfl rfl rfl ?_
                  refine gl_val (ov_move rfl) rfl rfl rfl ?_
                  refine gl_val (ov_move rfl) rfl rfl rfl ?_
                  refine gl_val (ov_add_i rfl rfl (by omega) (by omega)) rfl rfl rfl ?_
                  refine gl_val (ov_index_us (K - 1 + n) Try.underlying22 Try.sizeOf45 rfl rfl hR (by omega) (by omega)) rfl rfl rfl ?_
                  refine gl_val (ov_load_us Try.isAgg45 rfl hR (by omega)) rfl rfl rfl ?_
                  refine gl_val (ov_conv_u (k := .u32) (k' := .u64) (W := 18446744073709551616) Try.underlying45 Try.underlying23 rfl rfl rfl (by omega)) rfl rfl rfl ?_
                  refine gl_val (ov_assign rfl) rfl rfl rfl ?_
                  refine gl_nil ?_
                  refine gq_cut (()) ?_ ⟨?_, ?_, ?_, ?_, ?_, ?_, ?_, trivial⟩ ?_ rfl
                  · skip
                    trivial
                  · exact rfl
                  · exact rfl
                  · exact rfl
                  · exact rfl
                  · exact rfl
                  · exact rfl
                  · exact rfl
                  · exact rfl
                · skip
                  refine gc_keep (e' := [(1, _), (4, _), (5, _), (13, _), (14, _), (15, _), (16, _)]) ⟨rfl, rfl, rfl, rfl, rfl, rfl, rfl, trivial⟩ ?_
                  refine gc_skip ?_
                  refine gq_cut (()) ?_ ⟨?_, ?_, ?_, ?_, ?_, ?_, ?_, trivial⟩ ?_ rfl
                  · skip
                    trivial
                  · exact rfl
                  · exact rfl
                  · exact rfl
                  · exact rfl
                  · exact rfl
                  · exact rfl
                  · exact congrArg some (congrArg (vU .u64) (by rw [getD_out (xs := limbs R) (by omega)]))
                  · exact rfl
              · skip
                intro _u hx
                obtain hcut := hx
                show GC _ _ _ _ _ _ [(1, v71), (4, v82), (5, vr), (13, vI ↑s), (14, vI ↑n), (15, vI (↑K - 1)), (16, vU .u64 ((limbs R).getD (K - 1 + n) 0))] [.us 45 .u32 v82 (fillDn K qs)] k1
                refine gc_cut (ι := Unit) (fun (_u : (Unit)) => True) (fun (_u : (Unit)) => [(1, v71), (4, v82), (5, vr), (13, vI ↑s), (14, vI ↑n), (15, vI (↑K - 1)), (16, vU .u64 ((limbs R).getD (K - 1 + n) 0 * 4294967296 + (limbs R).getD (K - 1 + n - 1) 0))]) (fun (_u : (Unit)) => [.us 45 .u32 v82 (fillDn K qs)]) (fun (_u : (Unit)) => k1) ?_ ?_
                · skip
                  refine gc_seq ?_
                  refine gc_region ?_  -- region 22 (line 166)
                  refine gl_val (ov_move rfl) rfl rfl rfl ?_
                  refine gl_val (ov_move rfl) rfl rfl rfl ?_
                  refine gl_val (ov_add_i rfl rfl (by omega) (by omega)) rfl rfl rfl ?_
                  refine gl_val (ov_sub_i (q := 1) rfl rfl (by omega) (by omega)) rfl rfl rfl ?_
                  refine gl_val (ov_move rfl) rfl rfl rfl ?_
                  refine gl_val (ov_len_us Try.underlying22 rfl hR) rfl rfl rfl ?_
                  refine gl_val (ov_lss_i rfl rfl) rfl rfl rfl ?_
                  refine gl_nil ?_
                  refine gq_keep (e' := [(1, _), (4, _), (5, _), (13, _), (14, _), (15, _), (16, _), (110, _)]) ⟨rfl, rfl, rfl, rfl, rfl, rfl, rfl, rfl, trivial⟩ ?_
                  refine gq_then ?_
                  refine gc_cond rfl (fun hc110 => ?_) (fun hc110 => ?_)
                  · skip
                    refine gc_keep (e' := [(1, _), (4, _), (5, _), (13, _), (14, _), (15, _), (16, _)]) ⟨rfl, rfl, rfl, rfl, rfl, rfl, rfl, trivial⟩ ?_
                    refine gc_region ?_  -- region 23 (line 167)
                    refine gl_val (ov_move rfl) rfl rfl rfl ?_
                    refine gl_val (ov_shl_u (k := .u64) (s := 32) (yk := .u64) (W := 18446744073709551616) rfl rfl rfl rfl) rfl rfl rfl ?_
                    refine gl_val (ov_move rfl) rfl rfl rfl ?_
                    refine gl_val (ov_move rfl) rfl rfl rfl ?_
                    refine gl_val (ov_move rfl) rfl rfl rfl ?_
                    refine gl_val (ov_add_i rfl rfl (by omega) (by omega)) rfl rfl rfl ?_
                    refine gl_val (ov_sub_i (q := 1) rfl rfl (by omega) (by omega)) rfl rfl rfl ?_
                    refine gl_val (ov_index_us (K - 1 + n - 1) Try.underlying22 Try.sizeOf45 rfl rfl hR (by omega) (by omega)) rfl rfl rfl ?_
                    refine gl_val (ov_load_us Try.isAgg45 rfl hR (by omega)) rfl rfl rfl ?_
                    refine gl_val (ov_conv_u (k := .u32) (k' := .u64) (W := 18446744073709551616) Try.underlying45 Try.underlying23 rfl rfl rfl (by omega)) rfl rfl rfl ?_
                    refine gl_val (ov_or_u (k := .u64) rfl rfl rfl (by simp only [ub]; omega) (by simp only [ub]; omega)) rfl rfl rfl ?_
                    rw [or_shift (by omega) (by omega)]
                    refine gl_val (ov_assign rfl) rfl rfl rfl ?_
                    refine gl_nil ?_
                    refine gq_cut (()) ?_ ⟨?_, ?_, ?_, ?_, ?_, ?_, ?_, trivial⟩ ?_ rfl
                    · skip
                      trivial
                    · exact rfl
                    · exact rfl
                    · exact rfl
                    · exact rfl
                    · exact rfl
                    · exact rfl
                    · exact rfl
                    · exact rfl
                  · skip
                    refine gc_keep (e' := [(1, _), (4, _), (5, _), (13, _), (14, _), (15, _), (16, _)]) ⟨rfl, rfl, rfl, rfl, rfl, rfl, rfl, trivial⟩ ?_
                    refine gc_region ?_  -- region 24 (line 169)
                    refine gl_val (ov_move rfl) rfl rfl rfl ?_
                    refine gl_val (ov_shl_u (k := .u64) (s := 32) (yk := .u64) (W := 18446744073709551616) rfl rfl rfl rfl) rfl rfl rfl ?_
                    refine gl_val (ov_assign rfl) rfl rfl rfl ?_
                    refine gl_nil ?_
                    refine gq_cut (()) ?_ ⟨?_, ?_, ?_, ?_, ?_, ?_, ?_, trivial⟩ ?_ rfl
                    · skip
                      trivial
                    · exact rfl
                    · exact rfl
                    · exact rfl
                    · exact rfl
                    · exact rfl
                    · exact rfl
                    · exact congrArg some (congrArg (vU .u64) (by rw [getD_out (xs := limbs R) (i := K - 1 + n - 1) (by omega)]; omega))
                    · exact rfl
                · skip
                  intro _u hx
                  obtain hcut := hx
                  show GC _ _ _ _ _ _ [(1, v71), (4, v82), (5, vr), (13, vI ↑s), (14, vI ↑n), (15, vI (↑K - 1)), (16, vU .u64 ((limbs R).getD (K - 1 + n) 0 * 4294967296 + (limbs R).getD (K - 1 + n - 1) 0))] [.us 45 .u32 v82 (fillDn K qs)] k1
                  have hVn : V < 4294967296 ^ n := by rw [← hvl]; exact limbs_lt_pow V
                  have hRn : R < 4294967296 ^ (K + n) := Nat.lt_of_lt_of_le hlt (by rw [Nat.pow_add]; exact Nat.mul_le_mul_left _ (Nat.le_of_lt hVn))
                  have hz0 : ∀ i, K + n ≤ i → (limbs R).getD i 0 = 0 := fun i hi => getD_zero_of_lt (by rw [val_limbs]; exact hRn) hi
                  obtain ⟨wr, hW, hwr⟩ := val_three (j := K - 1) hn2 (fun i hi => hz0 i (by omega)) (fit_limbs R)
                  rw [val_drop_div (fit_limbs R), val_limbs] at hW
                  have hWV := rdiv_low (R := R) (V := V) (k := K - 1) (by rw [Nat.sub_add_cancel (by omega)]; exact hlt)
                  obtain ⟨top, htop⟩ : ∃ t, t = (limbs R).getD (K - 1 + n) 0 * 4294967296 + (limbs R).getD (K - 1 + n - 1) 0 := ⟨_, rfl⟩
                  rw [← htop]
                  rw [← htop] at hW
                  have htb : top < 18446744073709551616 := by omega
                  have hest := lt_of_div (by rw [hW] at hWV ⊢; exact rdiv_est hVd rfl ha3 hwr (by omega) hWV)
                  have hv1p : 0 < (limbs V).getD (n - 1) 0 := by omega
                  refine gc_seq ?_
                  refine gc_region ?_  -- region 25 (line 171)
                  refine gl_val (ov_move rfl) rfl rfl rfl ?_
                  refine gl_val (ov_move rfl) rfl rfl rfl ?_
                  refine gl_val (ov_move rfl) rfl rfl rfl ?_
                  refine gl_val (ov_sub_i (q := 1) rfl rfl (by omega) (by omega)) rfl rfl rfl ?_
                  refine gl_val (ov_index_us (n - 1) Try.underlying22 Try.sizeOf45 rfl rfl hr71 (by omega) (by omega)) rfl rfl rfl ?_
                  refine gl_val (ov_load_us Try.isAgg45 rfl hr71 (by omega)) rfl rfl rfl ?_
                  refine gl_val (ov_conv_u (k := .u32) (k' := .u64) (W := 18446744073709551616) Try.underlying45 Try.underlying23 rfl rfl rfl (by omega)) rfl rfl rfl ?_
                  refine gl_val (ov_quo_u (k := .u64) (W := 18446744073709551616) rfl rfl rfl rfl (by omega) (by omega)) rfl rfl rfl ?_
                  refine gl_val (ov_min_u (k := .u64) (q := 4294967295) rfl rfl) rfl rfl rfl ?_
                  rw [Nat.min_def]
                  rw [← Nat.min_def]
                  refine gl_val (ov_assign rfl) rfl rfl rfl ?_
                  refine gl_nil ?_
                  refine gq_keep (e' := [(1, _), (4, _), (5, _), (13, _), (14, _), (15, _), (17, _)]) ⟨rfl, rfl, rfl, rfl, rfl, rfl, rfl, trivial⟩ ?_
                  refine gq_then ?_
                  refine gc_seq ?_
                  refine gc_region ?_  -- region 26 (line 172)
                  refine gl_val (ov_move rfl) rfl rfl rfl ?_
                  refine gl_val (ov_move rfl) rfl rfl rfl ?_
                  refine gl_val (ov_conv_u (k := .u64) (k' := .u32) (W := 4294967296) Try.underlying23 Try.underlying45 rfl rfl rfl (by omega)) rfl rfl rfl ?_
                  refine gl_call (vs := [_, _]) rfl rfl rfl rfl Try.call52 ⟨rfl, rfl, trivial⟩ (fun w hs => ref_times hs hr71 (by omega) (by omega)) ?_
                  intro v136 h6 hh6 hr136
                  replace hv := hv.mono hh6
                  replace hv' := hv'.mono hh6
                  replace hsl66 := hsl66.mono hh6
                  replace hr71 := hr71.mono hh6
                  replace hr74 := hr74.mono hh6
                  replace hR := hR.mono hh6
                  have hlp := limbs_len_mul V (min (top / (limbs V).getD (n - 1) 0) 4294967295)
                  have hld := limbs_len_word (n := min (top / (limbs V).getD (n - 1) 0) 4294967295) (by omega)
                  refine gl_val (ov_move rfl) rfl rfl rfl ?_
                  rw [show (↑K : Int) - 1 = ↑(K - 1) by omega]
                  refine gl_call (vs := [_, _]) rfl rfl rfl rfl Try.call51 ⟨rfl, rfl, trivial⟩ (fun w hs => ref_shifted hs hr136 (by omega) (by omega)) ?_
                  intro v138 h7 hh7 hr138
                  replace hv := hv.mono hh7
                  replace hv' := hv'.mono hh7
                  replace hsl66 := hsl66.mono hh7
                  replace hr71 := hr71.mono hh7
                  replace hr74 := hr74.mono hh7
                  replace hR := hR.mono hh7
                  replace hr136 := hr136.mono hh7
                  refine gl_val (ov_assign rfl) rfl rfl rfl ?_
                  refine gl_nil ?_
                  refine gq_keep (e' := [(1, _), (4, _), (5, _), (13, _), (14, _), (15, _), (17, _), (18, _)]) ⟨rfl, rfl, rfl, rfl, rfl, rfl, rfl, rfl, trivial⟩ ?_
                  refine gq_then ?_
                  refine gc_seq ?_
                  refine gc_block ?_
                  refine gc_loop (ι := Value × Nat × Mem) (fun (x_ : (Value × Nat × Mem)) => match x_ with | (vp, d, k2) => MLe h7 k2 ∧ (Us .u32 k2 vp (limbs (V * d * 4294967296 ^ (K - 1))) ∧ d ≤ 4294967295 ∧ R < V * (d + 1) * 4294967296 ^ (K - 1))) (fun (x_ : (Value × Nat × Mem)) => match x_ with | (vp, d, k2) => [(1, v71), (4, v82), (5, vr), (13, vI ↑s), (14, vI ↑n), (15, vI ↑(K - 1)), (17, vU .u64 d), (18, vp)]) (fun (x_ : (Value × Nat × Mem)) => match x_ with | (vp, d, k2) => [.us 45 .u32 v82 (fillDn K qs)]) (fun (x_ : (Value × Nat × Mem)) => match x_ with | (vp, d, k2) => k2) (fun (x_ : (Value × Nat × Mem)) => match x_ with | (vp, d, k2) => d) (v138, min (top / (limbs V).getD (n - 1) 0) 4294967295, h7) ?_ ⟨rfl, rfl, rfl, rfl, rfl, rfl, rfl, rfl, trivial⟩ rfl rfl ?_
                  · skip
                    refine ⟨MLe.refl _, ?_⟩
                    exact ⟨hr138, Nat.min_le_right _ _, hest⟩
                  · skip
                    intro x hx
                    obtain ⟨vp, d, k2⟩ := x
                    obtain ⟨hmk2, ⟨hp, hdb, hdl⟩⟩ := hx
                    replace hv := hv.mono hmk2
                    replace hv' := hv'.mono hmk2
                    replace hsl66 := hsl66.mono hmk2
                    replace hr71 := hr71.mono hmk2
                    replace hr74 := hr74.mono hmk2
                    replace hR := hR.mono hmk2
                    replace hr136 := hr136.mono hmk2
                    replace hr138 := hr138.mono hmk2
                    show GC _ _ _ _ _ _ [(1, v71), (4, v82), (5, vr), (13, vI ↑s), (14, vI ↑n), (15, vI ↑(K - 1)), (17, vU .u64 d), (18, vp)] [.us 45 .u32 v82 (fillDn K qs)] k2
                    refine gc_seq ?_
                    refine gc_seq ?_
                    refine gc_region ?_  -- region 27 (line 173)
                    refine gl_val (ov_move rfl) rfl rfl rfl ?_
                    refine gl_val (ov_move rfl) rfl rfl rfl ?_
                    refine gl_call (vs := [_, _]) rfl rfl rfl rfl Try.call17 ⟨rfl, rfl, trivial⟩ (fun w hs => ref_cmp hs hp hR) ?_
                    intro v141 h8 hh8 hr141
                    replace hv := hv.mono hh8
                    replace hv' := hv'.mono hh8
                    replace hsl66 := hsl66.mono hh8
                    replace hr71 := hr71.mono hh8
                    replace hr74 := hr74.mono hh8
                    replace hR := hR.mono hh8
                    replace hr136 := hr136.mono hh8
                    replace hr138 := hr138.mono hh8
                    replace hp := hp.mono hh8
                    subst hr141
                    refine gl_val (ov_gtr_i (q := 0) rfl rfl) rfl rfl rfl ?_
                    refine gl_nil ?_
                    refine gq_keep (e' := [(1, _), (4, _), (5, _), (13, _), (14, _), (15, _), (17, _), (18, _), (142, _)]) ⟨rfl, rfl, rfl, rfl, rfl, rfl, rfl, rfl, rfl, trivial⟩ ?_
                    refine gq_then ?_
                    refine gc_cond rfl (fun hc142 => ?_) (fun hc142 => ?_)
                    · skip
                      have hgt := cmpN_pos.1 hc142
                      have hd1 : 1 ≤ d := Nat.pos_of_ne_zero fun h0 => by rw [h0, Nat.mul_zero, Nat.zero_mul] at hgt; omega
                      obtain ⟨hbk, hbl⟩ := rq_back (V := V) (p := 4294967296 ^ (K - 1)) hd1
                      refine gc_keep (e' := [(1, _), (4, _), (5, _), (13, _), (14, _), (15, _), (17, _), (18, _)]) ⟨rfl, rfl, rfl, rfl, rfl, rfl, rfl, rfl, trivial⟩ ?_
                      refine gc_skip ?_
                      refine gq_then ?_
                      refine gc_block ?_
                      refine gc_seq ?_
                      refine gc_region ?_  -- region 28 (line 174)
                      refine gl_val (ov_move rfl) rfl rfl rfl ?_
                      refine gl_val (ov_sub_u (k := .u64) (q := 1) (W := 18446744073709551616) rfl rfl rfl rfl (by omega) (by omega)) rfl rfl rfl ?_
                      refine gl_val (ov_assign rfl) rfl rfl rfl ?_
                      refine gl_nil ?_
                      refine gq_keep (e' := [(1, _), (4, _), (5, _), (13, _), (14, _), (15, _), (18, _), (17, _)]) ⟨rfl, rfl, rfl, rfl, rfl, rfl, rfl, rfl, trivial⟩ ?_
                      refine gq_then ?_
                      refine gc_region ?_  -- region 29 (line 175)
                      refine gl_val (ov_move rfl) rfl rfl rfl ?_
                      refine gl_val (ov_move rfl) rfl rfl rfl ?_
                      refine gl_val (ov_move rfl) rfl rfl rfl ?_
                      refine gl_call (vs := [_, _]) rfl rfl rfl rfl Try.call51 ⟨rfl, rfl, trivial⟩ (fun w hs => ref_shifted hs hr71 (by omega) (by omega)) ?_
                      intro v148 h9 hh9 hr148
                      replace hv := hv.mono hh9
                      replace hv' := hv'.mono hh9
                      replace hsl66 := hsl66.mono hh9
                      replace hr71 := hr71.mono hh9
                      replace hr74 := hr74.mono hh9
                      replace hR := hR.mono hh9
                      replace hr136 := hr136.mono hh9
                      replace hr138 := hr138.mono hh9
                      replace hp := hp.mono hh9
                      have hlq := limbs_len_shl (V * d) (K - 1)
                      have hlq2 := limbs_len_mul V d
                      have hlq3 := limbs_len_word (n := d) (by omega)
                      refine gl_call (vs := [_, _]) rfl rfl rfl rfl Try.call53 ⟨rfl, rfl, trivial⟩ (fun w hs => ref_minus hs hp hr148 hbl (by omega)) ?_
                      intro v149 h10 hh10 hr149
                      replace hv := hv.mono hh10
                      replace hv' := hv'.mono hh10
                      replace hsl66 := hsl66.mono hh10
                      replace hr71 := hr71.mono hh10
                      replace hr74 := hr74.mono hh10
                      replace hR := hR.mono hh10
                      replace hr136 := hr136.mono hh10
                      replace hr138 := hr138.mono hh10
                      replace hp := hp.mono hh10
                      replace hr148 := hr148.mono hh10
                      rw [hbk] at hr149
                      refine gl_val (ov_assign rfl) rfl rfl rfl ?_
                      refine gl_nil ?_
                      refine gq_in ?_
                      refine gq_round (v149, d - 1, h10) ?_ ?_ ⟨?_, ?_, ?_, ?_, ?_, ?_, ?_, ?_, trivial⟩ ?_ rfl
                      · skip
                        refine ⟨(((hmk2.trans hh8).trans hh9).trans hh10), ?_⟩
                        exact ⟨hr149, by omega, by rw [Nat.sub_add_cancel hd1]; exact hgt⟩
                      · skip
                        dsimp only
                        omega
                      · exact rfl
                      · exact rfl
                      · exact rfl
                      · exact rfl
                      · exact rfl
                      · exact rfl
                      · exact rfl
                      · exact rfl
                      · exact rfl
                    · skip
                      have hple : V * d * 4294967296 ^ (K - 1) ≤ R := Nat.le_of_not_lt fun hc => hc142 (cmpN_pos.2 hc)
                      refine gc_keep (e' := [(1, _), (4, _), (5, _), (13, _), (14, _), (15, _), (17, _), (18, _)]) ⟨rfl, rfl, rfl, rfl, rfl, rfl, rfl, rfl, trivial⟩ ?_
                      refine gc_exit ?_
                      refine gx_then ?_
                      refine gx_then ?_
                      refine gx_here ?_
                      refine gq_then ?_
                      refine gc_seq ?_
                      refine gc_region ?_  -- region 30 (line 177)
                      refine gl_val (ov_move rfl) rfl rfl rfl ?_
                      refine gl_val (ov_move rfl) rfl rfl rfl ?_
                      refine gl_val (ov_move rfl) rfl rfl rfl ?_
                      refine gl_val (ov_conv_u (k := .u64) (k' := .u32) (W := 4294967296) Try.underlying23 Try.underlying45 rfl rfl rfl (by omega)) rfl rfl rfl ?_
                      refine gl_val (ov_index_ous (A := []) (K - 1) Try.underlying22 Try.sizeOf45 rfl rfl (by omega) (by rw [length_fillDn]; omega)) rfl rfl rfl ?_
                      refine gl_store_ous0 Try.sizeOf45 rfl rfl (by rw [length_fillDn]; omega) ?_
                      refine gl_nil ?_
                      refine gq_keep (e' := [(1, _), (4, _), (5, _), (13, _), (14, _), (15, _), (18, _)]) ⟨rfl, rfl, rfl, rfl, rfl, rfl, rfl, trivial⟩ ?_
                      refine gq_then ?_
                      refine gc_region ?_  -- region 31 (line 178)
                      refine gl_val (ov_move rfl) rfl rfl rfl ?_
                      refine gl_val (ov_move rfl) rfl rfl rfl ?_
                      refine gl_call (vs := [_, _]) rfl rfl rfl rfl Try.call53 ⟨rfl, rfl, trivial⟩ (fun w hs => ref_minus hs hR hp hple (by omega)) ?_
                      intro v157 h9 hh9 hr157
                      replace hv := hv.mono hh9
                      replace hv' := hv'.mono hh9
                      replace hsl66 := hsl66.mono hh9
                      replace hr71 := hr71.mono hh9
                      replace hr74 := hr74.mono hh9
                      replace hR := hR.mono hh9
                      replace hr136 := hr136.mono hh9
                      replace hr138 := hr138.mono hh9
                      replace hp := hp.mono hh9
                      refine gl_val (ov_assign rfl) rfl rfl rfl ?_
                      refine gl_nil ?_
                      refine gq_in ?_
                      refine gq_keep (e' := [(1, _), (4, _), (13, _), (14, _), (15, _), (5, _)]) ⟨rfl, rfl, rfl, rfl, rfl, rfl, trivial⟩ ?_
                      refine gq_then ?_
                      refine gc_region ?_  -- region 18 (line 161)
                      refine gl_val (ov_move rfl) rfl rfl rfl ?_
                      refine gl_val (ov_sub_i (q := 1) rfl rfl (by omega) (by omega)) rfl rfl rfl ?_
                      refine gl_val (ov_assign rfl) rfl rfl rfl ?_
                      refine gl_nil ?_
                      refine gq_round (K - 1, v157, R - V * d * 4294967296 ^ (K - 1), d :: qs, h9) ?_ ?_ ⟨?_, ?_, ?_, ?_, ?_, ?_, trivial⟩ ?_ rfl
                      · skip
                        refine ⟨(((((hmk1.trans hh6).trans hh7).trans hmk2).trans hh8).trans hh9), ?_⟩
                        have eK : (4294967296 : Nat) ^ K = 4294967296 ^ (K - 1) * 4294967296 := by rw [← Nat.pow_succ, Nat.succ_eq_add_one, Nat.sub_add_cancel (by omega)]
                        rw [eK] at hval
                        have hlm2 := limbs_len_mono (Nat.sub_le R (V * d * 4294967296 ^ (K - 1)))
                        exact ⟨hr157, by omega, by simp only [List.length_cons]; omega, fit_cons.2 ⟨by omega, hfq⟩, rq_step hval hple, rq_lt hdl hple, by omega⟩
                      · skip
                        dsimp only
                        omega
                      · exact rfl
                      · exact rfl
                      · exact rfl
                      · exact rfl
                      · exact rfl
                      · exact congrArg some (congrArg vI (by omega))
                      · skip
                        try dsimp only [List.nil_append, List.cons_append]
                        rw [fillDn_set (by omega)]
            · skip
              refine gc_keep (e' := [(4, _), (5, _), (13, _)]) ⟨rfl, rfl, rfl, trivial⟩ ?_
              refine gc_exit ?_
              refine gx_then ?_
              refine gx_then ?_
              refine gx_here ?_
              refine gq_then ?_
              refine gc_seq ?_
              have hK0 : K = 0 := by omega
              subst hK0
              rw [fillDn_zero]
              rw [Nat.pow_zero, Nat.one_mul] at hval hlt
              refine gc_region ?_  -- region 32 (line 180)
              refine gl_val (ov_move rfl) rfl rfl rfl ?_
              refine gl_freeze_us0 (by exact hfq) ?_
              intro h6 hh6 hq
              replace hv := hv.mono hh6
              replace hv' := hv'.mono hh6
              replace hsl66 := hsl66.mono hh6
              replace hr71 := hr71.mono hh6
              replace hr74 := hr74.mono hh6
              replace hR := hR.mono hh6
              refine gl_call (vs := [_]) rfl rfl rfl rfl Try.call39 ⟨rfl, trivial⟩ (fun w hs => ref_trim hs hq (by omega)) ?_
              intro v159 h7 hh7 hr159
              replace hv := hv.mono hh7
              replace hv' := hv'.mono hh7
              replace hsl66 := hsl66.mono hh7
              replace hr71 := hr71.mono hh7
              replace hr74 := hr74.mono hh7
              replace hR := hR.mono hh7
              replace hq := hq.mono hh7
              refine gl_val (ov_move rfl) rfl rfl rfl ?_
              refine gl_val (ov_move rfl) rfl rfl rfl ?_
              refine gl_call (vs := [_, _]) rfl rfl rfl rfl Try.call45 ⟨rfl, rfl, trivial⟩ (fun w hs => ref_down hs hR (by omega) (by omega)) ?_
              intro v162 h8 hh8 hr162
              replace hv := hv.mono hh8
              replace hv' := hv'.mono hh8
              replace hsl66 := hsl66.mono hh8
              replace hr71 := hr71.mono hh8
              replace hr74 := hr74.mono hh8
              replace hR := hR.mono hh8
              replace hq := hq.mono hh8
              replace hr159 := hr159.mono hh8
              refine gl_val (ov_assign rfl) rfl rfl rfl ?_
              refine gl_val (ov_assign rfl) rfl rfl rfl ?_
              refine gl_val (ov_assign (v := vI (0)) rfl) rfl rfl rfl ?_
              refine gl_nil ?_
              refine gq_keep (e' := [(4, _), (5, _), (6, _)]) ⟨rfl, rfl, rfl, trivial⟩ ?_
              refine gq_then ?_
              refine gc_ret ?_
              refine gq_body3 rfl rfl rfl rfl ?_
              obtain ⟨e1, e2⟩ := div_end (X := X) (Y := Y) (s := s) (u := R) (q := val qs) (by omega) (by rw [← hV, ← hU]; exact hval) (by rw [← hV]; exact hlt)
              rw [e1] at hr159
              rw [e2] at hr162
              rw [if_neg hyne, if_neg hyne]
              exact ⟨_, _, rfl, hr159, hr162⟩

theorem ref_gcd {w0 : World} {h0 : Mem}  (hs : MLe h0 (mem w0)) {v v' : Value} {A B : Nat} (hv : Us .u32 h0 v (limbs A)) (hv' : Us .u32 h0 v' (limbs B)) (hl : (limbs A).length ≤ 549755813888) (hl' : (limbs B).length ≤ 549755813888) :
    Calls Try.prog 35 #[v, v'] w0 (Ret w0 h0 (fun h r => Us .u32 h r (limbs (Nat.gcd A B)))) := by
  obtain ⟨G, hG⟩ : ∃ G, G = Nat.gcd A B := ⟨_, rfl⟩
  rw [← hG]
  refine calls_begin (n := 51) (e := [(0, v), (1, v')]) (vs := [v, v']) Try.func35 rfl rfl (Nat.le_of_ble_eq_true rfl) hs ⟨rfl, rfl, trivial⟩ ?_
  refine gc_seq ?_
  refine gc_region ?_  -- region 0 (line 221)
  refine gl_val (ov_assign rfl) rfl rfl rfl ?_
  refine gl_nil ?_
  refine gq_keep (e' := [(0, _), (1, _)]) ⟨rfl, rfl, trivial⟩ ?_
  refine gq_then ?_
  refine gc_seq ?_
  refine gc_region ?_  -- region 1 (line 222)
  refine gl_val (ov_move rfl) rfl rfl rfl ?_
  refine gl_call (vs := [_]) rfl rfl rfl rfl Try.call39 ⟨rfl, trivial⟩ (fun w hs => ref_trim hs hv (by omega)) ?_
  intro v13 h1 hh1 hr13
  replace hv := hv.mono hh1
  replace hv' := hv'.mono hh1
  rw [val_limbs] at hr13
  refine gl_val (ov_move rfl) rfl rfl rfl ?_
  refine gl_call (vs := [_]) rfl rfl rfl rfl Try.call39 ⟨rfl, trivial⟩ (fun w hs => ref_trim hs hv' (by omega)) ?_
  intro v15 h2 hh2 hr15
  replace hv := hv.mono hh2
  replace hv' := hv'.mono hh2
  replace hr13 := hr13.mono hh2
  rw [val_limbs] at hr15
  refine gl_val (ov_assign rfl) rfl rfl rfl ?_
  refine gl_val (ov_assign rfl) rfl rfl rfl ?_
  refine gl_nil ?_
  refine gq_keep (e' := [(0, _), (1, _)]) ⟨rfl, rfl, trivial⟩ ?_
  refine gq_then ?_
  refine gc_seq ?_
  refine gc_block ?_
  refine gc_loop (ι := Value × Nat × Value × Nat × Mem) (fun (x_ : (Value × Nat × Value × Nat × Mem)) => match x_ with | (vx, X, vy, Y, k1) => MLe h2 k1 ∧ (Us .u32 k1 vx (limbs X) ∧ Us .u32 k1 vy (limbs Y) ∧ Nat.gcd X Y = G ∧ (limbs X).length ≤ 549755813888 ∧ (limbs Y).length ≤ 549755813888)) (fun (x_ : (Value × Nat × Value × Nat × Mem)) => match x_ with | (vx, X, vy, Y, k1) => [(0, vx), (1, vy)]) (fun (x_ : (Value × Nat × Value × Nat × Mem)) => match x_ with | (vx, X, vy, Y, k1) => []) (fun (x_ : (Value × Nat × Value × Nat × Mem)) => match x_ with | (vx, X, vy, Y, k1) => k1) (fun (x_ : (Value × Nat × Value × Nat × Mem)) => match x_ with | (vx, X, vy, Y, k1) => Y) (v13, A, v15, B, h2) ?_ ⟨rfl, rfl, trivial⟩ rfl rfl ?_
  · skip
    refine ⟨MLe.refl _, ?_⟩
    exact ⟨hr13, hr15, hG.symm, by omega, by omega⟩
  · skip
    intro x hx
    obtain ⟨vx, X, vy, Y, k1⟩ := x
    obtain ⟨hmk1, ⟨ha, hb, hg, hlX, hlY⟩⟩ := hx
    replace hv := hv.mono hmk1
    replace hv' := hv'.mono hmk1
    replace hr13 := hr13.mono hmk1
    replace hr15 := hr15.mono hmk1
    show GC _ _ _ _ _ _ [(0, vx), (1, vy)] [] k1
    refine gc_seq ?_
    refine gc_seq ?_
    refine gc_region ?_  -- region 2 (line 223)
    refine gl_val (ov_move rfl) rfl rfl rfl ?_
    refine gl_val (ov_len_us Try.underlying22 rfl hb) rfl rfl rfl ?_
    refine gl_val (ov_gtr_i (q := 0) rfl rfl) rfl rfl rfl ?_
    refine gl_nil ?_
    refine gq_keep (e' := [(0, _), (1, _), (18, _)]) ⟨rfl, rfl, rfl, trivial⟩ ?_
    refine gq_then ?_
    refine gc_cond rfl (fun hc18 => ?_) (fun hc18 => ?_)
    · skip
      have hY0 : Y ≠ 0 := limbs_len_pos.1 (by omega)
      refine gc_keep (e' := [(0, _), (1, _)]) ⟨rfl, rfl, trivial⟩ ?_
      refine gc_skip ?_
      refine gq_then ?_
      refine gc_block ?_
      refine gc_seq ?_
      refine gc_region ?_  -- region 3 (line 224)
      refine gl_val (ov_move rfl) rfl rfl rfl ?_
      refine gl_call (vs := [_]) rfl rfl rfl rfl Try.call50 ⟨rfl, trivial⟩ (fun w hs => ref_small hs ha) ?_
      intro v21 h3 hh3 hr21
      replace hv := hv.mono hh3
      replace hv' := hv'.mono hh3
      replace hr13 := hr13.mono hh3
      replace hr15 := hr15.mono hh3
      replace ha := ha.mono hh3
      replace hb := hb.mono hh3
      subst hr21
      refine gl_val (ov_move rfl) rfl rfl rfl ?_
      refine gl_val (ov_extract (vs := [_, _]) rfl rfl) rfl rfl rfl ?_
      refine gl_val (ov_extract (vs := [_, _]) rfl rfl) rfl rfl rfl ?_
      refine gl_val (ov_assign rfl) rfl rfl rfl ?_
      refine gl_val (ov_assign rfl) rfl rfl rfl ?_
      refine gl_nil ?_
      refine gq_keep (e' := [(0, _), (1, _), (5, _), (6, _)]) ⟨rfl, rfl, rfl, rfl, trivial⟩ ?_
      refine gq_then ?_
      refine gc_seq ?_
      refine gc_region ?_  -- region 4 (line 225)
      refine gl_val (ov_move rfl) rfl rfl rfl ?_
      refine gl_call (vs := [_]) rfl rfl rfl rfl Try.call50 ⟨rfl, trivial⟩ (fun w hs => ref_small hs hb) ?_
      intro v26 h4 hh4 hr26
      replace hv := hv.mono hh4
      replace hv' := hv'.mono hh4
      replace hr13 := hr13.mono hh4
      replace hr15 := hr15.mono hh4
      replace ha := ha.mono hh4
      replace hb := hb.mono hh4
      subst hr26
      refine gl_val (ov_move rfl) rfl rfl rfl ?_
      refine gl_val (ov_extract (vs := [_, _]) rfl rfl) rfl rfl rfl ?_
      refine gl_val (ov_extract (vs := [_, _]) rfl rfl) rfl rfl rfl ?_
      refine gl_val (ov_assign rfl) rfl rfl rfl ?_
      refine gl_val (ov_assign rfl) rfl rfl rfl ?_
      refine gl_nil ?_
      refine gq_keep (e' := [(0, _), (1, _), (5, _), (6, _), (7, _), (8, _)]) ⟨rfl, rfl, rfl, rfl, rfl, rfl, trivial⟩ ?_
      refine gq_then ?_
      refine gc_seq ?_
      refine gc_seq ?_
      refine gc_region ?_  -- region 5 (line 226)
      refine gl_val (ov_move rfl) rfl rfl rfl ?_
      refine gl_cut (ι := Unit) 3 (fun _ => True) (fun _ => [(32, vB (((limbs X).length ≤ 2) ∧ ((limbs Y).length ≤ 2))), (0, vx), (1, vy), (5, vU .u64 (if (limbs X).length ≤ 2 then X else 0)), (7, vU .u64 (if (limbs Y).length ≤ 2 then Y else 0))]) (fun _ => []) (fun _ => h4) ?_ ?_
      · skip
        refine gl_cases ((limbs X).length ≤ 2) (fun hg => ?_) (fun hg => ?_)
        · skip
          refine gl_val (ov_move (v := .bool true) (congrArg some (vB_true hg))) rfl rfl rfl ?_
          refine gl_on rfl rfl rfl ?_
          refine gl_val (ov_move rfl) rfl rfl rfl ?_
          refine gl_val (ov_pick_t rfl rfl) rfl rfl rfl ?_
          refine gl_nil ?_
          refine gq_cut () trivial ⟨?_, rfl, rfl, rfl, rfl, trivial⟩ rfl rfl
          exact congrArg some (vB_and_t hg)
        · skip
          refine gl_val (ov_move (v := .bool false) (congrArg some (vB_false hg))) rfl rfl rfl ?_
          refine gl_off rfl rfl rfl rfl rfl rfl ?_
          refine gl_val (ov_pick_f rfl rfl) rfl rfl rfl ?_
          refine gl_nil ?_
          refine gq_cut () trivial ⟨?_, rfl, rfl, rfl, rfl, trivial⟩ rfl rfl
          exact congrArg some (vB_and_f hg)
      · skip
        intro _ _
        show GL _ _ _ _ _ _ _ [(32, vB (((limbs X).length ≤ 2) ∧ ((limbs Y).length ≤ 2))), (0, vx), (1, vy), (5, vU .u64 (if (limbs X).length ≤ 2 then X else 0)), (7, vU .u64 (if (limbs Y).length ≤ 2 then Y else 0))] [] h4
        refine gl_nil ?_
        refine gq_then ?_
        refine gc_cond rfl (fun hc32 => ?_) (fun hc32 => ?_)
        · skip
          rw [if_pos hc32.1, if_pos hc32.2]
          have hwx := lt_word hc32.1
          have hwy := lt_word hc32.2
          refine gc_keep (e' := [(5, _), (7, _)]) ⟨rfl, rfl, trivial⟩ ?_
          refine gc_seq ?_
          refine gc_block ?_
          refine gc_loop (ι := Nat × Nat) (fun (x_ : (Nat × Nat)) => match x_ with | (m, n) => Nat.gcd m n = G ∧ m < 18446744073709551616 ∧ n < 18446744073709551616) (fun (x_ : (Nat × Nat)) => match x_ with | (m, n) => [(5, vU .u64 m), (7, vU .u64 n)]) (fun (x_ : (Nat × Nat)) => match x_ with | (m, n) => []) (fun (x_ : (Nat × Nat)) => match x_ with | (m, n) => h4) (fun (x_ : (Nat × Nat)) => match x_ with | (m, n) => n) (X, Y) ?_ ⟨rfl, rfl, trivial⟩ rfl rfl ?_
          · skip
            exact ⟨hg, hwx, hwy⟩
          · skip
            intro x hx
            obtain ⟨m, n⟩ := x
            obtain ⟨hg3, hm, hn⟩ := hx
            show GC _ _ _ _ _ _ [(5, vU .u64 m), (7, vU .u64 n)] [] h4
            refine gc_seq ?_
            refine gc_seq ?_
            refine gc_region ?_  -- region 6 (line 227)
            refine gl_val (ov_move rfl) rfl rfl rfl ?_
            refine gl_val (ov_neq_u (k := .u64) (q := 0) rfl rfl) rfl rfl rfl ?_
            refine gl_nil ?_
            refine gq_keep (e' := [(5, _), (7, _), (34, _)]) ⟨rfl, rfl, rfl, trivial⟩ ?_
            refine gq_then ?_
            refine gc_cond rfl (fun hc34 => ?_) (fun hc34 => ?_)
            · skip
              refine gc_keep (e' := [(5, _), (7, _)]) ⟨rfl, rfl, trivial⟩ ?_
              refine gc_skip ?_
              refine gq_then ?_
              refine gc_block ?_
              refine gc_draw 6 _ [] [(0, .q), (1, .q), (2, .q), (3, .q), (4, .q), (5, .q)] mixed (fun x hx => by cases hx) (by kernel_rfl) (fun x hx => by cases hx) (fun r hr => hr) ?_  -- region 7 (line 228)
              refine w_q rfl (fun h' L' hh hR => ov_move rfl) rfl ?_
              refine w_q rfl (fun h' L' hh hR => ov_move rfl) rfl ?_
              refine w_q rfl (fun h' L' hh hR => ov_move rfl) rfl ?_
              refine w_q rfl (fun h' L' hh hR => ov_rem_u (k := .u64) rfl rfl (by omega)) rfl ?_
              refine w_q rfl (fun h' L' hh hR => ov_assign rfl) rfl ?_
              refine w_q rfl (fun h' L' hh hR => ov_assign rfl) rfl ?_
              refine w_nil ?_
              refine gq_in ?_
              refine gq_round (n, m % n) ?_ ?_ ⟨?_, ?_, trivial⟩ ?_ rfl
              · skip
                have hlt := Nat.mod_lt m (Nat.pos_of_ne_zero hc34)
                exact ⟨by rw [gcd_step]; exact hg3, hn, by omega⟩
              · skip
                dsimp only
                exact Nat.mod_lt _ (Nat.pos_of_ne_zero hc34)
              · exact rfl
              · exact rfl
              · exact rfl
            · skip
              refine gc_keep (e' := [(5, _)]) ⟨rfl, trivial⟩ ?_
              refine gc_exit ?_
              refine gx_then ?_
              refine gx_then ?_
              refine gx_here ?_
              refine gq_then ?_
              refine gc_seq ?_
              refine gc_region ?_  -- region 8 (line 230)
              refine gl_val (ov_move rfl) rfl rfl rfl ?_
              refine gl_call (vs := [_]) rfl rfl rfl rfl Try.call22 ⟨rfl, trivial⟩ (fun w hs => ref_of hs (by omega)) ?_
              intro v40 h5 hh5 hr40
              replace hv := hv.mono hh5
              replace hv' := hv'.mono hh5
              replace hr13 := hr13.mono hh5
              replace hr15 := hr15.mono hh5
              replace ha := ha.mono hh5
              replace hb := hb.mono hh5
              refine gl_val (ov_assign rfl) rfl rfl rfl ?_
              refine gl_nil ?_
              refine gq_keep (e' := [(4, _)]) ⟨rfl, trivial⟩ ?_
              refine gq_then ?_
              refine gc_ret ?_
              refine gr_then ?_
              refine gr_in ?_
              refine gr_then ?_
              refine gr_in ?_
              refine gr_then ?_
              refine gq_body1 rfl rfl ?_
              have hn0 : n = 0 := Classical.not_not.1 hc34
              rw [hn0, Nat.gcd_zero_right] at hg3
              rw [← hg3]
              exact hr40
        · skip
          refine gc_keep (e' := [(0, _), (1, _)]) ⟨rfl, rfl, trivial⟩ ?_
          refine gc_skip ?_
          refine gq_then ?_
          refine gc_seq ?_
          refine gc_region ?_  -- region 9 (line 232)
          refine gl_val (ov_move rfl) rfl rfl rfl ?_
          refine gl_val (ov_move rfl) rfl rfl rfl ?_
          refine gl_call (vs := [_, _]) rfl rfl rfl rfl Try.call33 ⟨rfl, rfl, trivial⟩ (fun w hs => ref_div hs ha hb (by omega) (by omega)) ?_
          intro v44 h5 hh5 hr44
          replace hv := hv.mono hh5
          replace hv' := hv'.mono hh5
          replace hr13 := hr13.mono hh5
          replace hr15 := hr15.mono hh5
          replace ha := ha.mono hh5
          replace hb := hb.mono hh5
          obtain ⟨q44, r44, rfl, hq44, hr44⟩ := hr44
          rw [if_neg hY0] at hr44
          have hlm := limbs_len_mono (Nat.le_of_lt (Nat.mod_lt X (Nat.pos_of_ne_zero hY0)))
          refine gl_val (ov_move rfl) rfl rfl rfl ?_
          refine gl_val (ov_extract (vs := [_, _, _]) rfl rfl) rfl rfl rfl ?_
          refine gl_val (ov_extract (vs := [_, _, _]) rfl rfl) rfl rfl rfl ?_
          refine gl_val (ov_extract (vs := [_, _, _]) rfl rfl) rfl rfl rfl ?_
          refine gl_val (ov_assign rfl) rfl rfl rfl ?_
          refine gl_val (ov_assign rfl) rfl rfl rfl ?_
          refine gl_val (ov_assign rfl) rfl rfl rfl ?_
          refine gl_nil ?_
          refine gq_keep (e' := [(1, _), (10, _)]) ⟨rfl, rfl, trivial⟩ ?_
          refine gq_then ?_
          refine gc_region ?_  -- region 10 (line 233)
          refine gl_val (ov_move rfl) rfl rfl rfl ?_
          refine gl_val (ov_move rfl) rfl rfl rfl ?_
          refine gl_val (ov_assign rfl) rfl rfl rfl ?_
          refine gl_val (ov_assign rfl) rfl rfl rfl ?_
          refine gl_nil ?_
          refine gq_in ?_
          refine gq_round (vy, Y, r44, X % Y, h5) ?_ ?_ ⟨?_, ?_, trivial⟩ ?_ rfl
          · skip
            refine ⟨(((hmk1.trans hh3).trans hh4).trans hh5), ?_⟩
            exact ⟨hb, hr44, by rw [gcd_step]; exact hg, hlY, by omega⟩
          · skip
            dsimp only
            exact Nat.mod_lt _ (Nat.pos_of_ne_zero hY0)
          · exact rfl
          · exact rfl
          · exact rfl
    · skip
      have hY0 : Y = 0 := Classical.byContradiction fun hne => by have := limbs_len_pos.2 hne; omega
      refine gc_keep (e' := [(0, _)]) ⟨rfl, trivial⟩ ?_
      refine gc_exit ?_
      refine gx_then ?_
      refine gx_then ?_
      refine gx_here ?_
      refine gq_then ?_
      refine gc_seq ?_
      refine gc_region ?_  -- region 11 (line 235)
      refine gl_val (ov_move rfl) rfl rfl rfl ?_
      refine gl_val (ov_assign rfl) rfl rfl rfl ?_
      refine gl_nil ?_
      refine gq_keep (e' := [(4, _)]) ⟨rfl, trivial⟩ ?_
      refine gq_then ?_
      refine gc_ret ?_
      refine gq_body1 rfl rfl ?_
      rw [hY0, Nat.gcd_zero_right] at hg
      rw [← hg]
      exact ha

end Go.Proofs.Ytoionddicppahaa
