/- Contracts of functions, walked by their text (nat11/b). -/
import Derived.Test.YtimoeckkdodogaaW10
namespace Go.Proofs.Ytimoeckkdodogaa
open Bk Go
set_option linter.unusedVariables false
set_option linter.unusedSimpArgs false
set_option maxRecDepth 10000

theorem ref_small {w0 : World} {h0 : Mem}  (hs : MLe h0 (mem w0)) {v : Value} {X : Nat} (hv : Us .u32 h0 v (limbs X)) :
    Calls Try.prog 113 #[v] w0 (Ret w0 h0 (fun _ r => r = .tuple #[vU .u64 (if (limbs X).length ≤ 2 then X else 0), vB ((limbs X).length ≤ 2)])) := by
 have hx0 := hv.get32 0
 have hx1 := hv.get32 1
 have hvl := val_limbs X
 have hlen := hv.lt63
 refine calls_begin (n := 26) (e := [(0, v)]) (vs := [v]) Try.func113 rfl rfl (Nat.le_of_ble_eq_true rfl) hs ⟨rfl, trivial⟩ (gc_seq (gc_region (asg (v := vU .u64 0) rfl rfl (asg rfl rfl (gl_nil (gq_then (gc_seq (gc_seq (gc_region (mv rfl rfl (gv (ov_len_us Try.underlying22 rfl hv) rfl (gl_nil (gq_then ?_)))))))))))))
 refine gc_block (gc_seq (gc_region (gv (ov_eql_i (q := 0) rfl rfl) rfl (asg rfl rfl (gl_nil (gq_then ?_))))))
 refine gc_cond rfl (fun hc6 => ?_) (fun hc6 => ?_)
 ·
  refine gc_seq (gc_region (asg (v := vU .u64 0) rfl rfl (asg rfl rfl (gl_nil (gq_then (gc_ret (gr_in (gr_then (gq_body2 rfl rfl rfl ?_)))))))))
  have h0 : X = 0 := Classical.byContradiction fun hne => by have := limbs_len_pos.2 hne; omega
  rw [vB_true (by omega), if_pos (by omega), h0]
 ·
  refine gc_seq (gc_region (gv (ov_eql_i (q := 1) rfl rfl) rfl (asg rfl rfl (gl_nil (gq_then ?_)))))
  refine gc_cond rfl (fun hc8 => ?_) (fun hc8 => ?_)
  ·
   have hvo := val_one (xs := limbs X) (by omega)
   refine gc_seq (gc_region (mv rfl rfl (gv (ov_index_us (q := 0) (0) Try.underlying22 Try.sizeOf61 rfl rfl hv rfl (by omega)) rfl (gv (ov_load_us Try.isAgg61 rfl hv (by omega)) rfl (gv (ov_conv_u (k := .u32) (k' := .u64) (W := 18446744073709551616) Try.underlying61 Try.underlying75 rfl rfl rfl (by omega)) rfl (asg rfl rfl (asg rfl rfl (gl_nil (gq_keep (e' := [(2, _), (3, _)]) ⟨rfl, rfl, trivial⟩ (gq_then (gc_ret (gr_in (gr_then ?_)))))))))))))
   refine gq_body2 rfl rfl rfl ?_
   rw [vB_true (by omega), if_pos (by omega), ← hvo, val_limbs]
  ·
   refine gc_seq (gc_region (gv (ov_eql_i (q := 2) rfl rfl) rfl (asg rfl rfl (gl_nil (gq_then ?_)))))
   refine gc_cond rfl (fun hc14 => ?_) (fun hc14 => ?_)
   ·
    refine gc_keep (e' := [(0, _)]) ⟨rfl, trivial⟩ (gc_seq ?_)
    refine gc_draw 12 _ [] [(0, .q), (1, .q), (2, .q), (3, .q), (4, .q), (5, .q), (6, .q), (7, .q), (8, .q), (9, .q), (10, .q), (11, .q)] mixed (fun x hx => by cases hx) (by kernel_rfl) (fun x hx => by cases hx) (fun r hr => hr) (w_q rfl (fun h' L' hh hR => ov_move rfl) rfl (w_q rfl (fun h' L' hh hR => ov_index_us (q := 0) (0) Try.underlying22 Try.sizeOf61 rfl rfl (hv.mono hh) rfl (by omega)) rfl (w_q rfl (fun h' L' hh hR => ov_load_us Try.isAgg61 rfl (hv.mono hh) (by omega)) rfl (w_q rfl (fun h' L' hh hR => ov_conv_u (k := .u32) (k' := .u64) (W := 18446744073709551616) Try.underlying61 Try.underlying75 rfl rfl rfl (by omega)) rfl (w_q rfl (fun h' L' hh hR => ov_move rfl) rfl (w_q rfl (fun h' L' hh hR => ov_index_us (q := 1) (1) Try.underlying22 Try.sizeOf61 rfl rfl (hv.mono hh) rfl (by omega)) rfl (w_q rfl (fun h' L' hh hR => ov_load_us Try.isAgg61 rfl (hv.mono hh) (by omega)) rfl (w_q rfl (fun h' L' hh hR => ov_conv_u (k := .u32) (k' := .u64) (W := 18446744073709551616) Try.underlying61 Try.underlying75 rfl rfl rfl (by omega)) rfl (w_q rfl (fun h' L' hh hR => ov_shl_u (k := .u64) (s := 32) (yk := .u64) (W := 18446744073709551616) rfl rfl rfl rfl) rfl (w_q rfl (fun h' L' hh hR => ov_or_u (k := .u64) rfl rfl rfl (by simp only [ub]; omega) (by simp only [ub]; omega)) rfl ?_))))))))))
    rw [Nat.or_comm, or_shift (by omega) (by omega)]
    refine w_q rfl (fun h' L' hh hR => ov_assign rfl) rfl (w_q rfl (fun h' L' hh hR => ov_assign rfl) rfl (w_nil (gq_keep (e' := [(2, _), (3, _)]) ⟨rfl, rfl, trivial⟩ (gq_then (gc_ret (gr_in (gr_then (gq_body2 rfl rfl rfl ?_))))))))
    have h1 := val_take_getD (limbs X) 1
    have h2 := val_take_getD (limbs X) 0
    rw [val_take_all (by omega), val_limbs] at h1
    rw [List.take_zero] at h2
    simp only [val, Nat.zero_add] at h2
    rw [vB_true (by omega), if_pos (by omega)]
    have e : (limbs X).getD 1 0 * 4294967296 + (limbs X).getD 0 0 = X := by omega
    rw [e]
   ·
    refine gc_keep (e' := []) trivial (gc_skip (gq_in (gq_then (gc_seq (gc_region (asg (v := vU .u64 0) rfl rfl (asg rfl rfl (gl_nil (gq_then (gc_ret (gq_body2 rfl rfl rfl ?_)))))))))))
    rw [vB_false (by omega), if_neg (by omega)]

theorem ref_shifted {w0 : World} {h0 : Mem}  (hs : MLe h0 (mem w0)) {v : Value} {X k : Nat} (hv : Us .u32 h0 v (limbs X)) (hk : k ≤ 4398046511104) (hl : (limbs X).length ≤ 4398046511104) :
    Calls Try.prog 115 #[v, vI ↑k] w0 (Ret w0 h0 (fun h r => Us .u32 h r (limbs (X * 4294967296 ^ k)))) := by
 refine calls_begin (n := 12) (e := [(0, v), (1, vI ↑k)]) (vs := [v, vI ↑k]) Try.func115 rfl rfl (Nat.le_of_ble_eq_true rfl) hs ⟨rfl, rfl, trivial⟩ (gc_seq (gc_region (asg rfl rfl (gl_nil (gq_then (gc_seq (gc_seq (gc_region (mv rfl rfl (gv (ov_len_us Try.underlying22 rfl hv) rfl (gv (ov_eql_i (q := 0) rfl rfl) rfl (gl_nil (gq_then ?_)))))))))))))
 refine gc_cond rfl (fun hc7 => ?_) (fun hc7 => ?_)
 ·
  have h0 : X = 0 := Classical.byContradiction fun hne => by have := limbs_len_pos.2 hne; omega
  refine gc_seq (gc_region (asg rfl rfl (gl_nil (gq_then (gc_ret (gr_then (gq_body1 rfl rfl ?_)))))))
  rw [h0, Nat.zero_mul, limbs_zero]
  exact Us.nil _ _
 ·
  have h0 : X ≠ 0 := limbs_len_pos.1 (by omega)
  refine gc_skip (gq_then (gc_seq (gc_region (mv rfl rfl (gl_make_us (kd := .u32) (by' := 4) (k) Try.underlying22 info61 rfl rfl rfl rfl rfl (by omega) (by omega) (by omega) (by omega) rfl ?_)))))
  intro v9
  refine mv rfl rfl (gl_repop (A := []) (rep_append_us (kd := .u32) (bytes := 4) Try.underlying22 info61 rfl rfl rfl rfl rfl hv (by rw [List.length_replicate]; omega) (by rw [List.length_replicate]; omega)) rfl rfl rfl ?_)
  intro v11 r11 hr11
  obtain rfl := hr11
  refine gl_freeze_us0 (by exact fit_append (fit_replicate _) (fit_limbs _)) ?_
  intro h1 hh1 ho
  refine asg rfl rfl (gl_nil (gq_then (gc_ret (gq_body1 rfl rfl ?_))))
  rw [← limbs_shift h0]
  exact ho

set_option maxHeartbeats 1000000 in
theorem ref_div {w0 : World} {h0 : Mem}  (hs : MLe h0 (mem w0)) {v v' : Value} {X Y : Nat} (hv : Us .u32 h0 v (limbs X)) (hv' : Us .u32 h0 v' (limbs Y)) (hl : (limbs X).length ≤ 549755813888) (hl' : (limbs Y).length ≤ 549755813888) :
    Calls Try.prog 89 #[v, v'] w0 (Ret w0 h0 (fun h z => ∃ q r, z = .tuple #[q, r, vI (if Y = 0 then 3 else 0)] ∧ Us .u32 h q (limbs (X / Y)) ∧ Us .u32 h r (limbs (if Y = 0 then 0 else X % Y)))) := by
 refine calls_begin (n := 163) (e := [(0, v), (1, v')]) (vs := [v, v']) Try.func89 rfl rfl (Nat.le_of_ble_eq_true rfl) hs ⟨rfl, rfl, trivial⟩ (gc_seq (gc_region (asg rfl rfl (asg rfl rfl (asg (v := vI (0)) rfl rfl (gl_nil (gq_then (gc_seq (gc_seq (gc_region (mv rfl rfl (gv (ov_len_us Try.underlying22 rfl hv') rfl (gv (ov_eql_i (q := 0) rfl rfl) rfl ?_)))))))))))))
 refine gl_nil (gq_then ?_)
 refine gc_cond rfl (fun hc21 => ?_) (fun hc21 => ?_)
 ·
  have hy0 : Y = 0 := Classical.byContradiction fun hne => by have := limbs_len_pos.2 hne; omega
  refine gc_seq (gc_region (asg rfl rfl (asg rfl rfl (asg (v := vI (3)) rfl rfl (gl_nil (gq_then (gc_ret (gr_then (gq_body3 rfl rfl rfl rfl ?_)))))))))
  rw [hy0, Nat.div_zero, if_pos rfl, if_pos rfl, limbs_zero]
  exact ⟨_, _, rfl, Us.nil _ _, Us.nil _ _⟩
 ·
  have hyne : Y ≠ 0 := limbs_len_pos.1 (by omega)
  refine gc_skip (gq_then (gc_seq (gc_seq (gc_region (mv rfl rfl (mv rfl rfl ?_))))))
  refine gl_call (vs := [_, _]) rfl rfl rfl rfl Try.call77 ⟨rfl, rfl, trivial⟩ (fun w hs => ref_cmp hs hv hv') ?_
  intro v24 h1 hh1 hr24
  subst hr24
  refine gv (ov_lss_i (q := 0) rfl rfl) rfl (gl_nil (gq_then ?_))
  refine gc_cond rfl (fun hc25 => ?_) (fun hc25 => ?_)
  ·
   have hlt := cmpN_neg.1 hc25
   refine gc_keep (e' := [(0, _)]) ⟨rfl, trivial⟩ (gc_seq (gc_region (mv rfl rfl ?_)))
   replace hv := hv.mono hh1
   refine gl_call (vs := [_]) rfl rfl rfl rfl Try.call81 ⟨rfl, trivial⟩ (fun w hs => ref_trim hs hv (by omega)) ?_
   intro v27 h2 hh2 hr27
   rw [val_limbs] at hr27
   refine asg rfl rfl (asg rfl rfl (asg (v := vI (0)) rfl rfl (gl_nil (gq_then (gc_ret (gr_then (gq_body3 rfl rfl rfl rfl ?_)))))))
   rw [Nat.div_eq_of_lt hlt, Nat.mod_eq_of_lt hlt, if_neg hyne, if_neg hyne, limbs_zero]
   exact ⟨_, _, rfl, Us.nil _ _, hr27⟩
  ·
   have hge : Y ≤ X := Nat.le_of_not_lt fun hc => hc25 (cmpN_neg.2 hc)
   have hlm := limbs_len_mono hge
   refine gc_keep (e' := [(0, _), (1, _)]) ⟨rfl, rfl, trivial⟩ (gc_skip (gq_then (gc_seq (gc_seq (gc_region (mv rfl rfl ?_))))))
   replace hv := hv.mono hh1
   refine gl_call (vs := [_]) rfl rfl rfl rfl Try.call113 ⟨rfl, trivial⟩ (fun w hs => ref_small hs hv) ?_
   intro v30 h2 hh2 hr30
   subst hr30
   refine mv rfl rfl (gv (ov_extract (vs := [_, _]) rfl rfl) rfl (gv (ov_extract (vs := [_, _]) rfl rfl) rfl (asg rfl rfl (asg rfl rfl (gl_nil (gq_then (gc_seq (gc_region (mv rfl rfl (gl_nil (gq_then ?_)))))))))))
   refine gc_cond rfl (fun hc33 => ?_) (fun hc33 => ?_)
   ·
    have hw := lt_word hc33
    have hyw := lt_word (n := Y) (by omega)
    refine gc_seq (gc_region (mv rfl rfl ?_))
    replace hv' := hv'.mono (hh1.trans hh2)
    refine gl_call (vs := [_]) rfl rfl rfl rfl Try.call113 ⟨rfl, trivial⟩ (fun w hs => ref_small hs hv') ?_
    intro v36 h3 hh3 hr36
    subst hr36
    refine mv rfl rfl (gv (ov_extract (vs := [_, _]) rfl rfl) rfl ?_)
    rw [if_pos hc33, if_pos (show (limbs Y).length ≤ 2 by omega)]
    refine gv (ov_extract (vs := [_, _]) rfl rfl) rfl (asg rfl rfl (asg rfl rfl (gl_nil (gq_keep (e' := [(7, _), (9, _)]) ⟨rfl, rfl, trivial⟩ (gq_then (gc_seq ?_))))))
    refine gc_draw 11 _ [] [(0, .q), (1, .q), (2, .q), (4, .q), (5, .q), (6, .q), (3, .c), (7, .c), (8, .q), (9, .q), (10, .q)] mixed (fun x hx => by cases hx) (by kernel_rfl) (fun x hx => by cases hx) (fun r hr => hr) (w_q rfl (fun h' L' hh hR => ov_move rfl) rfl (w_q rfl (fun h' L' hh hR => ov_move rfl) rfl (w_q rfl (fun h' L' hh hR => ov_quo_u (k := .u64) (W := 18446744073709551616) rfl rfl rfl rfl (by omega) (by omega)) rfl (w_q rfl (fun h' L' hh hR => ov_move rfl) rfl (w_q rfl (fun h' L' hh hR => ov_move rfl) rfl (w_q rfl (fun h' L' hh hR => ov_rem_u (k := .u64) rfl rfl (by omega)) rfl ?_))))))
    refine w_c rfl ?_
    have hqle := Nat.div_le_self X Y
    have hrlt := Nat.mod_lt X (Nat.pos_of_ne_zero hyne)
    refine s_call (vs := [_]) Try.call110 ⟨rfl, trivial⟩ (fun w hs => ref_of hs (by omega)) rfl ?_
    intro v42 h4 hh4 hr42
    refine w_c rfl ?_
    refine s_call (vs := [_]) Try.call110 ⟨rfl, trivial⟩ (fun w hs => ref_of hs (by omega)) rfl ?_
    intro v46 h5 hh5 hr46
    refine w_q rfl (fun h' L' hh hR => ov_assign rfl) rfl (w_q rfl (fun h' L' hh hR => ov_assign rfl) rfl (w_q rfl (fun h' L' hh hR => ov_assign (v := vI (0)) rfl) rfl (w_nil (gq_keep (e' := [(4, _), (5, _), (6, _)]) ⟨rfl, rfl, rfl, trivial⟩ (gq_then (gc_ret (gr_then (gq_body3 rfl rfl rfl rfl ?_))))))))
    replace hr42 := hr42.mono hh5
    rw [if_neg hyne, if_neg hyne]
    exact ⟨_, _, rfl, hr42, hr46⟩
   ·
    refine gc_skip (gq_then (gc_seq (gc_seq (gc_region (mv rfl rfl ?_)))))
    replace hv' := hv'.mono (hh1.trans hh2)
    refine gv (ov_len_us Try.underlying22 rfl hv') rfl (gv (ov_eql_i (q := 1) rfl rfl) rfl (gl_nil (gq_keep (e' := [(0, _), (1, _), (49, _)]) ⟨rfl, rfl, rfl, trivial⟩ (gq_then ?_))))
    refine gc_cond rfl (fun hc49 => ?_) (fun hc49 => ?_)
    ·
     have hone : (limbs Y).length = 1 := by omega
     have hb0 : (limbs Y).getD 0 0 ≠ 0 := by have := limbs_top_ne (n := Y) (by omega); rwa [hone] at this
     have hvy := val_one hone
     rw [val_limbs] at hvy
     refine gc_seq (gc_region (mv rfl rfl (mv rfl rfl (gv (ov_index_us (q := 0) (0) Try.underlying22 Try.sizeOf61 rfl rfl hv' rfl (by omega)) rfl (gv (ov_load_us Try.isAgg61 rfl hv' (by omega)) rfl ?_)))))
     have hb1 := hv'.get32 0
     replace hv := hv.mono hh2
     refine gl_call (vs := [_, _]) rfl rfl rfl rfl Try.call108 ⟨rfl, rfl, trivial⟩ (fun w hs => ref_bylimb hs hv (by omega) (by omega) (by omega)) ?_
     intro v55 h3 hh3 hr55
     obtain ⟨u55, rfl, hu55⟩ := hr55
     rw [val_limbs] at hu55 ⊢
     have hrlt := Nat.mod_lt X (Nat.pos_of_ne_zero hb0)
     refine mv rfl rfl (gv (ov_extract (vs := [_, _]) rfl rfl) rfl (gv (ov_extract (vs := [_, _]) rfl rfl) rfl (asg rfl rfl (asg rfl rfl (gl_nil (gq_keep (e' := [(11, _), (12, _)]) ⟨rfl, rfl, trivial⟩ (gq_then (gc_seq (gc_region (mv rfl rfl (mv rfl rfl (gv (ov_conv_u (k := .u32) (k' := .u64) (W := 18446744073709551616) Try.underlying61 Try.underlying75 rfl rfl rfl (by omega)) rfl ?_))))))))))))
     refine gl_call (vs := [_]) rfl rfl rfl rfl Try.call110 ⟨rfl, trivial⟩ (fun w hs => ref_of hs (by omega)) ?_
     intro v61 h4 hh4 hr61
     refine asg rfl rfl (asg rfl rfl (asg (v := vI (0)) rfl rfl (gl_nil (gq_then (gc_ret (gr_then (gq_body3 rfl rfl rfl rfl ?_)))))))
     replace hu55 := hu55.mono hh4
     rw [← hvy] at hu55 hr61
     rw [if_neg hyne, if_neg hyne]
     exact ⟨_, _, rfl, hu55, hr61⟩
    ·
     have hn2 : 2 ≤ (limbs Y).length := by omega
     refine gc_skip (gq_then (gc_seq (gc_region (mv rfl rfl (mv rfl rfl (gv (ov_len_us Try.underlying22 rfl hv') rfl (gv (ov_sub_i (q := 1) rfl rfl (by omega) (by omega)) rfl (gv (ov_slice_l ((limbs Y).length - 1) Try.underlying22 Try.sizeOf61 rfl rfl hv'.shape (by omega) (by omega)) rfl ?_))))))))
     have hsl66 := hv'.sub (lo := (limbs Y).length - 1) (hi := (limbs Y).length) (by omega) (by omega)
     rw [List.take_of_length_le (by rw [List.length_drop]; omega), limbs_last (by omega)] at hsl66
     have hgt := hv'.get32 ((limbs Y).length - 1)
     have htw := limbs_len_word (n := (limbs Y).getD ((limbs Y).length - 1) 0) (by omega)
     have hb32 := bitsN_le (n := (limbs Y).getD ((limbs Y).length - 1) 0) (k := 32) hgt
     refine gl_call (vs := [_]) rfl rfl rfl rfl Try.call93 ⟨rfl, trivial⟩ (fun w hs => ref_bits hs hsl66 (by omega)) ?_
     intro v67 h3 hh3 hr67
     subst hr67
     refine gv (ov_sub_i (p := 32) rfl rfl (by omega) (by omega)) rfl ?_
     obtain ⟨s, hsd⟩ : ∃ s, s = 32 - bitsN ((limbs Y).getD ((limbs Y).length - 1) 0) := ⟨_, rfl⟩
     rw [show (32 : Int) - ↑(bitsN ((limbs Y).getD ((limbs Y).length - 1) 0)) = ↑s by omega]
     obtain ⟨hs32, hvl, hv1⟩ := norm_limbs (k := (limbs Y).length - 1) hyne (by omega) hsd
     refine asg rfl rfl (gl_nil (gq_then (gc_seq (gc_region (mv rfl rfl (mv rfl rfl ?_))))))
     replace hv' := hv'.mono hh3
     refine gl_call (vs := [_, _]) rfl rfl rfl rfl Try.call114 ⟨rfl, rfl, trivial⟩ (fun w hs => ref_up hs hv' (by omega) (by omega)) ?_
     intro v71 h4 hh4 hr71
     refine mv rfl rfl (mv rfl rfl ?_)
     replace hv := hv.mono ((hh2.trans hh3).trans hh4)
     refine gl_call (vs := [_, _]) rfl rfl rfl rfl Try.call114 ⟨rfl, rfl, trivial⟩ (fun w hs => ref_up hs hv (by omega) (by omega)) ?_
     intro v74 h5 hh5 hr74
     refine asg rfl rfl (asg rfl rfl ?_)
     replace hr71 := hr71.mono hh5
     replace hvl : (limbs (Y * 2 ^ s)).length = (limbs Y).length := by omega
     have hYn := pow_le_of_limbs_len (n := Y * 2 ^ s) (k := (limbs Y).length - 1) (by omega)
     generalize hnd : (limbs Y).length = n at *
     obtain ⟨V, hV⟩ : ∃ V, V = Y * 2 ^ s := ⟨_, rfl⟩
     obtain ⟨U, hU⟩ : ∃ U, U = X * 2 ^ s := ⟨_, rfl⟩
     rw [← hV] at hr71 hvl hv1 hYn
     rw [← hU] at hr74
     have hVd := val_two hn2 hvl
     rw [val_limbs] at hVd
     have hvr := val_lt (fit_take (fit_limbs V) (n - 2))
     rw [List.length_take, Nat.min_eq_left (by omega)] at hvr
     have hUl : (limbs U).length ≤ (limbs X).length + 1 := by rw [hU]; exact Nat.le_trans (limbs_len_mul X (2 ^ s)) (Nat.add_le_add_left (limbs_len_of_lt (k := 1) (by rw [Nat.pow_one]; exact Nat.lt_of_lt_of_le (Nat.pow_lt_pow_right (by decide) hs32) (by decide))) _)
     have hVU : V ≤ U := by rw [hV, hU]; exact Nat.mul_le_mul_right _ hge
     have hnr := limbs_len_mono hVU
     rw [hvl] at hnr
     have hst := rdiv_start (limbs_lt_pow U) hYn (by omega) hnr
     generalize hrd : (limbs U).length = r at *
     have hv1b := fit_get (fit_limbs V) (n - 1)
     refine gl_nil (gq_keep (e' := [(13, _), (1, _), (5, _)]) ⟨rfl, rfl, rfl, trivial⟩ (gq_then (gc_seq (gc_region (mv rfl rfl (gv (ov_len_us Try.underlying22 rfl hr71) rfl ?_))))))
     rw [hvl]
     refine asg rfl rfl (gl_nil (gq_then (gc_seq (gc_region (mv rfl rfl (gv (ov_len_us Try.underlying22 rfl hr74) rfl ?_))))))
     rw [hrd]
     refine mv rfl rfl (gv (ov_sub_i rfl rfl (by omega) (by omega)) rfl (gv (ov_add_i (q := 1) rfl rfl (by omega) (by omega)) rfl (gl_make_us (kd := .u32) (by' := 4) (r - n + 1) Try.underlying22 info61 rfl rfl rfl rfl rfl (by omega) (by omega) (by omega) (by omega) rfl ?_)))
     intro v82
     refine asg rfl rfl (gl_nil (gq_then (gc_seq (gc_seq (gc_region (mv rfl rfl (gv (ov_len_us Try.underlying22 rfl hr74) rfl ?_)))))))
     rw [hrd]
     refine mv rfl rfl (gv (ov_sub_i rfl rfl (by omega) (by omega)) rfl (asg rfl rfl (gl_nil (gq_keep (e' := [(13, _), (1, _), (5, _), (14, _), (4, _), (15, _)]) ⟨rfl, rfl, rfl, rfl, rfl, rfl, trivial⟩ (gq_then (gc_block ?_))))))
     refine gc_loop (ι := Nat × Value × Nat × List Nat × Mem) (fun (x_ : (Nat × Value × Nat × List Nat × Mem)) => match x_ with | (K, vr, R, qs, k1) => MLe h5 k1 ∧ (Us .u32 k1 vr (limbs R) ∧ K ≤ r - n + 1 ∧ qs.length = r - n + 1 - K ∧ Fit qs ∧ R + 4294967296 ^ K * (val qs * V) = U ∧ R < 4294967296 ^ K * V ∧ (limbs R).length ≤ r)) (fun (x_ : (Nat × Value × Nat × List Nat × Mem)) => match x_ with | (K, vr, R, qs, k1) => [(1, v71), (4, v82), (5, vr), (13, vI ↑s), (14, vI ↑n), (15, vI (↑K - 1))]) (fun (x_ : (Nat × Value × Nat × List Nat × Mem)) => match x_ with | (K, vr, R, qs, k1) => [.us 61 .u32 v82 (fillDn K qs)]) (fun (x_ : (Nat × Value × Nat × List Nat × Mem)) => match x_ with | (K, vr, R, qs, k1) => k1) (fun (x_ : (Nat × Value × Nat × List Nat × Mem)) => match x_ with | (K, vr, R, qs, k1) => K) (r - n + 1, v74, U, [], h5) ?_ ⟨?_, ?_, ?_, ?_, ?_, ?_, trivial⟩ ?_ rfl ?_
     ·
      refine ⟨MLe.refl _, ?_⟩
      exact ⟨hr74, Nat.le_refl _, by simp, fun x hx => by simp at hx, by simp [val], hst, by omega⟩
     · exact rfl
     · exact rfl
     · exact rfl
     · exact rfl
     · exact rfl
     · exact congrArg some (congrArg vI (by omega))
     ·
      try dsimp only [List.nil_append, List.cons_append]
      exact congrArg (fun z => [Res.us 61 .u32 v82 z]) (fillDn_nil _)
     ·
      intro x hx
      obtain ⟨K, vr, R, qs, k1⟩ := x
      obtain ⟨hmk1, ⟨hR, hK, hql, hfq, hval, hlt, hRl⟩⟩ := hx
      show GC _ _ _ _ _ _ [(1, v71), (4, v82), (5, vr), (13, vI ↑s), (14, vI ↑n), (15, vI (↑K - 1))] [.us 61 .u32 v82 (fillDn K qs)] k1
      refine gc_seq (gc_seq (gc_region (mv rfl rfl (gv (ov_geq_i (q := 0) rfl rfl) rfl (gl_nil (gq_then ?_))))))
      refine gc_cond rfl (fun hc88 => ?_) (fun hc88 => ?_)
      ·
       refine gc_skip (gq_then (gc_seq (gc_block (gc_seq (gc_region (asg (v := vU .u64 0) rfl rfl (gl_nil (gq_then ?_))))))))
       have ha1 := fit_get (fit_limbs R) (K - 1 + n)
       have ha2 := fit_get (fit_limbs R) (K - 1 + n - 1)
       have ha3 := fit_get (fit_limbs R) (K - 1 + n - 2)
       refine gc_cut (ι := Unit) (fun (_u : (Unit)) => True) (fun (_u : (Unit)) => [(1, v71), (4, v82), (5, vr), (13, vI ↑s), (14, vI ↑n), (15, vI (↑K - 1)), (16, vU .u64 ((limbs R).getD (K - 1 + n) 0))]) (fun (_u : (Unit)) => [.us 61 .u32 v82 (fillDn K qs)]) (fun (_u : (Unit)) => k1) ?_ ?_
       ·
        refine gc_seq (gc_region (mv rfl rfl (mv rfl rfl (gv (ov_add_i rfl rfl (by omega) (by omega)) rfl (mv rfl rfl (gv (ov_len_us Try.underlying22 rfl hR) rfl (gv (ov_lss_i rfl rfl) rfl (gl_nil (gq_then ?_)))))))))
        refine gc_cond rfl (fun hc96 => ?_) (fun hc96 => ?_)
        ·
         refine gc_region (mv rfl rfl (mv rfl rfl (mv rfl rfl (gv (ov_add_i rfl rfl (by omega) (by omega)) rfl (gv (ov_index_us (K - 1 + n) Try.underlying22 Try.sizeOf61 rfl rfl hR (by omega) (by omega)) rfl (gv (ov_load_us Try.isAgg61 rfl hR (by omega)) rfl (gv (ov_conv_u (k := .u32) (k' := .u64) (W := 18446744073709551616) Try.underlying61 Try.underlying75 rfl rfl rfl (by omega)) rfl (asg rfl rfl (gl_nil ?_)))))))))
         refine gq_cut (()) ?_ ⟨?_, ?_, ?_, ?_, ?_, ?_, ?_, trivial⟩ ?_ rfl
         ·
          trivial
         · exact rfl
         · exact rfl
         · exact rfl
         · exact rfl
         · exact rfl
         · exact rfl
         · exact rfl
         · exact rfl
        ·
         refine gc_skip ?_
         refine gq_cut (()) ?_ ⟨?_, ?_, ?_, ?_, ?_, ?_, ?_, trivial⟩ ?_ rfl
         ·
          trivial
         · exact rfl
         · exact rfl
         · exact rfl
         · exact rfl
         · exact rfl
         · exact rfl
         · exact congrArg some (congrArg (vU .u64) (by rw [getD_out (xs := limbs R) (by omega)]))
         · exact rfl
       ·
        intro _u hx
        obtain hcut := hx
        show GC _ _ _ _ _ _ [(1, v71), (4, v82), (5, vr), (13, vI ↑s), (14, vI ↑n), (15, vI (↑K - 1)), (16, vU .u64 ((limbs R).getD (K - 1 + n) 0))] [.us 61 .u32 v82 (fillDn K qs)] k1
        refine gc_cut (ι := Unit) (fun (_u : (Unit)) => True) (fun (_u : (Unit)) => [(1, v71), (4, v82), (5, vr), (13, vI ↑s), (14, vI ↑n), (15, vI (↑K - 1)), (16, vU .u64 ((limbs R).getD (K - 1 + n) 0 * 4294967296 + (limbs R).getD (K - 1 + n - 1) 0))]) (fun (_u : (Unit)) => [.us 61 .u32 v82 (fillDn K qs)]) (fun (_u : (Unit)) => k1) ?_ ?_
        ·
         refine gc_seq (gc_region (mv rfl rfl (mv rfl rfl (gv (ov_add_i rfl rfl (by omega) (by omega)) rfl (gv (ov_sub_i (q := 1) rfl rfl (by omega) (by omega)) rfl (mv rfl rfl (gv (ov_len_us Try.underlying22 rfl hR) rfl (gv (ov_lss_i rfl rfl) rfl (gl_nil (gq_then ?_))))))))))
         refine gc_cond rfl (fun hc110 => ?_) (fun hc110 => ?_)
         ·
          refine gc_region (mv rfl rfl (gv (ov_shl_u (k := .u64) (s := 32) (yk := .u64) (W := 18446744073709551616) rfl rfl rfl rfl) rfl (mv rfl rfl (mv rfl rfl (mv rfl rfl (gv (ov_add_i rfl rfl (by omega) (by omega)) rfl (gv (ov_sub_i (q := 1) rfl rfl (by omega) (by omega)) rfl (gv (ov_index_us (K - 1 + n - 1) Try.underlying22 Try.sizeOf61 rfl rfl hR (by omega) (by omega)) rfl (gv (ov_load_us Try.isAgg61 rfl hR (by omega)) rfl (gv (ov_conv_u (k := .u32) (k' := .u64) (W := 18446744073709551616) Try.underlying61 Try.underlying75 rfl rfl rfl (by omega)) rfl (gv (ov_or_u (k := .u64) rfl rfl rfl (by simp only [ub]; omega) (by simp only [ub]; omega)) rfl ?_)))))))))))
          rw [or_shift (by omega) (by omega)]
          refine asg rfl rfl (gl_nil ?_)
          refine gq_cut (()) ?_ ⟨?_, ?_, ?_, ?_, ?_, ?_, ?_, trivial⟩ ?_ rfl
          ·
           trivial
          · exact rfl
          · exact rfl
          · exact rfl
          · exact rfl
          · exact rfl
          · exact rfl
          · exact rfl
          · exact rfl
         ·
          refine gc_region (mv rfl rfl (gv (ov_shl_u (k := .u64) (s := 32) (yk := .u64) (W := 18446744073709551616) rfl rfl rfl rfl) rfl (asg rfl rfl (gl_nil ?_))))
          refine gq_cut (()) ?_ ⟨?_, ?_, ?_, ?_, ?_, ?_, ?_, trivial⟩ ?_ rfl
          ·
           trivial
          · exact rfl
          · exact rfl
          · exact rfl
          · exact rfl
          · exact rfl
          · exact rfl
          · exact congrArg some (congrArg (vU .u64) (by rw [getD_out (xs := limbs R) (i := K - 1 + n - 1) (by omega)]; omega))
          · exact rfl
        ·
         intro _u hx
         obtain hcut := hx
         show GC _ _ _ _ _ _ [(1, v71), (4, v82), (5, vr), (13, vI ↑s), (14, vI ↑n), (15, vI (↑K - 1)), (16, vU .u64 ((limbs R).getD (K - 1 + n) 0 * 4294967296 + (limbs R).getD (K - 1 + n - 1) 0))] [.us 61 .u32 v82 (fillDn K qs)] k1
         have hVn : V < 4294967296 ^ n := by rw [← hvl]; exact limbs_lt_pow V
         have hRn : R < 4294967296 ^ (K + n) := Nat.lt_of_lt_of_le hlt (by rw [Nat.pow_add]; exact Nat.mul_le_mul_left _ (Nat.le_of_lt hVn))
         have hz0 : ∀ i, K + n ≤ i → (limbs R).getD i 0 = 0 := fun i hi => getD_zero_of_lt (by rw [val_limbs]; exact hRn) hi
         obtain ⟨wr, hW, hwr⟩ := val_three (j := K - 1) hn2 (fun i hi => hz0 i (by omega)) (fit_limbs R)
         rw [val_drop_div (fit_limbs R), val_limbs] at hW
         have hWV := rdiv_low (R := R) (V := V) (k := K - 1) (by rw [Nat.sub_add_cancel (by omega)]; exact hlt)
         obtain ⟨top, htop⟩ : ∃ t, t = (limbs R).getD (K - 1 + n) 0 * 4294967296 + (limbs R).getD (K - 1 + n - 1) 0 := ⟨_, rfl⟩
         rw [← htop]
         rw [← htop] at hW
         have htb : top < 18446744073709551616 := by omega
         have hest := lt_of_div (by rw [hW] at hWV ⊢; exact rdiv_est hVd rfl ha3 hwr (by omega) hWV)
         have hv1p : 0 < (limbs V).getD (n - 1) 0 := by omega
         refine gc_seq (gc_region (mv rfl rfl (mv rfl rfl (mv rfl rfl (gv (ov_sub_i (q := 1) rfl rfl (by omega) (by omega)) rfl ?_)))))
         replace hr71 := hr71.mono hmk1
         refine gv (ov_index_us (n - 1) Try.underlying22 Try.sizeOf61 rfl rfl hr71 (by omega) (by omega)) rfl (gv (ov_load_us Try.isAgg61 rfl hr71 (by omega)) rfl (gv (ov_conv_u (k := .u32) (k' := .u64) (W := 18446744073709551616) Try.underlying61 Try.underlying75 rfl rfl rfl (by omega)) rfl (gv (ov_quo_u (k := .u64) (W := 18446744073709551616) rfl rfl rfl rfl (by omega) (by omega)) rfl (gv (ov_min_u (k := .u64) (q := 4294967295) rfl rfl) rfl ?_))))
         rw [Nat.min_def]
         rw [← Nat.min_def]
         refine asg rfl rfl (gl_nil (gq_keep (e' := [(1, _), (4, _), (5, _), (13, _), (14, _), (15, _), (17, _)]) ⟨rfl, rfl, rfl, rfl, rfl, rfl, rfl, trivial⟩ (gq_then (gc_seq (gc_region (mv rfl rfl (mv rfl rfl (gv (ov_conv_u (k := .u64) (k' := .u32) (W := 4294967296) Try.underlying75 Try.underlying61 rfl rfl rfl (by omega)) rfl ?_))))))))
         refine gl_call (vs := [_, _]) rfl rfl rfl rfl Try.call116 ⟨rfl, rfl, trivial⟩ (fun w hs => ref_times hs hr71 (by omega) (by omega)) ?_
         intro v136 h6 hh6 hr136
         have hlp := limbs_len_mul V (min (top / (limbs V).getD (n - 1) 0) 4294967295)
         have hld := limbs_len_word (n := min (top / (limbs V).getD (n - 1) 0) 4294967295) (by omega)
         refine mv rfl rfl ?_
         rw [show (↑K : Int) - 1 = ↑(K - 1) by omega]
         refine gl_call (vs := [_, _]) rfl rfl rfl rfl Try.call115 ⟨rfl, rfl, trivial⟩ (fun w hs => ref_shifted hs hr136 (by omega) (by omega)) ?_
         intro v138 h7 hh7 hr138
         refine asg rfl rfl (gl_nil (gq_then (gc_seq (gc_block ?_))))
         refine gc_loop (ι := Value × Nat × Mem) (fun (x_ : (Value × Nat × Mem)) => match x_ with | (vp, d, k2) => MLe h7 k2 ∧ (Us .u32 k2 vp (limbs (V * d * 4294967296 ^ (K - 1))) ∧ d ≤ 4294967295 ∧ R < V * (d + 1) * 4294967296 ^ (K - 1))) (fun (x_ : (Value × Nat × Mem)) => match x_ with | (vp, d, k2) => [(1, v71), (4, v82), (5, vr), (13, vI ↑s), (14, vI ↑n), (15, vI ↑(K - 1)), (17, vU .u64 d), (18, vp)]) (fun (x_ : (Value × Nat × Mem)) => match x_ with | (vp, d, k2) => [.us 61 .u32 v82 (fillDn K qs)]) (fun (x_ : (Value × Nat × Mem)) => match x_ with | (vp, d, k2) => k2) (fun (x_ : (Value × Nat × Mem)) => match x_ with | (vp, d, k2) => d) (v138, min (top / (limbs V).getD (n - 1) 0) 4294967295, h7) ?_ ⟨rfl, rfl, rfl, rfl, rfl, rfl, rfl, rfl, trivial⟩ rfl rfl ?_
         ·
          refine ⟨MLe.refl _, ?_⟩
          exact ⟨hr138, Nat.min_le_right _ _, hest⟩
         ·
          intro x hx
          obtain ⟨vp, d, k2⟩ := x
          obtain ⟨hmk2, ⟨hp, hdb, hdl⟩⟩ := hx
          show GC _ _ _ _ _ _ [(1, v71), (4, v82), (5, vr), (13, vI ↑s), (14, vI ↑n), (15, vI ↑(K - 1)), (17, vU .u64 d), (18, vp)] [.us 61 .u32 v82 (fillDn K qs)] k2
          refine gc_seq (gc_seq (gc_region (mv rfl rfl (mv rfl rfl ?_))))
          replace hR := hR.mono ((hh6.trans hh7).trans hmk2)
          refine gl_call (vs := [_, _]) rfl rfl rfl rfl Try.call77 ⟨rfl, rfl, trivial⟩ (fun w hs => ref_cmp hs hp hR) ?_
          intro v141 h8 hh8 hr141
          subst hr141
          refine gv (ov_gtr_i (q := 0) rfl rfl) rfl (gl_nil (gq_then ?_))
          refine gc_cond rfl (fun hc142 => ?_) (fun hc142 => ?_)
          ·
           have hgt := cmpN_pos.1 hc142
           have hd1 : 1 ≤ d := Nat.pos_of_ne_zero fun h0 => by rw [h0, Nat.mul_zero, Nat.zero_mul] at hgt; omega
           obtain ⟨hbk, hbl⟩ := rq_back (V := V) (p := 4294967296 ^ (K - 1)) hd1
           refine gc_skip (gq_then (gc_block (gc_seq (gc_region (mv rfl rfl (gv (ov_sub_u (k := .u64) (q := 1) (W := 18446744073709551616) rfl rfl rfl rfl (by omega) (by omega)) rfl (asg rfl rfl (gl_nil (gq_then (gc_region (mv rfl rfl (mv rfl rfl (mv rfl rfl ?_)))))))))))))
           replace hr71 := hr71.mono (((hh6.trans hh7).trans hmk2).trans hh8)
           refine gl_call (vs := [_, _]) rfl rfl rfl rfl Try.call115 ⟨rfl, rfl, trivial⟩ (fun w hs => ref_shifted hs hr71 (by omega) (by omega)) ?_
           intro v148 h9 hh9 hr148
           have hlq := limbs_len_shl (V * d) (K - 1)
           have hlq2 := limbs_len_mul V d
           have hlq3 := limbs_len_word (n := d) (by omega)
           replace hp := hp.mono (hh8.trans hh9)
           refine gl_call (vs := [_, _]) rfl rfl rfl rfl Try.call117 ⟨rfl, rfl, trivial⟩ (fun w hs => ref_minus hs hp hr148 hbl (by omega)) ?_
           intro v149 h10 hh10 hr149
           rw [hbk] at hr149
           refine asg rfl rfl (gl_nil (gq_in ?_))
           refine gq_round (v149, d - 1, h10) ?_ ?_ ⟨?_, ?_, ?_, ?_, ?_, ?_, ?_, ?_, trivial⟩ ?_ rfl
           ·
            refine ⟨(((hmk2.trans hh8).trans hh9).trans hh10), ?_⟩
            exact ⟨hr149, by omega, by rw [Nat.sub_add_cancel hd1]; exact hgt⟩
           ·
            dsimp only
            omega
           · exact rfl
           · exact rfl
           · exact rfl
           · exact rfl
           · exact rfl
           · exact rfl
           · exact rfl
           · exact rfl
           · exact rfl
          ·
           have hple : V * d * 4294967296 ^ (K - 1) ≤ R := Nat.le_of_not_lt fun hc => hc142 (cmpN_pos.2 hc)
           refine gc_exit (gx_then (gx_then (gx_here (gq_then (gc_seq (gc_region (mv rfl rfl (mv rfl rfl (mv rfl rfl (gv (ov_conv_u (k := .u64) (k' := .u32) (W := 4294967296) Try.underlying75 Try.underlying61 rfl rfl rfl (by omega)) rfl (gv (ov_index_ous (A := []) (K - 1) Try.underlying22 Try.sizeOf61 rfl rfl (by omega) (by rw [length_fillDn]; omega)) rfl (gl_store_ous0 Try.sizeOf61 rfl rfl (by rw [length_fillDn]; omega) (gl_nil ?_)))))))))))))
           refine gq_keep (e' := [(1, _), (4, _), (5, _), (13, _), (14, _), (15, _), (18, _)]) ⟨rfl, rfl, rfl, rfl, rfl, rfl, rfl, trivial⟩ (gq_then (gc_region (mv rfl rfl (mv rfl rfl ?_))))
           replace hR := hR.mono hh8
           replace hp := hp.mono hh8
           refine gl_call (vs := [_, _]) rfl rfl rfl rfl Try.call117 ⟨rfl, rfl, trivial⟩ (fun w hs => ref_minus hs hR hp hple (by omega)) ?_
           intro v157 h9 hh9 hr157
           refine asg rfl rfl (gl_nil (gq_in (gq_then (gc_region (mv rfl rfl (gv (ov_sub_i (q := 1) rfl rfl (by omega) (by omega)) rfl (asg rfl rfl (gl_nil ?_))))))))
           refine gq_round (K - 1, v157, R - V * d * 4294967296 ^ (K - 1), d :: qs, h9) ?_ ?_ ⟨?_, ?_, ?_, ?_, ?_, ?_, trivial⟩ ?_ rfl
           ·
            refine ⟨(((((hmk1.trans hh6).trans hh7).trans hmk2).trans hh8).trans hh9), ?_⟩
            have eK : (4294967296 : Nat) ^ K = 4294967296 ^ (K - 1) * 4294967296 := by rw [← Nat.pow_succ, Nat.succ_eq_add_one, Nat.sub_add_cancel (by omega)]
            rw [eK] at hval
            have hlm2 := limbs_len_mono (Nat.sub_le R (V * d * 4294967296 ^ (K - 1)))
            exact ⟨hr157, by omega, by simp only [List.length_cons]; omega, fit_cons.2 ⟨by omega, hfq⟩, rq_step hval hple, rq_lt hdl hple, by omega⟩
           ·
            dsimp only
            omega
           · exact rfl
           · exact rfl
           · exact rfl
           · exact rfl
           · exact rfl
           · exact congrArg some (congrArg vI (by omega))
           ·
            try dsimp only [List.nil_append, List.cons_append]
            rw [fillDn_set (by omega)]
      ·
       refine gc_exit (gx_then (gx_then (gx_here (gq_then (gc_seq ?_)))))
       have hK0 : K = 0 := by omega
       subst hK0
       rw [fillDn_zero]
       rw [Nat.pow_zero, Nat.one_mul] at hval hlt
       refine gc_region (mv rfl rfl (gl_freeze_us0 (by exact hfq) ?_))
       intro h6 hh6 hq
       refine gl_call (vs := [_]) rfl rfl rfl rfl Try.call81 ⟨rfl, trivial⟩ (fun w hs => ref_trim hs hq (by omega)) ?_
       intro v159 h7 hh7 hr159
       refine mv rfl rfl (mv rfl rfl ?_)
       replace hR := hR.mono (hh6.trans hh7)
       refine gl_call (vs := [_, _]) rfl rfl rfl rfl Try.call118 ⟨rfl, rfl, trivial⟩ (fun w hs => ref_down hs hR (by omega) (by omega)) ?_
       intro v162 h8 hh8 hr162
       refine asg rfl rfl (asg rfl rfl (asg (v := vI (0)) rfl rfl (gl_nil (gq_keep (e' := [(4, _), (5, _), (6, _)]) ⟨rfl, rfl, rfl, trivial⟩ (gq_then (gc_ret (gq_body3 rfl rfl rfl rfl ?_)))))))
       replace hr159 := hr159.mono hh8
       obtain ⟨e1, e2⟩ := div_end (X := X) (Y := Y) (s := s) (u := R) (q := val qs) (by omega) (by rw [← hV, ← hU]; exact hval) (by rw [← hV]; exact hlt)
       rw [e1] at hr159
       rw [e2] at hr162
       rw [if_neg hyne, if_neg hyne]
       exact ⟨_, _, rfl, hr159, hr162⟩

theorem ref_gcd {w0 : World} {h0 : Mem}  (hs : MLe h0 (mem w0)) {v v' : Value} {A B : Nat} (hv : Us .u32 h0 v (limbs A)) (hv' : Us .u32 h0 v' (limbs B)) (hl : (limbs A).length ≤ 549755813888) (hl' : (limbs B).length ≤ 549755813888) :
    Calls Try.prog 86 #[v, v'] w0 (Ret w0 h0 (fun h r => Us .u32 h r (limbs (Nat.gcd A B)))) := by
 obtain ⟨G, hG⟩ : ∃ G, G = Nat.gcd A B := ⟨_, rfl⟩
 rw [← hG]
 refine calls_begin (n := 51) (e := [(0, v), (1, v')]) (vs := [v, v']) Try.func86 rfl rfl (Nat.le_of_ble_eq_true rfl) hs ⟨rfl, rfl, trivial⟩ (gc_seq (gc_region (asg rfl rfl (gl_nil (gq_then (gc_seq (gc_region (mv rfl rfl ?_))))))))
 refine gl_call (vs := [_]) rfl rfl rfl rfl Try.call81 ⟨rfl, trivial⟩ (fun w hs => ref_trim hs hv (by omega)) ?_
 intro v13 h1 hh1 hr13
 rw [val_limbs] at hr13
 refine mv rfl rfl ?_
 replace hv' := hv'.mono hh1
 refine gl_call (vs := [_]) rfl rfl rfl rfl Try.call81 ⟨rfl, trivial⟩ (fun w hs => ref_trim hs hv' (by omega)) ?_
 intro v15 h2 hh2 hr15
 rw [val_limbs] at hr15
 refine asg rfl rfl (asg rfl rfl (gl_nil (gq_then (gc_seq (gc_block ?_)))))
 refine gc_loop (ι := Value × Nat × Value × Nat × Mem) (fun (x_ : (Value × Nat × Value × Nat × Mem)) => match x_ with | (vx, X, vy, Y, k1) => MLe h2 k1 ∧ (Us .u32 k1 vx (limbs X) ∧ Us .u32 k1 vy (limbs Y) ∧ Nat.gcd X Y = G ∧ (limbs X).length ≤ 549755813888 ∧ (limbs Y).length ≤ 549755813888)) (fun (x_ : (Value × Nat × Value × Nat × Mem)) => match x_ with | (vx, X, vy, Y, k1) => [(0, vx), (1, vy)]) (fun (x_ : (Value × Nat × Value × Nat × Mem)) => match x_ with | (vx, X, vy, Y, k1) => []) (fun (x_ : (Value × Nat × Value × Nat × Mem)) => match x_ with | (vx, X, vy, Y, k1) => k1) (fun (x_ : (Value × Nat × Value × Nat × Mem)) => match x_ with | (vx, X, vy, Y, k1) => Y) (v13, A, v15, B, h2) ?_ ⟨rfl, rfl, trivial⟩ rfl rfl ?_
 ·
  refine ⟨MLe.refl _, ?_⟩
  replace hr13 := hr13.mono hh2
  exact ⟨hr13, hr15, hG.symm, by omega, by omega⟩
 ·
  intro x hx
  obtain ⟨vx, X, vy, Y, k1⟩ := x
  obtain ⟨hmk1, ⟨ha, hb, hg, hlX, hlY⟩⟩ := hx
  show GC _ _ _ _ _ _ [(0, vx), (1, vy)] [] k1
  refine gc_seq (gc_seq (gc_region (mv rfl rfl (gv (ov_len_us Try.underlying22 rfl hb) rfl (gv (ov_gtr_i (q := 0) rfl rfl) rfl (gl_nil (gq_then ?_)))))))
  refine gc_cond rfl (fun hc18 => ?_) (fun hc18 => ?_)
  ·
   have hY0 : Y ≠ 0 := limbs_len_pos.1 (by omega)
   refine gc_skip (gq_then (gc_block (gc_seq (gc_region (mv rfl rfl ?_)))))
   refine gl_call (vs := [_]) rfl rfl rfl rfl Try.call113 ⟨rfl, trivial⟩ (fun w hs => ref_small hs ha) ?_
   intro v21 h3 hh3 hr21
   subst hr21
   refine mv rfl rfl (gv (ov_extract (vs := [_, _]) rfl rfl) rfl (gv (ov_extract (vs := [_, _]) rfl rfl) rfl (asg rfl rfl (asg rfl rfl (gl_nil (gq_then (gc_seq (gc_region (mv rfl rfl ?_)))))))))
   replace hb := hb.mono hh3
   refine gl_call (vs := [_]) rfl rfl rfl rfl Try.call113 ⟨rfl, trivial⟩ (fun w hs => ref_small hs hb) ?_
   intro v26 h4 hh4 hr26
   subst hr26
   refine mv rfl rfl (gv (ov_extract (vs := [_, _]) rfl rfl) rfl (gv (ov_extract (vs := [_, _]) rfl rfl) rfl (asg rfl rfl (asg rfl rfl (gl_nil (gq_keep (e' := [(0, _), (1, _), (5, _), (6, _), (7, _), (8, _)]) ⟨rfl, rfl, rfl, rfl, rfl, rfl, trivial⟩ (gq_then (gc_seq (gc_seq (gc_region (mv rfl rfl ?_)))))))))))
   refine gl_cut (ι := Unit) 3 (fun _ => True) (fun _ => [(32, vB (((limbs X).length ≤ 2) ∧ ((limbs Y).length ≤ 2))), (0, vx), (1, vy), (5, vU .u64 (if (limbs X).length ≤ 2 then X else 0)), (7, vU .u64 (if (limbs Y).length ≤ 2 then Y else 0))]) (fun _ => []) (fun _ => h4) ?_ ?_
   ·
    refine gl_cases ((limbs X).length ≤ 2) (fun hg => ?_) (fun hg => ?_)
    ·
     refine gl_val (ov_move (v := .bool true) (congrArg some (vB_true hg))) rfl rfl rfl (gl_on rfl rfl rfl (mv rfl rfl (gv (ov_pick_t rfl rfl) rfl (gl_nil ?_))))
     refine gq_cut () trivial ⟨?_, rfl, rfl, rfl, rfl, trivial⟩ rfl rfl
     exact congrArg some (vB_and_t hg)
    ·
     refine gl_val (ov_move (v := .bool false) (congrArg some (vB_false hg))) rfl rfl rfl (gl_off rfl rfl rfl rfl rfl rfl (gv (ov_pick_f rfl rfl) rfl (gl_nil ?_)))
     refine gq_cut () trivial ⟨?_, rfl, rfl, rfl, rfl, trivial⟩ rfl rfl
     exact congrArg some (vB_and_f hg)
   ·
    intro _ _
    show GL _ _ _ _ _ _ _ [(32, vB (((limbs X).length ≤ 2) ∧ ((limbs Y).length ≤ 2))), (0, vx), (1, vy), (5, vU .u64 (if (limbs X).length ≤ 2 then X else 0)), (7, vU .u64 (if (limbs Y).length ≤ 2 then Y else 0))] [] h4
    refine gl_nil (gq_then ?_)
    refine gc_cond rfl (fun hc32 => ?_) (fun hc32 => ?_)
    ·
     rw [if_pos hc32.1, if_pos hc32.2]
     have hwx := lt_word hc32.1
     have hwy := lt_word hc32.2
     refine gc_seq (gc_block ?_)
     refine gc_loop (ι := Nat × Nat) (fun (x_ : (Nat × Nat)) => match x_ with | (m, n) => Nat.gcd m n = G ∧ m < 18446744073709551616 ∧ n < 18446744073709551616) (fun (x_ : (Nat × Nat)) => match x_ with | (m, n) => [(5, vU .u64 m), (7, vU .u64 n)]) (fun (x_ : (Nat × Nat)) => match x_ with | (m, n) => []) (fun (x_ : (Nat × Nat)) => match x_ with | (m, n) => h4) (fun (x_ : (Nat × Nat)) => match x_ with | (m, n) => n) (X, Y) ?_ ⟨rfl, rfl, trivial⟩ rfl rfl ?_
     ·
      exact ⟨hg, hwx, hwy⟩
     ·
      intro x hx
      obtain ⟨m, n⟩ := x
      obtain ⟨hg3, hm, hn⟩ := hx
      show GC _ _ _ _ _ _ [(5, vU .u64 m), (7, vU .u64 n)] [] h4
      refine gc_seq (gc_seq (gc_region (mv rfl rfl (gv (ov_neq_u (k := .u64) (q := 0) rfl rfl) rfl (gl_nil (gq_then ?_))))))
      refine gc_cond rfl (fun hc34 => ?_) (fun hc34 => ?_)
      ·
       refine gc_skip (gq_then (gc_block ?_))
       refine gc_draw 6 _ [] [(0, .q), (1, .q), (2, .q), (3, .q), (4, .q), (5, .q)] mixed (fun x hx => by cases hx) (by kernel_rfl) (fun x hx => by cases hx) (fun r hr => hr) (w_q rfl (fun h' L' hh hR => ov_move rfl) rfl (w_q rfl (fun h' L' hh hR => ov_move rfl) rfl (w_q rfl (fun h' L' hh hR => ov_move rfl) rfl (w_q rfl (fun h' L' hh hR => ov_rem_u (k := .u64) rfl rfl (by omega)) rfl (w_q rfl (fun h' L' hh hR => ov_assign rfl) rfl (w_q rfl (fun h' L' hh hR => ov_assign rfl) rfl (w_nil (gq_in ?_))))))))
       refine gq_round (n, m % n) ?_ ?_ ⟨?_, ?_, trivial⟩ ?_ rfl
       ·
        have hlt := Nat.mod_lt m (Nat.pos_of_ne_zero hc34)
        exact ⟨by rw [gcd_step]; exact hg3, hn, by omega⟩
       ·
        dsimp only
        exact Nat.mod_lt _ (Nat.pos_of_ne_zero hc34)
       · exact rfl
       · exact rfl
       · exact rfl
      ·
       refine gc_exit (gx_then (gx_then (gx_here (gq_then (gc_seq (gc_region (mv rfl rfl ?_)))))))
       refine gl_call (vs := [_]) rfl rfl rfl rfl Try.call110 ⟨rfl, trivial⟩ (fun w hs => ref_of hs (by omega)) ?_
       intro v40 h5 hh5 hr40
       refine asg rfl rfl (gl_nil (gq_then (gc_ret (gr_then (gr_in (gr_then (gr_in (gr_then (gq_body1 rfl rfl ?_)))))))))
       have hn0 : n = 0 := Classical.not_not.1 hc34
       rw [hn0, Nat.gcd_zero_right] at hg3
       rw [← hg3]
       exact hr40
    ·
     refine gc_skip (gq_then (gc_seq (gc_region (mv rfl rfl (mv rfl rfl ?_)))))
     replace ha := ha.mono (hh3.trans hh4)
     replace hb := hb.mono hh4
     refine gl_call (vs := [_, _]) rfl rfl rfl rfl Try.call89 ⟨rfl, rfl, trivial⟩ (fun w hs => ref_div hs ha hb (by omega) (by omega)) ?_
     intro v44 h5 hh5 hr44
     obtain ⟨q44, r44, rfl, hq44, hr44⟩ := hr44
     rw [if_neg hY0] at hr44
     have hlm := limbs_len_mono (Nat.le_of_lt (Nat.mod_lt X (Nat.pos_of_ne_zero hY0)))
     refine mv rfl rfl (gv (ov_extract (vs := [_, _, _]) rfl rfl) rfl (gv (ov_extract (vs := [_, _, _]) rfl rfl) rfl (gv (ov_extract (vs := [_, _, _]) rfl rfl) rfl (asg rfl rfl (asg rfl rfl (asg rfl rfl (gl_nil (gq_keep (e' := [(1, _), (10, _)]) ⟨rfl, rfl, trivial⟩ (gq_then (gc_region (mv rfl rfl (mv rfl rfl (asg rfl rfl ?_)))))))))))))
     refine asg rfl rfl (gl_nil (gq_in ?_))
     refine gq_round (vy, Y, r44, X % Y, h5) ?_ ?_ ⟨?_, ?_, trivial⟩ ?_ rfl
     ·
      refine ⟨(((hmk1.trans hh3).trans hh4).trans hh5), ?_⟩
      replace hb := hb.mono hh5
      exact ⟨hb, hr44, by rw [gcd_step]; exact hg, hlY, by omega⟩
     ·
      dsimp only
      exact Nat.mod_lt _ (Nat.pos_of_ne_zero hY0)
     · exact rfl
     · exact rfl
     · exact rfl
  ·
   have hY0 : Y = 0 := Classical.byContradiction fun hne => by have := limbs_len_pos.2 hne; omega
   refine gc_exit (gx_then (gx_then (gx_here (gq_then (gc_seq (gc_region (mv rfl rfl (asg rfl rfl (gl_nil (gq_then (gc_ret (gq_body1 rfl rfl ?_))))))))))))
   rw [hY0, Nat.gcd_zero_right] at hg
   rw [← hg]
   exact ha

end Go.Proofs.Ytimoeckkdodogaa
