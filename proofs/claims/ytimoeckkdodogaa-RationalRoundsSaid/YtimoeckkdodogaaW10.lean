/- Contracts of functions, walked by their text (nat10/b). -/
import Derived.Test.YtimoeckkdodogaaW9
namespace Go.Proofs.Ytimoeckkdodogaa
open Bk Go
set_option linter.unusedVariables false
set_option linter.unusedSimpArgs false
set_option maxRecDepth 10000

set_option maxHeartbeats 1000000 in
theorem nat_shift {w0 : World} {h0 : Mem}  (hs : MLe h0 (mem w0)) {v : Value} {xs : List Nat} {n : Int} (hv : Us .u32 h0 v xs) (hn : -9223372036854775808 ≤ n) (hn' : n < 9223372036854775808) (hl : xs.length ≤ 1099511627776) :
    Calls Try.prog 90 #[v, vI n] w0 (Ret w0 h0 (fun h r => ∃ u, r = .tuple #[u, vI (shE n)] ∧ Us .u32 h u (limbs (shN (val xs) n)))) := by
 have hlx := limbs_len_le hv.lt
 refine calls_begin (n := 79) (e := [(0, v), (1, vI n)]) (vs := [v, vI n]) Try.func90 rfl rfl (Nat.le_of_ble_eq_true rfl) hs ⟨rfl, rfl, trivial⟩ (gc_seq (gc_region (asg rfl rfl (asg (v := vI (0)) rfl rfl (gl_nil (gq_then (gc_seq (gc_region (mv rfl rfl ?_)))))))))
 refine gl_call (vs := [_]) rfl rfl rfl rfl Try.call101 ⟨rfl, trivial⟩ (fun w hs => nat_trim hs hv) ?_
 intro v10 h1 hh1 hr10
 replace hr10 := hr10.2
 refine asg rfl rfl (gl_nil (gq_then (gc_seq (gc_block (gc_seq (gc_region (mv rfl rfl (gv (ov_gtr_i (q := 16384) rfl rfl) rfl (asg rfl rfl (gl_nil (gq_then ?_)))))))))))
 refine gc_cond rfl (fun hc11 => ?_) (fun hc11 => ?_)
 ·
  refine gc_seq (gc_region (asg rfl rfl (asg (v := vI (2)) rfl rfl (gl_nil (gq_then (gc_ret (gr_in (gr_then (gq_body2 rfl rfl rfl ?_)))))))))
  rw [shE, if_pos (by omega), shN, if_pos (by omega), limbs_zero]
  exact ⟨_, rfl, Us.nil _ _⟩
 ·
  refine gc_seq (gc_region (mv rfl rfl (gv (ov_geq_i (q := 0) rfl rfl) rfl (asg rfl rfl (gl_nil (gq_then ?_))))))
  refine gc_cond rfl (fun hc14 => ?_) (fun hc14 => ?_)
  ·
   obtain ⟨N, hN⟩ : ∃ N : Nat, n = ↑N := ⟨n.toNat, by omega⟩
   have hN2 : N ≤ 16384 := by omega
   refine gc_keep (e' := [(1, _), (0, _)]) ⟨rfl, rfl, trivial⟩ (gc_seq ?_)
   refine gc_draw 11 _ [] [(0, .q), (1, .q), (3, .q), (4, .q), (5, .q), (2, .b 6), (7, .c), (8, .c), (9, .q), (10, .q)] mixed (fun x hx => by cases hx) (by kernel_rfl) (fun x hx => by cases hx) (fun r hr => hr) (w_q rfl (fun h' L' hh hR => ov_move rfl) rfl (w_q rfl (fun h' L' hh hR => ov_quo_i (q := 32) rfl rfl (by omega) (by omega) (by omega)) rfl ?_))
   rw [show n / 32 = ↑(N / 32) by omega]
   refine w_q rfl (fun h' L' hh hR => ov_move rfl) rfl (w_q rfl (fun h' L' hh hR => ov_move rfl) rfl (w_q rfl (fun h' L' hh hR => ov_rem_i (q := 32) rfl rfl (by omega) (by omega)) rfl ?_))
   rw [show n % 32 = ↑(N % 32) by omega]
   refine w_b rfl rfl ?_ ?_
   ·
    refine s_new (fun X => new_make_us (kd := .u32) (by' := 4) (N / 32) Try.underlying22 info61 rfl rfl rfl rfl rfl (by omega) (by omega) (by omega) (by omega)) rfl ?_
    intro v19 r19 hr19
    obtain rfl := hr19
    refine s_call_own (vs := [_, _]) Try.call119 ⟨rfl, rfl, trivial⟩ (fun w hs => nat_raise hs hr10 (by omega) (by omega)) rfl ?_
    intro v23 h2 L23 hh2 hr23
    obtain ⟨us23, rfl, hul23, huf23, huv23⟩ := hr23
    refine w_c rfl (s_freeze (A := []) (by exact huf23) (by simp) ?_)
    intro h3 hh3 hrz
    refine s_rep (A := []) (fun X => rep_append_us (kd := .u32) (bytes := 4) Try.underlying22 info61 rfl rfl rfl rfl rfl hrz (by rw [List.length_replicate]; omega) (by rw [List.length_replicate]; omega)) rfl (by simp) ?_
    intro v24 r24 hr24
    obtain rfl := hr24
    refine w_c rfl (s_freeze (A := []) (by exact fit_append (fit_replicate _) huf23) (by simp) ?_)
    intro h4 hh4 hcat
    refine s_call (vs := [_]) Try.call101 ⟨rfl, trivial⟩ (fun w hs => nat_trim hs hcat) rfl ?_
    intro v25 h5 hh5 hr25
    replace hr25 := hr25.2
    refine w_q rfl (fun h' L' hh hR => ov_assign rfl) rfl (w_q rfl (fun h' L' hh hR => ov_assign (v := vI (0)) rfl) rfl (w_nil (gq_keep (e' := [(4, _), (5, _)]) ⟨rfl, rfl, trivial⟩ (gq_then (gc_ret (gr_in (gr_then (gq_body2 rfl rfl rfl ?_))))))))
    rw [val_append, val_replicate, List.length_replicate, huv23, val_limbs, mul_pow_split, Nat.zero_add, show 32 * (N / 32) + N % 32 = n.toNat by omega] at hr25
    rw [shE, if_neg (by omega), shN_up (by omega) (by omega)]
    exact ⟨_, rfl, hr25⟩
   ·
    refine s_call_own (vs := [_, _]) Try.call119 ⟨rfl, rfl, trivial⟩ (fun w hs => nat_raise hs hr10 (by omega) (by omega)) rfl ?_
    intro v23 h2 L23 hh2 hr23
    obtain ⟨us23, rfl, hul23, huf23, huv23⟩ := hr23
    refine s_new (fun X => new_make_us (kd := .u32) (by' := 4) (N / 32) Try.underlying22 info61 rfl rfl rfl rfl rfl (by omega) (by omega) (by omega) (by omega)) rfl ?_
    intro v19 r19 hr19
    obtain rfl := hr19
    refine w_c rfl (s_freeze (A := [_]) (by exact huf23) (by simp) ?_)
    intro h3 hh3 hrz
    refine s_rep (A := []) (fun X => rep_append_us (kd := .u32) (bytes := 4) Try.underlying22 info61 rfl rfl rfl rfl rfl hrz (by rw [List.length_replicate]; omega) (by rw [List.length_replicate]; omega)) rfl (by simp) ?_
    intro v24 r24 hr24
    obtain rfl := hr24
    refine w_c rfl (s_freeze (A := []) (by exact fit_append (fit_replicate _) huf23) (by simp) ?_)
    intro h4 hh4 hcat
    refine s_call (vs := [_]) Try.call101 ⟨rfl, trivial⟩ (fun w hs => nat_trim hs hcat) rfl ?_
    intro v25 h5 hh5 hr25
    replace hr25 := hr25.2
    refine w_q rfl (fun h' L' hh hR => ov_assign rfl) rfl (w_q rfl (fun h' L' hh hR => ov_assign (v := vI (0)) rfl) rfl (w_nil (gq_keep (e' := [(4, _), (5, _)]) ⟨rfl, rfl, trivial⟩ (gq_then (gc_ret (gr_in (gr_then (gq_body2 rfl rfl rfl ?_))))))))
    rw [val_append, val_replicate, List.length_replicate, huv23, val_limbs, mul_pow_split, Nat.zero_add, show 32 * (N / 32) + N % 32 = n.toNat by omega] at hr25
    rw [shE, if_neg (by omega), shN_up (by omega) (by omega)]
    exact ⟨_, rfl, hr25⟩
  ·
   obtain ⟨M, hM⟩ : ∃ M : Nat, n = -↑M := ⟨(-n).toNat, by omega⟩
   refine gc_keep (e' := [(1, _), (0, _)]) ⟨rfl, rfl, trivial⟩ (gc_seq (gc_region (mv rfl rfl (mv rfl rfl (gv (ov_len_us Try.underlying22 rfl hr10) rfl (gv (ov_mul_i (p := -32) rfl rfl (by omega) (by omega)) rfl (gv (ov_leq_i rfl rfl) rfl (asg rfl rfl (gl_nil (gq_then ?_))))))))))
   refine gc_cond rfl (fun hc26 => ?_) (fun hc26 => ?_)
   ·
    refine gc_seq (gc_region (asg rfl rfl (asg (v := vI (0)) rfl rfl (gl_nil (gq_then (gc_ret (gr_in (gr_then (gq_body2 rfl rfl rfl ?_)))))))))
    rw [shE, if_neg (by omega), shN_down (by omega), div_pow_zero (by omega), limbs_zero]
    exact ⟨_, rfl, Us.nil _ _⟩
   ·
    have hMl : M < 32 * (limbs (val xs)).length := by omega
    refine gc_skip (gq_in (gq_then (gc_seq (gc_region (mv rfl rfl (mv rfl rfl (gv (ov_neg_i rfl (by omega) (by omega)) rfl (gv (ov_quo_i (q := 32) rfl rfl (by omega) (by omega) (by omega)) rfl ?_))))))))
    rw [show -n / 32 = ↑(M / 32) by omega]
    refine gv (ov_slice_l (M / 32) Try.underlying22 Try.sizeOf61 rfl rfl hr10.shape (by omega) (by omega)) rfl ?_
    have hsl36 := hr10.sub (lo := M / 32) (hi := (limbs (val xs)).length) (by omega) (by omega)
    rw [List.take_of_length_le (by rw [List.length_drop]; omega)] at hsl36
    have hdl : (List.drop (M / 32) (limbs (val xs))).length = (limbs (val xs)).length - M / 32 := List.length_drop
    refine gl_call_own (vs := [_]) rfl rfl rfl rfl Try.call111 ⟨rfl, trivial⟩ (fun w hs => sl_clone hs hsl36 (by omega)) ?_
    intro v37 h2 L37 hh2 hr37
    obtain rfl := hr37
    refine asg rfl rfl ?_
    have hRf : Fit (List.drop (M / 32) (limbs (val xs))) := fit_drop (fit_limbs _) _
    have hRv := val_drop_div (fit_limbs (val xs)) (M / 32)
    rw [val_limbs] at hRv
    generalize List.drop (M / 32) (limbs (val xs)) = Rs at *
    refine gl_nil (gq_keep (e' := [(1, _), (6, _)]) ⟨rfl, rfl, trivial⟩ (gq_then (gc_seq (gc_region (mv rfl rfl (gv (ov_neg_i rfl (by omega) (by omega)) rfl (gv (ov_rem_i (q := 32) rfl rfl (by omega) (by omega)) rfl ?_)))))))
    obtain ⟨s, hsd⟩ : ∃ s, s = M % 32 := ⟨_, rfl⟩
    rw [show -n % 32 = ↑s by omega]
    have hs32 : s < 32 := by omega
    refine asg rfl rfl (gl_nil (gq_then (gc_seq (gc_seq (gc_region (mv rfl rfl (gv (ov_len_ous (A := []) Try.underlying22 rfl) rfl (mv (v := vI (0)) rfl rfl (gl_nil (gq_then (gc_block ?_)))))))))))
    refine gc_loop (ι := Nat) (fun (k : (Nat)) => k ≤ Rs.length) (fun (k : (Nat)) => [(6, v37), (7, vI ↑s), (42, vI ↑Rs.length), (43, vI ↑k)]) (fun (k : (Nat)) => [.us 61 .u32 v37 (shrM s Rs k)]) (fun (k : (Nat)) => h2) (fun (k : (Nat)) => Rs.length - k) 0 ?_ ⟨rfl, rfl, rfl, rfl, trivial⟩ ?_ rfl ?_
    ·
     exact Nat.zero_le _
    ·
     try dsimp only [List.nil_append, List.cons_append]
     exact congrArg (fun z => [Res.us 61 .u32 v37 z]) (shrM_zero s Rs)
    ·
     intro k hx
     obtain hk := hx
     show GC _ _ _ _ _ _ [(6, v37), (7, vI ↑s), (42, vI ↑Rs.length), (43, vI ↑k)] [.us 61 .u32 v37 (shrM s Rs k)] h2
     refine gc_seq (gc_region (gv (ov_lss_i rfl rfl) rfl (gl_nil (gq_then (gc_seq ?_)))))
     refine gc_cond rfl (fun hc44 => ?_) (fun hc44 => ?_)
     ·
      refine gc_skip (gq_then ?_)
      refine gc_cut (ι := Unit) (fun (_u : (Unit)) => True) (fun (_u : (Unit)) => [(6, v37), (7, vI ↑s), (42, vI ↑Rs.length), (43, vI ↑k)]) (fun (_u : (Unit)) => [.us 61 .u32 v37 (shrM s Rs (k + 1))]) (fun (_u : (Unit)) => h2) ?_ ?_
      ·
       refine gc_block (gc_seq (gc_region (mv rfl rfl (asg rfl rfl (gl_nil (gq_then (gc_seq (gc_region (mv rfl rfl (mv rfl rfl (gv (ov_index_ous (A := []) (k) Try.underlying22 Try.sizeOf61 rfl rfl (by omega) (by rw [shrM_len (by omega)]; omega)) rfl (gv (ov_load_ous (A := []) Try.isAgg61 rfl (by rw [shrM_len (by omega)]; omega)) rfl ?_))))))))))))
       rw [shrM_get (Nat.le_refl _)]
       have hgr := fit_get hRf k
       refine mv rfl rfl (gv (ov_shr_u (k := .u32) (s := s) (yk := .i64) rfl rfl rfl (by simp only [ub]; omega)) rfl ?_)
       have hq1 : Rs.getD k 0 / 2 ^ s < 4294967296 := Nat.lt_of_le_of_lt (Nat.div_le_self _ _) hgr
       refine gv (ov_index_ous (A := []) (k) Try.underlying22 Try.sizeOf61 rfl rfl (by omega) (by rw [shrM_len (by omega)]; omega)) rfl (gl_store_ous0 Try.sizeOf61 rfl rfl (by rw [shrM_len (by omega)]; omega) (gl_nil (gq_then (gc_seq (gc_region (mv rfl rfl (gv (ov_gtr_i (q := 0) rfl rfl) rfl ?_)))))))
       refine gl_cut (ι := Unit) 7 (fun _ => True) (fun _ => [(61, vB (((0 : Int) < ↑s) ∧ ((↑k : Int) + 1 < ↑Rs.length))), (6, v37), (7, vI ↑s), (42, vI ↑Rs.length), (43, vI ↑k), (8, vI ↑k)]) (fun _ => [.us 61 .u32 v37 ((shrM s Rs k).set k (Rs.getD k 0 / 2 ^ s))]) (fun _ => h2) ?_ ?_
       ·
        refine gl_cases ((0 : Int) < ↑s) (fun hg => ?_) (fun hg => ?_)
        ·
         refine gl_val (ov_move (v := .bool true) (congrArg some (vB_true hg))) rfl rfl rfl (gl_on rfl rfl rfl (mv rfl rfl (gl_on rfl rfl rfl (gv (ov_add_i (q := 1) rfl rfl (by omega) (by omega)) rfl (gl_on rfl rfl rfl (mv rfl rfl (gl_on rfl rfl rfl (gv (ov_len_ous (A := []) Try.underlying22 rfl) rfl ?_))))))))
         rw [List.length_set, shrM_len (by omega)]
         refine gl_on rfl rfl rfl (gv (ov_lss_i rfl rfl) rfl (gv (ov_pick_t rfl rfl) rfl (gl_nil ?_)))
         refine gq_cut () trivial ⟨?_, rfl, rfl, rfl, rfl, rfl, trivial⟩ rfl rfl
         exact congrArg some (vB_and_t hg)
        ·
         refine gl_val (ov_move (v := .bool false) (congrArg some (vB_false hg))) rfl rfl rfl (gl_off rfl rfl rfl rfl rfl rfl (gl_off rfl rfl rfl rfl rfl rfl (gl_off rfl rfl rfl rfl rfl rfl (gl_off rfl rfl rfl rfl rfl rfl (gl_off rfl rfl rfl rfl rfl rfl (gv (ov_pick_f rfl rfl) rfl (gl_nil ?_)))))))
         refine gq_cut () trivial ⟨?_, rfl, rfl, rfl, rfl, rfl, trivial⟩ rfl rfl
         exact congrArg some (vB_and_f hg)
       ·
        intro _ _
        show GL _ _ _ _ _ _ _ [(61, vB (((0 : Int) < ↑s) ∧ ((↑k : Int) + 1 < ↑Rs.length))), (6, v37), (7, vI ↑s), (42, vI ↑Rs.length), (43, vI ↑k), (8, vI ↑k)] [.us 61 .u32 v37 ((shrM s Rs k).set k (Rs.getD k 0 / 2 ^ s))] h2
        refine gl_nil (gq_then ?_)
        refine gc_cond rfl (fun hc61 => ?_) (fun hc61 => ?_)
        ·
         refine gc_draw 14 _ [] [(0, .q), (1, .q), (2, .q), (3, .q), (4, .q), (5, .q), (6, .q), (7, .q), (8, .q), (9, .q), (10, .q), (11, .q), (12, .q), (13, .q), (14, .t)] mixed (fun x hx => by cases hx) (by kernel_rfl) (fun x hx => by cases hx) (fun r hr => hr) (w_q rfl (fun h' L' hh hR => ov_move rfl) rfl (w_q rfl (fun h' L' hh hR => ov_move rfl) rfl (w_q rfl (fun h' L' hh hR => ov_index_ousM (hR _ (.head _)) (k) Try.underlying22 Try.sizeOf61 rfl rfl (by omega) (by rw [List.length_set, shrM_len (by omega)]; omega)) rfl (w_q rfl (fun h' L' hh hR => ov_load_ousM (hR _ (.head _)) Try.isAgg61 rfl (by rw [List.length_set, shrM_len (by omega)]; omega)) rfl ?_))))
         rw [getD_set_self (by rw [shrM_len (by omega)]; omega)]
         refine w_q rfl (fun h' L' hh hR => ov_move rfl) rfl (w_q rfl (fun h' L' hh hR => ov_move rfl) rfl (w_q rfl (fun h' L' hh hR => ov_add_i (q := 1) rfl rfl (by omega) (by omega)) rfl (w_q rfl (fun h' L' hh hR => ov_index_ousM (hR _ (.head _)) (k + 1) Try.underlying22 Try.sizeOf61 rfl rfl (by omega) (by rw [List.length_set, shrM_len (by omega)]; omega)) rfl (w_q rfl (fun h' L' hh hR => ov_load_ousM (hR _ (.head _)) Try.isAgg61 rfl (by rw [List.length_set, shrM_len (by omega)]; omega)) rfl ?_))))
         rw [getD_set_other (by omega), shrM_get (by omega)]
         refine w_q rfl (fun h' L' hh hR => ov_move rfl) rfl (w_q rfl (fun h' L' hh hR => ov_sub_i (p := 32) rfl rfl (by omega) (by omega)) rfl ?_)
         rw [show ((32 : Int) - ↑s) = ↑(32 - s) by omega]
         refine w_q rfl (fun h' L' hh hR => ov_shl_u (k := .u32) (s := 32 - s) (yk := .i64) (W := 4294967296) rfl rfl rfl rfl) rfl (w_q rfl (fun h' L' hh hR => ov_or_u (k := .u32) rfl rfl rfl (by simp only [ub]; omega) (by simp only [ub]; omega)) rfl ?_)
         rw [shrD_or hRf (by omega) (by omega)]
         refine w_q rfl (fun h' L' hh hR => ov_index_ousM (hR _ (.head _)) (k) Try.underlying22 Try.sizeOf61 rfl rfl (by omega) (by rw [List.length_set, shrM_len (by omega)]; omega)) rfl (w_t_upd (A := []) rfl (upd_store_ous Try.sizeOf61 rfl rfl (by rw [List.length_set, shrM_len (by omega)]; omega)) rfl (w_nil (gq_in ?_)))
         refine gq_cut (()) ?_ ⟨?_, ?_, ?_, ?_, trivial⟩ ?_ rfl
         ·
          trivial
         · exact rfl
         · exact rfl
         · exact rfl
         · exact rfl
         ·
          try dsimp only [List.nil_append, List.cons_append]
          rw [List.set_set, shrM_set (by omega)]
          try rfl
        ·
         refine gc_skip (gq_in ?_)
         have hlast : Rs.getD k 0 / 2 ^ s = shrD s Rs k := by
           by_cases h0 : s = 0
           · rw [h0, shrD_zero hRf (by omega), Nat.pow_zero, Nat.div_one]
           · exact (shrD_last hRf (by omega)).symm
         refine gq_cut (()) ?_ ⟨?_, ?_, ?_, ?_, trivial⟩ ?_ rfl
         ·
          trivial
         · exact rfl
         · exact rfl
         · exact rfl
         · exact rfl
         ·
          try dsimp only [List.nil_append, List.cons_append]
          rw [hlast, shrM_set (by omega)]
      ·
       intro _u hx
       obtain hcut := hx
       show GC _ _ _ _ _ _ [(6, v37), (7, vI ↑s), (42, vI ↑Rs.length), (43, vI ↑k)] [.us 61 .u32 v37 (shrM s Rs (k + 1))] h2
       refine gc_region (gv (ov_add_i (q := 1) rfl rfl (by omega) (by omega)) rfl (mv rfl rfl (gl_nil ?_)))
       refine gq_round (k + 1) ?_ ?_ ⟨?_, ?_, ?_, ?_, trivial⟩ ?_ rfl
       ·
        omega
       ·
        omega
       · exact rfl
       · exact rfl
       · exact rfl
       · exact rfl
       · exact rfl
     ·
      refine gc_exit (gx_then (gx_then (gx_here (gq_then (gc_seq (gc_region (mv rfl rfl ?_)))))))
      have hlR : Rs.length ≤ 1099511627776 := by omega
      refine gl_freeze_us0 (by exact fit_shrM hRf) ?_
      intro h3 hh3 hrr
      refine gl_call (vs := [_]) rfl rfl rfl rfl Try.call101 ⟨rfl, trivial⟩ (fun w hs => nat_trim hs hrr) ?_
      intro v78 h4 hh4 hr78
      replace hr78 := hr78.2
      refine asg rfl rfl (asg (v := vI (0)) rfl rfl (gl_nil (gq_then (gc_ret (gq_body2 rfl rfl rfl ?_)))))
      have hkR : k = Rs.length := by omega
      rw [hkR, val_shrM hRf, hRv, div_pow_split, show 32 * (M / 32) + s = (-n).toNat by omega] at hr78
      rw [shE, if_neg (by omega), shN_down (by omega)]
      exact ⟨_, rfl, hr78⟩

theorem ref_up {w0 : World} {h0 : Mem}  (hs : MLe h0 (mem w0)) {v : Value} {X n : Nat} (hv : Us .u32 h0 v (limbs X)) (hn : n ≤ 16384) (hl : (limbs X).length ≤ 1099511627776) :
    Calls Try.prog 114 #[v, vI ↑n] w0 (Ret w0 h0 (fun h r => Us .u32 h r (limbs (X * 2 ^ n)))) := by
 obtain ⟨s, hsd⟩ : ∃ s, s = n % 32 := ⟨_, rfl⟩
 have hp : 2 ^ s ≤ 2147483648 := Nat.pow_le_pow_right (n := 2) (by omega) (show s ≤ 31 by omega)
 have hp0 : 0 < 2 ^ s := Nat.pow_pos (by omega)
 refine calls_begin (n := 40) (e := [(0, v), (1, vI ↑n)]) (vs := [v, vI ↑n]) Try.func114 rfl rfl (Nat.le_of_ble_eq_true rfl) hs ⟨rfl, rfl, trivial⟩ (gc_seq (gc_region (asg rfl rfl (gl_nil (gq_then (gc_seq (gc_region (mv rfl rfl (gv (ov_quo_i (q := 32) rfl rfl (by omega) (by omega) (by omega)) rfl (gl_make_us (kd := .u32) (by' := 4) (n / 32) Try.underlying22 info61 rfl rfl rfl rfl rfl (by omega) (by omega) (by omega) (by omega) rfl ?_))))))))))
 intro v10
 refine asg rfl rfl (gl_nil (gq_then (gc_seq (gc_region (asg (v := vU .u64 0) rfl rfl (gl_nil (gq_then (gc_seq (gc_seq (gc_region (asg (v := vI (0)) rfl rfl (gl_nil (gq_then ?_)))))))))))))
 refine gc_block ?_
 refine gc_loop (ι := Value × List Nat × Nat × Mem) (fun (x_ : (Value × List Nat × Nat × Mem)) => match x_ with | (vo, ss, c, k1) => MLe h0 k1 ∧ (ss.length ≤ (limbs X).length ∧ Fit ss ∧ c < 2 ^ s ∧ val ss + 4294967296 ^ ss.length * c = val ((limbs X).take ss.length) * 2 ^ s)) (fun (x_ : (Value × List Nat × Nat × Mem)) => match x_ with | (vo, ss, c, k1) => [(0, v), (1, vI ↑n), (5, vo), (6, vU .u64 c), (7, vI ↑ss.length)]) (fun (x_ : (Value × List Nat × Nat × Mem)) => match x_ with | (vo, ss, c, k1) => [.us 61 .u32 vo (List.replicate (n / 32) 0 ++ ss)]) (fun (x_ : (Value × List Nat × Nat × Mem)) => match x_ with | (vo, ss, c, k1) => k1) (fun (x_ : (Value × List Nat × Nat × Mem)) => match x_ with | (vo, ss, c, k1) => (limbs X).length - ss.length) (v10, [], 0, h0) ?_ ⟨rfl, rfl, rfl, rfl, rfl, trivial⟩ ?_ rfl ?_
 ·
  refine ⟨MLe.refl _, ?_⟩
  exact ⟨by simp, fun x hx => by simp at hx, hp0, by simp [val]⟩
 ·
  try dsimp only [List.nil_append, List.cons_append]
  rw [List.append_nil]
 ·
  intro x hx
  obtain ⟨vo, ss, c, k1⟩ := x
  obtain ⟨hmk1, ⟨hss, hfs, hc, hval⟩⟩ := hx
  show GC _ _ _ _ _ _ [(0, v), (1, vI ↑n), (5, vo), (6, vU .u64 c), (7, vI ↑ss.length)] [.us 61 .u32 vo (List.replicate (n / 32) 0 ++ ss)] k1
  refine gc_seq (gc_seq (gc_region (mv rfl rfl (mv rfl rfl ?_))))
  replace hv := hv.mono hmk1
  refine gv (ov_len_us Try.underlying22 rfl hv) rfl (gv (ov_lss_i rfl rfl) rfl (gl_nil (gq_then ?_)))
  refine gc_cond rfl (fun hc14 => ?_) (fun hc14 => ?_)
  ·
   refine gc_skip (gq_then (gc_seq (gc_block (gc_seq (gc_region (mv rfl rfl (mv rfl rfl (mv rfl rfl (gv (ov_index_us (ss.length) Try.underlying22 Try.sizeOf61 rfl rfl hv (by omega) (by omega)) rfl (gv (ov_load_us Try.isAgg61 rfl hv (by omega)) rfl ?_))))))))))
   have hx1 := hv.get32 ss.length
   have hxs : (limbs X).getD ss.length 0 * 2 ^ s < 18446744073709551616 - 4294967296 := by
     have := Nat.mul_le_mul (show (limbs X).getD ss.length 0 ≤ 4294967295 by omega) hp
     omega
   refine gv (ov_conv_u (k := .u32) (k' := .u64) (W := 18446744073709551616) Try.underlying61 Try.underlying75 rfl rfl rfl (by omega)) rfl (mv rfl rfl (gv (ov_rem_i (q := 32) rfl rfl (by omega) (by omega)) rfl ?_))
   rw [show (↑n : Int) % 32 = ↑s by omega]
   refine gv (ov_shl_u (k := .u64) (s := s) (yk := .i64) (W := 18446744073709551616) rfl rfl rfl rfl) rfl ?_
   rw [Nat.mod_eq_of_lt (by omega)]
   refine gv (ov_or_u (k := .u64) rfl rfl rfl (by simp only [ub]; omega) (by simp only [ub]; omega)) rfl ?_
   rw [or_low hc]
   refine asg rfl rfl (gl_nil (gq_keep (e' := [(0, _), (1, _), (5, _), (7, _), (6, _)]) ⟨rfl, rfl, rfl, rfl, rfl, trivial⟩ (gq_then (gc_seq (gc_region (mv rfl rfl (mv rfl rfl (gv (ov_conv_uu (k := .u64) (k' := .u32) (W := 4294967296) Try.underlying75 Try.underlying61 rfl rfl rfl) rfl (gl_newop (new_build1 (kd := .u32) Try.underlying22 info61 rfl rfl rfl) rfl rfl rfl ?_)))))))))
   intro v30 r30 hr30
   obtain rfl := hr30
   refine gl_freeze_us0 (by intro z hz; simp only [List.mem_singleton] at hz; subst hz; simp only [ub]; omega) ?_
   intro h1 hh1 hch
   refine gl_repop (A := []) (rep_append_us (kd := .u32) (bytes := 4) Try.underlying22 info61 rfl rfl rfl rfl rfl hch (by simp only [List.length_singleton, List.length_append, List.length_replicate]; omega) (by simp only [List.length_singleton, List.length_append, List.length_replicate]; omega)) rfl rfl rfl ?_
   intro v31 r31 hr31
   obtain rfl := hr31
   refine asg rfl rfl (gl_nil (gq_then (gc_region (mv rfl rfl (gv (ov_shr_u (k := .u64) (s := 32) (yk := .u64) rfl rfl rfl (by simp only [ub]; omega)) rfl (asg rfl rfl (gl_nil (gq_in (gq_then (gc_region (mv rfl rfl (gv (ov_add_i (q := 1) rfl rfl (by omega) (by omega)) rfl (asg rfl rfl ?_)))))))))))))
   refine gl_nil ?_
   refine gq_round (v31, ss ++ [((limbs X).getD ss.length 0 * 2 ^ s + c) % 4294967296], ((limbs X).getD ss.length 0 * 2 ^ s + c) / 2 ^ 32, h1) ?_ ?_ ⟨?_, ?_, ?_, ?_, ?_, trivial⟩ ?_ rfl
   ·
    refine ⟨(hmk1.trans hh1), ?_⟩
    refine ⟨by simp; omega, fit_append hfs (fit_one (by omega)), ?_, ?_⟩
    · refine Nat.div_lt_of_lt_mul ?_
      have := Nat.mul_le_mul_right (2 ^ s) (show (limbs X).getD ss.length 0 + 1 ≤ 2 ^ 32 by omega)
      rw [Nat.add_mul] at this
      omega
    · have e := Nat.div_add_mod ((limbs X).getD ss.length 0 * 2 ^ s + c) 4294967296
      have e2 : (2 : Nat) ^ 32 = 4294967296 := rfl
      rw [List.length_append, List.length_singleton, val_take_succ (limbs X) _ (by omega), val_snoc, Nat.pow_succ, e2]
      generalize ((limbs X).getD ss.length 0 * 2 ^ s + c) / 4294967296 = q at *
      generalize ((limbs X).getD ss.length 0 * 2 ^ s + c) % 4294967296 = r at *
      grind
   ·
    dsimp only
    simp; omega
   · exact rfl
   · exact rfl
   · exact rfl
   · exact rfl
   · exact congrArg some (congrArg vI (by simp))
   ·
    try dsimp only [List.nil_append, List.cons_append]
    rw [List.append_assoc]
  ·
   refine gc_exit (gx_then (gx_then (gx_here (gq_then (gc_seq (gc_region (mv rfl rfl (mv rfl rfl (gv (ov_conv_uu (k := .u64) (k' := .u32) (W := 4294967296) Try.underlying75 Try.underlying61 rfl rfl rfl) rfl (gl_newop (new_build1 (kd := .u32) Try.underlying22 info61 rfl rfl rfl) rfl rfl rfl ?_))))))))))
   intro v37 r37 hr37
   obtain rfl := hr37
   refine gl_freeze_us0 (by intro z hz; simp only [List.mem_singleton] at hz; subst hz; simp only [ub]; omega) ?_
   intro h1 hh1 hch2
   refine gl_repop (A := []) (rep_append_us (kd := .u32) (bytes := 4) Try.underlying22 info61 rfl rfl rfl rfl rfl hch2 (by simp only [List.length_singleton, List.length_append, List.length_replicate]; omega) (by simp only [List.length_singleton, List.length_append, List.length_replicate]; omega)) rfl rfl rfl ?_
   intro v38 r38 hr38
   obtain rfl := hr38
   refine gl_freeze_us0 (by exact fit_append (fit_append (fit_replicate _) hfs) (fit_one (by omega))) ?_
   intro h2 hh2 ho
   refine gl_call (vs := [_]) rfl rfl rfl rfl Try.call81 ⟨rfl, trivial⟩ (fun w hs => ref_trim hs ho (by simp; omega)) ?_
   intro v39 h3 hh3 hr39
   refine asg rfl rfl (gl_nil (gq_keep (e' := [(4, _)]) ⟨rfl, trivial⟩ (gq_then (gc_ret (gq_body1 rfl rfl ?_)))))
   have hk : ss.length = (limbs X).length := by omega
   rw [val_take_all (by omega), val_limbs] at hval
   rw [Nat.mod_eq_of_lt (by omega), List.append_assoc, val_append, val_replicate, List.length_replicate, val_snoc, hval, mul_pow_split, Nat.zero_add, show 32 * (n / 32) + s = n by omega] at hr39
   exact hr39

theorem ref_down {w0 : World} {h0 : Mem}  (hs : MLe h0 (mem w0)) {v : Value} {X n : Nat} (hv : Us .u32 h0 v (limbs X)) (hn : n < 9223372036854775808) (hl : (limbs X).length ≤ 1099511627776) :
    Calls Try.prog 118 #[v, vI ↑n] w0 (Ret w0 h0 (fun h r => Us .u32 h r (limbs (X / 2 ^ n)))) := by
 obtain ⟨s, hsd⟩ : ∃ s, s = n % 32 := ⟨_, rfl⟩
 refine calls_begin (n := 55) (e := [(0, v), (1, vI ↑n)]) (vs := [v, vI ↑n]) Try.func118 rfl rfl (Nat.le_of_ble_eq_true rfl) hs ⟨rfl, rfl, trivial⟩ (gc_seq (gc_region (asg rfl rfl (gl_nil (gq_then (gc_seq (gc_seq (gc_region (mv rfl rfl (gv (ov_quo_i (q := 32) rfl rfl (by omega) (by omega) (by omega)) rfl (mv rfl rfl (gv (ov_len_us Try.underlying22 rfl hv) rfl (gv (ov_geq_i rfl rfl) rfl ?_)))))))))))))
 refine gl_nil (gq_then ?_)
 refine gc_cond rfl (fun hc12 => ?_) (fun hc12 => ?_)
 ·
  refine gc_seq (gc_region (asg rfl rfl (gl_nil (gq_then (gc_ret (gr_then (gq_body1 rfl rfl ?_)))))))
  rw [show X / 2 ^ n = 0 from div_pow_zero (by omega), limbs_zero]
  exact Us.nil _ _
 ·
  refine gc_skip (gq_then (gc_seq (gc_region (mv rfl rfl (mv rfl rfl (gv (ov_quo_i (q := 32) rfl rfl (by omega) (by omega) (by omega)) rfl ?_))))))
  rw [show (↑n : Int) / 32 = ↑(n / 32) by omega]
  refine gv (ov_slice_l (n / 32) Try.underlying22 Try.sizeOf61 rfl rfl hv.shape (by omega) (by omega)) rfl ?_
  have hsl16 := hv.sub (lo := n / 32) (hi := (limbs X).length) (by omega) (by omega)
  rw [List.take_of_length_le (by rw [List.length_drop]; omega)] at hsl16
  have hdl : (List.drop (n / 32) (limbs X)).length = (limbs X).length - n / 32 := List.length_drop
  refine asg rfl rfl ?_
  have hRf : Fit (List.drop (n / 32) (limbs X)) := fit_drop (fit_limbs _) _
  have hRv := val_drop_div (fit_limbs X) (n / 32)
  rw [val_limbs] at hRv
  obtain ⟨vR, hvR⟩ : ∃ z, z = subSl 1 v (n / 32) (limbs X).length := ⟨_, rfl⟩
  rw [← hvR] at hsl16 ⊢
  generalize List.drop (n / 32) (limbs X) = Rs at *
  refine gl_nil (gq_keep (e' := [(1, _), (0, _)]) ⟨rfl, rfl, trivial⟩ (gq_then (gc_seq (gc_region (mv rfl rfl (gv (ov_len_us Try.underlying22 rfl hsl16) rfl (gl_make_us (kd := .u32) (by' := 4) (Rs.length) Try.underlying22 info61 rfl rfl rfl rfl rfl (by omega) (by omega) (by omega) (by omega) rfl ?_)))))))
  intro v19
  refine asg rfl rfl (gl_nil (gq_then (gc_seq (gc_seq (gc_region (asg (v := vI (0)) rfl rfl (gl_nil (gq_then (gc_block ?_)))))))))
  refine gc_loop (ι := List Nat) (fun (ss : (List Nat)) => ss.length ≤ Rs.length ∧ ss = (List.range ss.length).map (shrD s Rs)) (fun (ss : (List Nat)) => [(0, vR), (1, vI ↑n), (5, v19), (6, vI ↑ss.length)]) (fun (ss : (List Nat)) => [.us 61 .u32 v19 (fillTo ss Rs.length)]) (fun (ss : (List Nat)) => h0) (fun (ss : (List Nat)) => Rs.length - ss.length) [] ?_ ⟨rfl, rfl, rfl, rfl, trivial⟩ rfl rfl ?_
  ·
   exact ⟨by simp, rfl⟩
  ·
   intro ss hx
   obtain ⟨hss, hsv⟩ := hx
   show GC _ _ _ _ _ _ [(0, vR), (1, vI ↑n), (5, v19), (6, vI ↑ss.length)] [.us 61 .u32 v19 (fillTo ss Rs.length)] h0
   refine gc_seq (gc_seq (gc_region (mv rfl rfl (mv rfl rfl (gv (ov_len_us Try.underlying22 rfl hsl16) rfl (gv (ov_lss_i rfl rfl) rfl (gl_nil (gq_then ?_))))))))
   refine gc_cond rfl (fun hc23 => ?_) (fun hc23 => ?_)
   ·
    refine gc_skip (gq_then (gc_seq (gc_block (gc_seq (gc_region (mv rfl rfl (mv rfl rfl (gv (ov_index_us (ss.length) Try.underlying22 Try.sizeOf61 rfl rfl hsl16 (by omega) (by omega)) rfl (gv (ov_load_us Try.isAgg61 rfl hsl16 (by omega)) rfl ?_)))))))))
    have hg1 := fit_get hRf ss.length
    have hg2 := fit_get hRf (ss.length + 1)
    refine gv (ov_conv_u (k := .u32) (k' := .u64) (W := 18446744073709551616) Try.underlying61 Try.underlying75 rfl rfl rfl (by omega)) rfl (asg rfl rfl (gl_nil (gq_then ?_)))
    refine gc_cut (ι := Unit) (fun (_u : (Unit)) => True) (fun (_u : (Unit)) => [(0, vR), (1, vI ↑n), (5, v19), (6, vI ↑ss.length), (7, vU .u64 (Rs.getD ss.length 0 + 4294967296 * Rs.getD (ss.length + 1) 0))]) (fun (_u : (Unit)) => [.us 61 .u32 v19 (fillTo ss Rs.length)]) (fun (_u : (Unit)) => h0) ?_ ?_
    ·
     refine gc_seq (gc_region (mv rfl rfl (gv (ov_add_i (q := 1) rfl rfl (by omega) (by omega)) rfl (mv rfl rfl (gv (ov_len_us Try.underlying22 rfl hsl16) rfl (gv (ov_lss_i rfl rfl) rfl (gl_nil (gq_keep (e' := [(0, _), (1, _), (5, _), (6, _), (7, _), (35, _)]) ⟨rfl, rfl, rfl, rfl, rfl, rfl, trivial⟩ (gq_then ?_)))))))))
     refine gc_cond rfl (fun hc35 => ?_) (fun hc35 => ?_)
     ·
      refine gc_region (mv rfl rfl (mv rfl rfl (mv rfl rfl (gv (ov_add_i (q := 1) rfl rfl (by omega) (by omega)) rfl (gv (ov_index_us (ss.length + 1) Try.underlying22 Try.sizeOf61 rfl rfl hsl16 (by omega) (by omega)) rfl (gv (ov_load_us Try.isAgg61 rfl hsl16 (by omega)) rfl (gv (ov_conv_u (k := .u32) (k' := .u64) (W := 18446744073709551616) Try.underlying61 Try.underlying75 rfl rfl rfl (by omega)) rfl (gv (ov_shl_u (k := .u64) (s := 32) (yk := .u64) (W := 18446744073709551616) rfl rfl rfl rfl) rfl (gv (ov_or_u (k := .u64) rfl rfl rfl (by simp only [ub]; omega) (by simp only [ub]; omega)) rfl ?_)))))))))
      rw [Nat.or_comm, or_shift (by omega) (by omega)]
      refine asg rfl rfl (gl_nil ?_)
      refine gq_cut (()) ?_ ⟨?_, ?_, ?_, ?_, ?_, trivial⟩ ?_ rfl
      ·
       trivial
      · exact rfl
      · exact rfl
      · exact rfl
      · exact rfl
      · exact congrArg some (congrArg (vU .u64) (by omega))
      · exact rfl
     ·
      refine gc_skip ?_
      refine gq_cut (()) ?_ ⟨?_, ?_, ?_, ?_, ?_, trivial⟩ ?_ rfl
      ·
       trivial
      · exact rfl
      · exact rfl
      · exact rfl
      · exact rfl
      · exact congrArg some (congrArg (vU .u64) (by rw [getD_out (xs := Rs) (i := ss.length + 1) (by omega)]; omega))
      · exact rfl
    ·
     intro _u hx
     obtain hcut := hx
     show GC _ _ _ _ _ _ [(0, vR), (1, vI ↑n), (5, v19), (6, vI ↑ss.length), (7, vU .u64 (Rs.getD ss.length 0 + 4294967296 * Rs.getD (ss.length + 1) 0))] [.us 61 .u32 v19 (fillTo ss Rs.length)] h0
     refine gc_region (mv rfl rfl (mv rfl rfl (mv rfl rfl (mv rfl rfl (gv (ov_rem_i (q := 32) rfl rfl (by omega) (by omega)) rfl ?_)))))
     rw [show (↑n : Int) % 32 = ↑s by omega]
     refine gv (ov_shr_u (k := .u64) (s := s) (yk := .i64) rfl rfl rfl (by simp only [ub]; omega)) rfl (gv (ov_conv_uu (k := .u64) (k' := .u32) (W := 4294967296) Try.underlying75 Try.underlying61 rfl rfl rfl) rfl ?_)
     rw [shrD_two (by omega) (by omega)]
     refine gv (ov_index_ous (A := []) (ss.length) Try.underlying22 Try.sizeOf61 rfl rfl (by omega) (by rw [length_fillTo (by omega)]; omega)) rfl (gl_store_ous0 Try.sizeOf61 rfl rfl (by rw [length_fillTo (by omega)]; omega) (gl_nil (gq_in (gq_then (gc_region (mv rfl rfl (gv (ov_add_i (q := 1) rfl rfl (by omega) (by omega)) rfl (asg rfl rfl (gl_nil ?_)))))))))
     refine gq_round (ss ++ [shrD s Rs ss.length]) ?_ ?_ ⟨?_, ?_, ?_, ?_, trivial⟩ ?_ rfl
     ·
      refine ⟨by simp; omega, ?_⟩
      rw [List.length_append, List.length_singleton, List.range_succ, List.map_append, List.map_singleton, ← hsv]
     ·
      simp; omega
     · exact rfl
     · exact rfl
     · exact rfl
     · exact congrArg some (congrArg vI (by simp))
     ·
      try dsimp only [List.nil_append, List.cons_append]
      rw [fillTo_set (by omega)]
   ·
    refine gc_exit (gx_then (gx_then (gx_here (gq_then (gc_seq (gc_region (mv rfl rfl ?_)))))))
    have hk : ss.length = Rs.length := by omega
    rw [fillTo_full hk]
    refine gl_freeze_us0 (by rw [hsv]; intro z hz; obtain ⟨w, _, rfl⟩ := List.mem_map.1 hz; exact shrD_lt s Rs w) ?_
    intro h1 hh1 ho
    refine gl_call (vs := [_]) rfl rfl rfl rfl Try.call81 ⟨rfl, trivial⟩ (fun w hs => ref_trim hs ho (by omega)) ?_
    intro v54 h2 hh2 hr54
    refine asg rfl rfl (gl_nil (gq_keep (e' := [(4, _)]) ⟨rfl, trivial⟩ (gq_then (gc_ret (gq_body1 rfl rfl ?_)))))
    rw [hsv, hk, shrD_take hRf, hRv, div_pow_split, show 32 * (n / 32) + s = n by omega] at hr54
    exact hr54

end Go.Proofs.Ytimoeckkdodogaa
