/- Contracts of functions, walked by their text (nat4/b). -/
import Derived.Test.YtimoeckkdodogaaW3
import Derived.Test.YtimoeckkdodogaaDiv
namespace Go.Proofs.Ytimoeckkdodogaa
open Bk Go
set_option linter.unusedVariables false
set_option linter.unusedSimpArgs false
set_option maxRecDepth 10000

set_option maxHeartbeats 2000000 in
theorem nat_div {w0 : World} {h0 : Mem}  (hs : MLe h0 (mem w0)) {v v' : Value} {xs ys : List Nat} (hv : Us .u32 h0 v xs) (hv' : Us .u32 h0 v' ys) (hl : xs.length ≤ 1099511627776) (hl' : ys.length ≤ 1099511627776) :
    Calls Try.prog 104 #[v, v'] w0 (Ret w0 h0 (fun h z => ∃ q r, z = .tuple #[q, r, vI (if val ys = 0 then 3 else 0)] ∧ Us .u32 h q (limbs (val xs / val ys)) ∧ Us .u32 h r (limbs (if val ys = 0 then 0 else val xs % val ys)))) := by
 have hfx : Fit xs := hv.lt
 have hfy : Fit ys := hv'.lt
 have hlx := limbs_len_le hfx
 have hly := limbs_len_le hfy
 refine calls_begin (n := 300) (e := [(0, v), (1, v')]) (vs := [v, v']) Try.func104 rfl rfl (Nat.le_of_ble_eq_true rfl) hs ⟨rfl, rfl, trivial⟩ (gc_seq (gc_region (asg rfl rfl (asg rfl rfl (asg (v := vI (0)) rfl rfl (gl_nil (gq_then (gc_seq (gc_region (mv rfl rfl ?_))))))))))
 refine gl_call (vs := [_]) rfl rfl rfl rfl Try.call101 ⟨rfl, trivial⟩ (fun w hs => nat_trim hs hv) ?_
 intro v27 h1 hh1 hr27
 replace hr27 := hr27.2
 refine mv rfl rfl ?_
 replace hv' := hv'.mono hh1
 refine gl_call (vs := [_]) rfl rfl rfl rfl Try.call101 ⟨rfl, trivial⟩ (fun w hs => nat_trim hs hv') ?_
 intro v29 h2 hh2 hr29
 replace hr29 := hr29.2
 refine asg rfl rfl (asg rfl rfl (gl_nil (gq_then (gc_seq (gc_block (gc_seq (gc_region (mv rfl rfl (gv (ov_len_us Try.underlying22 rfl hr29) rfl (gv (ov_eql_i (q := 0) rfl rfl) rfl (asg rfl rfl (gl_nil (gq_keep (e' := [(0, _), (1, _), (30, _)]) ⟨rfl, rfl, rfl, trivial⟩ ?_)))))))))))))
 refine gq_then ?_
 refine gc_cond rfl (fun hc30 => ?_) (fun hc30 => ?_)
 ·
  have hy0 : val ys = 0 := Classical.byContradiction fun hne => by have := limbs_len_pos.2 hne; omega
  refine gc_seq (gc_region (asg rfl rfl (asg rfl rfl (asg (v := vI (3)) rfl rfl (gl_nil (gq_then (gc_ret (gr_in (gr_then (gq_body3 rfl rfl rfl rfl ?_))))))))))
  rw [hy0, Nat.div_zero, if_pos rfl, if_pos rfl, limbs_zero]
  exact ⟨_, _, rfl, Us.nil _ _, Us.nil _ _⟩
 ·
  have hyne : val ys ≠ 0 := limbs_len_pos.1 (by omega)
  refine gc_seq (gc_region (mv rfl rfl (mv rfl rfl ?_)))
  replace hr27 := hr27.mono hh2
  refine gl_call (vs := [_, _]) rfl rfl rfl rfl Try.call98 ⟨rfl, rfl, trivial⟩ (fun w hs => nat_cmp hs hr27 hr29) ?_
  intro v37 h3 hh3 hr37
  subst hr37
  rw [val_limbs, val_limbs]
  refine gv (ov_lss_i (q := 0) rfl rfl) rfl (asg rfl rfl (gl_nil (gq_then ?_)))
  refine gc_cond rfl (fun hc34 => ?_) (fun hc34 => ?_)
  ·
   have hlt := cmpN_neg.1 hc34
   refine gc_seq (gc_region (mv rfl rfl ?_))
   replace hr27 := hr27.mono hh3
   refine gl_call_own (vs := [_]) rfl rfl rfl rfl Try.call111 ⟨rfl, trivial⟩ (fun w hs => sl_clone hs hr27 (by omega)) ?_
   intro v40 h4 L40 hh4 hr40
   obtain rfl := hr40
   refine asg rfl rfl (asg rfl rfl (gl_freeze_us0 (by exact fit_limbs _) ?_))
   intro h5 hh5 ho
   refine asg (v := vI (0)) rfl rfl (gl_nil (gq_keep (e' := [(4, _), (5, _), (6, _)]) ⟨rfl, rfl, rfl, trivial⟩ (gq_then (gc_ret (gr_in (gr_then (gq_body3 rfl rfl rfl rfl ?_)))))))
   rw [Nat.div_eq_of_lt hlt, Nat.mod_eq_of_lt hlt, if_neg (by omega), if_neg (by omega), limbs_zero]
   exact ⟨_, _, rfl, Us.nil _ _, ho⟩
  ·
   have hge : val ys ≤ val xs := Nat.le_of_not_lt fun hc => hc34 (cmpN_neg.2 hc)
   refine gc_seq (gc_region (mv rfl rfl ?_))
   replace hr29 := hr29.mono hh3
   refine gv (ov_len_us Try.underlying22 rfl hr29) rfl (gv (ov_eql_i (q := 1) rfl rfl) rfl (asg rfl rfl (gl_nil (gq_then ?_))))
   refine gc_cond rfl (fun hc41 => ?_) (fun hc41 => ?_)
   ·
    have hone : (limbs (val ys)).length = 1 := by omega
    have hb0 : (limbs (val ys)).getD 0 0 ≠ 0 := by have := limbs_top_ne (n := val ys) (by omega); rwa [hone] at this
    have hvy := val_one hone
    rw [val_limbs] at hvy
    refine gc_keep (e' := [(0, _), (1, _)]) ⟨rfl, rfl, trivial⟩ (gc_seq (gc_region (mv rfl rfl (mv rfl rfl (gv (ov_index_us (q := 0) (0) Try.underlying22 Try.sizeOf61 rfl rfl hr29 rfl (by omega)) rfl (gv (ov_load_us Try.isAgg61 rfl hr29 (by omega)) rfl ?_))))))
    have hb1 := hr29.get32 0
    replace hr27 := hr27.mono hh3
    refine gl_call (vs := [_, _]) rfl rfl rfl rfl Try.call106 ⟨rfl, rfl, trivial⟩ (fun w hs => nat_small hs hr27 (by omega) (by omega) (by omega)) ?_
    intro v50 h4 hh4 hr50
    obtain ⟨u50, rfl, hu50⟩ := hr50
    refine mv rfl rfl (gv (ov_extract (vs := [_, _]) rfl rfl) rfl (gv (ov_extract (vs := [_, _]) rfl rfl) rfl (asg rfl rfl (asg rfl rfl (gl_nil (gq_keep (e' := [(7, _), (8, _)]) ⟨rfl, rfl, trivial⟩ (gq_then (gc_seq (gc_region (mv rfl rfl (mv rfl rfl (gl_newop (new_build1 (kd := .u32) Try.underlying22 info61 rfl rfl rfl) rfl rfl rfl ?_))))))))))))
    intro v55 r55 hr55
    obtain rfl := hr55
    refine gl_freeze_us0 (by intro z hz; simp only [List.mem_singleton] at hz; subst hz; exact Nat.lt_trans (Nat.mod_lt _ (by omega)) hb1) ?_
    intro h5 hh5 hfx1
    refine gl_call (vs := [_]) rfl rfl rfl rfl Try.call101 ⟨rfl, trivial⟩ (fun w hs => nat_trim hs hfx1) ?_
    intro v56 h6 hh6 hr56
    replace hr56 := hr56.2
    refine asg rfl rfl (asg rfl rfl (asg (v := vI (0)) rfl rfl (gl_nil (gq_then (gc_ret (gr_in (gr_then (gq_body3 rfl rfl rfl rfl ?_))))))))
    replace hu50 := hu50.mono (hh5.trans hh6)
    rw [val_limbs, ← hvy] at hu50
    rw [val_one rfl, List.getD_cons_zero, val_limbs, ← hvy] at hr56
    rw [if_neg (by omega), if_neg (by omega)]
    exact ⟨_, _, rfl, hu50, hr56⟩
   ·
    have hn2 : 2 ≤ (limbs (val ys)).length := by omega
    refine gc_keep (e' := [(0, _), (1, _)]) ⟨rfl, rfl, trivial⟩ (gc_skip (gq_in (gq_then (gc_seq (gc_region (mv rfl rfl (mv rfl rfl (gv (ov_len_us Try.underlying22 rfl hr29) rfl (gv (ov_sub_i (q := 1) rfl rfl (by omega) (by omega)) rfl (gv (ov_index_us ((limbs (val ys)).length - 1) Try.underlying22 Try.sizeOf61 rfl rfl hr29 (by omega) (by omega)) rfl (gv (ov_load_us Try.isAgg61 rfl hr29 (by omega)) rfl ?_)))))))))))
    have hgt := hr29.get32 ((limbs (val ys)).length - 1)
    refine gl_call (vs := [_]) rfl rfl rfl rfl Try.call125 ⟨rfl, trivial⟩ (fun w hs => bits_lz32 hs (by omega)) ?_
    intro v63 h4 hh4 hr63
    subst hr63
    obtain ⟨s, hsd⟩ : ∃ s, s = 32 - bitsN ((limbs (val ys)).getD ((limbs (val ys)).length - 1) 0) := ⟨_, rfl⟩
    rw [← hsd]
    obtain ⟨hs32, hvl, hv1⟩ := norm_limbs (k := (limbs (val ys)).length - 1) hyne (by omega) hsd
    refine asg rfl rfl (gl_nil (gq_then (gc_seq (gc_region (mv rfl rfl (mv rfl rfl ?_))))))
    replace hr27 := hr27.mono (hh3.trans hh4)
    refine gl_call_own (vs := [_, _]) rfl rfl rfl rfl Try.call119 ⟨rfl, rfl, trivial⟩ (fun w hs => nat_raise hs hr27 (by omega) (by omega)) ?_
    intro v66 h5 L66 hh5 hr66
    obtain ⟨us66, rfl, hul66, huf66, huv66⟩ := hr66
    refine mv rfl rfl (mv rfl rfl ?_)
    replace hr29 := hr29.mono (hh4.trans hh5)
    refine gl_call_own (vs := [_, _]) rfl rfl rfl rfl Try.call119 ⟨rfl, rfl, trivial⟩ (fun w hs => nat_raise hs hr29 (by omega) (by omega)) ?_
    intro v69 h6 L69 hh6 hr69
    obtain ⟨us69, rfl, hul69, huf69, huv69⟩ := hr69
    refine gl_freeze_us0 (by exact huf69) ?_
    intro h7 hh7 hvb
    refine gl_call (vs := [_]) rfl rfl rfl rfl Try.call101 ⟨rfl, trivial⟩ (fun w hs => nat_trim hs hvb) ?_
    intro v70 h8 hh8 hr70
    replace hr70 := hr70.2
    rw [huv69, val_limbs] at hr70
    refine asg rfl rfl (asg rfl rfl ?_)
    rw [val_limbs] at huv66
    have hnla := limbs_len_mono hge
    have hXla := val_lt (fit_limbs (val xs))
    rw [val_limbs] at hXla
    have hYn := pow_le_of_limbs_len (n := val ys) (k := (limbs (val ys)).length - 1) (by omega)
    have hst := div_start huf66 hXla huv66 (k := (limbs (val ys)).length - 1) (by omega) hYn
    rw [show (limbs (val xs)).length - ((limbs (val ys)).length - 1) = (limbs (val xs)).length + 1 - (limbs (val ys)).length by omega] at hst
    have hvv := val_limbs (val ys * 2 ^ s)
    have hfv : Fit (limbs (val ys * 2 ^ s)) := fit_limbs _
    replace hvl : (limbs (val ys * 2 ^ s)).length = (limbs (val ys)).length := by omega
    generalize limbs (val ys * 2 ^ s) = vs at *
    generalize hnd : (limbs (val ys)).length = n at *
    generalize hlad : (limbs (val xs)).length = la at *
    obtain ⟨V, hV⟩ : ∃ V, V = val ys * 2 ^ s := ⟨_, rfl⟩
    obtain ⟨U, hU⟩ : ∃ U, U = val xs * 2 ^ s := ⟨_, rfl⟩
    rw [← hV] at hvv hst
    rw [← hU] at huv66
    have hVn : V < 4294967296 ^ n := by rw [← hvv, ← hvl]; exact val_lt hfv
    have hVd := val_two hn2 hvl
    rw [hvv] at hVd
    have hvr := val_lt (fit_take hfv (n - 2))
    rw [List.length_take, Nat.min_eq_left (by omega)] at hvr
    have hv2 := fit_get hfv (n - 2)
    have hv1b := fit_get hfv (n - 1)
    refine gl_nil (gq_keep (e' := [(9, _), (10, _), (11, _)]) ⟨rfl, rfl, rfl, trivial⟩ (gq_then (gc_seq (gc_region (mv rfl rfl (gv (ov_len_us Try.underlying22 rfl hr70) rfl ?_))))))
    rw [hvl]
    refine asg rfl rfl (gl_nil (gq_then (gc_seq (gc_region (mv rfl rfl (gv (ov_len_ous (A := []) Try.underlying22 rfl) rfl ?_))))))
    rw [hul66]
    refine mv rfl rfl (gv (ov_sub_i rfl rfl (by omega) (by omega)) rfl (gl_make_us (kd := .u32) (by' := 4) (la + 1 - n) Try.underlying22 info61 rfl rfl rfl rfl rfl (by omega) (by omega) (by omega) (by omega) rfl ?_))
    intro v77
    refine asg rfl rfl (gl_nil (gq_then (gc_seq (gc_seq (gc_region (mv rfl rfl (gv (ov_len_ous (A := []) Try.underlying22 rfl) rfl ?_)))))))
    rw [List.length_replicate]
    refine gv (ov_sub_i (q := 1) rfl rfl (by omega) (by omega)) rfl (asg rfl rfl (gl_nil (gq_keep (e' := [(9, _), (10, _), (11, _), (12, _), (4, _), (13, _)]) ⟨rfl, rfl, rfl, rfl, rfl, rfl, trivial⟩ (gq_then (gc_block ?_)))))
    refine gc_loop (ι := Nat × List Nat × List Nat) (fun (x_ : (Nat × List Nat × List Nat)) => match x_ with | (J, us, qs) => J ≤ la + 1 - n ∧ qs.length = la + 1 - n - J ∧ Fit qs ∧ us.length = la + 1 ∧ Fit us ∧ val us + 4294967296 ^ J * (val qs * V) = U ∧ val (us.drop J) < V) (fun (x_ : (Nat × List Nat × List Nat)) => match x_ with | (J, us, qs) => [(4, v77), (9, vI ↑s), (10, v66), (11, v70), (12, vI ↑n), (13, vI (↑J - 1))]) (fun (x_ : (Nat × List Nat × List Nat)) => match x_ with | (J, us, qs) => [.us 61 .u32 v77 (fillDn J qs), .us 61 .u32 v66 us]) (fun (x_ : (Nat × List Nat × List Nat)) => match x_ with | (J, us, qs) => h8) (fun (x_ : (Nat × List Nat × List Nat)) => match x_ with | (J, us, qs) => J) (la + 1 - n, us66, []) ?_ ⟨rfl, rfl, rfl, rfl, rfl, rfl, trivial⟩ ?_ rfl ?_
    ·
     exact ⟨Nat.le_refl _, by simp, fun x hx => by simp at hx, hul66, huf66, by rw [huv66]; simp [val], hst⟩
    ·
     try dsimp only [List.nil_append, List.cons_append]
     exact congrArg (fun z => [Res.us 61 .u32 v77 z, Res.us 61 .u32 v66 us66]) (fillDn_nil _)
    ·
     intro x hx
     obtain ⟨J, us, qs⟩ := x
     obtain ⟨hJle, hql, hfq, hul, hfu, hval, hdr⟩ := hx
     show GC _ _ _ _ _ _ [(4, v77), (9, vI ↑s), (10, v66), (11, v70), (12, vI ↑n), (13, vI (↑J - 1))] [.us 61 .u32 v77 (fillDn J qs), .us 61 .u32 v66 us] h8
     refine gc_seq (gc_seq (gc_region (mv rfl rfl (gv (ov_geq_i (q := 0) rfl rfl) rfl (gl_nil (gq_then ?_))))))
     refine gc_cond rfl (fun hc82 => ?_) (fun hc82 => ?_)
     ·
      refine gc_skip (gq_then (gc_seq (gc_block (gc_seq ?_))))
      have hJ : 1 ≤ J := by omega
      have hz0 : ∀ i, J + n ≤ i → us.getD i 0 = 0 := fun i hi => getD_zero_of_lt (val_lt_of_drop hfu (Nat.lt_trans hdr hVn)) hi
      obtain ⟨wr, hW, hwr⟩ := val_three (j := J - 1) hn2 (fun i hi => hz0 i (by omega)) hfu
      have ha1 := fit_get hfu (J - 1 + n)
      have ha2 := fit_get hfu (J - 1 + n - 1)
      have ha3 := fit_get hfu (J - 1 + n - 2)
      have ha0 := fit_get hfu (J - 1)
      have hWV : val (us.drop (J - 1)) < 4294967296 * V := by
        rw [val_drop us (J - 1) (by omega), Nat.sub_add_cancel hJ]
        omega
      refine gc_draw 18 _ [] [(0, .q), (1, .q), (2, .q), (3, .q), (4, .q), (5, .q), (6, .q), (7, .q), (8, .q), (9, .q), (10, .q), (11, .q), (12, .q), (13, .q), (14, .q), (15, .q), (16, .q), (17, .q)] mixed (fun x hx => by cases hx) (by kernel_rfl) (fun x hx => by cases hx) (fun r hr => hr) (w_q rfl (fun h' L' hh hR => ov_move rfl) rfl (w_q rfl (fun h' L' hh hR => ov_move rfl) rfl (w_q rfl (fun h' L' hh hR => ov_move rfl) rfl (w_q rfl (fun h' L' hh hR => ov_add_i rfl rfl (by omega) (by omega)) rfl (w_q rfl (fun h' L' hh hR => ov_index_ousM (hR _ (.tail _ (.head _))) (J - 1 + n) Try.underlying22 Try.sizeOf61 rfl rfl (by omega) (by omega)) rfl (w_q rfl (fun h' L' hh hR => ov_load_ousM (hR _ (.tail _ (.head _))) Try.isAgg61 rfl (by omega)) rfl (w_q rfl (fun h' L' hh hR => ov_conv_u (k := .u32) (k' := .u64) (W := 18446744073709551616) Try.underlying61 Try.underlying75 rfl rfl rfl (by omega)) rfl (w_q rfl (fun h' L' hh hR => ov_shl_u (k := .u64) (s := 32) (yk := .u64) (W := 18446744073709551616) rfl rfl rfl rfl) rfl (w_q rfl (fun h' L' hh hR => ov_move rfl) rfl (w_q rfl (fun h' L' hh hR => ov_move rfl) rfl (w_q rfl (fun h' L' hh hR => ov_move rfl) rfl (w_q rfl (fun h' L' hh hR => ov_add_i rfl rfl (by omega) (by omega)) rfl (w_q rfl (fun h' L' hh hR => ov_sub_i (q := 1) rfl rfl (by omega) (by omega)) rfl ?_)))))))))))))
      refine w_q rfl (fun h' L' hh hR => ov_index_ousM (hR _ (.tail _ (.head _))) (J - 1 + n - 1) Try.underlying22 Try.sizeOf61 rfl rfl (by omega) (by omega)) rfl (w_q rfl (fun h' L' hh hR => ov_load_ousM (hR _ (.tail _ (.head _))) Try.isAgg61 rfl (by omega)) rfl (w_q rfl (fun h' L' hh hR => ov_conv_u (k := .u32) (k' := .u64) (W := 18446744073709551616) Try.underlying61 Try.underlying75 rfl rfl rfl (by omega)) rfl (w_q rfl (fun h' L' hh hR => ov_or_u (k := .u64) rfl rfl rfl (by simp only [ub]; omega) (by simp only [ub]; omega)) rfl ?_)))
      rw [or_shift (by omega) (by omega)]
      obtain ⟨top, htop⟩ : ∃ t, t = us.getD (J - 1 + n) 0 * 4294967296 + us.getD (J - 1 + n - 1) 0 := ⟨_, rfl⟩
      rw [← htop]
      rw [← htop] at hW
      have htop2 := est_top hVd hW hvr hv2 hWV
      refine w_q rfl (fun h' L' hh hR => ov_assign rfl) rfl (w_nil (gq_keep (e' := [(4, _), (9, _), (10, _), (11, _), (12, _), (13, _), (14, _)]) ⟨rfl, rfl, rfl, rfl, rfl, rfl, rfl, trivial⟩ (gq_then (gc_seq ?_))))
      refine gc_draw 18 _ [] [(0, .q), (1, .q), (2, .q), (3, .q), (4, .q), (5, .q), (6, .q), (7, .q), (8, .q), (9, .q), (10, .q), (11, .q), (12, .q), (13, .q), (14, .q), (15, .q), (16, .q), (17, .q)] mixed (fun x hx => by cases hx) (by kernel_rfl) (fun x hx => by cases hx) (fun r hr => hr) (w_q rfl (fun h' L' hh hR => ov_move rfl) rfl (w_q rfl (fun h' L' hh hR => ov_move rfl) rfl (w_q rfl (fun h' L' hh hR => ov_move rfl) rfl (w_q rfl (fun h' L' hh hR => ov_sub_i (q := 1) rfl rfl (by omega) (by omega)) rfl (w_q rfl (fun h' L' hh hR => ov_index_us (n - 1) Try.underlying22 Try.sizeOf61 rfl rfl (hr70.mono hh) (by omega) (by omega)) rfl (w_q rfl (fun h' L' hh hR => ov_load_us Try.isAgg61 rfl (hr70.mono hh) (by omega)) rfl (w_q rfl (fun h' L' hh hR => ov_conv_u (k := .u32) (k' := .u64) (W := 18446744073709551616) Try.underlying61 Try.underlying75 rfl rfl rfl (by omega)) rfl (w_q rfl (fun h' L' hh hR => ov_quo_u (k := .u64) (W := 18446744073709551616) rfl rfl rfl rfl (by omega) (by omega)) rfl (w_q rfl (fun h' L' hh hR => ov_move rfl) rfl (w_q rfl (fun h' L' hh hR => ov_move rfl) rfl (w_q rfl (fun h' L' hh hR => ov_move rfl) rfl (w_q rfl (fun h' L' hh hR => ov_sub_i (q := 1) rfl rfl (by omega) (by omega)) rfl (w_q rfl (fun h' L' hh hR => ov_index_us (n - 1) Try.underlying22 Try.sizeOf61 rfl rfl (hr70.mono hh) (by omega) (by omega)) rfl ?_)))))))))))))
      refine w_q rfl (fun h' L' hh hR => ov_load_us Try.isAgg61 rfl (hr70.mono hh) (by omega)) rfl (w_q rfl (fun h' L' hh hR => ov_conv_u (k := .u32) (k' := .u64) (W := 18446744073709551616) Try.underlying61 Try.underlying75 rfl rfl rfl (by omega)) rfl (w_q rfl (fun h' L' hh hR => ov_rem_u (k := .u64) rfl rfl (by omega)) rfl (w_q rfl (fun h' L' hh hR => ov_assign rfl) rfl (w_q rfl (fun h' L' hh hR => ov_assign rfl) rfl (w_nil (gq_keep (e' := [(4, _), (9, _), (10, _), (11, _), (12, _), (13, _), (15, _), (16, _)]) ⟨rfl, rfl, rfl, rfl, rfl, rfl, rfl, rfl, trivial⟩ (gq_then ?_)))))))
      refine gc_cut (ι := Nat) (fun (x1 : (Nat)) => x1 < 4294967296 ∧ val (us.drop (J - 1)) < (x1 + 1) * V ∧ x1 * V < val (us.drop (J - 1)) + V) (fun (x1 : (Nat)) => [(4, v77), (9, vI ↑s), (10, v66), (11, v70), (12, vI ↑n), (13, vI (↑J - 1)), (15, vU .u64 x1)]) (fun (x1 : (Nat)) => [.us 61 .u32 v77 (fillDn J qs), .us 61 .u32 v66 us]) (fun (x1 : (Nat)) => h8) ?_ ?_
      ·
       refine gc_block ?_
       refine gc_loop (ι := Nat × Nat) (fun (x_ : (Nat × Nat)) => match x_ with | (x, r) => x * vs.getD (n - 1) 0 + r = top ∧ val (us.drop (J - 1)) < (x + 1) * V ∧ r < 4294967296) (fun (x_ : (Nat × Nat)) => match x_ with | (x, r) => [(4, v77), (9, vI ↑s), (10, v66), (11, v70), (12, vI ↑n), (13, vI (↑J - 1)), (15, vU .u64 x), (16, vU .u64 r)]) (fun (x_ : (Nat × Nat)) => match x_ with | (x, r) => [.us 61 .u32 v77 (fillDn J qs), .us 61 .u32 v66 us]) (fun (x_ : (Nat × Nat)) => match x_ with | (x, r) => h8) (fun (x_ : (Nat × Nat)) => match x_ with | (x, r) => x) (top / vs.getD (n - 1) 0, top % vs.getD (n - 1) 0) ?_ ⟨rfl, rfl, rfl, rfl, rfl, rfl, rfl, rfl, trivial⟩ rfl rfl ?_
       ·
        exact ⟨by rw [Nat.mul_comm]; exact Nat.div_add_mod _ _, est_init hVd hW ha3 hwr (by omega), Nat.lt_trans (Nat.mod_lt _ (by omega)) hv1b⟩
       ·
        intro x hx
        obtain ⟨x, r⟩ := x
        obtain ⟨hxt, hxl, hrb⟩ := hx
        show GC _ _ _ _ _ _ [(4, v77), (9, vI ↑s), (10, v66), (11, v70), (12, vI ↑n), (13, vI (↑J - 1)), (15, vU .u64 x), (16, vU .u64 r)] [.us 61 .u32 v77 (fillDn J qs), .us 61 .u32 v66 us] h8
        have hxb := est_le hxt htop2 hv1
        have hxv : x * vs.getD (n - 2) 0 ≤ 4294967297 * 4294967295 := Nat.mul_le_mul hxb (by omega)
        refine gc_seq (gc_seq ?_)
        refine gc_cases (4294967296 ≤ x) (fun hg => ?_) (fun hg => ?_)
        ·
         have hx1 : 1 ≤ x := by omega
         have hlow : val (us.drop (J - 1)) < x * V := Nat.lt_of_lt_of_le hWV (Nat.mul_le_mul_right _ hg)
         refine gc_draw 24 _ [] [(0, .q), (1, .q), (2, .q), (3, .q), (4, .q), (5, .q), (6, .q), (7, .q), (8, .q), (9, .q), (10, .q), (11, .q), (12, .q), (13, .q), (14, .q), (15, .q), (16, .q), (17, .q), (18, .q), (19, .q), (20, .q), (21, .q), (22, .q), (23, .q)] mixed (fun x hx => by cases hx) (by kernel_rfl) (fun x hx => by cases hx) (fun r hr => hr) (w_q rfl (fun h' L' hh hR => ov_move rfl) rfl (w_q rfl (fun h' L' hh hR => ov_geq_u (k := .u64) (q := 4294967296) rfl rfl) rfl (w_q rfl (fun h' L' hh hR => ov_move (v := .bool true) (congrArg some (vB_true hg))) rfl (w_q_off rfl rfl rfl rfl rfl (w_q_off rfl rfl rfl rfl rfl (w_q_off rfl rfl rfl rfl rfl (w_q_off rfl rfl rfl rfl rfl (w_q_off rfl rfl rfl rfl rfl (w_q_off rfl rfl rfl rfl rfl (w_q_off rfl rfl rfl rfl rfl (w_q_off rfl rfl rfl rfl rfl (w_q_off rfl rfl rfl rfl rfl (w_q_off rfl rfl rfl rfl rfl ?_)))))))))))))
         refine w_q_off rfl rfl rfl rfl rfl (w_q_off rfl rfl rfl rfl rfl (w_q_off rfl rfl rfl rfl rfl (w_q_off rfl rfl rfl rfl rfl (w_q_off rfl rfl rfl rfl rfl (w_q_off rfl rfl rfl rfl rfl (w_q_off rfl rfl rfl rfl rfl (w_q_off rfl rfl rfl rfl rfl (w_q_off rfl rfl rfl rfl rfl (w_q_off rfl rfl rfl rfl rfl (w_q rfl (fun h' L' hh hR => ov_pick_t rfl rfl) rfl (w_nil (gq_keep (e' := [(4, _), (9, _), (10, _), (11, _), (12, _), (13, _), (15, _), (16, _), (141, _)]) ⟨rfl, rfl, rfl, rfl, rfl, rfl, rfl, rfl, rfl, trivial⟩ (gq_then ?_)))))))))))))
         refine gc_cond_t rfl (gc_skip (gq_then (gc_block (gc_seq (gc_region (mv rfl rfl (gv (ov_sub_u (k := .u64) (q := 1) (W := 18446744073709551616) rfl rfl rfl rfl (by omega) (by omega)) rfl (asg rfl rfl (gl_nil (gq_then (gc_seq (gc_region (mv rfl rfl ?_)))))))))))))
         refine mv rfl rfl (mv rfl rfl (gv (ov_sub_i (q := 1) rfl rfl (by omega) (by omega)) rfl (gv (ov_index_us (n - 1) Try.underlying22 Try.sizeOf61 rfl rfl hr70 (by omega) (by omega)) rfl (gv (ov_load_us Try.isAgg61 rfl hr70 (by omega)) rfl (gv (ov_conv_u (k := .u32) (k' := .u64) (W := 18446744073709551616) Try.underlying61 Try.underlying75 rfl rfl rfl (by omega)) rfl (gv (ov_add_u (k := .u64) (W := 18446744073709551616) rfl rfl rfl rfl (by omega)) rfl (asg rfl rfl (gl_nil (gq_keep (e' := [(4, _), (9, _), (10, _), (11, _), (12, _), (13, _), (15, _), (16, _)]) ⟨rfl, rfl, rfl, rfl, rfl, rfl, rfl, rfl, trivial⟩ (gq_then (gc_seq (gc_region (mv rfl rfl ?_)))))))))))))
         refine gv (ov_geq_u (k := .u64) (q := 4294967296) rfl rfl) rfl (gl_nil (gq_then ?_))
         refine gc_cond rfl (fun hc153 => ?_) (fun hc153 => ?_)
         ·
          refine gc_exit (gx_past rfl (gx_then (gx_here ?_)))
          refine gq_cut (x - 1) ?_ ⟨?_, ?_, ?_, ?_, ?_, ?_, ?_, trivial⟩ ?_ rfl
          ·
           obtain ⟨b1, b2⟩ := est_break (x := x - 1) hVd hW hvr hv2 (est_pred hxt hx1) hc153 htop2 (by omega)
           exact ⟨b1, by rw [Nat.sub_add_cancel hx1]; exact hlow, by omega⟩
          · exact rfl
          · exact rfl
          · exact rfl
          · exact rfl
          · exact rfl
          · exact rfl
          · exact rfl
          · exact rfl
         ·
          refine gc_skip (gq_in ?_)
          refine gq_round (x - 1, r + vs.getD (n - 1) 0) ?_ ?_ ⟨?_, ?_, ?_, ?_, ?_, ?_, ?_, ?_, trivial⟩ ?_ rfl
          ·
           exact ⟨est_pred hxt hx1, by rw [Nat.sub_add_cancel hx1]; exact hlow, by omega⟩
          ·
           dsimp only
           omega
          · exact rfl
          · exact rfl
          · exact rfl
          · exact rfl
          · exact rfl
          · exact rfl
          · exact rfl
          · exact rfl
          · exact rfl
        ·
         refine gc_draw 24 _ [] [(0, .q), (1, .q), (2, .q), (3, .q), (4, .q), (5, .q), (6, .q), (7, .q), (8, .q), (9, .q), (10, .q), (11, .q), (12, .q), (13, .q), (14, .q), (15, .q), (16, .q), (17, .q), (18, .q), (19, .q), (20, .q), (21, .q), (22, .q), (23, .q)] mixed (fun x hx => by cases hx) (by kernel_rfl) (fun x hx => by cases hx) (fun r hr => hr) (w_q rfl (fun h' L' hh hR => ov_move rfl) rfl (w_q rfl (fun h' L' hh hR => ov_geq_u (k := .u64) (q := 4294967296) rfl rfl) rfl (w_q rfl (fun h' L' hh hR => ov_move (v := .bool false) (congrArg some (vB_false hg))) rfl (w_q_on rfl rfl rfl (fun h' L' hh hR => ov_move rfl) rfl (w_q_on rfl rfl rfl (fun h' L' hh hR => ov_move rfl) rfl (w_q_on rfl rfl rfl (fun h' L' hh hR => ov_move rfl) rfl (w_q_on rfl rfl rfl (fun h' L' hh hR => ov_sub_i (q := 2) rfl rfl (by omega) (by omega)) rfl (w_q_on rfl rfl rfl (fun h' L' hh hR => ov_index_us (n - 2) Try.underlying22 Try.sizeOf61 rfl rfl (hr70.mono hh) (by omega) (by omega)) rfl (w_q_on rfl rfl rfl (fun h' L' hh hR => ov_load_us Try.isAgg61 rfl (hr70.mono hh) (by omega)) rfl (w_q_on rfl rfl rfl (fun h' L' hh hR => ov_conv_u (k := .u32) (k' := .u64) (W := 18446744073709551616) Try.underlying61 Try.underlying75 rfl rfl rfl (by omega)) rfl (w_q_on rfl rfl rfl (fun h' L' hh hR => ov_mul_u (k := .u64) (W := 18446744073709551616) rfl rfl rfl rfl (by omega)) rfl (w_q_on rfl rfl rfl (fun h' L' hh hR => ov_move rfl) rfl (w_q_on rfl rfl rfl (fun h' L' hh hR => ov_shl_u (k := .u64) (s := 32) (yk := .u64) (W := 18446744073709551616) rfl rfl rfl rfl) rfl ?_)))))))))))))
         refine w_q_on rfl rfl rfl (fun h' L' hh hR => ov_move rfl) rfl (w_q_on rfl rfl rfl (fun h' L' hh hR => ov_move rfl) rfl (w_q_on rfl rfl rfl (fun h' L' hh hR => ov_move rfl) rfl (w_q_on rfl rfl rfl (fun h' L' hh hR => ov_add_i rfl rfl (by omega) (by omega)) rfl (w_q_on rfl rfl rfl (fun h' L' hh hR => ov_sub_i (q := 2) rfl rfl (by omega) (by omega)) rfl (w_q_on rfl rfl rfl (fun h' L' hh hR => ov_index_ousM (hR _ (.tail _ (.head _))) (J - 1 + n - 2) Try.underlying22 Try.sizeOf61 rfl rfl (by omega) (by omega)) rfl (w_q_on rfl rfl rfl (fun h' L' hh hR => ov_load_ousM (hR _ (.tail _ (.head _))) Try.isAgg61 rfl (by omega)) rfl (w_q_on rfl rfl rfl (fun h' L' hh hR => ov_conv_u (k := .u32) (k' := .u64) (W := 18446744073709551616) Try.underlying61 Try.underlying75 rfl rfl rfl (by omega)) rfl (w_q_on rfl rfl rfl (fun h' L' hh hR => ov_or_u (k := .u64) rfl rfl rfl (by simp only [ub]; omega) (by simp only [ub]; omega)) rfl ?_))))))))
         rw [or_shift (by omega) (by omega)]
         refine w_q_on rfl rfl rfl (fun h' L' hh hR => ov_gtr_u (k := .u64) rfl rfl) rfl (w_q rfl (fun h' L' hh hR => ov_pick_f rfl rfl) rfl (w_nil (gq_keep (e' := [(4, _), (9, _), (10, _), (11, _), (12, _), (13, _), (15, _), (16, _), (141, _)]) ⟨rfl, rfl, rfl, rfl, rfl, rfl, rfl, rfl, rfl, trivial⟩ (gq_then ?_))))
         refine gc_cond rfl (fun hc141 => ?_) (fun hc141 => ?_)
         ·
          have hx1 : 1 ≤ x := Nat.pos_of_ne_zero fun h0 => by rw [h0, Nat.zero_mul] at hc141; omega
          have hlow : val (us.drop (J - 1)) < x * V := est_dec hVd hW hwr hxt hc141
          refine gc_skip (gq_then (gc_block (gc_seq (gc_region (mv rfl rfl (gv (ov_sub_u (k := .u64) (q := 1) (W := 18446744073709551616) rfl rfl rfl rfl (by omega) (by omega)) rfl (asg rfl rfl (gl_nil (gq_then (gc_seq (gc_region (mv rfl rfl (mv rfl rfl ?_)))))))))))))
          refine mv rfl rfl (gv (ov_sub_i (q := 1) rfl rfl (by omega) (by omega)) rfl (gv (ov_index_us (n - 1) Try.underlying22 Try.sizeOf61 rfl rfl hr70 (by omega) (by omega)) rfl (gv (ov_load_us Try.isAgg61 rfl hr70 (by omega)) rfl (gv (ov_conv_u (k := .u32) (k' := .u64) (W := 18446744073709551616) Try.underlying61 Try.underlying75 rfl rfl rfl (by omega)) rfl (gv (ov_add_u (k := .u64) (W := 18446744073709551616) rfl rfl rfl rfl (by omega)) rfl (asg rfl rfl (gl_nil (gq_keep (e' := [(4, _), (9, _), (10, _), (11, _), (12, _), (13, _), (15, _), (16, _)]) ⟨rfl, rfl, rfl, rfl, rfl, rfl, rfl, rfl, trivial⟩ (gq_then (gc_seq (gc_region (mv rfl rfl (gv (ov_geq_u (k := .u64) (q := 4294967296) rfl rfl) rfl ?_)))))))))))))
          refine gl_nil (gq_then ?_)
          refine gc_cond rfl (fun hc153 => ?_) (fun hc153 => ?_)
          ·
           refine gc_exit (gx_past rfl (gx_then (gx_here ?_)))
           refine gq_cut (x - 1) ?_ ⟨?_, ?_, ?_, ?_, ?_, ?_, ?_, trivial⟩ ?_ rfl
           ·
            obtain ⟨b1, b2⟩ := est_break (x := x - 1) hVd hW hvr hv2 (est_pred hxt hx1) hc153 htop2 (by omega)
            exact ⟨b1, by rw [Nat.sub_add_cancel hx1]; exact hlow, by omega⟩
           · exact rfl
           · exact rfl
           · exact rfl
           · exact rfl
           · exact rfl
           · exact rfl
           · exact rfl
           · exact rfl
          ·
           refine gc_skip (gq_in ?_)
           refine gq_round (x - 1, r + vs.getD (n - 1) 0) ?_ ?_ ⟨?_, ?_, ?_, ?_, ?_, ?_, ?_, ?_, trivial⟩ ?_ rfl
           ·
            exact ⟨est_pred hxt hx1, by rw [Nat.sub_add_cancel hx1]; exact hlow, by omega⟩
           ·
            dsimp only
            omega
           · exact rfl
           · exact rfl
           · exact rfl
           · exact rfl
           · exact rfl
           · exact rfl
           · exact rfl
           · exact rfl
           · exact rfl
         ·
          refine gc_exit (gx_then (gx_then (gx_here ?_)))
          refine gq_cut (x) ?_ ⟨?_, ?_, ?_, ?_, ?_, ?_, ?_, trivial⟩ ?_ rfl
          ·
           exact ⟨by omega, hxl, est_exit hVd hW hvr (by omega) hxt (by omega) (by omega)⟩
          · exact rfl
          · exact rfl
          · exact rfl
          · exact rfl
          · exact rfl
          · exact rfl
          · exact rfl
          · exact rfl
      ·
       intro x1 hx
       obtain ⟨hx1b, hxlo, hxhi⟩ := hx
       show GC _ _ _ _ _ _ [(4, v77), (9, vI ↑s), (10, v66), (11, v70), (12, vI ↑n), (13, vI (↑J - 1)), (15, vU .u64 x1)] [.us 61 .u32 v77 (fillDn J qs), .us 61 .u32 v66 us] h8
       refine gc_seq (gc_region (asg (v := vU .u64 0) rfl rfl (asg (v := vU .u64 0) rfl rfl (gl_nil (gq_then (gc_seq (gc_seq (gc_region (mv rfl rfl (gv (ov_len_us Try.underlying22 rfl hr70) rfl ?_))))))))))
       rw [hvl]
       refine mv (v := vI (0)) rfl rfl (gl_nil (gq_then (gc_block ?_)))
       refine gc_loop (ι := Nat × List Nat × Nat × Nat) (fun (x_ : (Nat × List Nat × Nat × Nat)) => match x_ with | (i, ts, b, c) => i ≤ n ∧ ts.length = la + 1 ∧ Fit ts ∧ c < 4294967296 ∧ b ≤ 1 ∧ val ts + 4294967296 ^ (J - 1) * (x1 * val (vs.take i)) = val us + 4294967296 ^ (J - 1 + i) * (c + b) ∧ ∀ k, J - 1 + i ≤ k → ts.getD k 0 = us.getD k 0) (fun (x_ : (Nat × List Nat × Nat × Nat)) => match x_ with | (i, ts, b, c) => [(4, v77), (9, vI ↑s), (10, v66), (11, v70), (12, vI ↑n), (13, vI (↑J - 1)), (15, vU .u64 x1), (17, vU .u64 b), (18, vU .u64 c), (154, v70), (155, vI ↑n), (156, vI ↑i)]) (fun (x_ : (Nat × List Nat × Nat × Nat)) => match x_ with | (i, ts, b, c) => [.us 61 .u32 v77 (fillDn J qs), .us 61 .u32 v66 ts]) (fun (x_ : (Nat × List Nat × Nat × Nat)) => match x_ with | (i, ts, b, c) => h8) (fun (x_ : (Nat × List Nat × Nat × Nat)) => match x_ with | (i, ts, b, c) => n - i) (0, us, 0, 0) ?_ ⟨rfl, rfl, rfl, rfl, rfl, rfl, rfl, rfl, rfl, rfl, rfl, rfl, trivial⟩ rfl rfl ?_
       ·
        exact ⟨by omega, hul, hfu, by omega, by omega, by simp [val], fun _ _ => rfl⟩
       ·
        intro x hx
        obtain ⟨i, ts, b, c⟩ := x
        obtain ⟨hin, htl, hft, hcb, hbb, hms, htk⟩ := hx
        show GC _ _ _ _ _ _ [(4, v77), (9, vI ↑s), (10, v66), (11, v70), (12, vI ↑n), (13, vI (↑J - 1)), (15, vU .u64 x1), (17, vU .u64 b), (18, vU .u64 c), (154, v70), (155, vI ↑n), (156, vI ↑i)] [.us 61 .u32 v77 (fillDn J qs), .us 61 .u32 v66 ts] h8
        refine gc_seq (gc_region (gv (ov_lss_i rfl rfl) rfl (gl_nil (gq_then (gc_seq ?_)))))
        refine gc_cond rfl (fun hc157 => ?_) (fun hc157 => ?_)
        ·
         refine gc_skip (gq_then (gc_seq (gc_block (gc_seq (gc_region (mv rfl rfl (gv (ov_index_us _ Try.underlying22 Try.sizeOf61 rfl rfl hr70 rfl (by omega)) rfl (gv (ov_load_us Try.isAgg61 rfl hr70 (by omega)) rfl ?_))))))))
         have hyb := hr70.get32 i
         have hxy : x1 * vs.getD i 0 ≤ 4294967295 * 4294967295 := Nat.mul_le_mul (by omega) (by omega)
         refine asg rfl rfl (asg rfl rfl (gl_nil (gq_then (gc_seq (gc_region (mv rfl rfl (mv rfl rfl (mv rfl rfl (gv (ov_conv_u (k := .u32) (k' := .u64) (W := 18446744073709551616) Try.underlying61 Try.underlying75 rfl rfl rfl (by omega)) rfl (gv (ov_mul_u (k := .u64) (W := 18446744073709551616) rfl rfl rfl rfl (by omega)) rfl (gv (ov_add_u (k := .u64) (W := 18446744073709551616) rfl rfl rfl rfl (by omega)) rfl (asg rfl rfl (gl_nil ?_)))))))))))))
         refine gq_keep (e' := [(4, _), (9, _), (10, _), (11, _), (12, _), (13, _), (15, _), (17, _), (154, _), (155, _), (156, _), (19, _), (18, _)]) ⟨rfl, rfl, rfl, rfl, rfl, rfl, rfl, rfl, rfl, rfl, rfl, rfl, rfl, trivial⟩ (gq_then (gc_seq (gc_region (mv rfl rfl (mv rfl rfl (mv rfl rfl (gv (ov_add_i rfl rfl (by omega) (by omega)) rfl (gv (ov_index_ous (A := [_]) (J - 1 + i) Try.underlying22 Try.sizeOf61 rfl rfl (by omega) (by omega)) rfl (gv (ov_load_ous (A := [_]) Try.isAgg61 rfl (by omega)) rfl ?_)))))))))
         have htx := fit_get hft (J - 1 + i)
         refine gv (ov_conv_u (k := .u32) (k' := .u64) (W := 18446744073709551616) Try.underlying61 Try.underlying75 rfl rfl rfl (by omega)) rfl (mv rfl rfl (gv (ov_and_u (k := .u64) (q := 4294967295) rfl rfl rfl (by simp only [ub]; omega) (by simp only [ub]; omega)) rfl ?_))
         rw [and_mask]
         refine gv (ov_subw_u (k := .u64) (W := 18446744073709551616) rfl rfl rfl rfl (by omega)) rfl (mv rfl rfl (gv (ov_subw_u (k := .u64) (W := 18446744073709551616) rfl rfl rfl rfl (by omega)) rfl (asg rfl rfl (gl_nil (gq_keep (e' := [(4, _), (9, _), (10, _), (11, _), (12, _), (13, _), (15, _), (154, _), (155, _), (156, _), (19, _), (18, _), (21, _)]) ⟨rfl, rfl, rfl, rfl, rfl, rfl, rfl, rfl, rfl, rfl, rfl, rfl, rfl, trivial⟩ (gq_then (gc_seq (gc_region (mv rfl rfl (mv rfl rfl (mv rfl rfl (gv (ov_add_i rfl rfl (by omega) (by omega)) rfl (mv rfl rfl ?_)))))))))))))
         refine gv (ov_conv_uu (k := .u64) (k' := .u32) (W := 4294967296) Try.underlying75 Try.underlying61 rfl rfl rfl) rfl (gv (ov_index_ous (A := [_]) (J - 1 + i) Try.underlying22 Try.sizeOf61 rfl rfl (by omega) (by omega)) rfl (gl_store_ous1 Try.sizeOf61 rfl rfl (by omega) (gl_nil (gq_then (gc_seq (gc_region (mv rfl rfl (gv (ov_shr_u (k := .u64) (s := 63) (yk := .u64) rfl rfl rfl (by simp only [ub]; omega)) rfl (asg rfl rfl (gl_nil (gq_keep (e' := [(4, _), (9, _), (10, _), (11, _), (12, _), (13, _), (15, _), (154, _), (155, _), (156, _), (18, _), (17, _)]) ⟨rfl, rfl, rfl, rfl, rfl, rfl, rfl, rfl, rfl, rfl, rfl, rfl, trivial⟩ (gq_then (gc_region ?_)))))))))))))
         refine mv rfl rfl (gv (ov_shr_u (k := .u64) (s := 32) (yk := .u64) rfl rfl rfl (by simp only [ub]; omega)) rfl (asg rfl rfl (gl_nil (gq_in (gq_then (gc_region (gv (ov_add_i (q := 1) rfl rfl (by omega) (by omega)) rfl (mv rfl rfl (gl_nil ?_)))))))))
         generalize hX : ts.getD (J - 1 + i) 0 = X at *
         generalize hY : vs.getD i 0 = Y at *
         refine gq_round (i + 1, ts.set (J - 1 + i) (((X + 18446744073709551616 - (c + x1 * Y) % 4294967296) % 18446744073709551616 + 18446744073709551616 - b) % 18446744073709551616 % 4294967296), ((X + 18446744073709551616 - (c + x1 * Y) % 4294967296) % 18446744073709551616 + 18446744073709551616 - b) % 18446744073709551616 / 2 ^ 63, (c + x1 * Y) / 2 ^ 32) ?_ ?_ ⟨?_, ?_, ?_, ?_, ?_, ?_, ?_, ?_, ?_, ?_, ?_, ?_, trivial⟩ ?_ rfl
         ·
          refine ⟨by omega, by simp [htl], fit_set hft _ (by omega), by omega, by omega, ?_, fun k hk => ?_⟩
          · have h1 := val_set (xs := ts) (i := J - 1 + i) (by omega) (((X + 18446744073709551616 - (c + x1 * Y) % 4294967296) % 18446744073709551616 + 18446744073709551616 - b) % 18446744073709551616 % 4294967296)
            rw [hX] at h1
            rw [val_take_succ vs i (by omega), hY, ← Nat.add_assoc (J - 1), Nat.pow_succ, Nat.pow_add]
            rw [Nat.pow_add] at h1 hms
            exact ms_step (l := (c + x1 * Y) % 4294967296) hms h1 (by omega) (by omega)
          · rw [getD_set_other (by omega)]; exact htk k (by omega)
         ·
          dsimp only
          omega
         · exact rfl
         · exact rfl
         · exact rfl
         · exact rfl
         · exact rfl
         · exact rfl
         · exact rfl
         · exact rfl
         · exact rfl
         · exact rfl
         · exact rfl
         · exact rfl
         · exact rfl
        ·
         refine gc_exit (gx_then (gx_then (gx_here (gq_then (gc_seq (gc_region (mv rfl rfl (mv rfl rfl (mv rfl rfl (gv (ov_add_i rfl rfl (by omega) (by omega)) rfl (gv (ov_index_ous (A := [_]) (J - 1 + n) Try.underlying22 Try.sizeOf61 rfl rfl (by omega) (by omega)) rfl (gv (ov_load_ous (A := [_]) Try.isAgg61 rfl (by omega)) rfl ?_))))))))))))
         have htx := fit_get hft (J - 1 + n)
         refine gv (ov_conv_u (k := .u32) (k' := .u64) (W := 18446744073709551616) Try.underlying61 Try.underlying75 rfl rfl rfl (by omega)) rfl (mv rfl rfl (gv (ov_subw_u (k := .u64) (W := 18446744073709551616) rfl rfl rfl rfl (by omega)) rfl (mv rfl rfl (gv (ov_subw_u (k := .u64) (W := 18446744073709551616) rfl rfl rfl rfl (by omega)) rfl ?_))))
         obtain ⟨d2, hd2⟩ : ∃ d, d = ((ts.getD (J - 1 + n) 0 + 18446744073709551616 - c) % 18446744073709551616 + 18446744073709551616 - b) % 18446744073709551616 := ⟨_, rfl⟩
         rw [← hd2]
         refine asg rfl rfl (gl_nil (gq_keep (e' := [(4, _), (9, _), (10, _), (11, _), (12, _), (13, _), (15, _), (22, _)]) ⟨rfl, rfl, rfl, rfl, rfl, rfl, rfl, rfl, trivial⟩ (gq_then (gc_seq (gc_region (mv rfl rfl (mv rfl rfl (mv rfl rfl (gv (ov_add_i rfl rfl (by omega) (by omega)) rfl (mv rfl rfl (gv (ov_conv_uu (k := .u64) (k' := .u32) (W := 4294967296) Try.underlying75 Try.underlying61 rfl rfl rfl) rfl (gv (ov_index_ous (A := [_]) (J - 1 + n) Try.underlying22 Try.sizeOf61 rfl rfl (by omega) (by omega)) rfl (gl_store_ous1 Try.sizeOf61 rfl rfl (by omega) ?_)))))))))))))
         have hin : i = n := by omega
         rw [hin, val_take_all (by omega), hvv] at hms
         have hvs := val_set (xs := ts) (i := J - 1 + n) (by omega) (d2 % 4294967296)
         have htl2 : (ts.set (J - 1 + n) (d2 % 4294967296)).length = la + 1 := by simp [htl]
         have hft2 : Fit (ts.set (J - 1 + n) (d2 % 4294967296)) := fit_set hft _ (by omega)
         have hz2 : ∀ k, J - 1 + n + 1 ≤ k → (ts.set (J - 1 + n) (d2 % 4294967296)).getD k 0 = 0 := fun k hk => by rw [getD_set_other (by omega), htk k (by omega)]; exact hz0 k (by omega)
         generalize ts.set (J - 1 + n) (d2 % 4294967296) = ts2 at *
         have hval2 : val ts2 + 4294967296 ^ (J - 1) * (x1 * V) = val us + 4294967296 ^ (J - 1 + n + 1) * (d2 / 2 ^ 63) := by
           rw [Nat.pow_succ, Nat.pow_add]
           rw [Nat.pow_add] at hvs hms
           exact ms_end hms hvs (by omega)
         have hlt2 := val_lt_of_zero hft2 hz2
         refine gl_nil (gq_then ?_)
         refine gc_cut (ι := Nat × List Nat) (fun (x_ : (Nat × List Nat)) => match x_ with | (x2, rs) => x2 < 4294967296 ∧ rs.length = la + 1 ∧ Fit rs ∧ val rs + 4294967296 ^ (J - 1) * (x2 * V) = val us ∧ val (rs.drop (J - 1)) < V) (fun (x_ : (Nat × List Nat)) => match x_ with | (x2, rs) => [(4, v77), (9, vI ↑s), (10, v66), (11, v70), (12, vI ↑n), (13, vI (↑J - 1)), (15, vU .u64 x2)]) (fun (x_ : (Nat × List Nat)) => match x_ with | (x2, rs) => [.us 61 .u32 v77 (fillDn J qs), .us 61 .u32 v66 rs]) (fun (x_ : (Nat × List Nat)) => match x_ with | (x2, rs) => h8) ?_ ?_
         ·
          refine gc_seq (gc_region (mv rfl rfl (gv (ov_shr_u (k := .u64) (s := 63) (yk := .u64) rfl rfl rfl (by simp only [ub]; omega)) rfl (gv (ov_neq_u (k := .u64) (q := 0) rfl rfl) rfl (gl_nil (gq_keep (e' := [(4, _), (9, _), (10, _), (11, _), (12, _), (13, _), (15, _), (211, _)]) ⟨rfl, rfl, rfl, rfl, rfl, rfl, rfl, rfl, trivial⟩ (gq_then ?_)))))))
          refine gc_cond rfl (fun hc211 => ?_) (fun hc211 => ?_)
          ·
           have hx1p : 1 ≤ x1 := Nat.pos_of_ne_zero fun h0 => by
             have hb1 : d2 / 2 ^ 63 = 1 := by omega
             rw [h0, hb1, Nat.zero_mul, Nat.mul_zero, Nat.mul_one] at hval2
             omega
           refine gc_seq (gc_region (mv rfl rfl (gv (ov_sub_u (k := .u64) (q := 1) (W := 18446744073709551616) rfl rfl rfl rfl (by omega) (by omega)) rfl (asg rfl rfl (gl_nil (gq_then (gc_seq (gc_region (asg (v := vU .u64 0) rfl rfl (gl_nil (gq_then (gc_seq (gc_seq ?_)))))))))))))
           refine gc_region (mv rfl rfl (gv (ov_len_us Try.underlying22 rfl hr70) rfl ?_))
           rw [hvl]
           refine mv (v := vI (0)) rfl rfl (gl_nil (gq_then (gc_block ?_)))
           refine gc_loop (ι := Nat × List Nat × Nat) (fun (x_ : (Nat × List Nat × Nat)) => match x_ with | (i2, rs, c2) => i2 ≤ n ∧ rs.length = la + 1 ∧ Fit rs ∧ c2 ≤ 1 ∧ val rs + 4294967296 ^ (J - 1 + i2) * c2 = val ts2 + 4294967296 ^ (J - 1) * val (vs.take i2) ∧ ∀ k, J - 1 + i2 ≤ k → rs.getD k 0 = ts2.getD k 0) (fun (x_ : (Nat × List Nat × Nat)) => match x_ with | (i2, rs, c2) => [(4, v77), (9, vI ↑s), (10, v66), (11, v70), (12, vI ↑n), (13, vI (↑J - 1)), (15, vU .u64 (x1 - 1)), (18, vU .u64 c2), (214, v70), (215, vI ↑n), (216, vI ↑i2)]) (fun (x_ : (Nat × List Nat × Nat)) => match x_ with | (i2, rs, c2) => [.us 61 .u32 v77 (fillDn J qs), .us 61 .u32 v66 rs]) (fun (x_ : (Nat × List Nat × Nat)) => match x_ with | (i2, rs, c2) => h8) (fun (x_ : (Nat × List Nat × Nat)) => match x_ with | (i2, rs, c2) => n - i2) (0, ts2, 0) ?_ ⟨rfl, rfl, rfl, rfl, rfl, rfl, rfl, rfl, rfl, rfl, rfl, trivial⟩ rfl rfl ?_
           ·
            exact ⟨by omega, htl2, hft2, by omega, by simp [val], fun _ _ => rfl⟩
           ·
            intro x hx
            obtain ⟨i2, rs, c2⟩ := x
            obtain ⟨hi2, hrl, hfr, hc2, hab, hrk⟩ := hx
            show GC _ _ _ _ _ _ [(4, v77), (9, vI ↑s), (10, v66), (11, v70), (12, vI ↑n), (13, vI (↑J - 1)), (15, vU .u64 (x1 - 1)), (18, vU .u64 c2), (214, v70), (215, vI ↑n), (216, vI ↑i2)] [.us 61 .u32 v77 (fillDn J qs), .us 61 .u32 v66 rs] h8
            refine gc_seq (gc_region (gv (ov_lss_i rfl rfl) rfl (gl_nil (gq_then (gc_seq ?_)))))
            refine gc_cond rfl (fun hc217 => ?_) (fun hc217 => ?_)
            ·
             refine gc_skip (gq_then (gc_seq (gc_block (gc_seq (gc_region (mv rfl rfl (gv (ov_index_us _ Try.underlying22 Try.sizeOf61 rfl rfl hr70 rfl (by omega)) rfl (gv (ov_load_us Try.isAgg61 rfl hr70 (by omega)) rfl ?_))))))))
             have hyb := hr70.get32 i2
             refine asg rfl rfl (asg rfl rfl (gl_nil (gq_then (gc_seq (gc_region (mv rfl rfl (mv rfl rfl (mv rfl rfl (mv rfl rfl (gv (ov_add_i rfl rfl (by omega) (by omega)) rfl (gv (ov_index_ous (A := [_]) (J - 1 + i2) Try.underlying22 Try.sizeOf61 rfl rfl (by omega) (by omega)) rfl (gv (ov_load_ous (A := [_]) Try.isAgg61 rfl (by omega)) rfl ?_))))))))))))
             have htx := fit_get hfr (J - 1 + i2)
             refine gv (ov_conv_u (k := .u32) (k' := .u64) (W := 18446744073709551616) Try.underlying61 Try.underlying75 rfl rfl rfl (by omega)) rfl (mv rfl rfl (gv (ov_conv_u (k := .u32) (k' := .u64) (W := 18446744073709551616) Try.underlying61 Try.underlying75 rfl rfl rfl (by omega)) rfl (gv (ov_add_u (k := .u64) (W := 18446744073709551616) rfl rfl rfl rfl (by omega)) rfl (gv (ov_add_u (k := .u64) (W := 18446744073709551616) rfl rfl rfl rfl (by omega)) rfl (asg rfl rfl (gl_nil (gq_keep (e' := [(4, _), (9, _), (10, _), (11, _), (12, _), (13, _), (15, _), (214, _), (215, _), (216, _), (23, _), (18, _)]) ⟨rfl, rfl, rfl, rfl, rfl, rfl, rfl, rfl, rfl, rfl, rfl, rfl, trivial⟩ (gq_then (gc_seq (gc_region (mv rfl rfl (mv rfl rfl (mv rfl rfl ?_)))))))))))))
             refine gv (ov_add_i rfl rfl (by omega) (by omega)) rfl (mv rfl rfl (gv (ov_conv_uu (k := .u64) (k' := .u32) (W := 4294967296) Try.underlying75 Try.underlying61 rfl rfl rfl) rfl (gv (ov_index_ous (A := [_]) (J - 1 + i2) Try.underlying22 Try.sizeOf61 rfl rfl (by omega) (by omega)) rfl (gl_store_ous1 Try.sizeOf61 rfl rfl (by omega) (gl_nil (gq_then (gc_region (mv rfl rfl (gv (ov_shr_u (k := .u64) (s := 32) (yk := .u64) rfl rfl rfl (by simp only [ub]; omega)) rfl (asg rfl rfl (gl_nil (gq_in (gq_keep (e' := [(4, _), (9, _), (10, _), (11, _), (12, _), (13, _), (15, _), (214, _), (215, _), (216, _), (18, _)]) ⟨rfl, rfl, rfl, rfl, rfl, rfl, rfl, rfl, rfl, rfl, rfl, trivial⟩ ?_)))))))))))))
             refine gq_then (gc_region (gv (ov_add_i (q := 1) rfl rfl (by omega) (by omega)) rfl (mv rfl rfl (gl_nil ?_))))
             generalize hX : rs.getD (J - 1 + i2) 0 = X at *
             generalize hY : vs.getD i2 0 = Y at *
             refine gq_round (i2 + 1, rs.set (J - 1 + i2) ((c2 + (X + Y)) % 4294967296), (c2 + (X + Y)) / 2 ^ 32) ?_ ?_ ⟨?_, ?_, ?_, ?_, ?_, ?_, ?_, ?_, ?_, ?_, ?_, trivial⟩ ?_ rfl
             ·
              refine ⟨by omega, by simp [hrl], fit_set hfr _ (by omega), by omega, ?_, fun k hk => ?_⟩
              · have h1 := val_set (xs := rs) (i := J - 1 + i2) (by omega) ((c2 + (X + Y)) % 4294967296)
                rw [hX] at h1
                rw [val_take_succ vs i2 (by omega), hY, ← Nat.add_assoc (J - 1), Nat.pow_succ, Nat.pow_add]
                rw [Nat.pow_add] at h1 hab
                exact ab_step hab h1 (by omega)
              · rw [getD_set_other (by omega)]; exact hrk k (by omega)
             ·
              dsimp only
              omega
             · exact rfl
             · exact rfl
             · exact rfl
             · exact rfl
             · exact rfl
             · exact rfl
             · exact rfl
             · exact rfl
             · exact rfl
             · exact rfl
             · exact rfl
             · exact rfl
            ·
             refine gc_exit (gx_then (gx_then (gx_here (gq_then (gc_region (mv rfl rfl (mv rfl rfl (mv rfl rfl (gv (ov_add_i rfl rfl (by omega) (by omega)) rfl (gv (ov_index_ous (A := [_]) (J - 1 + n) Try.underlying22 Try.sizeOf61 rfl rfl (by omega) (by omega)) rfl (gv (ov_load_ous (A := [_]) Try.isAgg61 rfl (by omega)) rfl (mv rfl rfl (gv (ov_conv_uu (k := .u64) (k' := .u32) (W := 4294967296) Try.underlying75 Try.underlying61 rfl rfl rfl) rfl ?_)))))))))))))
             have htx := fit_get hfr (J - 1 + n)
             refine gv (ov_addw_u (k := .u32) (W := 4294967296) rfl rfl rfl rfl) rfl (gv (ov_index_ous (A := [_]) (J - 1 + n) Try.underlying22 Try.sizeOf61 rfl rfl (by omega) (by omega)) rfl (gl_store_ous1 Try.sizeOf61 rfl rfl (by omega) (gl_nil ?_)))
             generalize hX : rs.getD (J - 1 + n) 0 = X at *
             refine gq_cut (x1 - 1, rs.set (J - 1 + n) ((X + c2 % 4294967296) % 4294967296)) ?_ ⟨?_, ?_, ?_, ?_, ?_, ?_, ?_, trivial⟩ ?_ rfl
             ·
              have hin2 : i2 = n := by omega
              rw [hin2, val_take_all (by omega), hvv] at hab
              have h1 := val_set (xs := rs) (i := J - 1 + n) (by omega) ((X + c2 % 4294967296) % 4294967296)
              rw [hX] at h1
              have hfr2 : Fit (rs.set (J - 1 + n) ((X + c2 % 4294967296) % 4294967296)) := fit_set hfr _ (by omega)
              have hzr : ∀ k, J - 1 + n + 1 ≤ k → (rs.set (J - 1 + n) ((X + c2 % 4294967296) % 4294967296)).getD k 0 = 0 := fun k hk => by
                rw [getD_set_other (by omega), hrk k (by omega)]; exact hz2 k hk
              have ho : val (rs.set (J - 1 + n) ((X + c2 % 4294967296) % 4294967296)) + 4294967296 ^ (J - 1 + n + 1) * ((X + c2) / 4294967296) = val ts2 + 4294967296 ^ (J - 1) * V := by
                rw [Nat.pow_succ, Nat.pow_add]
                rw [Nat.pow_add] at h1 hab
                exact ab_end hab h1 (by omega)
              obtain ⟨z1, z2, z3⟩ := round_one hfu hfr2 hlt2 (val_lt_of_zero hfr2 hzr) (b := d2 / 2 ^ 63) (by omega) hval2 hxhi ho (by omega)
              exact ⟨by omega, by simp [hrl], hfr2, z2, z3⟩
             · exact rfl
             · exact rfl
             · exact rfl
             · exact rfl
             · exact rfl
             · exact rfl
             · exact rfl
             · exact rfl
          ·
           refine gc_skip ?_
           refine gq_cut (x1, ts2) ?_ ⟨?_, ?_, ?_, ?_, ?_, ?_, ?_, trivial⟩ ?_ rfl
           ·
            have hb0 : d2 / 2 ^ 63 = 0 := by omega
            rw [hb0, Nat.mul_zero, Nat.add_zero] at hval2
            exact ⟨hx1b, htl2, hft2, hval2, round_zero hfu hft2 hval2 hxlo⟩
           · exact rfl
           · exact rfl
           · exact rfl
           · exact rfl
           · exact rfl
           · exact rfl
           · exact rfl
           · exact rfl
         ·
          intro x hx
          obtain ⟨x2, rs⟩ := x
          obtain ⟨hx2b, hrl, hfr, hrv, hrdr⟩ := hx
          show GC _ _ _ _ _ _ [(4, v77), (9, vI ↑s), (10, v66), (11, v70), (12, vI ↑n), (13, vI (↑J - 1)), (15, vU .u64 x2)] [.us 61 .u32 v77 (fillDn J qs), .us 61 .u32 v66 rs] h8
          refine gc_region (mv rfl rfl (mv rfl rfl (mv rfl rfl (gv (ov_conv_u (k := .u64) (k' := .u32) (W := 4294967296) Try.underlying75 Try.underlying61 rfl rfl rfl (by omega)) rfl (gv (ov_index_ous (A := []) (J - 1) Try.underlying22 Try.sizeOf61 rfl rfl (by omega) (by rw [length_fillDn]; omega)) rfl (gl_store_ous0 Try.sizeOf61 rfl rfl (by rw [length_fillDn]; omega) (gl_nil (gq_in (gq_then (gc_region (mv rfl rfl (gv (ov_sub_i (q := 1) rfl rfl (by omega) (by omega)) rfl (asg rfl rfl ?_)))))))))))))
          refine gl_nil ?_
          refine gq_round (J - 1, rs, x2 :: qs) ?_ ?_ ⟨?_, ?_, ?_, ?_, ?_, ?_, trivial⟩ ?_ rfl
          ·
           refine ⟨by omega, by simp only [List.length_cons]; omega, fit_cons.2 ⟨hx2b, hfq⟩, hrl, hfr, ?_, hrdr⟩
           have eJ : (4294967296 : Nat) ^ J = 4294967296 ^ (J - 1) * 4294967296 := by rw [← Nat.pow_succ, Nat.succ_eq_add_one, Nat.sub_add_cancel hJ]
           rw [eJ] at hval
           exact q_step hval hrv
          ·
           dsimp only
           omega
          · exact rfl
          · exact rfl
          · exact rfl
          · exact rfl
          · exact rfl
          · exact congrArg some (congrArg vI (by omega))
          ·
           try dsimp only [List.nil_append, List.cons_append]
           rw [fillDn_set (by omega)]
     ·
      refine gc_exit (gx_then (gx_then (gx_here (gq_then (gc_seq ?_)))))
      have hJ0 : J = 0 := by omega
      subst hJ0
      rw [fillDn_zero]
      rw [List.drop_zero] at hdr
      rw [Nat.pow_zero, Nat.one_mul] at hval
      have hlu : (limbs (val us)).length ≤ us.length := limbs_len_le hfu
      refine gc_region (mv rfl rfl ?_)
      refine gl_call_read (R := fun h r => r = subSl 1 v66 0 (limbs (val us)).length ∧ Us .u32 h r (limbs (val us))) (vs := [_]) rfl rfl rfl rfl Try.call101 ⟨rfl, trivial⟩ (fun w hw => nat_trim (MLe.refl _) (hw.own_us (A := [_]) hfu)) ?_
      rintro v259 ⟨_, e259, _⟩
      subst e259
      refine gl_shrink (A := [_]) (limbs (val us)).length hlu ?_
      rw [take_limbs hfu]
      generalize subSl 1 v66 0 (limbs (val us)).length = vr
      have hRf := fit_limbs (val us)
      have hRv := val_limbs (val us)
      generalize limbs (val us) = Rs at *
      refine asg rfl rfl (gl_nil (gq_then (gc_seq (gc_seq (gc_region (mv rfl rfl (gv (ov_len_ous (A := [_]) Try.underlying22 rfl) rfl (mv (v := vI (0)) rfl rfl (gl_nil (gq_then (gc_block ?_)))))))))))
      refine gc_loop (ι := Nat) (fun (k : (Nat)) => k ≤ Rs.length) (fun (k : (Nat)) => [(4, v77), (5, vr), (9, vI ↑s), (261, vI ↑Rs.length), (262, vI ↑k)]) (fun (k : (Nat)) => [.us 61 .u32 v77 qs, .us 61 .u32 vr (shrM s Rs k)]) (fun (k : (Nat)) => h8) (fun (k : (Nat)) => Rs.length - k) 0 ?_ ⟨rfl, rfl, rfl, rfl, rfl, trivial⟩ ?_ rfl ?_
      ·
       exact Nat.zero_le _
      ·
       try dsimp only [List.nil_append, List.cons_append]
       exact congrArg (fun z => [Res.us 61 .u32 v77 qs, Res.us 61 .u32 vr z]) (shrM_zero s Rs)
      ·
       intro k hx
       obtain hk := hx
       show GC _ _ _ _ _ _ [(4, v77), (5, vr), (9, vI ↑s), (261, vI ↑Rs.length), (262, vI ↑k)] [.us 61 .u32 v77 qs, .us 61 .u32 vr (shrM s Rs k)] h8
       refine gc_seq (gc_region (gv (ov_lss_i rfl rfl) rfl (gl_nil (gq_then (gc_seq ?_)))))
       refine gc_cond rfl (fun hc263 => ?_) (fun hc263 => ?_)
       ·
        refine gc_skip (gq_then ?_)
        refine gc_cut (ι := Unit) (fun (_u : (Unit)) => True) (fun (_u : (Unit)) => [(4, v77), (5, vr), (9, vI ↑s), (261, vI ↑Rs.length), (262, vI ↑k)]) (fun (_u : (Unit)) => [.us 61 .u32 v77 qs, .us 61 .u32 vr (shrM s Rs (k + 1))]) (fun (_u : (Unit)) => h8) ?_ ?_
        ·
         refine gc_block (gc_seq (gc_region (mv rfl rfl (asg rfl rfl (gl_nil (gq_then (gc_seq (gc_region (mv rfl rfl (mv rfl rfl (gv (ov_index_ous (A := [_]) (k) Try.underlying22 Try.sizeOf61 rfl rfl (by omega) (by rw [shrM_len (by omega)]; omega)) rfl (gv (ov_load_ous (A := [_]) Try.isAgg61 rfl (by rw [shrM_len (by omega)]; omega)) rfl ?_))))))))))))
         rw [shrM_get (Nat.le_refl _)]
         have hgr := fit_get hRf k
         refine mv rfl rfl (gv (ov_shr_u (k := .u32) (s := s) (yk := .i64) rfl rfl rfl (by simp only [ub]; omega)) rfl ?_)
         have hq1 : Rs.getD k 0 / 2 ^ s < 4294967296 := Nat.lt_of_le_of_lt (Nat.div_le_self _ _) hgr
         refine gv (ov_index_ous (A := [_]) (k) Try.underlying22 Try.sizeOf61 rfl rfl (by omega) (by rw [shrM_len (by omega)]; omega)) rfl (gl_store_ous1 Try.sizeOf61 rfl rfl (by rw [shrM_len (by omega)]; omega) (gl_nil (gq_then (gc_seq (gc_region (mv rfl rfl (gv (ov_gtr_i (q := 0) rfl rfl) rfl ?_)))))))
         refine gl_cut (ι := Unit) 7 (fun _ => True) (fun _ => [(280, vB (((0 : Int) < ↑s) ∧ ((↑k : Int) + 1 < ↑Rs.length))), (4, v77), (5, vr), (9, vI ↑s), (261, vI ↑Rs.length), (262, vI ↑k), (25, vI ↑k)]) (fun _ => [.us 61 .u32 v77 qs, .us 61 .u32 vr ((shrM s Rs k).set k (Rs.getD k 0 / 2 ^ s))]) (fun _ => h8) ?_ ?_
         ·
          refine gl_cases ((0 : Int) < ↑s) (fun hg => ?_) (fun hg => ?_)
          ·
           refine gl_val (ov_move (v := .bool true) (congrArg some (vB_true hg))) rfl rfl rfl (gl_on rfl rfl rfl (mv rfl rfl (gl_on rfl rfl rfl (gv (ov_add_i (q := 1) rfl rfl (by omega) (by omega)) rfl (gl_on rfl rfl rfl (mv rfl rfl (gl_on rfl rfl rfl (gv (ov_len_ous (A := [_]) Try.underlying22 rfl) rfl ?_))))))))
           rw [List.length_set, shrM_len (by omega)]
           refine gl_on rfl rfl rfl (gv (ov_lss_i rfl rfl) rfl (gv (ov_pick_t rfl rfl) rfl (gl_nil ?_)))
           refine gq_cut () trivial ⟨?_, rfl, rfl, rfl, rfl, rfl, rfl, trivial⟩ rfl rfl
           exact congrArg some (vB_and_t hg)
          ·
           refine gl_val (ov_move (v := .bool false) (congrArg some (vB_false hg))) rfl rfl rfl (gl_off rfl rfl rfl rfl rfl rfl (gl_off rfl rfl rfl rfl rfl rfl (gl_off rfl rfl rfl rfl rfl rfl (gl_off rfl rfl rfl rfl rfl rfl (gl_off rfl rfl rfl rfl rfl rfl (gv (ov_pick_f rfl rfl) rfl (gl_nil ?_)))))))
           refine gq_cut () trivial ⟨?_, rfl, rfl, rfl, rfl, rfl, rfl, trivial⟩ rfl rfl
           exact congrArg some (vB_and_f hg)
         ·
          intro _ _
          show GL _ _ _ _ _ _ _ [(280, vB (((0 : Int) < ↑s) ∧ ((↑k : Int) + 1 < ↑Rs.length))), (4, v77), (5, vr), (9, vI ↑s), (261, vI ↑Rs.length), (262, vI ↑k), (25, vI ↑k)] [.us 61 .u32 v77 qs, .us 61 .u32 vr ((shrM s Rs k).set k (Rs.getD k 0 / 2 ^ s))] h8
          refine gl_nil (gq_then ?_)
          refine gc_cond rfl (fun hc280 => ?_) (fun hc280 => ?_)
          ·
           refine gc_draw 14 _ [] [(0, .q), (1, .q), (2, .q), (3, .q), (4, .q), (5, .q), (6, .q), (7, .q), (8, .q), (9, .q), (10, .q), (11, .q), (12, .q), (13, .q), (14, .t)] mixed (fun x hx => by cases hx) (by kernel_rfl) (fun x hx => by cases hx) (fun r hr => hr) (w_q rfl (fun h' L' hh hR => ov_move rfl) rfl (w_q rfl (fun h' L' hh hR => ov_move rfl) rfl (w_q rfl (fun h' L' hh hR => ov_index_ousM (hR _ (.tail _ (.head _))) (k) Try.underlying22 Try.sizeOf61 rfl rfl (by omega) (by rw [List.length_set, shrM_len (by omega)]; omega)) rfl (w_q rfl (fun h' L' hh hR => ov_load_ousM (hR _ (.tail _ (.head _))) Try.isAgg61 rfl (by rw [List.length_set, shrM_len (by omega)]; omega)) rfl ?_))))
           rw [getD_set_self (by rw [shrM_len (by omega)]; omega)]
           refine w_q rfl (fun h' L' hh hR => ov_move rfl) rfl (w_q rfl (fun h' L' hh hR => ov_move rfl) rfl (w_q rfl (fun h' L' hh hR => ov_add_i (q := 1) rfl rfl (by omega) (by omega)) rfl (w_q rfl (fun h' L' hh hR => ov_index_ousM (hR _ (.tail _ (.head _))) (k + 1) Try.underlying22 Try.sizeOf61 rfl rfl (by omega) (by rw [List.length_set, shrM_len (by omega)]; omega)) rfl (w_q rfl (fun h' L' hh hR => ov_load_ousM (hR _ (.tail _ (.head _))) Try.isAgg61 rfl (by rw [List.length_set, shrM_len (by omega)]; omega)) rfl ?_))))
           rw [getD_set_other (by omega), shrM_get (by omega)]
           refine w_q rfl (fun h' L' hh hR => ov_move rfl) rfl (w_q rfl (fun h' L' hh hR => ov_sub_i (p := 32) rfl rfl (by omega) (by omega)) rfl ?_)
           rw [show ((32 : Int) - ↑s) = ↑(32 - s) by omega]
           refine w_q rfl (fun h' L' hh hR => ov_shl_u (k := .u32) (s := 32 - s) (yk := .i64) (W := 4294967296) rfl rfl rfl rfl) rfl (w_q rfl (fun h' L' hh hR => ov_or_u (k := .u32) rfl rfl rfl (by simp only [ub]; omega) (by simp only [ub]; omega)) rfl ?_)
           rw [shrD_or hRf (by omega) (by omega)]
           refine w_q rfl (fun h' L' hh hR => ov_index_ousM (hR _ (.tail _ (.head _))) (k) Try.underlying22 Try.sizeOf61 rfl rfl (by omega) (by rw [List.length_set, shrM_len (by omega)]; omega)) rfl (w_t_upd (A := [_]) rfl (upd_store_ous Try.sizeOf61 rfl rfl (by rw [List.length_set, shrM_len (by omega)]; omega)) rfl (w_nil (gq_in ?_)))
           refine gq_cut (()) ?_ ⟨?_, ?_, ?_, ?_, ?_, trivial⟩ ?_ rfl
           ·
            trivial
           · exact rfl
           · exact rfl
           · exact rfl
           · exact rfl
           · exact rfl
           ·
            try dsimp only [List.nil_append, List.cons_append]
            rw [List.set_set, shrM_set (by omega)]; try rfl
          ·
           refine gc_skip (gq_in ?_)
           have hlast : Rs.getD k 0 / 2 ^ s = shrD s Rs k := by
             by_cases h0 : s = 0
             · rw [h0, shrD_zero hRf (by omega), Nat.pow_zero, Nat.div_one]
             · exact (shrD_last hRf (by omega)).symm
           refine gq_cut (()) ?_ ⟨?_, ?_, ?_, ?_, ?_, trivial⟩ ?_ rfl
           ·
            trivial
           · exact rfl
           · exact rfl
           · exact rfl
           · exact rfl
           · exact rfl
           ·
            try dsimp only [List.nil_append, List.cons_append]
            rw [hlast, shrM_set (by omega)]
        ·
         intro _u hx
         obtain hcut := hx
         show GC _ _ _ _ _ _ [(4, v77), (5, vr), (9, vI ↑s), (261, vI ↑Rs.length), (262, vI ↑k)] [.us 61 .u32 v77 qs, .us 61 .u32 vr (shrM s Rs (k + 1))] h8
         refine gc_region (gv (ov_add_i (q := 1) rfl rfl (by omega) (by omega)) rfl (mv rfl rfl (gl_nil ?_)))
         refine gq_round (k + 1) ?_ ?_ ⟨?_, ?_, ?_, ?_, ?_, trivial⟩ ?_ rfl
         ·
          omega
         ·
          omega
         · exact rfl
         · exact rfl
         · exact rfl
         · exact rfl
         · exact rfl
         · exact rfl
       ·
        refine gc_exit (gx_then (gx_then (gx_here (gq_then (gc_seq (gc_region (mv rfl rfl (gl_freeze_us0 (by exact hfq) ?_))))))))
        intro h9 hh9 hq
        refine gl_call (vs := [_]) rfl rfl rfl rfl Try.call101 ⟨rfl, trivial⟩ (fun w hs => nat_trim hs hq) ?_
        intro v297 h10 hh10 hr297
        replace hr297 := hr297.2
        refine mv rfl rfl (gl_freeze_us0 (by exact fit_shrM hRf) ?_)
        intro h11 hh11 hrr
        refine gl_call (vs := [_]) rfl rfl rfl rfl Try.call101 ⟨rfl, trivial⟩ (fun w hs => nat_trim hs hrr) ?_
        intro v299 h12 hh12 hr299
        replace hr299 := hr299.2
        refine asg rfl rfl (asg rfl rfl (asg (v := vI (0)) rfl rfl (gl_nil (gq_then (gc_ret (gq_body3 rfl rfl rfl rfl ?_))))))
        replace hr297 := hr297.mono (hh11.trans hh12)
        have hkR : k = Rs.length := by omega
        rw [hkR, val_shrM hRf, hRv] at hr299
        obtain ⟨e1, e2⟩ := div_end (X := val xs) (Y := val ys) (s := s) (u := val us) (q := val qs) (by omega) (by rw [← hV, ← hU]; exact hval) (by rw [← hV]; exact hdr)
        rw [e1] at hr297
        rw [e2] at hr299
        rw [if_neg hyne, if_neg hyne]
        exact ⟨_, _, rfl, hr297, hr299⟩

end Go.Proofs.Ytimoeckkdodogaa
