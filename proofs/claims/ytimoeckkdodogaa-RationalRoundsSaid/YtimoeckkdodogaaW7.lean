/- Contracts of functions, walked by their text (nat7/b). -/
import Derived.Test.YtimoeckkdodogaaW6
namespace Go.Proofs.Ytimoeckkdodogaa
open Bk Go
set_option linter.unusedVariables false
set_option linter.unusedSimpArgs false
set_option maxRecDepth 10000

theorem ref_minus {w0 : World} {h0 : Mem}  (hs : MLe h0 (mem w0)) {v v' : Value} {X Y : Nat} (hv : Us .u32 h0 v (limbs X)) (hv' : Us .u32 h0 v' (limbs Y)) (hle : Y ≤ X) (hl : (limbs X).length ≤ 1099511627776) :
    Calls Try.prog 117 #[v, v'] w0 (Ret w0 h0 (fun h r => Us .u32 h r (limbs (X - Y)))) := by
 have hlm := limbs_len_mono hle
 refine calls_begin (n := 50) (e := [(0, v), (1, v')]) (vs := [v, v']) Try.func117 rfl rfl (Nat.le_of_ble_eq_true rfl) hs ⟨rfl, rfl, trivial⟩ (gc_seq (gc_region (asg rfl rfl (gl_nil (gq_then (gc_seq (gc_region (mv rfl rfl (gv (ov_len_us Try.underlying22 rfl hv) rfl (gl_make_us (kd := .u32) (by' := 4) _ Try.underlying22 info61 rfl rfl rfl rfl rfl rfl rfl (by omega) (by omega) rfl ?_))))))))))
 intro v12
 refine asg rfl rfl (gl_nil (gq_then (gc_seq (gc_region (asg (v := vU .u64 0) rfl rfl (gl_nil (gq_then (gc_seq (gc_seq (gc_region (asg (v := vI (0)) rfl rfl (gl_nil (gq_then ?_)))))))))))))
 refine gc_block ?_
 refine gc_loop (ι := List Nat × Nat) (fun (x_ : (List Nat × Nat)) => match x_ with | (ss, c) => ss.length ≤ (limbs X).length ∧ Fit ss ∧ c ≤ 1 ∧ val ss + val ((limbs Y).take ss.length) = val ((limbs X).take ss.length) + 4294967296 ^ ss.length * c) (fun (x_ : (List Nat × Nat)) => match x_ with | (ss, c) => [(0, v), (1, v'), (5, v12), (6, vU .u64 c), (7, vI ↑ss.length)]) (fun (x_ : (List Nat × Nat)) => match x_ with | (ss, c) => [.us 61 .u32 v12 (fillTo ss (limbs X).length)]) (fun (x_ : (List Nat × Nat)) => match x_ with | (ss, c) => h0) (fun (x_ : (List Nat × Nat)) => match x_ with | (ss, c) => (limbs X).length - ss.length) ([], 0) ?_ ⟨rfl, rfl, rfl, rfl, rfl, trivial⟩ rfl rfl ?_
 ·
  exact ⟨by simp, fun x hx => by simp at hx, by omega, by simp [val]⟩
 ·
  intro x hx
  obtain ⟨ss, c⟩ := x
  obtain ⟨hss, hfs, hc1, hval⟩ := hx
  show GC _ _ _ _ _ _ [(0, v), (1, v'), (5, v12), (6, vU .u64 c), (7, vI ↑ss.length)] [.us 61 .u32 v12 (fillTo ss (limbs X).length)] h0
  have hx1 := hv.get32 ss.length
  have hx2 := hv'.get32 ss.length
  refine gc_seq (gc_seq (gc_region (mv rfl rfl (mv rfl rfl (gv (ov_len_us Try.underlying22 rfl hv) rfl (gv (ov_lss_i rfl rfl) rfl (gl_nil (gq_then ?_))))))))
  refine gc_cond rfl (fun hc16 => ?_) (fun hc16 => ?_)
  ·
   refine gc_skip (gq_then (gc_seq (gc_block (gc_seq (gc_region (mv rfl rfl (asg rfl rfl (gl_nil (gq_then ?_)))))))))
   refine gc_cut (ι := Unit) (fun (_u : (Unit)) => True) (fun (_u : (Unit)) => [(0, v), (1, v'), (5, v12), (7, vI ↑ss.length), (8, vU .u64 (c + (limbs Y).getD ss.length 0))]) (fun (_u : (Unit)) => [.us 61 .u32 v12 (fillTo ss (limbs X).length)]) (fun (_u : (Unit)) => h0) ?_ ?_
   ·
    refine gc_seq (gc_region (mv rfl rfl (mv rfl rfl (gv (ov_len_us Try.underlying22 rfl hv') rfl (gv (ov_lss_i rfl rfl) rfl (gl_nil (gq_then ?_)))))))
    refine gc_cond rfl (fun hc23 => ?_) (fun hc23 => ?_)
    ·
     refine gc_keep (e' := [(0, _), (1, _), (5, _), (7, _), (8, _)]) ⟨rfl, rfl, rfl, rfl, rfl, trivial⟩ (gc_region (mv rfl rfl (mv rfl rfl (mv rfl rfl (gv (ov_index_us (ss.length) Try.underlying22 Try.sizeOf61 rfl rfl hv' (by omega) (by omega)) rfl (gv (ov_load_us Try.isAgg61 rfl hv' (by omega)) rfl (gv (ov_conv_u (k := .u32) (k' := .u64) (W := 18446744073709551616) Try.underlying61 Try.underlying75 rfl rfl rfl (by omega)) rfl (gv (ov_add_u (k := .u64) (W := 18446744073709551616) rfl rfl rfl rfl (by omega)) rfl (asg rfl rfl (gl_nil ?_))))))))))
     refine gq_cut (()) ?_ ⟨?_, ?_, ?_, ?_, ?_, trivial⟩ ?_ rfl
     ·
      trivial
     · exact rfl
     · exact rfl
     · exact rfl
     · exact rfl
     · exact rfl
     · exact rfl
    ·
     refine gc_keep (e' := [(0, _), (1, _), (5, _), (7, _), (8, _)]) ⟨rfl, rfl, rfl, rfl, rfl, trivial⟩ (gc_skip ?_)
     refine gq_cut (()) ?_ ⟨?_, ?_, ?_, ?_, ?_, trivial⟩ ?_ rfl
     ·
      trivial
     · exact rfl
     · exact rfl
     · exact rfl
     · exact rfl
     · exact congrArg some (congrArg (vU .u64) (by rw [getD_out (xs := limbs Y) (by omega)]; omega))
     · exact rfl
   ·
    intro _u hx
    obtain hcut := hx
    show GC _ _ _ _ _ _ [(0, v), (1, v'), (5, v12), (7, vI ↑ss.length), (8, vU .u64 (c + (limbs Y).getD ss.length 0))] [.us 61 .u32 v12 (fillTo ss (limbs X).length)] h0
    refine gc_seq (gc_region (mv rfl rfl (mv rfl rfl (gv (ov_index_us (ss.length) Try.underlying22 Try.sizeOf61 rfl rfl hv (by omega) (by omega)) rfl (gv (ov_load_us Try.isAgg61 rfl hv (by omega)) rfl (gv (ov_conv_u (k := .u32) (k' := .u64) (W := 18446744073709551616) Try.underlying61 Try.underlying75 rfl rfl rfl (by omega)) rfl (asg rfl rfl (gl_nil (gq_then (gc_seq (gc_region (asg (v := vU .u64 0) rfl rfl (gl_nil ?_)))))))))))))
    refine gq_then ?_
    refine gc_cut (ι := Nat) (fun (d : (Nat)) => d ≤ 1 ∧ c + (limbs Y).getD ss.length 0 ≤ (limbs X).getD ss.length 0 + 4294967296 * d ∧ (limbs X).getD ss.length 0 + 4294967296 * d < c + (limbs Y).getD ss.length 0 + 4294967296) (fun (d : (Nat)) => [(0, v), (1, v'), (5, v12), (6, vU .u64 d), (7, vI ↑ss.length), (8, vU .u64 (c + (limbs Y).getD ss.length 0)), (9, vU .u64 ((limbs X).getD ss.length 0 + 4294967296 * d))]) (fun (d : (Nat)) => [.us 61 .u32 v12 (fillTo ss (limbs X).length)]) (fun (d : (Nat)) => h0) ?_ ?_
    ·
     refine gc_seq (gc_region (mv rfl rfl (mv rfl rfl (gv (ov_lss_u (k := .u64) rfl rfl) rfl (gl_nil (gq_then ?_))))))
     refine gc_cond rfl (fun hc38 => ?_) (fun hc38 => ?_)
     ·
      refine gc_seq (gc_region (mv rfl rfl (gv (ov_add_u (k := .u64) (q := 4294967296) (W := 18446744073709551616) rfl rfl rfl rfl (by omega)) rfl (asg rfl rfl (gl_nil (gq_keep (e' := [(0, _), (1, _), (5, _), (7, _), (8, _), (9, _)]) ⟨rfl, rfl, rfl, rfl, rfl, rfl, trivial⟩ (gq_then (gc_region (asg (v := vU .u64 1) rfl rfl (gl_nil ?_))))))))))
      refine gq_cut (1) ?_ ⟨?_, ?_, ?_, ?_, ?_, ?_, ?_, trivial⟩ ?_ rfl
      ·
       exact ⟨by omega, by omega, by omega⟩
      · exact rfl
      · exact rfl
      · exact rfl
      · exact rfl
      · exact rfl
      · exact rfl
      · exact rfl
      · exact rfl
     ·
      refine gc_skip ?_
      refine gq_cut (0) ?_ ⟨?_, ?_, ?_, ?_, ?_, ?_, ?_, trivial⟩ ?_ rfl
      ·
       exact ⟨by omega, by omega, by omega⟩
      · exact rfl
      · exact rfl
      · exact rfl
      · exact rfl
      · exact rfl
      · exact rfl
      · exact rfl
      · exact rfl
    ·
     intro d hx
     obtain ⟨hd1, hd2, hd3⟩ := hx
     show GC _ _ _ _ _ _ [(0, v), (1, v'), (5, v12), (6, vU .u64 d), (7, vI ↑ss.length), (8, vU .u64 (c + (limbs Y).getD ss.length 0)), (9, vU .u64 ((limbs X).getD ss.length 0 + 4294967296 * d))] [.us 61 .u32 v12 (fillTo ss (limbs X).length)] h0
     refine gc_region (mv rfl rfl (mv rfl rfl (mv rfl rfl (mv rfl rfl (gv (ov_sub_u (k := .u64) (W := 18446744073709551616) rfl rfl rfl rfl (by omega) (by omega)) rfl (gv (ov_conv_u (k := .u64) (k' := .u32) (W := 4294967296) Try.underlying75 Try.underlying61 rfl rfl rfl (by omega)) rfl (gv (ov_index_ous (A := []) (ss.length) Try.underlying22 Try.sizeOf61 rfl rfl (by omega) (by rw [length_fillTo (by omega)]; omega)) rfl (gl_store_ous0 Try.sizeOf61 rfl rfl (by rw [length_fillTo (by omega)]; omega) (gl_nil (gq_in (gq_then (gc_region (mv rfl rfl ?_)))))))))))))
     refine gv (ov_add_i (q := 1) rfl rfl (by omega) (by omega)) rfl (asg rfl rfl (gl_nil ?_))
     generalize hXi : (limbs X).getD ss.length 0 = p at *
     generalize hYi : (limbs Y).getD ss.length 0 = q at *
     refine gq_round (ss ++ [p + 4294967296 * d - (c + q)], d) ?_ ?_ ⟨?_, ?_, ?_, ?_, ?_, trivial⟩ ?_ rfl
     ·
      refine ⟨by simp; omega, fit_append hfs (fit_one (by omega)), hd1, ?_⟩
      rw [List.length_append, List.length_singleton, val_take_getD, val_take_getD, hXi, hYi, val_snoc, Nat.pow_succ]
      have e : p + 4294967296 * d - (c + q) + c + q = p + 4294967296 * d := by omega
      generalize p + 4294967296 * d - (c + q) = r at *
      grind
     ·
      dsimp only
      simp; omega
     · exact rfl
     · exact rfl
     · exact rfl
     · exact rfl
     · exact congrArg some (congrArg vI (by simp))
     ·
      try dsimp only [List.nil_append, List.cons_append]
      rw [fillTo_set (by omega)]
  ·
   refine gc_exit (gx_then (gx_then (gx_here (gq_then (gc_seq (gc_region (mv rfl rfl ?_)))))))
   have hk : ss.length = (limbs X).length := by omega
   rw [fillTo_full hk]
   refine gl_freeze_us0 (by exact hfs) ?_
   intro h1 hh1 ho
   refine gl_call (vs := [_]) rfl rfl rfl rfl Try.call81 ⟨rfl, trivial⟩ (fun w hs => ref_trim hs ho (by omega)) ?_
   intro v49 h2 hh2 hr49
   refine asg rfl rfl (gl_nil (gq_keep (e' := [(4, _)]) ⟨rfl, trivial⟩ (gq_then (gc_ret (gq_body1 rfl rfl ?_)))))
   have hk : ss.length = (limbs X).length := by omega
   rw [val_take_all (by omega), val_take_all (by omega), val_limbs, val_limbs] at hval
   have h1 := val_lt hfs
   have h2 : c = 0 := Classical.byContradiction fun hne => by
     have : c = 1 := by omega
     subst this
     omega
   subst h2
   have e : val ss = X - Y := by omega
   rw [e] at hr49
   exact hr49

theorem ref_mul {w0 : World} {h0 : Mem}  (hs : MLe h0 (mem w0)) {v v' : Value} {xs ys : List Nat} (hv : Us .u32 h0 v xs) (hv' : Us .u32 h0 v' ys) (hl : xs.length ≤ 1099511627776) (hl' : ys.length ≤ 1099511627776) :
    Calls Try.prog 73 #[v, v'] w0 (Ret w0 h0 (fun h r => Us .u32 h r (limbs (val xs * val ys)))) := by
 have hfx : Fit xs := hv.lt
 have hfy : Fit ys := hv'.lt
 refine calls_begin (n := 67) (e := [(0, v), (1, v')]) (vs := [v, v']) Try.func73 rfl rfl (Nat.le_of_ble_eq_true rfl) hs ⟨rfl, rfl, trivial⟩ (gc_seq (gc_region (asg rfl rfl (gl_nil (gq_then (gc_seq (gc_region (mv rfl rfl (gv (ov_len_us Try.underlying22 rfl hv) rfl (mv rfl rfl (gv (ov_len_us Try.underlying22 rfl hv') rfl (gv (ov_add_i rfl rfl (by omega) (by omega)) rfl (gl_make_us (kd := .u32) (by' := 4) (xs.length + ys.length) Try.underlying22 info61 rfl rfl rfl rfl rfl (by omega) (by omega) (by omega) (by omega) rfl ?_)))))))))))))
 intro v14
 refine asg rfl rfl (gl_nil (gq_then (gc_seq (gc_seq (gc_region (asg (v := vI (0)) rfl rfl (gl_nil (gq_then (gc_block ?_)))))))))
 refine gc_loop (ι := Nat × List Nat) (fun (x_ : (Nat × List Nat)) => match x_ with | (k, os) => k ≤ xs.length ∧ os.length = xs.length + ys.length ∧ Fit os ∧ val os = val (xs.take k) * val ys ∧ ∀ i, k + ys.length ≤ i → os.getD i 0 = 0) (fun (x_ : (Nat × List Nat)) => match x_ with | (k, os) => [(0, v), (1, v'), (5, v14), (6, vI ↑k)]) (fun (x_ : (Nat × List Nat)) => match x_ with | (k, os) => [.us 61 .u32 v14 os]) (fun (x_ : (Nat × List Nat)) => match x_ with | (k, os) => h0) (fun (x_ : (Nat × List Nat)) => match x_ with | (k, os) => xs.length - k) (0, List.replicate (xs.length + ys.length) 0) ?_ ⟨rfl, rfl, rfl, rfl, trivial⟩ rfl rfl ?_
 ·
  exact ⟨Nat.zero_le _, by simp, fit_replicate _, by rw [val_replicate]; simp [val], fun i _ => getD_replicate _ _⟩
 ·
  intro x hx
  obtain ⟨k, os⟩ := x
  obtain ⟨hk, hos, hfo, hval, hz⟩ := hx
  show GC _ _ _ _ _ _ [(0, v), (1, v'), (5, v14), (6, vI ↑k)] [.us 61 .u32 v14 os] h0
  refine gc_seq (gc_seq (gc_region (mv rfl rfl (mv rfl rfl (gv (ov_len_us Try.underlying22 rfl hv) rfl (gv (ov_lss_i rfl rfl) rfl (gl_nil (gq_then ?_))))))))
  refine gc_cond rfl (fun hc18 => ?_) (fun hc18 => ?_)
  ·
   refine gc_skip (gq_then (gc_seq (gc_block (gc_seq (gc_region (asg (v := vU .u64 0) rfl rfl (gl_nil (gq_then (gc_seq (gc_seq (gc_region (asg (v := vI (0)) rfl rfl (gl_nil ?_)))))))))))))
   refine gq_then (gc_block ?_)
   refine gc_loop (ι := Nat × List Nat × Nat) (fun (x_ : (Nat × List Nat × Nat)) => match x_ with | (j, ts, c) => j ≤ ys.length ∧ ts.length = xs.length + ys.length ∧ Fit ts ∧ c < 4294967296 ∧ val ts + 4294967296 ^ (k + j) * c = val os + 4294967296 ^ k * (xs.getD k 0 * val (ys.take j)) ∧ ∀ i, k + ys.length ≤ i → ts.getD i 0 = 0) (fun (x_ : (Nat × List Nat × Nat)) => match x_ with | (j, ts, c) => [(0, v), (1, v'), (5, v14), (6, vI ↑k), (7, vU .u64 c), (8, vI ↑j)]) (fun (x_ : (Nat × List Nat × Nat)) => match x_ with | (j, ts, c) => [.us 61 .u32 v14 ts]) (fun (x_ : (Nat × List Nat × Nat)) => match x_ with | (j, ts, c) => h0) (fun (x_ : (Nat × List Nat × Nat)) => match x_ with | (j, ts, c) => ys.length - j) (0, os, 0) ?_ ⟨rfl, rfl, rfl, rfl, rfl, rfl, trivial⟩ rfl rfl ?_
   ·
    exact ⟨Nat.zero_le _, hos, hfo, by omega, by simp [val], hz⟩
   ·
    intro x hx
    obtain ⟨j, ts, c⟩ := x
    obtain ⟨hj, hts, hft, hcb, htv, htz⟩ := hx
    show GC _ _ _ _ _ _ [(0, v), (1, v'), (5, v14), (6, vI ↑k), (7, vU .u64 c), (8, vI ↑j)] [.us 61 .u32 v14 ts] h0
    have hx1 := hv.get32 k
    have hx2 := hv'.get32 j
    have hx3 := fit_get hft (k + j)
    have hxy : xs.getD k 0 * ys.getD j 0 ≤ 4294967295 * 4294967295 := Nat.mul_le_mul (by omega) (by omega)
    refine gc_seq (gc_seq (gc_region (mv rfl rfl (mv rfl rfl (gv (ov_len_us Try.underlying22 rfl hv') rfl (gv (ov_lss_i rfl rfl) rfl (gl_nil (gq_then ?_))))))))
    refine gc_cond rfl (fun hc24 => ?_) (fun hc24 => ?_)
    ·
     refine gc_skip (gq_then (gc_seq (gc_block (gc_seq ?_))))
     refine gc_draw 22 _ [] [(0, .q), (1, .q), (2, .q), (3, .q), (4, .q), (5, .q), (6, .q), (7, .q), (8, .q), (9, .q), (10, .q), (11, .q), (12, .q), (13, .q), (14, .q), (15, .q), (16, .q), (17, .q), (18, .q), (19, .q), (20, .q), (21, .q)] mixed (fun x hx => by cases hx) (by kernel_rfl) (fun x hx => by cases hx) (fun r hr => hr) (w_q rfl (fun h' L' hh hR => ov_move rfl) rfl (w_q rfl (fun h' L' hh hR => ov_move rfl) rfl (w_q rfl (fun h' L' hh hR => ov_move rfl) rfl (w_q rfl (fun h' L' hh hR => ov_index_us (k) Try.underlying22 Try.sizeOf61 rfl rfl (hv.mono hh) (by omega) (by omega)) rfl (w_q rfl (fun h' L' hh hR => ov_load_us Try.isAgg61 rfl (hv.mono hh) (by omega)) rfl (w_q rfl (fun h' L' hh hR => ov_conv_u (k := .u32) (k' := .u64) (W := 18446744073709551616) Try.underlying61 Try.underlying75 rfl rfl rfl (by omega)) rfl (w_q rfl (fun h' L' hh hR => ov_move rfl) rfl (w_q rfl (fun h' L' hh hR => ov_move rfl) rfl (w_q rfl (fun h' L' hh hR => ov_index_us (j) Try.underlying22 Try.sizeOf61 rfl rfl (hv'.mono hh) (by omega) (by omega)) rfl (w_q rfl (fun h' L' hh hR => ov_load_us Try.isAgg61 rfl (hv'.mono hh) (by omega)) rfl (w_q rfl (fun h' L' hh hR => ov_conv_u (k := .u32) (k' := .u64) (W := 18446744073709551616) Try.underlying61 Try.underlying75 rfl rfl rfl (by omega)) rfl (w_q rfl (fun h' L' hh hR => ov_mul_u (k := .u64) (W := 18446744073709551616) rfl rfl rfl rfl (by omega)) rfl (w_q rfl (fun h' L' hh hR => ov_move rfl) rfl ?_)))))))))))))
     refine w_q rfl (fun h' L' hh hR => ov_move rfl) rfl (w_q rfl (fun h' L' hh hR => ov_move rfl) rfl (w_q rfl (fun h' L' hh hR => ov_add_i rfl rfl (by omega) (by omega)) rfl (w_q rfl (fun h' L' hh hR => ov_index_ousM (hR _ (.head _)) (k + j) Try.underlying22 Try.sizeOf61 rfl rfl (by omega) (by omega)) rfl (w_q rfl (fun h' L' hh hR => ov_load_ousM (hR _ (.head _)) Try.isAgg61 rfl (by omega)) rfl (w_q rfl (fun h' L' hh hR => ov_conv_u (k := .u32) (k' := .u64) (W := 18446744073709551616) Try.underlying61 Try.underlying75 rfl rfl rfl (by omega)) rfl (w_q rfl (fun h' L' hh hR => ov_add_u (k := .u64) (W := 18446744073709551616) rfl rfl rfl rfl (by omega)) rfl (w_q rfl (fun h' L' hh hR => ov_add_u (k := .u64) (W := 18446744073709551616) rfl rfl rfl rfl (by omega)) rfl (w_q rfl (fun h' L' hh hR => ov_assign rfl) rfl (w_nil (gq_keep (e' := [(0, _), (1, _), (5, _), (6, _), (8, _), (7, _)]) ⟨rfl, rfl, rfl, rfl, rfl, rfl, trivial⟩ (gq_then (gc_seq (gc_region ?_)))))))))))))
     refine mv rfl rfl (mv rfl rfl (mv rfl rfl (gv (ov_add_i rfl rfl (by omega) (by omega)) rfl (mv rfl rfl (gv (ov_conv_uu (k := .u64) (k' := .u32) (W := 4294967296) Try.underlying75 Try.underlying61 rfl rfl rfl) rfl (gv (ov_index_ous (A := []) (k + j) Try.underlying22 Try.sizeOf61 rfl rfl (by omega) (by omega)) rfl (gl_store_ous0 Try.sizeOf61 rfl rfl (by omega) (gl_nil (gq_then (gc_region (mv rfl rfl (gv (ov_shr_u (k := .u64) (s := 32) (yk := .u64) rfl rfl rfl (by simp only [ub]; omega)) rfl (asg rfl rfl ?_)))))))))))))
     refine gl_nil (gq_in (gq_then (gc_region (mv rfl rfl (gv (ov_add_i (q := 1) rfl rfl (by omega) (by omega)) rfl (asg rfl rfl (gl_nil ?_)))))))
     refine gq_round (j + 1, ts.set (k + j) ((c + (xs.getD k 0 * ys.getD j 0 + ts.getD (k + j) 0)) % 4294967296), (c + (xs.getD k 0 * ys.getD j 0 + ts.getD (k + j) 0)) / 2 ^ 32) ?_ ?_ ⟨?_, ?_, ?_, ?_, ?_, ?_, trivial⟩ ?_ rfl
     ·
      refine ⟨by omega, by simp [hts], fit_set hft _ (by omega), by omega, ?_, fun i hi => ?_⟩
      · have h1 := val_set (xs := ts) (i := k + j) (by omega) ((c + (xs.getD k 0 * ys.getD j 0 + ts.getD (k + j) 0)) % 4294967296)
        have e := Nat.div_add_mod (c + (xs.getD k 0 * ys.getD j 0 + ts.getD (k + j) 0)) 4294967296
        have e2 : (2 : Nat) ^ 32 = 4294967296 := rfl
        rw [val_take_succ ys j (by omega), e2]
        have ep : (4294967296 : Nat) ^ (k + (j + 1)) = 4294967296 ^ k * 4294967296 ^ j * 4294967296 := by rw [← Nat.add_assoc, Nat.pow_succ, Nat.pow_add]
        rw [ep]
        rw [Nat.pow_add] at h1 htv
        generalize (c + (xs.getD k 0 * ys.getD j 0 + ts.getD (k + j) 0)) / 4294967296 = q at *
        generalize (c + (xs.getD k 0 * ys.getD j 0 + ts.getD (k + j) 0)) % 4294967296 = r at *
        grind
      · rw [getD_set_other (by omega)]; exact htz i hi
     ·
      dsimp only
      omega
     · exact rfl
     · exact rfl
     · exact rfl
     · exact rfl
     · exact rfl
     · exact rfl
     · exact rfl
    ·
     refine gc_exit (gx_then (gx_then (gx_here (gq_then (gc_region (mv rfl rfl (mv rfl rfl (mv rfl rfl (gv (ov_len_us Try.underlying22 rfl hv') rfl (gv (ov_add_i rfl rfl (by omega) (by omega)) rfl (mv rfl rfl (gv (ov_conv_uu (k := .u64) (k' := .u32) (W := 4294967296) Try.underlying75 Try.underlying61 rfl rfl rfl) rfl (gv (ov_index_ous (A := []) (k + ys.length) Try.underlying22 Try.sizeOf61 rfl rfl (by omega) (by omega)) rfl ?_)))))))))))))
     refine gl_store_ous0 Try.sizeOf61 rfl rfl (by omega) (gl_nil (gq_in (gq_keep (e' := [(0, _), (1, _), (5, _), (6, _)]) ⟨rfl, rfl, rfl, rfl, trivial⟩ (gq_then (gc_region (mv rfl rfl (gv (ov_add_i (q := 1) rfl rfl (by omega) (by omega)) rfl (asg rfl rfl (gl_nil ?_)))))))))
     refine gq_round (k + 1, ts.set (k + ys.length) (c % 4294967296)) ?_ ?_ ⟨?_, ?_, ?_, ?_, trivial⟩ ?_ rfl
     ·
      have hj : j = ys.length := by omega
      subst hj
      refine ⟨by omega, by simp [hts], fit_set hft _ (by omega), ?_, fun i hi => ?_⟩
      · have h1 := val_set (xs := ts) (i := k + ys.length) (by omega) (c % 4294967296)
        rw [htz _ (Nat.le_refl _)] at h1
        rw [val_take_all (Nat.le_refl _)] at htv
        rw [Nat.mod_eq_of_lt hcb] at h1 ⊢
        rw [val_take_succ xs k (by omega)]
        grind
      · rw [getD_set_other (by omega)]; exact htz i (by omega)
     ·
      dsimp only
      omega
     · exact rfl
     · exact rfl
     · exact rfl
     · exact rfl
     · exact rfl
  ·
   refine gc_exit (gx_then (gx_then (gx_here (gq_then (gc_seq (gc_region (mv rfl rfl (gl_freeze_us0 (by exact hfo) ?_))))))))
   intro h1 hh1 ho
   refine gl_call (vs := [_]) rfl rfl rfl rfl Try.call81 ⟨rfl, trivial⟩ (fun w hs => ref_trim hs ho (by omega)) ?_
   intro v66 h2 hh2 hr66
   refine asg rfl rfl (gl_nil (gq_keep (e' := [(4, _)]) ⟨rfl, trivial⟩ (gq_then (gc_ret (gq_body1 rfl rfl ?_)))))
   rw [hval, val_take_all (by omega)] at hr66
   exact hr66

theorem ref_times {w0 : World} {h0 : Mem}  (hs : MLe h0 (mem w0)) {v : Value} {X d : Nat} (hv : Us .u32 h0 v (limbs X)) (hd : d < 4294967296) (hl : (limbs X).length ≤ 1099511627776) :
    Calls Try.prog 116 #[v, vU .u32 d] w0 (Ret w0 h0 (fun h r => Us .u32 h r (limbs (X * d)))) := by
 refine calls_begin (n := 10) (e := [(0, v), (1, vU .u32 d)]) (vs := [v, vU .u32 d]) Try.func116 rfl rfl (Nat.le_of_ble_eq_true rfl) hs ⟨rfl, rfl, trivial⟩ (gc_seq (gc_region (asg rfl rfl (gl_nil (gq_then (gc_seq (gc_region (mv rfl rfl (mv rfl rfl (gv (ov_conv_u (k := .u32) (k' := .u64) (W := 18446744073709551616) Try.underlying61 Try.underlying75 rfl rfl rfl (by omega)) rfl ?_))))))))))
 refine gl_call (vs := [_]) rfl rfl rfl rfl Try.call110 ⟨rfl, trivial⟩ (fun w hs => ref_of hs (by omega)) ?_
 intro v8 h1 hh1 hr8
 have hdl := limbs_len_word (n := d) (by omega)
 replace hv := hv.mono hh1
 refine gl_call (vs := [_, _]) rfl rfl rfl rfl Try.call73 ⟨rfl, rfl, trivial⟩ (fun w hs => ref_mul hs hv hr8 (by omega) (by omega)) ?_
 intro v9 h2 hh2 hr9
 simp only [val_limbs] at hr9
 refine asg rfl rfl (gl_nil (gq_then (gc_ret (gq_body1 rfl rfl ?_))))
 exact hr9

end Go.Proofs.Ytimoeckkdodogaa
