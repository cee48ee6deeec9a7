/- Contracts of functions, walked by their text (nat9/b). -/
import Derived.Test.YtimoeckkdodogaaW8
namespace Go.Proofs.Ytimoeckkdodogaa
open Bk Go
set_option linter.unusedVariables false
set_option linter.unusedSimpArgs false
set_option maxRecDepth 10000

theorem ref_bylimb {w0 : World} {h0 : Mem}  (hs : MLe h0 (mem w0)) {v : Value} {xs : List Nat} {b : Nat} (hv : Us .u32 h0 v xs) (hb : 0 < b) (hb' : b < 4294967296) (hl : xs.length ≤ 1099511627776) :
    Calls Try.prog 108 #[v, vU .u32 b] w0 (Ret w0 h0 (fun h r => ∃ u, r = .tuple #[u, vU .u32 (val xs % b)] ∧ Us .u32 h u (limbs (val xs / b)))) := by
 have hf : Fit xs := hv.lt
 refine calls_begin (n := 43) (e := [(0, v), (1, vU .u32 b)]) (vs := [v, vU .u32 b]) Try.func108 rfl rfl (Nat.le_of_ble_eq_true rfl) hs ⟨rfl, rfl, trivial⟩ (gc_seq (gc_region (asg rfl rfl (asg (v := vU .u32 0) rfl rfl (gl_nil (gq_then (gc_seq (gc_region (mv rfl rfl (gv (ov_len_us Try.underlying22 rfl hv) rfl (gl_make_us (kd := .u32) (by' := 4) _ Try.underlying22 info61 rfl rfl rfl rfl rfl rfl rfl (by omega) (by omega) rfl ?_)))))))))))
 intro v11
 refine asg rfl rfl (gl_nil (gq_then (gc_seq (gc_region (asg (v := vU .u64 0) rfl rfl (gl_nil (gq_then (gc_seq (gc_seq (gc_region (mv rfl rfl (gv (ov_len_us Try.underlying22 rfl hv) rfl (gv (ov_sub_i (q := 1) rfl rfl (by omega) (by omega)) rfl ?_)))))))))))))
 refine asg rfl rfl (gl_nil (gq_then (gc_block ?_)))
 refine gc_loop (ι := Nat × List Nat × Nat) (fun (x_ : (Nat × List Nat × Nat)) => match x_ with | (j, qs, r) => j ≤ xs.length ∧ qs.length = xs.length - j ∧ Fit qs ∧ r < b ∧ val (xs.drop j) = b * val qs + r) (fun (x_ : (Nat × List Nat × Nat)) => match x_ with | (j, qs, r) => [(0, v), (1, vU .u32 b), (6, v11), (7, vU .u64 r), (8, vI (↑j - 1))]) (fun (x_ : (Nat × List Nat × Nat)) => match x_ with | (j, qs, r) => [.us 61 .u32 v11 (fillDn j qs)]) (fun (x_ : (Nat × List Nat × Nat)) => match x_ with | (j, qs, r) => h0) (fun (x_ : (Nat × List Nat × Nat)) => match x_ with | (j, qs, r) => j) (xs.length, [], 0) ?_ ⟨rfl, rfl, rfl, rfl, rfl, trivial⟩ ?_ rfl ?_
 ·
  exact ⟨Nat.le_refl _, by simp, fun x hx => by simp at hx, hb, by rw [List.drop_of_length_le (Nat.le_refl _)]; rfl⟩
 ·
  try dsimp only [List.nil_append, List.cons_append]
  exact congrArg (fun z => [Res.us 61 .u32 v11 z]) (fillDn_nil _)
 ·
  intro x hx
  obtain ⟨j, qs, r⟩ := x
  obtain ⟨hj, hql, hfq, hr, hval⟩ := hx
  show GC _ _ _ _ _ _ [(0, v), (1, vU .u32 b), (6, v11), (7, vU .u64 r), (8, vI (↑j - 1))] [.us 61 .u32 v11 (fillDn j qs)] h0
  refine gc_seq (gc_seq (gc_region (mv rfl rfl (gv (ov_geq_i (q := 0) rfl rfl) rfl (gl_nil (gq_then ?_))))))
  refine gc_cond rfl (fun hc16 => ?_) (fun hc16 => ?_)
  ·
   refine gc_skip (gq_then (gc_seq (gc_block (gc_seq (gc_region (mv rfl rfl (gv (ov_shl_u (k := .u64) (s := 32) (yk := .u64) (W := 18446744073709551616) rfl rfl rfl rfl) rfl (mv rfl rfl (mv rfl rfl (gv (ov_index_us (j - 1) Try.underlying22 Try.sizeOf61 rfl rfl hv (by omega) (by omega)) rfl (gv (ov_load_us Try.isAgg61 rfl hv (by omega)) rfl ?_)))))))))))
   have hx1 := hv.get32 (j - 1)
   refine gv (ov_conv_u (k := .u32) (k' := .u64) (W := 18446744073709551616) Try.underlying61 Try.underlying75 rfl rfl rfl (by omega)) rfl (gv (ov_or_u (k := .u64) rfl rfl rfl (by simp only [ub]; omega) (by simp only [ub]; omega)) rfl ?_)
   rw [or_shift (by omega) hx1]
   generalize ht : r * 4294967296 + xs.getD (j - 1) 0 = t at *
   have hq : t / b < 4294967296 := Nat.div_lt_of_lt_mul (by rw [← ht]; have h1 : (r + 1) * 4294967296 ≤ b * 4294967296 := Nat.mul_le_mul_right _ hr; omega)
   refine asg rfl rfl (gl_nil (gq_keep (e' := [(0, _), (1, _), (6, _), (8, _), (7, _)]) ⟨rfl, rfl, rfl, rfl, rfl, trivial⟩ (gq_then (gc_seq (gc_region (mv rfl rfl (mv rfl rfl (mv rfl rfl (mv rfl rfl (gv (ov_conv_u (k := .u32) (k' := .u64) (W := 18446744073709551616) Try.underlying61 Try.underlying75 rfl rfl rfl (by omega)) rfl (gv (ov_quo_u (k := .u64) (W := 18446744073709551616) rfl rfl rfl rfl (by omega) (by omega)) rfl (gv (ov_conv_u (k := .u64) (k' := .u32) (W := 4294967296) Try.underlying75 Try.underlying61 rfl rfl rfl (by omega)) rfl (gv (ov_index_ous (A := []) (j - 1) Try.underlying22 Try.sizeOf61 rfl rfl (by omega) (by rw [length_fillDn]; omega)) rfl ?_)))))))))))))
   refine gl_store_ous0 Try.sizeOf61 rfl rfl (by rw [length_fillDn]; omega) (gl_nil (gq_then (gc_region (mv rfl rfl (mv rfl rfl (gv (ov_conv_u (k := .u32) (k' := .u64) (W := 18446744073709551616) Try.underlying61 Try.underlying75 rfl rfl rfl (by omega)) rfl (gv (ov_rem_u (k := .u64) rfl rfl (by omega)) rfl (asg rfl rfl (gl_nil (gq_in (gq_keep (e' := [(0, _), (1, _), (6, _), (8, _), (7, _)]) ⟨rfl, rfl, rfl, rfl, rfl, trivial⟩ (gq_then (gc_region ?_)))))))))))))
   refine mv rfl rfl (gv (ov_sub_i (q := 1) rfl rfl (by omega) (by omega)) rfl (asg rfl rfl (gl_nil ?_)))
   refine gq_round (j - 1, t / b :: qs, t % b) ?_ ?_ ⟨?_, ?_, ?_, ?_, ?_, trivial⟩ ?_ rfl
   ·
    refine ⟨by omega, by simp only [List.length_cons]; omega, fit_cons.2 ⟨hq, hfq⟩, Nat.mod_lt _ hb, ?_⟩
    rw [val_drop xs (j - 1) (by omega), show j - 1 + 1 = j by omega, val]
    exact small_step hval ht.symm rfl rfl
   ·
    dsimp only
    omega
   · exact rfl
   · exact rfl
   · exact rfl
   · exact rfl
   · exact congrArg some (congrArg vI (by omega))
   ·
    try dsimp only [List.nil_append, List.cons_append]
    rw [fillDn_set (by omega)]
  ·
   refine gc_exit (gx_then (gx_then (gx_here (gq_then (gc_seq (gc_region (mv rfl rfl ?_)))))))
   have hj0 : j = 0 := by omega
   subst hj0
   rw [fillDn_zero]
   refine gl_freeze_us0 (by exact hfq) ?_
   intro h1 hh1 ho
   refine gl_call (vs := [_]) rfl rfl rfl rfl Try.call81 ⟨rfl, trivial⟩ (fun w hs => ref_trim hs ho (by omega)) ?_
   intro v40 h2 hh2 hr40
   refine mv rfl rfl (gv (ov_conv_u (k := .u64) (k' := .u32) (W := 4294967296) Try.underlying75 Try.underlying61 rfl rfl rfl (by omega)) rfl (asg rfl rfl (asg rfl rfl (gl_nil (gq_keep (e' := [(4, _), (5, _)]) ⟨rfl, rfl, trivial⟩ (gq_then (gc_ret (gq_body2 rfl rfl rfl ?_))))))))
   simp only [List.drop_zero] at hval
   have e1 : val xs / b = val qs := by rw [hval, Nat.mul_add_div hb, Nat.div_eq_of_lt hr]; omega
   have e2 : val xs % b = r := by rw [hval, Nat.mul_add_mod, Nat.mod_eq_of_lt hr]
   rw [e1, e2]
   exact ⟨_, rfl, hr40⟩

end Go.Proofs.Ytimoeckkdodogaa
