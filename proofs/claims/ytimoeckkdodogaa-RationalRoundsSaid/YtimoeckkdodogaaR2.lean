/- Contracts of functions, walked by their text (rat2/b). -/
import Derived.Test.YtimoeckkdodogaaR1
namespace Go.Proofs.Ytimoeckkdodogaa
open Bk Go
set_option linter.unusedVariables false
set_option linter.unusedSimpArgs false
set_option maxRecDepth 10000

theorem rat_word {w0 : World} {h0 : Mem}  (hs : MLe h0 (mem w0)) {v : Value} {xs : List Nat} (hv : Us .u32 h0 v xs) (hl : xs.length ≤ 2) :
    Calls Try.prog 103 #[v] w0 (Ret w0 h0 (fun _ r => r = vU .u64 (val xs))) := by
 have hf : Fit xs := hv.lt
 refine calls_begin (n := 21) (e := [(0, v)]) (vs := [v]) Try.func103 rfl rfl (Nat.le_of_ble_eq_true rfl) hs ⟨rfl, trivial⟩ (gc_seq (gc_region (asg (v := vU .u64 0) rfl rfl (gl_nil (gq_then (gc_seq (gc_region (asg (v := vU .u64 0) rfl rfl (gl_nil (gq_then (gc_seq (gc_seq (gc_region ?_)))))))))))))
 refine mv rfl rfl (gv (ov_len_us Try.underlying22 rfl hv) rfl (gv (ov_sub_i (q := 1) rfl rfl (by omega) (by omega)) rfl (asg rfl rfl (gl_nil (gq_then (gc_block ?_))))))
 have hd0 : val (xs.drop xs.length) = 0 := by rw [List.drop_of_length_le (Nat.le_refl _)]; rfl
 refine gc_loop (ι := Nat) (fun (j : (Nat)) => j ≤ xs.length) (fun (j : (Nat)) => [(0, v), (3, vU .u64 (val (xs.drop j))), (4, vI (↑j - 1))]) (fun (j : (Nat)) => []) (fun (j : (Nat)) => h0) (fun (j : (Nat)) => j) xs.length ?_ ⟨?_, ?_, ?_, trivial⟩ rfl rfl ?_
 ·
  exact Nat.le_refl _
 · exact rfl
 · exact congrArg some (congrArg (vU .u64) hd0.symm)
 · exact rfl
 ·
  intro j hx
  obtain hj := hx
  show GC _ _ _ _ _ _ [(0, v), (3, vU .u64 (val (xs.drop j))), (4, vI (↑j - 1))] [] h0
  refine gc_seq (gc_seq (gc_region (mv rfl rfl (gv (ov_geq_i (q := 0) rfl rfl) rfl (gl_nil (gq_then ?_))))))
  refine gc_cond rfl (fun hc9 => ?_) (fun hc9 => ?_)
  ·
   refine gc_skip (gq_then (gc_seq (gc_block (gc_region (mv rfl rfl (gv (ov_shl_u (k := .u64) (s := 32) (yk := .u64) (W := 18446744073709551616) rfl rfl rfl rfl) rfl (mv rfl rfl (mv rfl rfl (gv (ov_index_us (j - 1) Try.underlying22 Try.sizeOf61 rfl rfl hv (by omega) (by omega)) rfl (gv (ov_load_us Try.isAgg61 rfl hv (by omega)) rfl ?_))))))))))
   have hx1 := hv.get32 (j - 1)
   refine gv (ov_conv_u (k := .u32) (k' := .u64) (W := 18446744073709551616) Try.underlying61 Try.underlying75 rfl rfl rfl (by omega)) rfl (gv (ov_or_u (k := .u64) rfl rfl rfl (by simp only [ub]; omega) (by simp only [ub]; omega)) rfl ?_)
   rw [or_shift (by
         have h2 := val_lt (fit_drop hf j)
         rw [List.length_drop] at h2
         have h3 : (4294967296 : Nat) ^ (xs.length - j) ≤ 4294967296 ^ 1 := Nat.pow_le_pow_right (by omega) (by omega)
         omega) hx1]
   refine asg rfl rfl (gl_nil (gq_in (gq_keep (e' := [(0, _), (4, _), (3, _)]) ⟨rfl, rfl, rfl, trivial⟩ (gq_then (gc_region (mv rfl rfl (gv (ov_sub_i (q := 1) rfl rfl (by omega) (by omega)) rfl (asg rfl rfl (gl_nil ?_)))))))))
   refine gq_round (j - 1) ?_ ?_ ⟨?_, ?_, ?_, trivial⟩ ?_ rfl
   ·
    omega
   ·
    omega
   · exact rfl
   · 
           rw [val_drop xs (j - 1) (by omega)]
           exact congrArg some (congrArg (vU .u64) (by rw [show j - 1 + 1 = j by omega]; omega))
   · exact congrArg some (congrArg vI (by omega))
   · exact rfl
  ·
   refine gc_exit (gx_then (gx_then (gx_here (gq_then (gc_seq (gc_region (mv rfl rfl (asg rfl rfl (gl_nil (gq_then (gc_ret (gq_body1 rfl rfl ?_))))))))))))
   rw [show j = 0 by omega]; rfl

theorem rat_divisor {w0 : World} {h0 : Mem}  (hs : MLe h0 (mem w0)) {m n : Nat} (hm0 : m < 18446744073709551616) (hn0 : n < 18446744073709551616) :
    Calls Try.prog 121 #[vU .u64 m, vU .u64 n] w0 (Ret w0 h0 (fun _ r => r = vU .u64 (Nat.gcd m n))) := by
 refine calls_begin (n := 12) (e := [(0, vU .u64 m), (1, vU .u64 n)]) (vs := [vU .u64 m, vU .u64 n]) Try.func121 rfl rfl (Nat.le_of_ble_eq_true rfl) hs ⟨rfl, rfl, trivial⟩ (gc_seq (gc_region (asg (v := vU .u64 0) rfl rfl (gl_nil (gq_then (gc_seq (gc_block ?_)))))))
 refine gc_loop (ι := Nat × Nat) (fun (x_ : (Nat × Nat)) => match x_ with | (x, y) => Nat.gcd x y = Nat.gcd m n ∧ x < 18446744073709551616 ∧ y < 18446744073709551616) (fun (x_ : (Nat × Nat)) => match x_ with | (x, y) => [(0, vU .u64 x), (1, vU .u64 y)]) (fun (x_ : (Nat × Nat)) => match x_ with | (x, y) => []) (fun (x_ : (Nat × Nat)) => match x_ with | (x, y) => h0) (fun (x_ : (Nat × Nat)) => match x_ with | (x, y) => y) (m, n) ?_ ⟨rfl, rfl, trivial⟩ rfl rfl ?_
 ·
  exact ⟨rfl, hm0, hn0⟩
 ·
  intro x hx
  obtain ⟨x, y⟩ := x
  obtain ⟨hg3, hm, hn⟩ := hx
  show GC _ _ _ _ _ _ [(0, vU .u64 x), (1, vU .u64 y)] [] h0
  refine gc_seq (gc_seq (gc_region (mv rfl rfl (gv (ov_neq_u (k := .u64) (q := 0) rfl rfl) rfl (gl_nil (gq_then ?_))))))
  refine gc_cond rfl (fun hc6 => ?_) (fun hc6 => ?_)
  ·
   refine gc_skip (gq_then (gc_block ?_))
   refine gc_draw 6 _ [] [(0, .q), (1, .q), (2, .q), (3, .q), (4, .q), (5, .q)] mixed (fun x hx => by cases hx) (by kernel_rfl) (fun x hx => by cases hx) (fun r hr => hr) (w_q rfl (fun h' L' hh hR => ov_move rfl) rfl (w_q rfl (fun h' L' hh hR => ov_move rfl) rfl (w_q rfl (fun h' L' hh hR => ov_move rfl) rfl (w_q rfl (fun h' L' hh hR => ov_rem_u (k := .u64) rfl rfl (by omega)) rfl (w_q rfl (fun h' L' hh hR => ov_assign rfl) rfl (w_q rfl (fun h' L' hh hR => ov_assign rfl) rfl (w_nil (gq_in ?_))))))))
   refine gq_round (y, x % y) ?_ ?_ ⟨?_, ?_, trivial⟩ ?_ rfl
   ·
    have hlt := Nat.mod_lt x (Nat.pos_of_ne_zero hc6)
    exact ⟨by rw [gcd_step]; exact hg3, hn, by omega⟩
   ·
    dsimp only
    exact Nat.mod_lt _ (Nat.pos_of_ne_zero hc6)
   · exact rfl
   · exact rfl
   · exact rfl
  ·
   refine gc_exit (gx_then (gx_then (gx_here (gq_then (gc_seq (gc_region (mv rfl rfl (asg rfl rfl (gl_nil (gq_then (gc_ret (gq_body1 rfl rfl ?_))))))))))))
   have hy0 : y = 0 := Classical.not_not.1 hc6
   rw [hy0, Nat.gcd_zero_right] at hg3
   rw [hg3]

theorem rat_size {w0 : World} {h0 : Mem}  (hs : MLe h0 (mem w0)) {n : Int} (hn : -9223372036854775808 ≤ n) (hn' : n < 9223372036854775808) :
    Calls Try.prog 78 #[vI n] w0 (Ret w0 h0 (fun h r => Us .u32 h r (limbs n.natAbs))) := by
 refine calls_begin (n := 12) (e := [(0, vI n)]) (vs := [vI n]) Try.func78 rfl rfl (Nat.le_of_ble_eq_true rfl) hs ⟨rfl, trivial⟩ (gc_seq (gc_region (asg rfl rfl (gl_nil (gq_then (gc_seq (gc_seq (gc_region (mv rfl rfl (gv (ov_eql_i (q := -9223372036854775808) rfl rfl) rfl (gl_nil (gq_then ?_))))))))))))
 refine gc_cond rfl (fun hc4 => ?_) (fun hc4 => ?_)
 ·
  have hna : n.natAbs = 9223372036854775808 := by omega
  refine gc_seq (gc_region ?_)
  refine gl_call (vs := [vU .u64 9223372036854775808]) rfl rfl rfl rfl Try.call109 ⟨rfl, trivial⟩ (fun w hs => nat_of hs (by omega)) ?_
  intro v5 h1 hh1 hr5
  refine asg rfl rfl (gl_nil (gq_then (gc_ret (gr_then (gq_body1 rfl rfl ?_)))))
  rw [hna]
  exact hr5
 ·
  refine gc_skip (gq_then (gc_seq (gc_region (mv rfl rfl (mv rfl rfl (gv (ov_neg_i rfl (by omega) (by omega)) rfl (gv (ov_max_i rfl rfl) rfl (gv (ov_conv_iu (p := n.natAbs) (k' := .u64) (W := 18446744073709551616) Try.underlying2 Try.underlying75 rfl rfl (congrArg some (congrArg vI (by omega))) (by omega)) rfl ?_))))))))
  refine gl_call (vs := [_]) rfl rfl rfl rfl Try.call109 ⟨rfl, trivial⟩ (fun w hs => nat_of hs (by omega)) ?_
  intro v11 h1 hh1 hr11
  refine asg rfl rfl (gl_nil (gq_then (gc_ret (gq_body1 rfl rfl ?_))))
  exact hr11

end Go.Proofs.Ytimoeckkdodogaa
