/- Contracts of functions, walked by their text (nat2/b). -/
import Derived.Test.YtimoeckkdodogaaW1
namespace Go.Proofs.Ytimoeckkdodogaa
open Bk Go
set_option linter.unusedVariables false
set_option linter.unusedSimpArgs false
set_option maxRecDepth 10000

set_option maxRecDepth 100000 in
theorem bits_len32 {w0 : World} {h0 : Mem}  (hs : MLe h0 (mem w0)) {x : Nat} (hx : x < 4294967296) :
    Calls Try.prog 102 #[vU .u32 x] w0 (Ret w0 h0 (fun _ r => r = vI ↑(bitsN x))) := by
 refine calls_begin (n := 19) (e := [(0, vU .u32 x)]) (vs := [vU .u32 x]) Try.func102 rfl rfl (Nat.le_of_ble_eq_true rfl) hs ⟨rfl, trivial⟩ (gc_seq (gc_region (asg (v := vI (0)) rfl rfl (gl_nil (gq_then ?_)))))
 refine gc_cut (ι := Nat × Nat) (fun (x_ : (Nat × Nat)) => match x_ with | (x1, n1) => x1 < 65536 ∧ n1 ≤ 16 ∧ bitsN x = bitsN x1 + n1) (fun (x_ : (Nat × Nat)) => match x_ with | (x1, n1) => [(0, vU .u32 x1), (2, vI ↑n1)]) (fun (x_ : (Nat × Nat)) => match x_ with | (x1, n1) => []) (fun (x_ : (Nat × Nat)) => match x_ with | (x1, n1) => h0) ?_ ?_
 ·
  refine gc_seq (gc_region (mv rfl rfl (gv (ov_geq_u (k := .u32) (q := 65536) rfl rfl) rfl (gl_nil (gq_then ?_)))))
  refine gc_cond rfl (fun hc4 => ?_) (fun hc4 => ?_)
  ·
   refine gc_seq (gc_region (mv rfl rfl (gv (ov_shr_u (k := .u32) (s := 16) (yk := .u64) rfl rfl rfl (by simp only [ub]; omega)) rfl (asg rfl rfl (gl_nil (gq_then (gc_region (asg (v := vI (16)) rfl rfl (gl_nil ?_)))))))))
   refine gq_cut (x / 2 ^ 16, 16) ?_ ⟨?_, ?_, trivial⟩ ?_ rfl
   ·
    exact ⟨by omega, by omega, bitsN_div hc4⟩
   · exact rfl
   · exact rfl
   · exact rfl
  ·
   refine gc_skip ?_
   refine gq_cut (x, 0) ?_ ⟨?_, ?_, trivial⟩ ?_ rfl
   ·
    exact ⟨by omega, by omega, rfl⟩
   · exact rfl
   · exact rfl
   · exact rfl
 ·
  intro x hx
  obtain ⟨x1, n1⟩ := x
  obtain ⟨hx1, hn1, hb1⟩ := hx
  show GC _ _ _ _ _ _ [(0, vU .u32 x1), (2, vI ↑n1)] [] h0
  refine gc_cut (ι := Nat × Nat) (fun (x_ : (Nat × Nat)) => match x_ with | (x2, n2) => x2 < 256 ∧ n2 ≤ 24 ∧ bitsN x = bitsN x2 + n2) (fun (x_ : (Nat × Nat)) => match x_ with | (x2, n2) => [(0, vU .u32 x2), (2, vI ↑n2)]) (fun (x_ : (Nat × Nat)) => match x_ with | (x2, n2) => []) (fun (x_ : (Nat × Nat)) => match x_ with | (x2, n2) => h0) ?_ ?_
  ·
   refine gc_seq (gc_region (mv rfl rfl (gv (ov_geq_u (k := .u32) (q := 256) rfl rfl) rfl (gl_nil (gq_then ?_)))))
   refine gc_cond rfl (fun hc8 => ?_) (fun hc8 => ?_)
   ·
    refine gc_seq (gc_region (mv rfl rfl (gv (ov_shr_u (k := .u32) (s := 8) (yk := .u64) rfl rfl rfl (by simp only [ub]; omega)) rfl (asg rfl rfl (gl_nil (gq_then (gc_region (mv rfl rfl (gv (ov_add_i (q := 8) rfl rfl (by omega) (by omega)) rfl (asg rfl rfl (gl_nil ?_)))))))))))
    refine gq_cut (x1 / 2 ^ 8, n1 + 8) ?_ ⟨?_, ?_, trivial⟩ ?_ rfl
    ·
     exact ⟨by omega, by omega, by rw [hb1, bitsN_div (k := 8) hc8]; omega⟩
    · exact rfl
    · exact congrArg some (congrArg vI (by omega))
    · exact rfl
   ·
    refine gc_skip ?_
    refine gq_cut (x1, n1) ?_ ⟨?_, ?_, trivial⟩ ?_ rfl
    ·
     exact ⟨by omega, by omega, hb1⟩
    · exact rfl
    · exact rfl
    · exact rfl
  ·
   intro x hx
   obtain ⟨x2, n2⟩ := x
   obtain ⟨hx2, hn2, hb2⟩ := hx
   show GC _ _ _ _ _ _ [(0, vU .u32 x2), (2, vI ↑n2)] [] h0
   refine gc_seq (gc_region (mv rfl rfl (mv rfl rfl (gv (ov_conv_uu (k := .u32) (k' := .u8) (W := 256) Try.underlying61 Try.underlying5 rfl rfl rfl) rfl ?_))))
   have hb8 : bitsN x2 ≤ 8 := bitsN_le (k := 8) (by omega)
   refine gl_val (ov_index_tab (fun i => bitsN i) (x2 % 256) Try.underlying9 rfl rfl rfl (by decide +kernel) (by show x2 % 256 < 256; omega)) rfl rfl rfl ?_
   rw [Nat.mod_eq_of_lt hx2]
   refine gv (ov_conv_ui (k := .u8) Try.underlying5 Try.underlying3 rfl (by omega)) rfl (gv (ov_add_i rfl rfl (by omega) (by omega)) rfl (asg rfl rfl (gl_nil (gq_then (gc_ret (gq_body1 rfl rfl ?_))))))
   exact congrArg vI (by omega)

theorem bits_lz32 {w0 : World} {h0 : Mem}  (hs : MLe h0 (mem w0)) {x : Nat} (hx : x < 4294967296) :
    Calls Try.prog 125 #[vU .u32 x] w0 (Ret w0 h0 (fun _ r => r = vI ↑(32 - bitsN x))) := by
 refine calls_begin (n := 6) (e := [(0, vU .u32 x)]) (vs := [vU .u32 x]) Try.func125 rfl rfl (Nat.le_of_ble_eq_true rfl) hs ⟨rfl, trivial⟩ (gc_seq (gc_region (asg (v := vI (0)) rfl rfl (gl_nil (gq_then (gc_seq (gc_region (mv rfl rfl ?_))))))))
 refine gl_call (vs := [_]) rfl rfl rfl rfl Try.call102 ⟨rfl, trivial⟩ (fun w hs => bits_len32 hs (by omega)) ?_
 intro v4 h1 hh1 hr4
 subst hr4
 have hb : bitsN x ≤ 32 := bitsN_le (k := 32) (by omega)
 refine gv (ov_sub_i (p := 32) rfl rfl (by omega) (by omega)) rfl (asg rfl rfl (gl_nil (gq_then (gc_ret (gq_body1 rfl rfl ?_)))))
 exact congrArg vI (by omega)

theorem nat_bits {w0 : World} {h0 : Mem}  (hs : MLe h0 (mem w0)) {v : Value} {xs : List Nat} (hv : Us .u32 h0 v xs) (hl : xs.length ≤ 1099511627776) :
    Calls Try.prog 64 #[v] w0 (Ret w0 h0 (fun _ r => r = vI ↑(bitsN (val xs)))) := by
 refine calls_begin (n := 20) (e := [(0, v)]) (vs := [v]) Try.func64 rfl rfl (Nat.le_of_ble_eq_true rfl) hs ⟨rfl, trivial⟩ (gc_seq (gc_region (asg (v := vI (0)) rfl rfl (gl_nil (gq_then (gc_seq (gc_region (mv rfl rfl ?_))))))))
 refine gl_call (vs := [_]) rfl rfl rfl rfl Try.call101 ⟨rfl, trivial⟩ (fun w hs => nat_trim hs hv) ?_
 intro v4 h1 hh1 hr4
 replace hr4 := hr4.2
 replace hv := hv.mono hh1
 have hll := limbs_len_le hv.lt
 generalize hA : limbs (val xs) = AA at *
 have vA : val AA = val xs := by rw [← hA, val_limbs]
 have fA : Fit AA := hr4.lt
 refine asg rfl rfl (gl_nil (gq_then (gc_seq (gc_seq (gc_region (mv rfl rfl (gv (ov_len_us Try.underlying22 rfl hr4) rfl (gv (ov_eql_i (q := 0) rfl rfl) rfl (gl_nil (gq_then ?_))))))))))
 refine gc_cond rfl (fun hc7 => ?_) (fun hc7 => ?_)
 ·
  refine gc_seq (gc_region (asg (v := vI (0)) rfl rfl (gl_nil (gq_then (gc_ret (gr_then (gq_body1 rfl rfl ?_)))))))
  have h0 : AA = [] := List.eq_nil_of_length_eq_zero (by omega)
  rw [← vA, h0]; rfl
 ·
  refine gc_skip (gq_then (gc_seq (gc_region (mv rfl rfl (gv (ov_len_us Try.underlying22 rfl hr4) rfl ?_)))))
  have hpos : 0 < AA.length := by omega
  refine gv (ov_sub_i (q := 1) rfl rfl (by omega) (by omega)) rfl (gv (ov_mul_i (p := 32) rfl rfl (by omega) (by omega)) rfl (mv rfl rfl (mv rfl rfl (gv (ov_len_us Try.underlying22 rfl hr4) rfl (gv (ov_sub_i (q := 1) rfl rfl (by omega) (by omega)) rfl (gv (ov_index_us (AA.length - 1) Try.underlying22 Try.sizeOf61 rfl rfl hr4 (by omega) (by omega)) rfl (gv (ov_load_us Try.isAgg61 rfl hr4 (by omega)) rfl ?_)))))))
  have hx1 := fit_get fA (AA.length - 1)
  have hb := bitsN_le (n := AA.getD (AA.length - 1) 0) (k := 32) (by omega)
  refine gl_call (vs := [_]) rfl rfl rfl rfl Try.call102 ⟨rfl, trivial⟩ (fun w hs => bits_len32 hs (by omega)) ?_
  intro v18 h2 hh2 hr18
  subst hr18
  refine gv (ov_add_i rfl rfl (by omega) (by omega)) rfl (asg rfl rfl (gl_nil (gq_keep (e' := [(2, _)]) ⟨rfl, trivial⟩ (gq_then (gc_ret (gq_body1 rfl rfl ?_))))))
  rw [← vA, bitsN_top fA (k := AA.length - 1) (by omega) (by rw [← hA]; exact limbs_top_ne (by rw [hA]; exact hpos))]
  exact congrArg vI (by omega)

theorem nat_word {w0 : World} {h0 : Mem}  (hs : MLe h0 (mem w0)) {v : Value} {xs : List Nat} (hv : Us .u32 h0 v xs) (hl : xs.length ≤ 2) :
    Calls Try.prog 112 #[v] w0 (Ret w0 h0 (fun _ r => r = vU .u64 (val xs))) := by
 have hf : Fit xs := hv.lt
 refine calls_begin (n := 21) (e := [(0, v)]) (vs := [v]) Try.func112 rfl rfl (Nat.le_of_ble_eq_true rfl) hs ⟨rfl, trivial⟩ (gc_seq (gc_region (asg (v := vU .u64 0) rfl rfl (gl_nil (gq_then (gc_seq (gc_region (asg (v := vU .u64 0) rfl rfl (gl_nil (gq_then (gc_seq (gc_seq (gc_region ?_)))))))))))))
 refine mv rfl rfl (gv (ov_len_us Try.underlying22 rfl hv) rfl (gv (ov_sub_i (q := 1) rfl rfl (by omega) (by omega)) rfl (asg rfl rfl (gl_nil (gq_then (gc_block ?_))))))
 have hd0 : val (xs.drop xs.length) = 0 := by rw [List.drop_of_length_le (Nat.le_refl _)]; rfl
 refine gc_loop (ι := Nat) (fun (j : (Nat)) => j ≤ xs.length) (fun (j : (Nat)) => [(0, v), (3, vU .u64 (val (xs.drop j))), (4, vI (↑j - 1))]) (fun (j : (Nat)) => []) (fun (j : (Nat)) => h0) (fun (j : (Nat)) => j) xs.length ?_ ⟨?_, ?_, ?_, trivial⟩ rfl rfl ?_
 ·
  exact Nat.le_refl _
 · exact rfl
 · exact congrArg some (congrArg (vU .u64) hd0.symm)
 · exact rfl
 ·
  intro j hx
  obtain hj := hx
  show GC _ _ _ _ _ _ [(0, v), (3, vU .u64 (val (xs.drop j))), (4, vI (↑j - 1))] [] h0
  refine gc_seq (gc_seq (gc_region (mv rfl rfl (gv (ov_geq_i (q := 0) rfl rfl) rfl (gl_nil (gq_then ?_))))))
  refine gc_cond rfl (fun hc9 => ?_) (fun hc9 => ?_)
  ·
   refine gc_skip (gq_then (gc_seq (gc_block (gc_region (mv rfl rfl (gv (ov_shl_u (k := .u64) (s := 32) (yk := .u64) (W := 18446744073709551616) rfl rfl rfl rfl) rfl (mv rfl rfl (mv rfl rfl (gv (ov_index_us (j - 1) Try.underlying22 Try.sizeOf61 rfl rfl hv (by omega) (by omega)) rfl (gv (ov_load_us Try.isAgg61 rfl hv (by omega)) rfl ?_))))))))))
   have hx1 := hv.get32 (j - 1)
   refine gv (ov_conv_u (k := .u32) (k' := .u64) (W := 18446744073709551616) Try.underlying61 Try.underlying75 rfl rfl rfl (by omega)) rfl (gv (ov_or_u (k := .u64) rfl rfl rfl (by simp only [ub]; omega) (by simp only [ub]; omega)) rfl ?_)
   rw [or_shift (by
         have h2 := val_lt (fit_drop hf j)
         rw [List.length_drop] at h2
         have h3 : (4294967296 : Nat) ^ (xs.length - j) ≤ 4294967296 ^ 1 := Nat.pow_le_pow_right (by omega) (by omega)
         omega) hx1]
   refine asg rfl rfl (gl_nil (gq_in (gq_keep (e' := [(0, _), (4, _), (3, _)]) ⟨rfl, rfl, rfl, trivial⟩ (gq_then (gc_region (mv rfl rfl (gv (ov_sub_i (q := 1) rfl rfl (by omega) (by omega)) rfl (asg rfl rfl (gl_nil ?_)))))))))
   refine gq_round (j - 1) ?_ ?_ ⟨?_, ?_, ?_, trivial⟩ ?_ rfl
   ·
    omega
   ·
    omega
   · exact rfl
   · 
           rw [val_drop xs (j - 1) (by omega)]
           exact congrArg some (congrArg (vU .u64) (by rw [show j - 1 + 1 = j by omega]; omega))
   · exact congrArg some (congrArg vI (by omega))
   · exact rfl
  ·
   refine gc_exit (gx_then (gx_then (gx_here (gq_then (gc_seq (gc_region (mv rfl rfl (asg rfl rfl (gl_nil (gq_then (gc_ret (gq_body1 rfl rfl ?_))))))))))))
   rw [show j = 0 by omega]; rfl

theorem nat_small {w0 : World} {h0 : Mem}  (hs : MLe h0 (mem w0)) {v : Value} {xs : List Nat} {b : Nat} (hv : Us .u32 h0 v xs) (hb : 0 < b) (hb' : b < 4294967296) (hl : xs.length ≤ 1099511627776) :
    Calls Try.prog 106 #[v, vU .u32 b] w0 (Ret w0 h0 (fun h r => ∃ u, r = .tuple #[u, vU .u32 (val xs % b)] ∧ Us .u32 h u (limbs (val xs / b)))) := by
 have hf : Fit xs := hv.lt
 refine calls_begin (n := 43) (e := [(0, v), (1, vU .u32 b)]) (vs := [v, vU .u32 b]) Try.func106 rfl rfl (Nat.le_of_ble_eq_true rfl) hs ⟨rfl, rfl, trivial⟩ (gc_seq (gc_region (asg rfl rfl (asg (v := vU .u32 0) rfl rfl (gl_nil (gq_then (gc_seq (gc_region (mv rfl rfl (gv (ov_len_us Try.underlying22 rfl hv) rfl (gl_make_us (kd := .u32) (by' := 4) _ Try.underlying22 info61 rfl rfl rfl rfl rfl rfl rfl (by omega) (by omega) rfl ?_)))))))))))
 intro v11
 refine asg rfl rfl (gl_nil (gq_then (gc_seq (gc_region (asg (v := vU .u64 0) rfl rfl (gl_nil (gq_then (gc_seq (gc_seq (gc_region (mv rfl rfl (gv (ov_len_us Try.underlying22 rfl hv) rfl (gv (ov_sub_i (q := 1) rfl rfl (by omega) (by omega)) rfl ?_)))))))))))))
 refine asg rfl rfl (gl_nil (gq_then (gc_block ?_)))
 refine gc_loop (ι := Nat × List Nat × Nat) (fun (x_ : (Nat × List Nat × Nat)) => match x_ with | (j, qs, r) => j ≤ xs.length ∧ qs.length = xs.length - j ∧ Fit qs ∧ r < b ∧ val (xs.drop j) = b * val qs + r) (fun (x_ : (Nat × List Nat × Nat)) => match x_ with | (j, qs, r) => [(0, v), (1, vU .u32 b), (6, v11), (7, vU .u64 r), (8, vI (↑j - 1))]) (fun (x_ : (Nat × List Nat × Nat)) => match x_ with | (j, qs, r) => [.us 61 .u32 v11 (fillDn j qs)]) (fun (x_ : (Nat × List Nat × Nat)) => match x_ with | (j, qs, r) => h0) (fun (x_ : (Nat × List Nat × Nat)) => match x_ with | (j, qs, r) => j) (xs.length, [], 0) ?_ ⟨rfl, rfl, rfl, rfl, rfl, trivial⟩ ?_ rfl ?_
 ·
  exact ⟨Nat.le_refl _, by simp, fun x hx => by simp at hx, hb, by rw [List.drop_of_length_le (Nat.le_refl _)]; rfl⟩
 ·
  try dsimp only [List.nil_append, List.cons_append]
  exact congrArg (fun z => [Res.us 61 .u32 v11 z]) (fillDn_nil _)
 ·
  intro x hx
  obtain ⟨j, qs, r⟩ := x
  obtain ⟨hj, hql, hfq, hr, hval⟩ := hx
  show GC _ _ _ _ _ _ [(0, v), (1, vU .u32 b), (6, v11), (7, vU .u64 r), (8, vI (↑j - 1))] [.us 61 .u32 v11 (fillDn j qs)] h0
  refine gc_seq (gc_seq (gc_region (mv rfl rfl (gv (ov_geq_i (q := 0) rfl rfl) rfl (gl_nil (gq_then ?_))))))
  refine gc_cond rfl (fun hc16 => ?_) (fun hc16 => ?_)
  ·
   refine gc_skip (gq_then (gc_seq (gc_block (gc_seq (gc_region (mv rfl rfl (gv (ov_shl_u (k := .u64) (s := 32) (yk := .u64) (W := 18446744073709551616) rfl rfl rfl rfl) rfl (mv rfl rfl (mv rfl rfl (gv (ov_index_us (j - 1) Try.underlying22 Try.sizeOf61 rfl rfl hv (by omega) (by omega)) rfl (gv (ov_load_us Try.isAgg61 rfl hv (by omega)) rfl ?_)))))))))))
   have hx1 := hv.get32 (j - 1)
   refine gv (ov_conv_u (k := .u32) (k' := .u64) (W := 18446744073709551616) Try.underlying61 Try.underlying75 rfl rfl rfl (by omega)) rfl (gv (ov_or_u (k := .u64) rfl rfl rfl (by simp only [ub]; omega) (by simp only [ub]; omega)) rfl ?_)
   rw [or_shift (by omega) hx1]
   generalize ht : r * 4294967296 + xs.getD (j - 1) 0 = t at *
   have hq : t / b < 4294967296 := Nat.div_lt_of_lt_mul (by rw [← ht]; have h1 : (r + 1) * 4294967296 ≤ b * 4294967296 := Nat.mul_le_mul_right _ hr; omega)
   refine asg rfl rfl (gl_nil (gq_keep (e' := [(0, _), (1, _), (6, _), (8, _), (7, _)]) ⟨rfl, rfl, rfl, rfl, rfl, trivial⟩ (gq_then (gc_seq (gc_region (mv rfl rfl (mv rfl rfl (mv rfl rfl (mv rfl rfl (gv (ov_conv_u (k := .u32) (k' := .u64) (W := 18446744073709551616) Try.underlying61 Try.underlying75 rfl rfl rfl (by omega)) rfl (gv (ov_quo_u (k := .u64) (W := 18446744073709551616) rfl rfl rfl rfl (by omega) (by omega)) rfl (gv (ov_conv_u (k := .u64) (k' := .u32) (W := 4294967296) Try.underlying75 Try.underlying61 rfl rfl rfl (by omega)) rfl (gv (ov_index_ous (A := []) (j - 1) Try.underlying22 Try.sizeOf61 rfl rfl (by omega) (by rw [length_fillDn]; omega)) rfl ?_)))))))))))))
   refine gl_store_ous0 Try.sizeOf61 rfl rfl (by rw [length_fillDn]; omega) (gl_nil (gq_then (gc_region (mv rfl rfl (mv rfl rfl (gv (ov_conv_u (k := .u32) (k' := .u64) (W := 18446744073709551616) Try.underlying61 Try.underlying75 rfl rfl rfl (by omega)) rfl (gv (ov_rem_u (k := .u64) rfl rfl (by omega)) rfl (asg rfl rfl (gl_nil (gq_in (gq_keep (e' := [(0, _), (1, _), (6, _), (8, _), (7, _)]) ⟨rfl, rfl, rfl, rfl, rfl, trivial⟩ (gq_then (gc_region ?_)))))))))))))
   refine mv rfl rfl (gv (ov_sub_i (q := 1) rfl rfl (by omega) (by omega)) rfl (asg rfl rfl (gl_nil ?_)))
   refine gq_round (j - 1, t / b :: qs, t % b) ?_ ?_ ⟨?_, ?_, ?_, ?_, ?_, trivial⟩ ?_ rfl
   ·
    refine ⟨by omega, by simp only [List.length_cons]; omega, fit_cons.2 ⟨hq, hfq⟩, Nat.mod_lt _ hb, ?_⟩
    rw [val_drop xs (j - 1) (by omega), show j - 1 + 1 = j by omega, val]
    exact small_step hval ht.symm rfl rfl
   ·
    dsimp only
    omega
   · exact rfl
   · exact rfl
   · exact rfl
   · exact rfl
   · exact congrArg some (congrArg vI (by omega))
   ·
    try dsimp only [List.nil_append, List.cons_append]
    rw [fillDn_set (by omega)]
  ·
   refine gc_exit (gx_then (gx_then (gx_here (gq_then (gc_seq (gc_region (mv rfl rfl ?_)))))))
   have hj0 : j = 0 := by omega
   subst hj0
   rw [fillDn_zero]
   refine gl_freeze_us0 (by exact hfq) ?_
   intro h1 hh1 ho
   refine gl_call (vs := [_]) rfl rfl rfl rfl Try.call101 ⟨rfl, trivial⟩ (fun w hs => nat_trim hs ho) ?_
   intro v40 h2 hh2 hr40
   replace hr40 := hr40.2
   refine mv rfl rfl (gv (ov_conv_u (k := .u64) (k' := .u32) (W := 4294967296) Try.underlying75 Try.underlying61 rfl rfl rfl (by omega)) rfl (asg rfl rfl (asg rfl rfl (gl_nil (gq_keep (e' := [(4, _), (5, _)]) ⟨rfl, rfl, trivial⟩ (gq_then (gc_ret (gq_body2 rfl rfl rfl ?_))))))))
   simp only [List.drop_zero] at hval
   have e1 : val xs / b = val qs := by rw [hval, Nat.mul_add_div hb, Nat.div_eq_of_lt hr]; omega
   have e2 : val xs % b = r := by rw [hval, Nat.mul_add_mod, Nat.mod_eq_of_lt hr]
   rw [e1, e2]
   exact ⟨_, rfl, hr40⟩

theorem nat_raise {w0 : World} {h0 : Mem}  (hs : MLe h0 (mem w0)) {v : Value} {xs : List Nat} {s : Nat} (hv : Us .u32 h0 v xs) (hs32 : s < 32) (hl : xs.length ≤ 1099511627776) :
    Calls Try.prog 119 #[v, vI ↑s] w0 (RetOwn w0 h0 (fun _ r L => ∃ us, L = [.us 61 .u32 r us] ∧ us.length = xs.length + 1 ∧ Fit us ∧ val us = val xs * 2 ^ s)) := by
 have hf : Fit xs := hv.lt
 have hp : 2 ^ s ≤ 2147483648 := Nat.pow_le_pow_right (n := 2) (by omega) (show s ≤ 31 by omega)
 have hp0 : 0 < 2 ^ s := Nat.pow_pos (by omega)
 refine calls_begin (n := 41) (e := [(0, v), (1, vI ↑s)]) (vs := [v, vI ↑s]) Try.func119 rfl rfl (Nat.le_of_ble_eq_true rfl) hs ⟨rfl, rfl, trivial⟩ (gc_seq (gc_region (asg rfl rfl (gl_nil (gq_then (gc_seq (gc_region (mv rfl rfl (gv (ov_len_us Try.underlying22 rfl hv) rfl (gv (ov_add_i (q := 1) rfl rfl (by omega) (by omega)) rfl (gl_make_us (kd := .u32) (by' := 4) (xs.length + 1) Try.underlying22 info61 rfl rfl rfl rfl rfl (by omega) (by omega) (by omega) (by omega) rfl ?_)))))))))))
 intro v12
 refine asg rfl rfl (gl_nil (gq_then (gc_seq (gc_region (asg (v := vU .u64 0) rfl rfl (gl_nil (gq_then (gc_seq (gc_seq (gc_region (mv rfl rfl (gv (ov_len_us Try.underlying22 rfl hv) rfl (mv (v := vI (0)) rfl rfl ?_)))))))))))))
 refine gl_nil (gq_then (gc_block ?_))
 refine gc_loop (ι := List Nat × Nat) (fun (x_ : (List Nat × Nat)) => match x_ with | (ss, c) => ss.length ≤ xs.length ∧ Fit ss ∧ c < 2 ^ s ∧ val ss + 4294967296 ^ ss.length * c = val (xs.take ss.length) * 2 ^ s) (fun (x_ : (List Nat × Nat)) => match x_ with | (ss, c) => [(0, v), (1, vI ↑s), (5, v12), (6, vU .u64 c), (13, v), (14, vI ↑xs.length), (15, vI ↑ss.length)]) (fun (x_ : (List Nat × Nat)) => match x_ with | (ss, c) => [.us 61 .u32 v12 (fillTo ss (xs.length + 1))]) (fun (x_ : (List Nat × Nat)) => match x_ with | (ss, c) => h0) (fun (x_ : (List Nat × Nat)) => match x_ with | (ss, c) => xs.length - ss.length) ([], 0) ?_ ⟨rfl, rfl, rfl, rfl, rfl, rfl, rfl, trivial⟩ rfl rfl ?_
 ·
  exact ⟨by simp, fun x hx => by simp at hx, hp0, by simp [val]⟩
 ·
  intro x hx
  obtain ⟨ss, c⟩ := x
  obtain ⟨hss, hfs, hc, hval⟩ := hx
  show GC _ _ _ _ _ _ [(0, v), (1, vI ↑s), (5, v12), (6, vU .u64 c), (13, v), (14, vI ↑xs.length), (15, vI ↑ss.length)] [.us 61 .u32 v12 (fillTo ss (xs.length + 1))] h0
  refine gc_seq (gc_region (gv (ov_lss_i rfl rfl) rfl (gl_nil (gq_then (gc_seq ?_)))))
  refine gc_cond rfl (fun hc16 => ?_) (fun hc16 => ?_)
  ·
   refine gc_skip (gq_then (gc_seq (gc_block (gc_seq (gc_region (mv rfl rfl (gv (ov_index_us _ Try.underlying22 Try.sizeOf61 rfl rfl hv rfl (by omega)) rfl (gv (ov_load_us Try.isAgg61 rfl hv (by omega)) rfl ?_))))))))
   have hx1 := hv.get32 ss.length
   have hxs : xs.getD ss.length 0 * 2 ^ s < 18446744073709551616 - 4294967296 := by
     have := Nat.mul_le_mul (show xs.getD ss.length 0 ≤ 4294967295 by omega) hp
     omega
   refine asg rfl rfl (asg rfl rfl (gl_nil (gq_then (gc_seq (gc_region (mv rfl rfl (mv rfl rfl (gv (ov_conv_u (k := .u32) (k' := .u64) (W := 18446744073709551616) Try.underlying61 Try.underlying75 rfl rfl rfl (by omega)) rfl (mv rfl rfl (gv (ov_shl_u (k := .u64) (s := s) (yk := .i64) (W := 18446744073709551616) rfl rfl rfl rfl) rfl ?_))))))))))
   rw [Nat.mod_eq_of_lt (by omega)]
   refine gv (ov_or_u (k := .u64) rfl rfl rfl (by simp only [ub]; omega) (by simp only [ub]; omega)) rfl ?_
   rw [or_low hc]
   refine asg rfl rfl (gl_nil (gq_keep (e' := [(0, _), (1, _), (5, _), (13, _), (14, _), (15, _), (7, _), (6, _)]) ⟨rfl, rfl, rfl, rfl, rfl, rfl, rfl, rfl, trivial⟩ (gq_then (gc_seq (gc_region (mv rfl rfl (mv rfl rfl (mv rfl rfl (gv (ov_conv_uu (k := .u64) (k' := .u32) (W := 4294967296) Try.underlying75 Try.underlying61 rfl rfl rfl) rfl (gv (ov_index_ous (A := []) _ Try.underlying22 Try.sizeOf61 rfl rfl rfl (by rw [length_fillTo (by omega)]; omega)) rfl (gl_store_ous0 Try.sizeOf61 rfl rfl (by rw [length_fillTo (by omega)]; omega) (gl_nil (gq_then ?_)))))))))))))
   refine gc_region (mv rfl rfl (gv (ov_shr_u (k := .u64) (s := 32) (yk := .u64) rfl rfl rfl (by simp only [ub]; omega)) rfl (asg rfl rfl (gl_nil (gq_in (gq_then (gc_region (gv (ov_add_i (q := 1) rfl rfl (by omega) (by omega)) rfl (mv rfl rfl (gl_nil ?_))))))))))
   refine gq_round (ss ++ [(xs.getD ss.length 0 * 2 ^ s + c) % 4294967296], (xs.getD ss.length 0 * 2 ^ s + c) / 2 ^ 32) ?_ ?_ ⟨?_, ?_, ?_, ?_, ?_, ?_, ?_, trivial⟩ ?_ rfl
   ·
    refine ⟨by simp; omega, fit_append hfs (fit_one (by omega)), ?_, ?_⟩
    · refine Nat.div_lt_of_lt_mul ?_
      have := Nat.mul_le_mul_right (2 ^ s) (show xs.getD ss.length 0 + 1 ≤ 2 ^ 32 by omega)
      rw [Nat.add_mul] at this
      omega
    · have e := Nat.div_add_mod (xs.getD ss.length 0 * 2 ^ s + c) 4294967296
      have e2 : (2 : Nat) ^ 32 = 4294967296 := rfl
      rw [List.length_append, List.length_singleton, val_take_succ xs _ (by omega), val_snoc, Nat.pow_succ, e2]
      generalize (xs.getD ss.length 0 * 2 ^ s + c) / 4294967296 = q at *
      generalize (xs.getD ss.length 0 * 2 ^ s + c) % 4294967296 = r at *
      grind
   ·
    dsimp only
    simp; omega
   · exact rfl
   · exact rfl
   · exact rfl
   · exact rfl
   · exact rfl
   · exact rfl
   · exact congrArg some (congrArg vI (by simp))
   ·
    try dsimp only [List.nil_append, List.cons_append]
    rw [fillTo_set (by omega)]
  ·
   refine gc_exit (gx_then (gx_then (gx_here (gq_then (gc_seq (gc_region (mv rfl rfl (mv rfl rfl (gv (ov_len_us Try.underlying22 rfl hv) rfl (mv rfl rfl (gv (ov_conv_uu (k := .u64) (k' := .u32) (W := 4294967296) Try.underlying75 Try.underlying61 rfl rfl rfl) rfl (gv (ov_index_ous (A := []) (xs.length) Try.underlying22 Try.sizeOf61 rfl rfl (by rfl) (by rw [length_fillTo (by omega)]; omega)) rfl (gl_store_ous0 Try.sizeOf61 rfl rfl (by rw [length_fillTo (by omega)]; omega) ?_)))))))))))))
   refine gl_nil (gq_keep (e' := [(5, _)]) ⟨rfl, trivial⟩ (gq_then (gc_seq (gc_region (mv rfl rfl (asg rfl rfl (gl_nil (gq_then (gc_ret (gq_body1_own rfl rfl ?_))))))))))
   have hk : ss.length = xs.length := by omega
   refine ⟨ss ++ [c], ?_, by simp [hk], fit_append hfs (fit_one (by omega)), ?_⟩
   · rw [← hk, fillTo_set (by omega), fillTo_full (by simp), Nat.mod_eq_of_lt (by omega)]
   · rw [val_snoc, hval, val_take_all (by omega)]

end Go.Proofs.Ytimoeckkdodogaa
