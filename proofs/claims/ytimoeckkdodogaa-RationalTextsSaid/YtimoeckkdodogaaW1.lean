/- Contracts of functions, walked by their text (natural/b). -/
import Derived.Test.YtimoeckkdodogaaFacts
import Derived.Test.YtimoeckkdodogaaNat
namespace Go.Proofs.Ytimoeckkdodogaa
open Bk Go
set_option linter.unusedVariables false
set_option linter.unusedSimpArgs false
set_option maxRecDepth 10000

theorem nat_trim {w0 : World} {h0 : Mem}  (hs : MLe h0 (mem w0)) {v : Value} {xs : List Nat} (hv : Us .u32 h0 v xs) :
    Calls Try.prog 101 #[v] w0 (Ret w0 h0 (fun h r => r = subSl 1 v 0 (limbs (val xs)).length ∧ Us .u32 h r (limbs (val xs)))) := by
 have hlen := hv.lt63
 refine calls_begin (n := 21) (e := [(0, v)]) (vs := [v]) Try.func101 rfl rfl (Nat.le_of_ble_eq_true rfl) hs ⟨rfl, trivial⟩ (gc_seq (gc_region (asg rfl rfl (gl_nil (gq_then (gc_seq (gc_region (mv rfl rfl (gv (ov_len_us Try.underlying22 rfl hv) rfl (asg rfl rfl (gl_nil (gq_then (gc_seq ?_)))))))))))))
 refine gc_block ?_
 refine gc_loop (ι := Nat) (fun (k : (Nat)) => k ≤ xs.length ∧ ∀ i, k ≤ i → xs.getD i 0 = 0) (fun (k : (Nat)) => [(0, v), (3, vI ↑k)]) (fun (k : (Nat)) => []) (fun (k : (Nat)) => h0) (fun (k : (Nat)) => k) xs.length ?_ ⟨rfl, rfl, trivial⟩ rfl rfl ?_
 ·
  exact ⟨Nat.le_refl _, fun i hi => by rw [List.getD_eq_getElem?_getD, List.getElem?_eq_none hi]; rfl⟩
 ·
  intro k hx
  obtain ⟨hk, hz⟩ := hx
  show GC _ _ _ _ _ _ [(0, v), (3, vI ↑k)] [] h0
  refine gc_seq (gc_seq (gc_region (mv rfl rfl (gv (ov_gtr_i (q := 0) rfl rfl) rfl ?_))))
  refine gl_cut (ι := Unit) 8 (fun _ => True) (fun _ => [(15, vB (((0 : Int) < ↑k) ∧ (xs.getD (k - 1) 0 = 0))), (0, v), (3, vI ↑k)]) (fun _ => []) (fun _ => h0) ?_ ?_
  ·
   refine gl_cases ((0 : Int) < ↑k) (fun hg => ?_) (fun hg => ?_)
   ·
    refine gl_val (ov_move (v := .bool true) (congrArg some (vB_true hg))) rfl rfl rfl (gl_on rfl rfl rfl (mv rfl rfl (gl_on rfl rfl rfl (mv rfl rfl (gl_on rfl rfl rfl (gv (ov_sub_i (q := 1) rfl rfl (by omega) (by omega)) rfl (gl_on rfl rfl rfl (gv (ov_index_us (k - 1) Try.underlying22 Try.sizeOf61 rfl rfl hv (by omega) (by omega)) rfl (gl_on rfl rfl rfl (gv (ov_load_us Try.isAgg61 rfl hv (by omega)) rfl (gl_on rfl rfl rfl (gv (ov_eql_u (k := .u32) (q := 0) rfl rfl) rfl (gv (ov_pick_t rfl rfl) rfl ?_)))))))))))))
    refine gl_nil ?_
    refine gq_cut () trivial ⟨?_, rfl, rfl, trivial⟩ rfl rfl
    exact congrArg some (vB_and_t hg)
   ·
    refine gl_val (ov_move (v := .bool false) (congrArg some (vB_false hg))) rfl rfl rfl (gl_off rfl rfl rfl rfl rfl rfl (gl_off rfl rfl rfl rfl rfl rfl (gl_off rfl rfl rfl rfl rfl rfl (gl_off rfl rfl rfl rfl rfl rfl (gl_off rfl rfl rfl rfl rfl rfl (gl_off rfl rfl rfl rfl rfl rfl (gv (ov_pick_f rfl rfl) rfl (gl_nil ?_))))))))
    refine gq_cut () trivial ⟨?_, rfl, rfl, trivial⟩ rfl rfl
    exact congrArg some (vB_and_f hg)
  ·
   intro _ _
   show GL _ _ _ _ _ _ _ [(15, vB (((0 : Int) < ↑k) ∧ (xs.getD (k - 1) 0 = 0))), (0, v), (3, vI ↑k)] [] h0
   refine gl_nil (gq_then ?_)
   refine gc_cond rfl (fun hc15 => ?_) (fun hc15 => ?_)
   ·
    refine gc_skip (gq_then (gc_block (gc_region (mv rfl rfl (gv (ov_sub_i (q := 1) rfl rfl (by omega) (by omega)) rfl (asg rfl rfl (gl_nil (gq_in ?_))))))))
    refine gq_round (k - 1) ?_ ?_ ⟨?_, ?_, trivial⟩ ?_ rfl
    ·
     exact ⟨by omega, fun i hi => by
       by_cases e : i = k - 1
       · rw [e]; exact hc15.2
       · exact hz i (by omega)⟩
    ·
     have := hc15.1; omega
    · exact rfl
    · exact congrArg some (congrArg vI (by have := hc15.1; omega))
    · exact rfl
   ·
    refine gc_exit (gx_then (gx_then (gx_here (gq_then (gc_seq (gc_region (mv rfl rfl (mv rfl rfl (gv (ov_slice_h _ Try.underlying22 Try.sizeOf61 rfl rfl hv.shape rfl (by omega)) rfl ?_)))))))))
    have hsl20 := hv.sub (lo := 0) (hi := _) (by omega) (by omega)
    refine asg rfl rfl (gl_nil (gq_then (gc_ret (gq_body1 rfl rfl ?_))))
    have e : (xs.drop 0).take (k - 0) = limbs (val xs) := trim_spec hv.lt hk hz (by
      by_cases h0 : k = 0
      · exact .inl h0
      · exact .inr fun h1 => hc15 ⟨by omega, h1⟩)
    rw [e] at hsl20
    have e2 : (limbs (val xs)).length = k := by
      rw [← e, List.length_take, List.length_drop]; omega
    refine ⟨?_, hsl20⟩
    rw [e2]

theorem nat_valid {w0 : World} {h0 : Mem}  (hs : MLe h0 (mem w0)) {v : Value} {xs : List Nat} (hv : Us .u32 h0 v xs) :
    Calls Try.prog 83 #[v] w0 (Ret w0 h0 (fun _ r => r = vB (xs = [] ∨ xs.getD (xs.length - 1) 0 ≠ 0))) := by
 have hlen := hv.lt63
 refine calls_begin (n := 15) (e := [(0, v)]) (vs := [v]) Try.func83 rfl rfl (Nat.le_of_ble_eq_true rfl) hs ⟨rfl, trivial⟩ (gc_seq (gc_region (asg rfl rfl (gl_nil (gq_then (gc_seq (gc_region (mv rfl rfl (gv (ov_len_us Try.underlying22 rfl hv) rfl (gv (ov_eql_i (q := 0) rfl rfl) rfl ?_))))))))))
 refine gl_cut (ι := Unit) 9 (fun _ => True) (fun _ => [(14, vB (((↑xs.length : Int) = 0) ∨ (xs.getD (xs.length - 1) 0 ≠ 0)))]) (fun _ => []) (fun _ => h0) ?_ ?_
 ·
  refine gl_cases ((↑xs.length : Int) = 0) (fun hg => ?_) (fun hg => ?_)
  ·
   refine gl_val (ov_move (v := .bool true) (congrArg some (vB_true hg))) rfl rfl rfl (gl_off rfl rfl rfl rfl rfl rfl (gl_off rfl rfl rfl rfl rfl rfl (gl_off rfl rfl rfl rfl rfl rfl (gl_off rfl rfl rfl rfl rfl rfl (gl_off rfl rfl rfl rfl rfl rfl (gl_off rfl rfl rfl rfl rfl rfl (gl_off rfl rfl rfl rfl rfl rfl (gv (ov_pick_t rfl rfl) rfl (gl_nil ?_)))))))))
   refine gq_cut () trivial ⟨?_, trivial⟩ rfl rfl
   exact congrArg some (vB_or_t hg)
  ·
   have hpos : 0 < xs.length := by omega
   refine gl_val (ov_move (v := .bool false) (congrArg some (vB_false hg))) rfl rfl rfl (gl_on rfl rfl rfl (mv rfl rfl (gl_on rfl rfl rfl (mv rfl rfl (gl_on rfl rfl rfl (gv (ov_len_us Try.underlying22 rfl hv) rfl (gl_on rfl rfl rfl (gv (ov_sub_i (q := 1) rfl rfl (by omega) (by omega)) rfl (gl_on rfl rfl rfl (gv (ov_index_us (xs.length - 1) Try.underlying22 Try.sizeOf61 rfl rfl hv (by omega) (by omega)) rfl (gl_on rfl rfl rfl (gv (ov_load_us Try.isAgg61 rfl hv (by omega)) rfl (gl_on rfl rfl rfl ?_)))))))))))))
   refine gv (ov_neq_u (k := .u32) (q := 0) rfl rfl) rfl (gv (ov_pick_f rfl rfl) rfl (gl_nil ?_))
   refine gq_cut () trivial ⟨?_, trivial⟩ rfl rfl
   exact congrArg some (vB_or_f hg)
 ·
  intro _ _
  show GL _ _ _ _ _ _ _ [(14, vB (((↑xs.length : Int) = 0) ∨ (xs.getD (xs.length - 1) 0 ≠ 0)))] [] h0
  refine asg rfl rfl (gl_nil (gq_then (gc_ret (gq_body1 rfl rfl ?_))))
  exact vB_iff ⟨fun h => h.imp (fun h => List.eq_nil_of_length_eq_zero (by omega)) id, fun h => h.imp (fun h => by rw [h]; rfl) id⟩

theorem nat_of {w0 : World} {h0 : Mem}  (hs : MLe h0 (mem w0)) {n : Nat} (hn : n < 18446744073709551616) :
    Calls Try.prog 109 #[vU .u64 n] w0 (Ret w0 h0 (fun h r => Us .u32 h r (limbs n))) := by
 refine calls_begin (n := 10) (e := [(0, vU .u64 n)]) (vs := [vU .u64 n]) Try.func109 rfl rfl (Nat.le_of_ble_eq_true rfl) hs ⟨rfl, trivial⟩ (gc_seq (gc_region (asg rfl rfl (gl_nil (gq_then (gc_seq (gc_region (mv rfl rfl (gv (ov_conv_uu (k := .u64) (k' := .u32) (W := 4294967296) Try.underlying75 Try.underlying61 rfl rfl rfl) rfl (mv rfl rfl (gv (ov_shr_u (k := .u64) (s := 32) (yk := .u64) rfl rfl rfl (by simp only [ub]; omega)) rfl (gv (ov_conv_uu (k := .u64) (k' := .u32) (W := 4294967296) Try.underlying75 Try.underlying61 rfl rfl rfl) rfl (gl_newop (new_build2 (kd := .u32) Try.underlying22 info61 rfl rfl rfl rfl) rfl rfl rfl ?_)))))))))))))
 intro v8 r8 hr8
 obtain rfl := hr8
 refine gl_freeze_us0 (by intro x hx; simp only [List.mem_cons, List.not_mem_nil, or_false] at hx; simp only [ub]; omega) ?_
 intro h1 hh1 hb
 refine gl_call (vs := [_]) rfl rfl rfl rfl Try.call101 ⟨rfl, trivial⟩ (fun w hs => nat_trim hs hb) ?_
 intro v9 h2 hh2 hr9
 replace hr9 := hr9.2
 refine asg rfl rfl (gl_nil (gq_then (gc_ret (gq_body1 rfl rfl ?_))))
 have e : val [n % 4294967296, n / 2 ^ 32 % 4294967296] = n := by simp only [val]; omega
 rw [e] at hr9
 exact hr9

theorem nat_cmp {w0 : World} {h0 : Mem}  (hs : MLe h0 (mem w0)) {v v' : Value} {xs ys : List Nat} (hv : Us .u32 h0 v xs) (hv' : Us .u32 h0 v' ys) :
    Calls Try.prog 98 #[v, v'] w0 (Ret w0 h0 (fun _ r => r = vI (cmpN (val xs) (val ys)))) := by
 refine calls_begin (n := 45) (e := [(0, v), (1, v')]) (vs := [v, v']) Try.func98 rfl rfl (Nat.le_of_ble_eq_true rfl) hs ⟨rfl, rfl, trivial⟩ (gc_seq (gc_region (asg (v := vI (0)) rfl rfl (gl_nil (gq_then (gc_seq (gc_region (mv rfl rfl ?_))))))))
 refine gl_call (vs := [_]) rfl rfl rfl rfl Try.call101 ⟨rfl, trivial⟩ (fun w hs => nat_trim hs hv) ?_
 intro v7 h1 hh1 hr7
 replace hr7 := hr7.2
 refine mv rfl rfl ?_
 replace hv' := hv'.mono hh1
 refine gl_call (vs := [_]) rfl rfl rfl rfl Try.call101 ⟨rfl, trivial⟩ (fun w hs => nat_trim hs hv') ?_
 intro v9 h2 hh2 hr9
 replace hr9 := hr9.2
 replace hr7 := hr7.mono hh2
 generalize hA : limbs (val xs) = AA at *
 generalize hB : limbs (val ys) = BB at *
 have vA : val AA = val xs := by rw [← hA, val_limbs]
 have vB' : val BB = val ys := by rw [← hB, val_limbs]
 have fA : Fit AA := hr7.lt
 have fB : Fit BB := hr9.lt
 have lA := hr7.lt63
 have lB := hr9.lt63
 refine asg rfl rfl (asg rfl rfl (gl_nil (gq_then (gc_seq (gc_seq (gc_region (mv rfl rfl (gv (ov_len_us Try.underlying22 rfl hr7) rfl (mv rfl rfl (gv (ov_len_us Try.underlying22 rfl hr9) rfl (gv (ov_neq_i rfl rfl) rfl (gl_nil (gq_then ?_)))))))))))))
 refine gc_cond rfl (fun hc14 => ?_) (fun hc14 => ?_)
 ·
  refine gc_keep (e' := [(0, _), (1, _)]) ⟨rfl, rfl, trivial⟩ (gc_seq (gc_seq (gc_region (mv rfl rfl (gv (ov_len_us Try.underlying22 rfl hr7) rfl (mv rfl rfl (gv (ov_len_us Try.underlying22 rfl hr9) rfl (gv (ov_lss_i rfl rfl) rfl (gl_nil (gq_then ?_))))))))))
  refine gc_cond rfl (fun hc19 => ?_) (fun hc19 => ?_)
  ·
   refine gc_seq (gc_region (asg (v := vI (-1)) rfl rfl (gl_nil (gq_then (gc_ret (gr_then (gr_then (gq_body1 rfl rfl ?_))))))))
   rw [cmpN_lt (lt_of_limbs_len (by rw [hA, hB]; omega))]
  ·
   refine gc_skip (gq_then (gc_seq (gc_region (asg (v := vI (1)) rfl rfl (gl_nil (gq_then (gc_ret (gr_then (gq_body1 rfl rfl ?_)))))))))
   rw [cmpN_gt (lt_of_limbs_len (by rw [hA, hB]; omega))]
 ·
  have hl : AA.length = BB.length := by omega
  refine gc_keep (e' := [(0, _), (1, _)]) ⟨rfl, rfl, trivial⟩ (gc_skip (gq_then (gc_seq (gc_seq (gc_region (mv rfl rfl (gv (ov_len_us Try.underlying22 rfl hr7) rfl (gv (ov_sub_i (q := 1) rfl rfl (by omega) (by omega)) rfl (asg rfl rfl (gl_nil (gq_then (gc_block ?_))))))))))))
  refine gc_loop (ι := Nat) (fun (j : (Nat)) => j ≤ AA.length ∧ AA.drop j = BB.drop j) (fun (j : (Nat)) => [(0, v7), (1, v9), (5, vI (↑j - 1))]) (fun (j : (Nat)) => []) (fun (j : (Nat)) => h2) (fun (j : (Nat)) => j) AA.length ?_ ⟨rfl, rfl, rfl, trivial⟩ rfl rfl ?_
  ·
   exact ⟨Nat.le_refl _, by rw [List.drop_of_length_le (Nat.le_refl _), List.drop_of_length_le (by omega)]⟩
  ·
   intro j hx
   obtain ⟨hj, hd⟩ := hx
   show GC _ _ _ _ _ _ [(0, v7), (1, v9), (5, vI (↑j - 1))] [] h2
   refine gc_seq (gc_seq (gc_region (mv rfl rfl (gv (ov_geq_i (q := 0) rfl rfl) rfl (gl_nil (gq_then ?_))))))
   refine gc_cond rfl (fun hc24 => ?_) (fun hc24 => ?_)
   ·
    refine gc_skip (gq_then (gc_seq (gc_block (gc_seq ?_))))
    refine gc_draw 9 _ [] [(0, .q), (1, .q), (2, .q), (3, .q), (4, .q), (5, .q), (6, .q), (7, .q), (8, .q)] mixed (fun x hx => by cases hx) (by kernel_rfl) (fun x hx => by cases hx) (fun r hr => hr) (w_q rfl (fun h' L' hh hR => ov_move rfl) rfl (w_q rfl (fun h' L' hh hR => ov_move rfl) rfl (w_q rfl (fun h' L' hh hR => ov_index_us (j - 1) Try.underlying22 Try.sizeOf61 rfl rfl (hr7.mono hh) (by omega) (by omega)) rfl (w_q rfl (fun h' L' hh hR => ov_load_us Try.isAgg61 rfl (hr7.mono hh) (by omega)) rfl (w_q rfl (fun h' L' hh hR => ov_move rfl) rfl (w_q rfl (fun h' L' hh hR => ov_move rfl) rfl (w_q rfl (fun h' L' hh hR => ov_index_us (j - 1) Try.underlying22 Try.sizeOf61 rfl rfl (hr9.mono hh) (by omega) (by omega)) rfl (w_q rfl (fun h' L' hh hR => ov_load_us Try.isAgg61 rfl (hr9.mono hh) (by omega)) rfl (w_q rfl (fun h' L' hh hR => ov_neq_u (k := .u32) rfl rfl) rfl (w_nil (gq_keep (e' := [(0, _), (1, _), (5, _), (35, _)]) ⟨rfl, rfl, rfl, rfl, trivial⟩ (gq_then ?_))))))))))))
    refine gc_cond rfl (fun hc35 => ?_) (fun hc35 => ?_)
    ·
     refine gc_seq (gc_seq ?_)
     refine gc_draw 9 _ [] [(0, .q), (1, .q), (2, .q), (3, .q), (4, .q), (5, .q), (6, .q), (7, .q), (8, .q)] mixed (fun x hx => by cases hx) (by kernel_rfl) (fun x hx => by cases hx) (fun r hr => hr) (w_q rfl (fun h' L' hh hR => ov_move rfl) rfl (w_q rfl (fun h' L' hh hR => ov_move rfl) rfl (w_q rfl (fun h' L' hh hR => ov_index_us (j - 1) Try.underlying22 Try.sizeOf61 rfl rfl (hr7.mono hh) (by omega) (by omega)) rfl (w_q rfl (fun h' L' hh hR => ov_load_us Try.isAgg61 rfl (hr7.mono hh) (by omega)) rfl (w_q rfl (fun h' L' hh hR => ov_move rfl) rfl (w_q rfl (fun h' L' hh hR => ov_move rfl) rfl (w_q rfl (fun h' L' hh hR => ov_index_us (j - 1) Try.underlying22 Try.sizeOf61 rfl rfl (hr9.mono hh) (by omega) (by omega)) rfl (w_q rfl (fun h' L' hh hR => ov_load_us Try.isAgg61 rfl (hr9.mono hh) (by omega)) rfl (w_q rfl (fun h' L' hh hR => ov_lss_u (k := .u32) rfl rfl) rfl (w_nil (gq_keep (e' := [(44, _)]) ⟨rfl, trivial⟩ (gq_then ?_))))))))))))
     refine gc_cond rfl (fun hc44 => ?_) (fun hc44 => ?_)
     ·
      refine gc_seq (gc_region (asg (v := vI (-1)) rfl rfl (gl_nil (gq_then (gc_ret (gr_then (gr_in (gr_then (gr_then (gr_in (gr_then (gq_body1 rfl rfl ?_))))))))))))
      rw [← vA, ← vB', cmpN_lt (val_top fA hl (by omega) hj hd hc44)]
     ·
      refine gc_skip (gq_then (gc_seq (gc_region (asg (v := vI (1)) rfl rfl (gl_nil (gq_then (gc_ret (gr_in (gr_then (gr_then (gr_in (gr_then (gq_body1 rfl rfl ?_)))))))))))))
      rw [← vA, ← vB', cmpN_gt (val_top fB hl.symm (by omega) (by omega) hd.symm (by omega))]
    ·
     refine gc_skip (gq_in (gq_then (gc_region (mv rfl rfl (gv (ov_sub_i (q := 1) rfl rfl (by omega) (by omega)) rfl (asg rfl rfl (gl_nil ?_)))))))
     refine gq_round (j - 1) ?_ ?_ ⟨?_, ?_, ?_, trivial⟩ ?_ rfl
     ·
      refine ⟨by omega, ?_⟩
      rw [drop_eq_cons AA (j - 1) (by omega), drop_eq_cons BB (j - 1) (by omega)]
      have e : j - 1 + 1 = j := by omega
      rw [e, hd, Classical.not_not.1 hc35]
     ·
      omega
     · exact rfl
     · exact rfl
     · exact congrArg some (congrArg vI (by omega))
     · exact rfl
   ·
    refine gc_exit (gx_then (gx_then (gx_here (gq_then (gc_seq (gc_region (asg (v := vI (0)) rfl rfl (gl_nil (gq_then (gc_ret (gq_body1 rfl rfl ?_)))))))))))
    have h0 : j = 0 := by omega
    subst h0
    simp only [List.drop_zero] at hd
    rw [← vA, ← vB', hd, cmpN_eq]

theorem sl_clone {w0 : World} {h0 : Mem}  (hs : MLe h0 (mem w0)) {v : Value} {xs : List Nat} (hv : Us .u32 h0 v xs) (hl : xs.length ≤ 1099511627776) :
    Calls Try.prog 111 #[v] w0 (RetOwn w0 h0 (fun _ r L => L = [.us 61 .u32 r xs])) := by
 refine calls_begin (n := 8) (e := [(0, v)]) (vs := [v]) Try.func111 rfl rfl (Nat.le_of_ble_eq_true rfl) hs ⟨rfl, trivial⟩ (gc_seq (gc_region (asg rfl rfl (gl_nil (gq_then (gc_seq (gc_seq (gc_region (mv rfl rfl (gv (ov_eql_nil Try.underlying22 rfl (let ⟨a, c, hv⟩ := hv.one; ⟨a, _, c, hv⟩)) rfl (gl_nil (gq_then ?_))))))))))))
 refine gc_cond rfl (fun hc4 => ?_) (fun hc4 => ?_)
 ·
  refine gc_seq (gc_region (asg rfl rfl (gl_addnil (E := 61) (k := .u32) (gl_nil (gq_then (gc_ret (gr_then (gq_body1_own rfl rfl ?_))))))))
  obtain ⟨m, cap, rfl⟩ := hc4
  have hx : xs = [] := hv.nil_of
  subst hx
  rfl
 ·
  refine gc_skip (gq_then (gc_seq (gc_region (gl_newop (new_build0 (kd := .u32) Try.underlying22 info61 rfl rfl) rfl rfl rfl ?_))))
  intro v5 r5 hr5
  obtain rfl := hr5
  refine mv rfl rfl (gl_repop (A := []) (rep_append_us (kd := .u32) (bytes := 4) Try.underlying22 info61 rfl rfl rfl rfl rfl hv (by simp only [List.length_nil]; omega) (by simp only [List.length_nil]; omega)) rfl rfl rfl ?_)
  intro v7 r7 hr7
  obtain rfl := hr7
  refine asg rfl rfl (gl_nil (gq_then (gc_ret (gq_body1_own rfl rfl ?_))))
  rfl

theorem nat_add {w0 : World} {h0 : Mem}  (hs : MLe h0 (mem w0)) {v v' : Value} {xs ys : List Nat} (hv : Us .u32 h0 v xs) (hv' : Us .u32 h0 v' ys) (hl : xs.length ≤ 1099511627776) (hl' : ys.length ≤ 1099511627776) :
    Calls Try.prog 105 #[v, v'] w0 (Ret w0 h0 (fun h r => Us .u32 h r (limbs (val xs + val ys)))) := by
 refine calls_begin (n := 58) (e := [(0, v), (1, v')]) (vs := [v, v']) Try.func105 rfl rfl (Nat.le_of_ble_eq_true rfl) hs ⟨rfl, rfl, trivial⟩ (gc_seq (gc_region (asg rfl rfl (gl_nil (gq_then ?_)))))
 refine gc_cut (ι := Value × List Nat × Value × List Nat) (fun (x_ : (Value × List Nat × Value × List Nat)) => match x_ with | (va, xa, vb, xb) => Us .u32 h0 va xa ∧ Us .u32 h0 vb xb ∧ xb.length ≤ xa.length ∧ val xa + val xb = val xs + val ys ∧ xa.length ≤ 1099511627776) (fun (x_ : (Value × List Nat × Value × List Nat)) => match x_ with | (va, xa, vb, xb) => [(0, va), (1, vb)]) (fun (x_ : (Value × List Nat × Value × List Nat)) => match x_ with | (va, xa, vb, xb) => []) (fun (x_ : (Value × List Nat × Value × List Nat)) => match x_ with | (va, xa, vb, xb) => h0) ?_ ?_
 ·
  refine gc_seq (gc_region (mv rfl rfl (gv (ov_len_us Try.underlying22 rfl hv) rfl (mv rfl rfl (gv (ov_len_us Try.underlying22 rfl hv') rfl (gv (ov_lss_i rfl rfl) rfl (gl_nil (gq_then ?_))))))))
  refine gc_cond rfl (fun hc13 => ?_) (fun hc13 => ?_)
  ·
   refine gc_region (mv rfl rfl (mv rfl rfl (asg rfl rfl (asg rfl rfl (gl_nil ?_)))))
   refine gq_cut (v', ys, v, xs) ?_ ⟨?_, ?_, trivial⟩ ?_ rfl
   ·
    exact ⟨hv', hv, by omega, by omega, hl'⟩
   · exact rfl
   · exact rfl
   · exact rfl
  ·
   refine gc_skip ?_
   refine gq_cut (v, xs, v', ys) ?_ ⟨?_, ?_, trivial⟩ ?_ rfl
   ·
    exact ⟨hv, hv', by omega, rfl, hl⟩
   · exact rfl
   · exact rfl
   · exact rfl
 ·
  intro x hx
  obtain ⟨va, xa, vb, xb⟩ := x
  obtain ⟨ha, hb, hle, hsum, hla⟩ := hx
  show GC _ _ _ _ _ _ [(0, va), (1, vb)] [] h0
  refine gc_seq (gc_region (mv rfl rfl (gv (ov_len_us Try.underlying22 rfl ha) rfl (gv (ov_add_i (q := 1) rfl rfl (by omega) (by omega)) rfl (gl_make_us (kd := .u32) (by' := 4) (xa.length + 1) Try.underlying22 info61 rfl rfl rfl rfl rfl (by omega) (by omega) (by omega) (by omega) rfl ?_)))))
  intro v19
  refine asg rfl rfl (gl_nil (gq_then (gc_seq (gc_region (asg (v := vU .u64 0) rfl rfl (gl_nil (gq_then (gc_seq (gc_seq (gc_region (mv rfl rfl (gv (ov_len_us Try.underlying22 rfl ha) rfl (mv (v := vI (0)) rfl rfl ?_)))))))))))))
  refine gl_nil (gq_then (gc_block ?_))
  refine gc_loop (ι := List Nat × Nat) (fun (x_ : (List Nat × Nat)) => match x_ with | (ss, c) => ss.length ≤ xa.length ∧ Fit ss ∧ c ≤ 1 ∧ val ss + 4294967296 ^ ss.length * c = val (xa.take ss.length) + val (xb.take ss.length)) (fun (x_ : (List Nat × Nat)) => match x_ with | (ss, c) => [(0, va), (1, vb), (5, v19), (6, vU .u64 c), (20, va), (21, vI ↑xa.length), (22, vI ↑ss.length)]) (fun (x_ : (List Nat × Nat)) => match x_ with | (ss, c) => [.us 61 .u32 v19 (fillTo ss (xa.length + 1))]) (fun (x_ : (List Nat × Nat)) => match x_ with | (ss, c) => h0) (fun (x_ : (List Nat × Nat)) => match x_ with | (ss, c) => xa.length - ss.length) ([], 0) ?_ ⟨rfl, rfl, rfl, rfl, rfl, rfl, rfl, trivial⟩ rfl rfl ?_
  ·
   exact ⟨by simp, fun x hx => by simp at hx, by omega, by simp [val]⟩
  ·
   intro x hx
   obtain ⟨ss, c⟩ := x
   obtain ⟨hss, hfs, hc1, hval⟩ := hx
   show GC _ _ _ _ _ _ [(0, va), (1, vb), (5, v19), (6, vU .u64 c), (20, va), (21, vI ↑xa.length), (22, vI ↑ss.length)] [.us 61 .u32 v19 (fillTo ss (xa.length + 1))] h0
   refine gc_seq (gc_region (gv (ov_lss_i rfl rfl) rfl (gl_nil (gq_then (gc_seq ?_)))))
   refine gc_cond rfl (fun hc23 => ?_) (fun hc23 => ?_)
   ·
    refine gc_skip (gq_then (gc_seq (gc_block (gc_seq (gc_region (mv rfl rfl (gv (ov_index_us _ Try.underlying22 Try.sizeOf61 rfl rfl ha rfl (by omega)) rfl (gv (ov_load_us Try.isAgg61 rfl ha (by omega)) rfl ?_))))))))
    have hx1 := ha.get32 ss.length
    have hx2 := hb.get32 ss.length
    refine asg rfl rfl (asg rfl rfl (gl_nil (gq_then (gc_seq (gc_region (mv rfl rfl (mv rfl rfl (gv (ov_conv_u (k := .u32) (k' := .u64) (W := 18446744073709551616) Try.underlying61 Try.underlying75 rfl rfl rfl (by omega)) rfl (gv (ov_add_u (k := .u64) (W := 18446744073709551616) rfl rfl rfl rfl (by omega)) rfl (asg rfl rfl (gl_nil (gq_then ?_))))))))))))
    refine gc_cut (ι := Unit) (fun (_u : (Unit)) => True) (fun (_u : (Unit)) => [(0, va), (1, vb), (5, v19), (6, vU .u64 (c + xa.getD ss.length 0 + xb.getD ss.length 0)), (7, vI ↑ss.length), (20, va), (21, vI ↑xa.length), (22, vI ↑ss.length)]) (fun (_u : (Unit)) => [.us 61 .u32 v19 (fillTo ss (xa.length + 1))]) (fun (_u : (Unit)) => h0) ?_ ?_
    ·
     refine gc_seq (gc_region (mv rfl rfl (mv rfl rfl (gv (ov_len_us Try.underlying22 rfl hb) rfl (gv (ov_lss_i rfl rfl) rfl (gl_nil (gq_keep (e' := [(0, _), (1, _), (5, _), (20, _), (21, _), (22, _), (7, _), (6, _), (34, _)]) ⟨rfl, rfl, rfl, rfl, rfl, rfl, rfl, rfl, rfl, trivial⟩ (gq_then ?_))))))))
     refine gc_cond rfl (fun hc34 => ?_) (fun hc34 => ?_)
     ·
      refine gc_region (mv rfl rfl (mv rfl rfl (mv rfl rfl (gv (ov_index_us _ Try.underlying22 Try.sizeOf61 rfl rfl hb rfl (by omega)) rfl (gv (ov_load_us Try.isAgg61 rfl hb (by omega)) rfl (gv (ov_conv_u (k := .u32) (k' := .u64) (W := 18446744073709551616) Try.underlying61 Try.underlying75 rfl rfl rfl (by omega)) rfl (gv (ov_add_u (k := .u64) (W := 18446744073709551616) rfl rfl rfl rfl (by omega)) rfl (asg rfl rfl (gl_nil ?_)))))))))
      refine gq_cut (()) ?_ ⟨?_, ?_, ?_, ?_, ?_, ?_, ?_, ?_, trivial⟩ ?_ rfl
      ·
       trivial
      · exact rfl
      · exact rfl
      · exact rfl
      · exact rfl
      · exact rfl
      · exact rfl
      · exact rfl
      · exact rfl
      · exact rfl
     ·
      refine gc_skip ?_
      refine gq_cut (()) ?_ ⟨?_, ?_, ?_, ?_, ?_, ?_, ?_, ?_, trivial⟩ ?_ rfl
      ·
       trivial
      · exact rfl
      · exact rfl
      · exact rfl
      · exact congrArg some (congrArg (vU .u64) (by rw [getD_out (xs := xb) (by omega)]; omega))
      · exact rfl
      · exact rfl
      · exact rfl
      · exact rfl
      · exact rfl
    ·
     intro _u hx
     obtain hcut := hx
     show GC _ _ _ _ _ _ [(0, va), (1, vb), (5, v19), (6, vU .u64 (c + xa.getD ss.length 0 + xb.getD ss.length 0)), (7, vI ↑ss.length), (20, va), (21, vI ↑xa.length), (22, vI ↑ss.length)] [.us 61 .u32 v19 (fillTo ss (xa.length + 1))] h0
     refine gc_seq (gc_region (mv rfl rfl (mv rfl rfl (mv rfl rfl (gv (ov_conv_uu (k := .u64) (k' := .u32) (W := 4294967296) Try.underlying75 Try.underlying61 rfl rfl rfl) rfl (gv (ov_index_ous (A := []) _ Try.underlying22 Try.sizeOf61 rfl rfl rfl (by rw [length_fillTo (by omega)]; omega)) rfl (gl_store_ous0 Try.sizeOf61 rfl rfl (by rw [length_fillTo (by omega)]; omega) (gl_nil (gq_then (gc_region (mv rfl rfl (gv (ov_shr_u (k := .u64) (s := 32) (yk := .u64) rfl rfl rfl (by simp only [ub]; omega)) rfl (asg rfl rfl ?_)))))))))))))
     refine gl_nil (gq_in (gq_then (gc_region (gv (ov_add_i (q := 1) rfl rfl (by omega) (by omega)) rfl (mv rfl rfl (gl_nil ?_))))))
     refine gq_round (ss ++ [(c + xa.getD ss.length 0 + xb.getD ss.length 0) % 4294967296], (c + xa.getD ss.length 0 + xb.getD ss.length 0) / 2 ^ 32) ?_ ?_ ⟨?_, ?_, ?_, ?_, ?_, ?_, ?_, trivial⟩ ?_ rfl
     ·
      have hlt : ss.length < xa.length := by omega
      refine ⟨by simp; omega, fit_append hfs (fit_one (by omega)), by omega, ?_⟩
      rw [List.length_append, List.length_singleton, val_take_succ xa _ hlt, val_take_getD xb, val_snoc, Nat.pow_succ]
      have e := Nat.div_add_mod (c + xa.getD ss.length 0 + xb.getD ss.length 0) 4294967296
      have e2 : (2 : Nat) ^ 32 = 4294967296 := rfl
      rw [e2]
      generalize (c + xa.getD ss.length 0 + xb.getD ss.length 0) / 4294967296 = q at *
      generalize (c + xa.getD ss.length 0 + xb.getD ss.length 0) % 4294967296 = r at *
      grind
     ·
      dsimp only
      simp; omega
     · exact rfl
     · exact rfl
     · exact rfl
     · exact rfl
     · exact rfl
     · exact rfl
     · exact congrArg some (congrArg vI (by simp))
     ·
      try dsimp only [List.nil_append, List.cons_append]
      rw [fillTo_set (by omega)]
   ·
    refine gc_exit (gx_then (gx_then (gx_here (gq_then (gc_seq (gc_region (mv rfl rfl (mv rfl rfl (gv (ov_len_us Try.underlying22 rfl ha) rfl (mv rfl rfl (gv (ov_conv_uu (k := .u64) (k' := .u32) (W := 4294967296) Try.underlying75 Try.underlying61 rfl rfl rfl) rfl (gv (ov_index_ous (A := []) (xa.length) Try.underlying22 Try.sizeOf61 rfl rfl (by rfl) (by rw [length_fillTo (by omega)]; omega)) rfl (gl_store_ous0 Try.sizeOf61 rfl rfl (by rw [length_fillTo (by omega)]; omega) ?_)))))))))))))
    refine gl_nil (gq_keep (e' := [(5, _)]) ⟨rfl, trivial⟩ (gq_then (gc_seq (gc_region (mv rfl rfl ?_)))))
    have hk : ss.length = xa.length := by omega
    have hfin : (fillTo ss (xa.length + 1)).set xa.length (c % 4294967296) = ss ++ [c % 4294967296] := by
      rw [← hk, fillTo_set (by omega), fillTo_full (by simp)]
    refine gl_freeze_us0 (by rw [hfin]; exact fit_append hfs (fit_one (by omega))) ?_
    intro h1 hh1 ho
    refine gl_call (vs := [_]) rfl rfl rfl rfl Try.call101 ⟨rfl, trivial⟩ (fun w hs => nat_trim hs ho) ?_
    intro v57 h2 hh2 hr57
    replace hr57 := hr57.2
    refine asg rfl rfl (gl_nil (gq_then (gc_ret (gq_body1 rfl rfl ?_))))
    have e : val (ss ++ [c % 4294967296]) = val xs + val ys := by
      rw [val_snoc, Nat.mod_eq_of_lt (by omega), hval, val_take_all (by omega), val_take_all (by omega)]; exact hsum
    rw [hfin, e] at hr57
    exact hr57

theorem nat_sub {w0 : World} {h0 : Mem}  (hs : MLe h0 (mem w0)) {v v' : Value} {xs ys : List Nat} (hv : Us .u32 h0 v xs) (hv' : Us .u32 h0 v' ys) (hl : xs.length ≤ 1099511627776) :
    Calls Try.prog 124 #[v, v'] w0 (Ret w0 h0 (fun h r => ∃ u, r = .tuple #[u, vI (if val xs < val ys then 7 else 0)] ∧ Us .u32 h u (limbs (val xs - val ys)))) := by
 refine calls_begin (n := 54) (e := [(0, v), (1, v')]) (vs := [v, v']) Try.func124 rfl rfl (Nat.le_of_ble_eq_true rfl) hs ⟨rfl, rfl, trivial⟩ (gc_seq (gc_region (asg rfl rfl (asg (v := vI (0)) rfl rfl (gl_nil (gq_then (gc_seq (gc_seq (gc_region (mv rfl rfl (mv rfl rfl ?_)))))))))))
 refine gl_call (vs := [_, _]) rfl rfl rfl rfl Try.call98 ⟨rfl, rfl, trivial⟩ (fun w hs => nat_cmp hs hv hv') ?_
 intro v14 h1 hh1 hr14
 subst hr14
 refine gv (ov_lss_i (q := 0) rfl rfl) rfl (gl_nil (gq_then ?_))
 refine gc_cond rfl (fun hc15 => ?_) (fun hc15 => ?_)
 ·
  have hlt := cmpN_neg.1 hc15
  refine gc_seq (gc_region (asg rfl rfl (asg (v := vI (7)) rfl rfl (gl_nil (gq_then (gc_ret (gr_then (gq_body2 rfl rfl rfl ?_))))))))
  rw [if_pos hlt, Nat.sub_eq_zero_of_le (Nat.le_of_lt hlt), limbs_zero]
  exact ⟨_, rfl, Us.nil _ _⟩
 ·
  have hge : val ys ≤ val xs := Nat.le_of_not_lt fun hc => hc15 (cmpN_neg.2 hc)
  refine gc_skip (gq_then (gc_seq (gc_region (mv rfl rfl ?_))))
  replace hv' := hv'.mono hh1
  refine gl_call (vs := [_]) rfl rfl rfl rfl Try.call101 ⟨rfl, trivial⟩ (fun w hs => nat_trim hs hv') ?_
  intro v17 h2 hh2 hr17
  replace hr17 := hr17.2
  refine asg rfl rfl (gl_nil (gq_then (gc_seq (gc_region (mv rfl rfl ?_)))))
  replace hv := hv.mono (hh1.trans hh2)
  refine gv (ov_len_us Try.underlying22 rfl hv) rfl (gl_make_us (kd := .u32) (by' := 4) _ Try.underlying22 info61 rfl rfl rfl rfl rfl rfl rfl (by omega) (by omega) rfl ?_)
  intro v20
  refine asg rfl rfl (gl_nil (gq_keep (e' := [(0, _), (1, _), (6, _)]) ⟨rfl, rfl, rfl, trivial⟩ (gq_then (gc_seq (gc_region (asg (v := vU .u64 0) rfl rfl (gl_nil (gq_then (gc_seq (gc_seq (gc_region (mv rfl rfl (gv (ov_len_us Try.underlying22 rfl hv) rfl ?_)))))))))))))
  refine mv (v := vI (0)) rfl rfl (gl_nil (gq_then (gc_block ?_)))
  refine gc_loop (ι := List Nat × Nat) (fun (x_ : (List Nat × Nat)) => match x_ with | (ss, c) => ss.length ≤ xs.length ∧ Fit ss ∧ c ≤ 1 ∧ val ss + val ((limbs (val ys)).take ss.length) = val (xs.take ss.length) + 4294967296 ^ ss.length * c) (fun (x_ : (List Nat × Nat)) => match x_ with | (ss, c) => [(1, v17), (6, v20), (7, vU .u64 c), (21, v), (22, vI ↑xs.length), (23, vI ↑ss.length)]) (fun (x_ : (List Nat × Nat)) => match x_ with | (ss, c) => [.us 61 .u32 v20 (fillTo ss xs.length)]) (fun (x_ : (List Nat × Nat)) => match x_ with | (ss, c) => h2) (fun (x_ : (List Nat × Nat)) => match x_ with | (ss, c) => xs.length - ss.length) ([], 0) ?_ ⟨rfl, rfl, rfl, rfl, rfl, rfl, trivial⟩ rfl rfl ?_
  ·
   exact ⟨by simp, fun x hx => by simp at hx, by omega, by simp [val]⟩
  ·
   intro x hx
   obtain ⟨ss, c⟩ := x
   obtain ⟨hss, hfs, hc1, hval⟩ := hx
   show GC _ _ _ _ _ _ [(1, v17), (6, v20), (7, vU .u64 c), (21, v), (22, vI ↑xs.length), (23, vI ↑ss.length)] [.us 61 .u32 v20 (fillTo ss xs.length)] h2
   refine gc_seq (gc_region (gv (ov_lss_i rfl rfl) rfl (gl_nil (gq_then (gc_seq ?_)))))
   refine gc_cond rfl (fun hc24 => ?_) (fun hc24 => ?_)
   ·
    refine gc_skip (gq_then (gc_seq (gc_block (gc_seq (gc_region (mv rfl rfl (gv (ov_index_us _ Try.underlying22 Try.sizeOf61 rfl rfl hv rfl (by omega)) rfl (gv (ov_load_us Try.isAgg61 rfl hv (by omega)) rfl ?_))))))))
    have hx1 := hv.get32 ss.length
    have hx2 := hr17.get32 ss.length
    refine asg rfl rfl (asg rfl rfl (gl_nil (gq_then (gc_seq (gc_region (mv rfl rfl (asg rfl rfl (gl_nil (gq_then ?_)))))))))
    refine gc_cut (ι := Unit) (fun (_u : (Unit)) => True) (fun (_u : (Unit)) => [(1, v17), (6, v20), (8, vI ↑ss.length), (9, vU .u32 (xs.getD ss.length 0)), (10, vU .u64 (c + (limbs (val ys)).getD ss.length 0)), (21, v), (22, vI ↑xs.length), (23, vI ↑ss.length)]) (fun (_u : (Unit)) => [.us 61 .u32 v20 (fillTo ss xs.length)]) (fun (_u : (Unit)) => h2) ?_ ?_
    ·
     refine gc_seq (gc_region (mv rfl rfl (mv rfl rfl (gv (ov_len_us Try.underlying22 rfl hr17) rfl (gv (ov_lss_i rfl rfl) rfl (gl_nil (gq_then ?_)))))))
     refine gc_cond rfl (fun hc32 => ?_) (fun hc32 => ?_)
     ·
      refine gc_keep (e' := [(1, _), (6, _), (21, _), (22, _), (23, _), (8, _), (9, _), (10, _)]) ⟨rfl, rfl, rfl, rfl, rfl, rfl, rfl, rfl, trivial⟩ (gc_region (mv rfl rfl (mv rfl rfl (mv rfl rfl (gv (ov_index_us _ Try.underlying22 Try.sizeOf61 rfl rfl hr17 rfl (by omega)) rfl (gv (ov_load_us Try.isAgg61 rfl hr17 (by omega)) rfl (gv (ov_conv_u (k := .u32) (k' := .u64) (W := 18446744073709551616) Try.underlying61 Try.underlying75 rfl rfl rfl (by omega)) rfl (gv (ov_add_u (k := .u64) (W := 18446744073709551616) rfl rfl rfl rfl (by omega)) rfl (asg rfl rfl (gl_nil ?_))))))))))
      refine gq_cut (()) ?_ ⟨?_, ?_, ?_, ?_, ?_, ?_, ?_, ?_, trivial⟩ ?_ rfl
      ·
       trivial
      · exact rfl
      · exact rfl
      · exact rfl
      · exact rfl
      · exact rfl
      · exact rfl
      · exact rfl
      · exact rfl
      · exact rfl
     ·
      refine gc_keep (e' := [(1, _), (6, _), (21, _), (22, _), (23, _), (8, _), (9, _), (10, _)]) ⟨rfl, rfl, rfl, rfl, rfl, rfl, rfl, rfl, trivial⟩ (gc_skip ?_)
      refine gq_cut (()) ?_ ⟨?_, ?_, ?_, ?_, ?_, ?_, ?_, ?_, trivial⟩ ?_ rfl
      ·
       trivial
      · exact rfl
      · exact rfl
      · exact rfl
      · exact rfl
      · exact congrArg some (congrArg (vU .u64) (by rw [getD_out (xs := limbs (val ys)) (by omega)]; omega))
      · exact rfl
      · exact rfl
      · exact rfl
      · exact rfl
    ·
     intro _u hx
     obtain hcut := hx
     show GC _ _ _ _ _ _ [(1, v17), (6, v20), (8, vI ↑ss.length), (9, vU .u32 (xs.getD ss.length 0)), (10, vU .u64 (c + (limbs (val ys)).getD ss.length 0)), (21, v), (22, vI ↑xs.length), (23, vI ↑ss.length)] [.us 61 .u32 v20 (fillTo ss xs.length)] h2
     refine gc_seq (gc_region (mv rfl rfl (gv (ov_conv_u (k := .u32) (k' := .u64) (W := 18446744073709551616) Try.underlying61 Try.underlying75 rfl rfl rfl (by omega)) rfl (mv rfl rfl (gv (ov_subw_u (k := .u64) (W := 18446744073709551616) rfl rfl rfl rfl (by omega)) rfl (asg rfl rfl (gl_nil (gq_then (gc_seq (gc_region (mv rfl rfl (mv rfl rfl (mv rfl rfl ?_)))))))))))))
     refine gv (ov_conv_uu (k := .u64) (k' := .u32) (W := 4294967296) Try.underlying75 Try.underlying61 rfl rfl rfl) rfl (gv (ov_index_ous (A := []) _ Try.underlying22 Try.sizeOf61 rfl rfl rfl (by rw [length_fillTo (by omega)]; omega)) rfl (gl_store_ous0 Try.sizeOf61 rfl rfl (by rw [length_fillTo (by omega)]; omega) (gl_nil (gq_keep (e' := [(1, _), (6, _), (21, _), (22, _), (23, _), (11, _)]) ⟨rfl, rfl, rfl, rfl, rfl, rfl, trivial⟩ (gq_then (gc_region (mv rfl rfl (gv (ov_shr_u (k := .u64) (s := 63) (yk := .u64) rfl rfl rfl (by simp only [ub]; omega)) rfl (asg rfl rfl (gl_nil (gq_in (gq_then (gc_region ?_)))))))))))))
     refine gv (ov_add_i (q := 1) rfl rfl (by omega) (by omega)) rfl (mv rfl rfl (gl_nil ?_))
     generalize hX : xs.getD ss.length 0 = X at *
     generalize hY : (limbs (val ys)).getD ss.length 0 = Y at *
     refine gq_round (ss ++ [(X + 18446744073709551616 - (c + Y)) % 18446744073709551616 % 4294967296], (X + 18446744073709551616 - (c + Y)) % 18446744073709551616 / 2 ^ 63) ?_ ?_ ⟨?_, ?_, ?_, ?_, ?_, ?_, trivial⟩ ?_ rfl
     ·
      have hlt : ss.length < xs.length := by omega
      refine ⟨by simp; omega, fit_append hfs (fit_one (by omega)), by omega, ?_⟩
      rw [List.length_append, List.length_singleton, val_take_succ xs _ hlt, val_take_getD (limbs (val ys)), val_snoc, Nat.pow_succ, hX, hY]
      have e : (X + 18446744073709551616 - (c + Y)) % 18446744073709551616 % 4294967296 + c + Y = X + 4294967296 * ((X + 18446744073709551616 - (c + Y)) % 18446744073709551616 / 2 ^ 63) := by omega
      generalize (X + 18446744073709551616 - (c + Y)) % 18446744073709551616 / 2 ^ 63 = q at *
      generalize (X + 18446744073709551616 - (c + Y)) % 18446744073709551616 % 4294967296 = r at *
      grind
     ·
      dsimp only
      simp; omega
     · exact rfl
     · exact rfl
     · exact rfl
     · exact rfl
     · exact rfl
     · exact congrArg some (congrArg vI (by simp))
     ·
      try dsimp only [List.nil_append, List.cons_append]
      rw [fillTo_set (by omega)]
   ·
    refine gc_exit (gx_then (gx_then (gx_here (gq_then (gc_seq (gc_region (mv rfl rfl ?_)))))))
    have hk : ss.length = xs.length := by omega
    rw [fillTo_full hk]
    refine gl_freeze_us0 (by exact hfs) ?_
    intro h3 hh3 ho
    refine gl_call (vs := [_]) rfl rfl rfl rfl Try.call101 ⟨rfl, trivial⟩ (fun w hs => nat_trim hs ho) ?_
    intro v53 h4 hh4 hr53
    replace hr53 := hr53.2
    refine asg rfl rfl (asg (v := vI (0)) rfl rfl (gl_nil (gq_then (gc_ret (gq_body2 rfl rfl rfl ?_)))))
    replace hv := hv.mono (hh3.trans hh4)
    rw [if_neg (by omega)]
    refine ⟨_, rfl, ?_⟩
    have e : val ss = val xs - val ys := by
      have hly : (limbs (val ys)).length ≤ xs.length := Nat.le_trans (limbs_len_mono hge) (limbs_len_le hv.lt)
      rw [val_take_all (by omega), val_limbs, val_take_all (by omega)] at hval
      have h1 := val_lt hfs
      have h2 : c = 0 := Classical.byContradiction fun hne => by
        have : c = 1 := by omega
        subst this
        omega
      subst h2
      omega
    rw [e] at hr53
    exact hr53

theorem nat_mul {w0 : World} {h0 : Mem}  (hs : MLe h0 (mem w0)) {v v' : Value} {xs ys : List Nat} (hv : Us .u32 h0 v xs) (hv' : Us .u32 h0 v' ys) (hl : xs.length ≤ 1099511627776) (hl' : ys.length ≤ 1099511627776) :
    Calls Try.prog 67 #[v, v'] w0 (Ret w0 h0 (fun h r => Us .u32 h r (limbs (val xs * val ys)))) := by
 have hfx : Fit xs := hv.lt
 have hfy : Fit ys := hv'.lt
 refine calls_begin (n := 69) (e := [(0, v), (1, v')]) (vs := [v, v']) Try.func67 rfl rfl (Nat.le_of_ble_eq_true rfl) hs ⟨rfl, rfl, trivial⟩ (gc_seq (gc_region (asg rfl rfl (gl_nil (gq_then (gc_seq (gc_region (mv rfl rfl (gv (ov_len_us Try.underlying22 rfl hv) rfl (mv rfl rfl (gv (ov_len_us Try.underlying22 rfl hv') rfl (gv (ov_add_i rfl rfl (by omega) (by omega)) rfl (gl_make_us (kd := .u32) (by' := 4) (xs.length + ys.length) Try.underlying22 info61 rfl rfl rfl rfl rfl (by omega) (by omega) (by omega) (by omega) rfl ?_)))))))))))))
 intro v16
 refine asg rfl rfl (gl_nil (gq_then (gc_seq (gc_seq (gc_region (mv rfl rfl (gv (ov_len_us Try.underlying22 rfl hv) rfl (mv (v := vI (0)) rfl rfl (gl_nil (gq_then (gc_block ?_)))))))))))
 refine gc_loop (ι := Nat × List Nat) (fun (x_ : (Nat × List Nat)) => match x_ with | (k, os) => k ≤ xs.length ∧ os.length = xs.length + ys.length ∧ Fit os ∧ val os = val (xs.take k) * val ys ∧ ∀ i, k + ys.length ≤ i → os.getD i 0 = 0) (fun (x_ : (Nat × List Nat)) => match x_ with | (k, os) => [(1, v'), (5, v16), (17, v), (18, vI ↑xs.length), (19, vI ↑k)]) (fun (x_ : (Nat × List Nat)) => match x_ with | (k, os) => [.us 61 .u32 v16 os]) (fun (x_ : (Nat × List Nat)) => match x_ with | (k, os) => h0) (fun (x_ : (Nat × List Nat)) => match x_ with | (k, os) => xs.length - k) (0, List.replicate (xs.length + ys.length) 0) ?_ ⟨rfl, rfl, rfl, rfl, rfl, trivial⟩ rfl rfl ?_
 ·
  exact ⟨Nat.zero_le _, by simp, fit_replicate _, by rw [val_replicate]; simp [val], fun i _ => getD_replicate _ _⟩
 ·
  intro x hx
  obtain ⟨k, os⟩ := x
  obtain ⟨hk, hos, hfo, hval, hz⟩ := hx
  show GC _ _ _ _ _ _ [(1, v'), (5, v16), (17, v), (18, vI ↑xs.length), (19, vI ↑k)] [.us 61 .u32 v16 os] h0
  refine gc_seq (gc_region (gv (ov_lss_i rfl rfl) rfl (gl_nil (gq_then (gc_seq ?_)))))
  refine gc_cond rfl (fun hc20 => ?_) (fun hc20 => ?_)
  ·
   refine gc_skip (gq_then (gc_seq (gc_block (gc_seq (gc_region (mv rfl rfl (gv (ov_index_us _ Try.underlying22 Try.sizeOf61 rfl rfl hv rfl (by omega)) rfl (gv (ov_load_us Try.isAgg61 rfl hv (by omega)) rfl ?_))))))))
   have hx1 := hv.get32 k
   refine asg rfl rfl (asg rfl rfl (gl_nil (gq_then (gc_seq (gc_seq (gc_region (mv rfl rfl (gv (ov_eql_u (k := .u32) (q := 0) rfl rfl) rfl (gl_nil (gq_then ?_))))))))))
   refine gc_cond rfl (fun hc25 => ?_) (fun hc25 => ?_)
   ·
    have hx0 : xs.getD k 0 = 0 := hc25
    refine gc_exit (gx_then (gx_here (gq_then (gc_region (gv (ov_add_i (q := 1) rfl rfl (by omega) (by omega)) rfl (mv rfl rfl (gl_nil ?_)))))))
    refine gq_round (k + 1, os) ?_ ?_ ⟨?_, ?_, ?_, ?_, ?_, trivial⟩ ?_ rfl
    ·
     exact ⟨by omega, hos, hfo, by rw [hval, val_take_succ xs k (by omega), hx0]; simp, fun i hi => hz i (by omega)⟩
    ·
     dsimp only
     omega
    · exact rfl
    · exact rfl
    · exact rfl
    · exact rfl
    · exact rfl
    · exact rfl
   ·
    have hx0 : xs.getD k 0 ≠ 0 := hc25
    refine gc_skip (gq_then (gc_seq (gc_region (asg (v := vU .u64 0) rfl rfl (gl_nil (gq_then (gc_seq (gc_seq (gc_region (mv rfl rfl (gv (ov_len_us Try.underlying22 rfl hv') rfl (mv (v := vI (0)) rfl rfl (gl_nil ?_)))))))))))))
    refine gq_then (gc_block ?_)
    refine gc_loop (ι := Nat × List Nat × Nat) (fun (x_ : (Nat × List Nat × Nat)) => match x_ with | (j, ts, c) => j ≤ ys.length ∧ ts.length = xs.length + ys.length ∧ Fit ts ∧ c < 4294967296 ∧ val ts + 4294967296 ^ (k + j) * c = val os + 4294967296 ^ k * (xs.getD k 0 * val (ys.take j)) ∧ ∀ i, k + ys.length ≤ i → ts.getD i 0 = 0) (fun (x_ : (Nat × List Nat × Nat)) => match x_ with | (j, ts, c) => [(1, v'), (5, v16), (6, vI ↑k), (7, vU .u32 (xs.getD k 0)), (8, vU .u64 c), (17, v), (18, vI ↑xs.length), (19, vI ↑k), (26, v'), (27, vI ↑ys.length), (28, vI ↑j)]) (fun (x_ : (Nat × List Nat × Nat)) => match x_ with | (j, ts, c) => [.us 61 .u32 v16 ts]) (fun (x_ : (Nat × List Nat × Nat)) => match x_ with | (j, ts, c) => h0) (fun (x_ : (Nat × List Nat × Nat)) => match x_ with | (j, ts, c) => ys.length - j) (0, os, 0) ?_ ⟨rfl, rfl, rfl, rfl, rfl, rfl, rfl, rfl, rfl, rfl, rfl, trivial⟩ rfl rfl ?_
    ·
     exact ⟨Nat.zero_le _, hos, hfo, by omega, by simp [val], hz⟩
    ·
     intro x hx
     obtain ⟨j, ts, c⟩ := x
     obtain ⟨hj, hts, hft, hcb, htv, htz⟩ := hx
     show GC _ _ _ _ _ _ [(1, v'), (5, v16), (6, vI ↑k), (7, vU .u32 (xs.getD k 0)), (8, vU .u64 c), (17, v), (18, vI ↑xs.length), (19, vI ↑k), (26, v'), (27, vI ↑ys.length), (28, vI ↑j)] [.us 61 .u32 v16 ts] h0
     refine gc_seq (gc_region (gv (ov_lss_i rfl rfl) rfl (gl_nil (gq_then (gc_seq ?_)))))
     refine gc_cond rfl (fun hc29 => ?_) (fun hc29 => ?_)
     ·
      refine gc_skip (gq_then (gc_seq (gc_block (gc_seq (gc_region (mv rfl rfl (gv (ov_index_us _ Try.underlying22 Try.sizeOf61 rfl rfl hv' rfl (by omega)) rfl (gv (ov_load_us Try.isAgg61 rfl hv' (by omega)) rfl ?_))))))))
      have hx2 := hv'.get32 j
      have hx3 := fit_get hft (k + j)
      have hxy : xs.getD k 0 * ys.getD j 0 ≤ 4294967295 * 4294967295 := Nat.mul_le_mul (by omega) (by omega)
      refine asg rfl rfl (asg rfl rfl (gl_nil (gq_then (gc_seq (gc_region (mv rfl rfl (mv rfl rfl (gv (ov_conv_u (k := .u32) (k' := .u64) (W := 18446744073709551616) Try.underlying61 Try.underlying75 rfl rfl rfl (by omega)) rfl (mv rfl rfl (gv (ov_conv_u (k := .u32) (k' := .u64) (W := 18446744073709551616) Try.underlying61 Try.underlying75 rfl rfl rfl (by omega)) rfl (gv (ov_mul_u (k := .u64) (W := 18446744073709551616) rfl rfl rfl rfl (by omega)) rfl (mv rfl rfl (mv rfl rfl ?_)))))))))))))
      refine mv rfl rfl (gv (ov_add_i rfl rfl (by omega) (by omega)) rfl (gv (ov_index_ous (A := []) (k + j) Try.underlying22 Try.sizeOf61 rfl rfl (by omega) (by omega)) rfl (gv (ov_load_ous (A := []) Try.isAgg61 rfl (by omega)) rfl (gv (ov_conv_u (k := .u32) (k' := .u64) (W := 18446744073709551616) Try.underlying61 Try.underlying75 rfl rfl rfl (by omega)) rfl (gv (ov_add_u (k := .u64) (W := 18446744073709551616) rfl rfl rfl rfl (by omega)) rfl (gv (ov_add_u (k := .u64) (W := 18446744073709551616) rfl rfl rfl rfl (by omega)) rfl (asg rfl rfl (gl_nil (gq_keep (e' := [(1, _), (5, _), (6, _), (7, _), (17, _), (18, _), (19, _), (26, _), (27, _), (28, _), (9, _), (8, _)]) ⟨rfl, rfl, rfl, rfl, rfl, rfl, rfl, rfl, rfl, rfl, rfl, rfl, trivial⟩ (gq_then (gc_seq (gc_region (mv rfl rfl ?_)))))))))))))
      refine mv rfl rfl (mv rfl rfl (gv (ov_add_i rfl rfl (by omega) (by omega)) rfl (mv rfl rfl (gv (ov_conv_uu (k := .u64) (k' := .u32) (W := 4294967296) Try.underlying75 Try.underlying61 rfl rfl rfl) rfl (gv (ov_index_ous (A := []) (k + j) Try.underlying22 Try.sizeOf61 rfl rfl (by omega) (by omega)) rfl (gl_store_ous0 Try.sizeOf61 rfl rfl (by omega) (gl_nil (gq_then (gc_region (mv rfl rfl (gv (ov_shr_u (k := .u64) (s := 32) (yk := .u64) rfl rfl rfl (by simp only [ub]; omega)) rfl (asg rfl rfl (gl_nil ?_)))))))))))))
      refine gq_in (gq_keep (e' := [(1, _), (5, _), (6, _), (7, _), (17, _), (18, _), (19, _), (26, _), (27, _), (28, _), (8, _)]) ⟨rfl, rfl, rfl, rfl, rfl, rfl, rfl, rfl, rfl, rfl, rfl, trivial⟩ (gq_then (gc_region (gv (ov_add_i (q := 1) rfl rfl (by omega) (by omega)) rfl (mv rfl rfl (gl_nil ?_))))))
      refine gq_round (j + 1, ts.set (k + j) ((c + (xs.getD k 0 * ys.getD j 0 + ts.getD (k + j) 0)) % 4294967296), (c + (xs.getD k 0 * ys.getD j 0 + ts.getD (k + j) 0)) / 2 ^ 32) ?_ ?_ ⟨?_, ?_, ?_, ?_, ?_, ?_, ?_, ?_, ?_, ?_, ?_, trivial⟩ ?_ rfl
      ·
       refine ⟨by omega, by simp [hts], fit_set hft _ (by omega), by omega, ?_, fun i hi => ?_⟩
       · have h1 := val_set (xs := ts) (i := k + j) (by omega) ((c + (xs.getD k 0 * ys.getD j 0 + ts.getD (k + j) 0)) % 4294967296)
         have e := Nat.div_add_mod (c + (xs.getD k 0 * ys.getD j 0 + ts.getD (k + j) 0)) 4294967296
         have e2 : (2 : Nat) ^ 32 = 4294967296 := rfl
         rw [val_take_succ ys j (by omega), e2]
         have ep : (4294967296 : Nat) ^ (k + (j + 1)) = 4294967296 ^ k * 4294967296 ^ j * 4294967296 := by rw [← Nat.add_assoc, Nat.pow_succ, Nat.pow_add]
         rw [ep]
         rw [Nat.pow_add] at h1 htv
         generalize (c + (xs.getD k 0 * ys.getD j 0 + ts.getD (k + j) 0)) / 4294967296 = q at *
         generalize (c + (xs.getD k 0 * ys.getD j 0 + ts.getD (k + j) 0)) % 4294967296 = r at *
         grind
       · rw [getD_set_other (by omega)]; exact htz i hi
      ·
       dsimp only
       omega
      · exact rfl
      · exact rfl
      · exact rfl
      · exact rfl
      · exact rfl
      · exact rfl
      · exact rfl
      · exact rfl
      · exact rfl
      · exact rfl
      · exact rfl
      · exact rfl
     ·
      refine gc_exit (gx_then (gx_then (gx_here (gq_then (gc_region (mv rfl rfl (mv rfl rfl (mv rfl rfl (gv (ov_len_us Try.underlying22 rfl hv') rfl (gv (ov_add_i rfl rfl (by omega) (by omega)) rfl (mv rfl rfl (gv (ov_conv_uu (k := .u64) (k' := .u32) (W := 4294967296) Try.underlying75 Try.underlying61 rfl rfl rfl) rfl (gv (ov_index_ous (A := []) (k + ys.length) Try.underlying22 Try.sizeOf61 rfl rfl (by omega) (by omega)) rfl ?_)))))))))))))
      refine gl_store_ous0 Try.sizeOf61 rfl rfl (by omega) (gl_nil (gq_in (gq_keep (e' := [(1, _), (5, _), (17, _), (18, _), (19, _)]) ⟨rfl, rfl, rfl, rfl, rfl, trivial⟩ (gq_then (gc_region (gv (ov_add_i (q := 1) rfl rfl (by omega) (by omega)) rfl (mv rfl rfl (gl_nil ?_))))))))
      refine gq_round (k + 1, ts.set (k + ys.length) (c % 4294967296)) ?_ ?_ ⟨?_, ?_, ?_, ?_, ?_, trivial⟩ ?_ rfl
      ·
       have hj : j = ys.length := by omega
       subst hj
       refine ⟨by omega, by simp [hts], fit_set hft _ (by omega), ?_, fun i hi => ?_⟩
       · have h1 := val_set (xs := ts) (i := k + ys.length) (by omega) (c % 4294967296)
         rw [htz _ (Nat.le_refl _)] at h1
         rw [val_take_all (Nat.le_refl _)] at htv
         rw [Nat.mod_eq_of_lt hcb] at h1 ⊢
         rw [val_take_succ xs k (by omega)]
         grind
       · rw [getD_set_other (by omega)]; exact htz i (by omega)
      ·
       dsimp only
       omega
      · exact rfl
      · exact rfl
      · exact rfl
      · exact rfl
      · exact rfl
      · exact rfl
  ·
   refine gc_exit (gx_then (gx_then (gx_here (gq_then (gc_seq (gc_region (mv rfl rfl (gl_freeze_us0 (by exact hfo) ?_))))))))
   intro h1 hh1 ho
   refine gl_call (vs := [_]) rfl rfl rfl rfl Try.call101 ⟨rfl, trivial⟩ (fun w hs => nat_trim hs ho) ?_
   intro v68 h2 hh2 hr68
   replace hr68 := hr68.2
   refine asg rfl rfl (gl_nil (gq_then (gc_ret (gq_body1 rfl rfl ?_))))
   have hk' : k = xs.length := by omega
   rw [hval, hk', val_take_all (Nat.le_refl _)] at hr68
   exact hr68

end Go.Proofs.Ytimoeckkdodogaa
