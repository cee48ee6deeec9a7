/- Contracts of functions, walked by their text (nat6/b). -/
import Derived.Test.YtimoeckkdodogaaW5
namespace Go.Proofs.Ytimoeckkdodogaa
open Bk Go
set_option linter.unusedVariables false
set_option linter.unusedSimpArgs false
set_option maxRecDepth 10000

theorem nat_gcd {w0 : World} {h0 : Mem}  (hs : MLe h0 (mem w0)) {v v' : Value} {xs ys : List Nat} (hv : Us .u32 h0 v xs) (hv' : Us .u32 h0 v' ys) (hl : xs.length ≤ 1099511627776) (hl' : ys.length ≤ 1099511627776) :
    Calls Try.prog 84 #[v, v'] w0 (Ret w0 h0 (fun h r => Us .u32 h r (limbs (Nat.gcd (val xs) (val ys))))) := by
 have hlx := limbs_len_le hv.lt
 have hly := limbs_len_le hv'.lt
 obtain ⟨G, hG⟩ : ∃ G, G = Nat.gcd (val xs) (val ys) := ⟨_, rfl⟩
 rw [← hG]
 refine calls_begin (n := 61) (e := [(0, v), (1, v')]) (vs := [v, v']) Try.func84 rfl rfl (Nat.le_of_ble_eq_true rfl) hs ⟨rfl, rfl, trivial⟩ (gc_seq (gc_region (asg rfl rfl (gl_nil (gq_then (gc_seq (gc_region (mv rfl rfl ?_))))))))
 refine gl_call (vs := [_]) rfl rfl rfl rfl Try.call101 ⟨rfl, trivial⟩ (fun w hs => nat_trim hs hv) ?_
 intro v16 h1 hh1 hr16
 replace hr16 := hr16.2
 refine gl_call_own (vs := [_]) rfl rfl rfl rfl Try.call111 ⟨rfl, trivial⟩ (fun w hs => sl_clone hs hr16 (by omega)) ?_
 intro v17 h2 L17 hh2 hr17
 obtain rfl := hr17
 refine gl_freeze_us0 (by exact fit_limbs _) ?_
 intro h3 hh3 hcx
 refine mv rfl rfl ?_
 replace hv' := hv'.mono ((hh1.trans hh2).trans hh3)
 refine gl_call (vs := [_]) rfl rfl rfl rfl Try.call101 ⟨rfl, trivial⟩ (fun w hs => nat_trim hs hv') ?_
 intro v19 h4 hh4 hr19
 replace hr19 := hr19.2
 refine gl_call_own (vs := [_]) rfl rfl rfl rfl Try.call111 ⟨rfl, trivial⟩ (fun w hs => sl_clone hs hr19 (by omega)) ?_
 intro v20 h5 L20 hh5 hr20
 obtain rfl := hr20
 refine gl_freeze_us0 (by exact fit_limbs _) ?_
 intro h6 hh6 hcy
 refine asg rfl rfl (asg rfl rfl (gl_nil (gq_then (gc_seq (gc_block ?_)))))
 refine gc_loop (ι := Value × Nat × Value × Nat × Mem) (fun (x_ : (Value × Nat × Value × Nat × Mem)) => match x_ with | (vx, X, vy, Y, k1) => MLe h6 k1 ∧ (Us .u32 k1 vx (limbs X) ∧ Us .u32 k1 vy (limbs Y) ∧ Nat.gcd X Y = G ∧ (limbs X).length ≤ 1099511627776 ∧ (limbs Y).length ≤ 1099511627776)) (fun (x_ : (Value × Nat × Value × Nat × Mem)) => match x_ with | (vx, X, vy, Y, k1) => [(5, vx), (6, vy)]) (fun (x_ : (Value × Nat × Value × Nat × Mem)) => match x_ with | (vx, X, vy, Y, k1) => []) (fun (x_ : (Value × Nat × Value × Nat × Mem)) => match x_ with | (vx, X, vy, Y, k1) => k1) (fun (x_ : (Value × Nat × Value × Nat × Mem)) => match x_ with | (vx, X, vy, Y, k1) => Y) (v17, val xs, v20, val ys, h6) ?_ ⟨rfl, rfl, trivial⟩ rfl rfl ?_
 ·
  refine ⟨MLe.refl _, ?_⟩
  replace hcx := hcx.mono ((hh4.trans hh5).trans hh6)
  exact ⟨hcx, hcy, hG.symm, by omega, by omega⟩
 ·
  intro x hx
  obtain ⟨vx, X, vy, Y, k1⟩ := x
  obtain ⟨hmk1, ⟨ha, hb, hg, hlX, hlY⟩⟩ := hx
  show GC _ _ _ _ _ _ [(5, vx), (6, vy)] [] k1
  refine gc_seq (gc_seq (gc_region (mv rfl rfl (gv (ov_len_us Try.underlying22 rfl hb) rfl (gv (ov_gtr_i (q := 2) rfl rfl) rfl (gl_nil (gq_then ?_)))))))
  refine gc_cond rfl (fun hc23 => ?_) (fun hc23 => ?_)
  ·
   refine gc_skip (gq_then (gc_block (gc_seq (gc_region (mv rfl rfl (mv rfl rfl ?_))))))
   have hY0 : Y ≠ 0 := limbs_len_pos.1 (by omega)
   refine gl_call (vs := [_, _]) rfl rfl rfl rfl Try.call104 ⟨rfl, rfl, trivial⟩ (fun w hs => nat_div hs ha hb (by omega) (by omega)) ?_
   intro v27 h7 hh7 hr27
   obtain ⟨q27, r27, rfl, hq27, hr27⟩ := hr27
   simp only [val_limbs] at hq27 hr27
   rw [if_neg hY0] at hr27
   have hlm := limbs_len_mono (Nat.le_of_lt (Nat.mod_lt X (Nat.pos_of_ne_zero hY0)))
   refine mv rfl rfl (gv (ov_extract (vs := [_, _, _]) rfl rfl) rfl (gv (ov_extract (vs := [_, _, _]) rfl rfl) rfl (gv (ov_extract (vs := [_, _, _]) rfl rfl) rfl (asg rfl rfl (asg rfl rfl (asg rfl rfl (gl_nil (gq_keep (e' := [(6, _), (8, _)]) ⟨rfl, rfl, trivial⟩ (gq_then (gc_region (mv rfl rfl (mv rfl rfl (asg rfl rfl ?_)))))))))))))
   refine asg rfl rfl (gl_nil (gq_in ?_))
   refine gq_round (vy, Y, r27, X % Y, h7) ?_ ?_ ⟨?_, ?_, trivial⟩ ?_ rfl
   ·
    refine ⟨(hmk1.trans hh7), ?_⟩
    replace hb := hb.mono hh7
    exact ⟨hb, hr27, by rw [gcd_step]; exact hg, hlY, by omega⟩
   ·
    dsimp only
    exact Nat.mod_lt _ (Nat.pos_of_ne_zero hY0)
   · exact rfl
   · exact rfl
   · exact rfl
  ·
   refine gc_exit (gx_then (gx_then (gx_here (gq_then (gc_seq (gc_seq (gc_region (mv rfl rfl (gv (ov_len_us Try.underlying22 rfl hb) rfl (gv (ov_eql_i (q := 0) rfl rfl) rfl (gl_nil (gq_then ?_))))))))))))
   refine gc_cond rfl (fun hc35 => ?_) (fun hc35 => ?_)
   ·
    have hY0 : Y = 0 := Classical.byContradiction fun hne => by have := limbs_len_pos.2 hne; omega
    refine gc_seq (gc_region (mv rfl rfl (asg rfl rfl (gl_nil (gq_then (gc_ret (gr_then (gq_body1 rfl rfl ?_))))))))
    rw [hY0, Nat.gcd_zero_right] at hg
    rw [← hg]
    exact ha
   ·
    have hY0 : Y ≠ 0 := limbs_len_pos.1 (by omega)
    refine gc_skip (gq_then ?_)
    refine gc_cut (ι := Value × Nat × Value × Nat × Mem) (fun (x_ : (Value × Nat × Value × Nat × Mem)) => match x_ with | (vx2, X2, vy2, Y2, k2) => MLe k1 k2 ∧ (Us .u32 k2 vx2 (limbs X2) ∧ Us .u32 k2 vy2 (limbs Y2) ∧ Nat.gcd X2 Y2 = G ∧ (limbs X2).length ≤ 2 ∧ (limbs Y2).length ≤ 2)) (fun (x_ : (Value × Nat × Value × Nat × Mem)) => match x_ with | (vx2, X2, vy2, Y2, k2) => [(5, vx2), (6, vy2)]) (fun (x_ : (Value × Nat × Value × Nat × Mem)) => match x_ with | (vx2, X2, vy2, Y2, k2) => []) (fun (x_ : (Value × Nat × Value × Nat × Mem)) => match x_ with | (vx2, X2, vy2, Y2, k2) => k2) ?_ ?_
    ·
     refine gc_seq (gc_region (mv rfl rfl (gv (ov_len_us Try.underlying22 rfl ha) rfl (gv (ov_gtr_i (q := 2) rfl rfl) rfl (gl_nil (gq_then ?_))))))
     refine gc_cond rfl (fun hc39 => ?_) (fun hc39 => ?_)
     ·
      refine gc_seq (gc_region (mv rfl rfl (mv rfl rfl ?_)))
      refine gl_call (vs := [_, _]) rfl rfl rfl rfl Try.call104 ⟨rfl, rfl, trivial⟩ (fun w hs => nat_div hs ha hb (by omega) (by omega)) ?_
      intro v43 h7 hh7 hr43
      obtain ⟨q43, r43, rfl, hq43, hr43⟩ := hr43
      simp only [val_limbs] at hq43 hr43
      rw [if_neg hY0] at hr43
      have hlm := limbs_len_mono (Nat.le_of_lt (Nat.mod_lt X (Nat.pos_of_ne_zero hY0)))
      refine mv rfl rfl (gv (ov_extract (vs := [_, _, _]) rfl rfl) rfl (gv (ov_extract (vs := [_, _, _]) rfl rfl) rfl (gv (ov_extract (vs := [_, _, _]) rfl rfl) rfl (asg rfl rfl (asg rfl rfl (asg rfl rfl (gl_nil (gq_keep (e' := [(6, _), (11, _)]) ⟨rfl, rfl, trivial⟩ (gq_then (gc_region (mv rfl rfl (mv rfl rfl (asg rfl rfl ?_)))))))))))))
      refine asg rfl rfl (gl_nil ?_)
      refine gq_cut (vy, Y, r43, X % Y, h7) ?_ ⟨?_, ?_, trivial⟩ ?_ rfl
      ·
       refine ⟨hh7, ?_⟩
       replace hb := hb.mono hh7
       exact ⟨hb, hr43, by rw [gcd_step]; exact hg, by omega, by omega⟩
      · exact rfl
      · exact rfl
      · exact rfl
     ·
      refine gc_skip ?_
      refine gq_cut (vx, X, vy, Y, k1) ?_ ⟨?_, ?_, trivial⟩ ?_ rfl
      ·
       refine ⟨MLe.refl _, ?_⟩
       exact ⟨ha, hb, hg, by omega, by omega⟩
      · exact rfl
      · exact rfl
      · exact rfl
    ·
     intro x hx
     obtain ⟨vx2, X2, vy2, Y2, k2⟩ := x
     obtain ⟨hmk2, ⟨ha2, hb2, hg2, hx2, hy2⟩⟩ := hx
     show GC _ _ _ _ _ _ [(5, vx2), (6, vy2)] [] k2
     refine gc_seq (gc_region (mv rfl rfl ?_))
     refine gl_call (vs := [_]) rfl rfl rfl rfl Try.call112 ⟨rfl, trivial⟩ (fun w hs => nat_word hs ha2 (by omega)) ?_
     intro v50 h7 hh7 hr50
     subst hr50
     rw [val_limbs]
     have hwx := lt_word hx2
     refine mv rfl rfl ?_
     replace hb2 := hb2.mono hh7
     refine gl_call (vs := [_]) rfl rfl rfl rfl Try.call112 ⟨rfl, trivial⟩ (fun w hs => nat_word hs hb2 (by omega)) ?_
     intro v52 h8 hh8 hr52
     subst hr52
     rw [val_limbs]
     have hwy := lt_word hy2
     refine asg rfl rfl (asg rfl rfl (gl_nil (gq_then (gc_seq (gc_block ?_)))))
     refine gc_loop (ι := Nat × Nat) (fun (x_ : (Nat × Nat)) => match x_ with | (m, n) => Nat.gcd m n = G ∧ m < 18446744073709551616 ∧ n < 18446744073709551616) (fun (x_ : (Nat × Nat)) => match x_ with | (m, n) => [(13, vU .u64 m), (14, vU .u64 n)]) (fun (x_ : (Nat × Nat)) => match x_ with | (m, n) => []) (fun (x_ : (Nat × Nat)) => match x_ with | (m, n) => h8) (fun (x_ : (Nat × Nat)) => match x_ with | (m, n) => n) (X2, Y2) ?_ ⟨rfl, rfl, trivial⟩ rfl rfl ?_
     ·
      exact ⟨hg2, hwx, hwy⟩
     ·
      intro x hx
      obtain ⟨m, n⟩ := x
      obtain ⟨hg3, hm, hn⟩ := hx
      show GC _ _ _ _ _ _ [(13, vU .u64 m), (14, vU .u64 n)] [] h8
      refine gc_seq (gc_seq (gc_region (mv rfl rfl (gv (ov_neq_u (k := .u64) (q := 0) rfl rfl) rfl (gl_nil (gq_then ?_))))))
      refine gc_cond rfl (fun hc54 => ?_) (fun hc54 => ?_)
      ·
       refine gc_skip (gq_then (gc_block ?_))
       refine gc_draw 6 _ [] [(0, .q), (1, .q), (2, .q), (3, .q), (4, .q), (5, .q)] mixed (fun x hx => by cases hx) (by kernel_rfl) (fun x hx => by cases hx) (fun r hr => hr) (w_q rfl (fun h' L' hh hR => ov_move rfl) rfl (w_q rfl (fun h' L' hh hR => ov_move rfl) rfl (w_q rfl (fun h' L' hh hR => ov_move rfl) rfl (w_q rfl (fun h' L' hh hR => ov_rem_u (k := .u64) rfl rfl (by omega)) rfl (w_q rfl (fun h' L' hh hR => ov_assign rfl) rfl (w_q rfl (fun h' L' hh hR => ov_assign rfl) rfl (w_nil (gq_in ?_))))))))
       refine gq_round (n, m % n) ?_ ?_ ⟨?_, ?_, trivial⟩ ?_ rfl
       ·
        have hlt := Nat.mod_lt m (Nat.pos_of_ne_zero hc54)
        exact ⟨by rw [gcd_step]; exact hg3, hn, by omega⟩
       ·
        dsimp only
        exact Nat.mod_lt _ (Nat.pos_of_ne_zero hc54)
       · exact rfl
       · exact rfl
       · exact rfl
      ·
       refine gc_exit (gx_then (gx_then (gx_here (gq_then (gc_seq (gc_region (mv rfl rfl ?_)))))))
       refine gl_call (vs := [_]) rfl rfl rfl rfl Try.call109 ⟨rfl, trivial⟩ (fun w hs => nat_of hs (by omega)) ?_
       intro v60 h9 hh9 hr60
       refine asg rfl rfl (gl_nil (gq_then (gc_ret (gq_body1 rfl rfl ?_))))
       have hn0 : n = 0 := Classical.not_not.1 hc54
       rw [hn0, Nat.gcd_zero_right] at hg3
       rw [← hg3]
       exact hr60

theorem ref_of {w0 : World} {h0 : Mem}  (hs : MLe h0 (mem w0)) {n : Nat} (hn : n < 18446744073709551616) :
    Calls Try.prog 110 #[vU .u64 n] w0 (Ret w0 h0 (fun h r => Us .u32 h r (limbs n))) := by
 refine calls_begin (n := 10) (e := [(0, vU .u64 n)]) (vs := [vU .u64 n]) Try.func110 rfl rfl (Nat.le_of_ble_eq_true rfl) hs ⟨rfl, trivial⟩ (gc_seq (gc_region (asg rfl rfl (gl_nil (gq_then (gc_seq (gc_region (mv rfl rfl (gv (ov_conv_uu (k := .u64) (k' := .u32) (W := 4294967296) Try.underlying75 Try.underlying61 rfl rfl rfl) rfl (mv rfl rfl (gv (ov_shr_u (k := .u64) (s := 32) (yk := .u64) rfl rfl rfl (by simp only [ub]; omega)) rfl (gv (ov_conv_uu (k := .u64) (k' := .u32) (W := 4294967296) Try.underlying75 Try.underlying61 rfl rfl rfl) rfl (gl_newop (new_build2 (kd := .u32) Try.underlying22 info61 rfl rfl rfl rfl) rfl rfl rfl ?_)))))))))))))
 intro v8 r8 hr8
 obtain rfl := hr8
 refine gl_freeze_us0 (by intro x hx; simp only [List.mem_cons, List.not_mem_nil, or_false] at hx; simp only [ub]; omega) ?_
 intro h1 hh1 hb
 refine gl_call (vs := [_]) rfl rfl rfl rfl Try.call81 ⟨rfl, trivial⟩ (fun w hs => ref_trim hs hb (by simp)) ?_
 intro v9 h2 hh2 hr9
 refine asg rfl rfl (gl_nil (gq_then (gc_ret (gq_body1 rfl rfl ?_))))
 have e : val [n % 4294967296, n / 2 ^ 32 % 4294967296] = n := by simp only [val]; omega
 rw [e] at hr9
 exact hr9

theorem ref_cmp {w0 : World} {h0 : Mem}  (hs : MLe h0 (mem w0)) {v v' : Value} {X Y : Nat} (hv : Us .u32 h0 v (limbs X)) (hv' : Us .u32 h0 v' (limbs Y)) :
    Calls Try.prog 77 #[v, v'] w0 (Ret w0 h0 (fun _ r => r = vI (cmpN X Y))) := by
 have vA := val_limbs X
 have vB' := val_limbs Y
 generalize hA : limbs X = AA at *
 generalize hB : limbs Y = BB at *
 have fA : Fit AA := hv.lt
 have fB : Fit BB := hv'.lt
 have lA := hv.lt63
 have lB := hv'.lt63
 refine calls_begin (n := 41) (e := [(0, v), (1, v')]) (vs := [v, v']) Try.func77 rfl rfl (Nat.le_of_ble_eq_true rfl) hs ⟨rfl, rfl, trivial⟩ (gc_seq (gc_region (asg (v := vI (0)) rfl rfl (gl_nil (gq_then (gc_seq (gc_seq (gc_region (mv rfl rfl (gv (ov_len_us Try.underlying22 rfl hv) rfl (mv rfl rfl (gv (ov_len_us Try.underlying22 rfl hv') rfl (gv (ov_neq_i rfl rfl) rfl ?_)))))))))))))
 refine gl_nil (gq_then ?_)
 refine gc_cond rfl (fun hc10 => ?_) (fun hc10 => ?_)
 ·
  refine gc_seq (gc_seq (gc_region (mv rfl rfl (gv (ov_len_us Try.underlying22 rfl hv) rfl (mv rfl rfl (gv (ov_len_us Try.underlying22 rfl hv') rfl (gv (ov_lss_i rfl rfl) rfl (gl_nil (gq_keep (e' := [(15, _)]) ⟨rfl, trivial⟩ (gq_then ?_))))))))))
  refine gc_cond rfl (fun hc15 => ?_) (fun hc15 => ?_)
  ·
   refine gc_seq (gc_region (asg (v := vI (-1)) rfl rfl (gl_nil (gq_then (gc_ret (gr_then (gr_then (gq_body1 rfl rfl ?_))))))))
   rw [cmpN_lt (lt_of_limbs_len (by rw [hA, hB]; omega))]
  ·
   refine gc_skip (gq_then (gc_seq (gc_region (asg (v := vI (1)) rfl rfl (gl_nil (gq_then (gc_ret (gr_then (gq_body1 rfl rfl ?_)))))))))
   rw [cmpN_gt (lt_of_limbs_len (by rw [hA, hB]; omega))]
 ·
  have hl : AA.length = BB.length := by omega
  refine gc_skip (gq_then (gc_seq (gc_seq (gc_region (mv rfl rfl (gv (ov_len_us Try.underlying22 rfl hv) rfl (gv (ov_sub_i (q := 1) rfl rfl (by omega) (by omega)) rfl (asg rfl rfl (gl_nil (gq_then (gc_block ?_)))))))))))
  refine gc_loop (ι := Nat) (fun (j : (Nat)) => j ≤ AA.length ∧ AA.drop j = BB.drop j) (fun (j : (Nat)) => [(0, v), (1, v'), (5, vI (↑j - 1))]) (fun (j : (Nat)) => []) (fun (j : (Nat)) => h0) (fun (j : (Nat)) => j) AA.length ?_ ⟨rfl, rfl, rfl, trivial⟩ rfl rfl ?_
  ·
   exact ⟨Nat.le_refl _, by rw [List.drop_of_length_le (Nat.le_refl _), List.drop_of_length_le (by omega)]⟩
  ·
   intro j hx
   obtain ⟨hj, hd⟩ := hx
   show GC _ _ _ _ _ _ [(0, v), (1, v'), (5, vI (↑j - 1))] [] h0
   refine gc_seq (gc_seq (gc_region (mv rfl rfl (gv (ov_geq_i (q := 0) rfl rfl) rfl (gl_nil (gq_then ?_))))))
   refine gc_cond rfl (fun hc20 => ?_) (fun hc20 => ?_)
   ·
    refine gc_skip (gq_then (gc_seq (gc_block (gc_seq (gc_seq ?_)))))
    refine gc_draw 9 _ [] [(0, .q), (1, .q), (2, .q), (3, .q), (4, .q), (5, .q), (6, .q), (7, .q), (8, .q)] mixed (fun x hx => by cases hx) (by kernel_rfl) (fun x hx => by cases hx) (fun r hr => hr) (w_q rfl (fun h' L' hh hR => ov_move rfl) rfl (w_q rfl (fun h' L' hh hR => ov_move rfl) rfl (w_q rfl (fun h' L' hh hR => ov_index_us (j - 1) Try.underlying22 Try.sizeOf61 rfl rfl (hv.mono hh) (by omega) (by omega)) rfl (w_q rfl (fun h' L' hh hR => ov_load_us Try.isAgg61 rfl (hv.mono hh) (by omega)) rfl (w_q rfl (fun h' L' hh hR => ov_move rfl) rfl (w_q rfl (fun h' L' hh hR => ov_move rfl) rfl (w_q rfl (fun h' L' hh hR => ov_index_us (j - 1) Try.underlying22 Try.sizeOf61 rfl rfl (hv'.mono hh) (by omega) (by omega)) rfl (w_q rfl (fun h' L' hh hR => ov_load_us Try.isAgg61 rfl (hv'.mono hh) (by omega)) rfl (w_q rfl (fun h' L' hh hR => ov_lss_u (k := .u32) rfl rfl) rfl (w_nil (gq_keep (e' := [(0, _), (1, _), (5, _), (31, _)]) ⟨rfl, rfl, rfl, rfl, trivial⟩ (gq_then ?_))))))))))))
    refine gc_cond rfl (fun hc31 => ?_) (fun hc31 => ?_)
    ·
     refine gc_seq (gc_region (asg (v := vI (-1)) rfl rfl (gl_nil (gq_then (gc_ret (gr_then (gr_in (gr_then (gr_then (gr_in (gr_then (gq_body1 rfl rfl ?_))))))))))))
     rw [← vA, ← vB', cmpN_lt (val_top fA hl (by omega) hj hd hc31)]
    ·
     refine gc_skip (gq_then (gc_seq ?_))
     refine gc_draw 9 _ [] [(0, .q), (1, .q), (2, .q), (3, .q), (4, .q), (5, .q), (6, .q), (7, .q), (8, .q)] mixed (fun x hx => by cases hx) (by kernel_rfl) (fun x hx => by cases hx) (fun r hr => hr) (w_q rfl (fun h' L' hh hR => ov_move rfl) rfl (w_q rfl (fun h' L' hh hR => ov_move rfl) rfl (w_q rfl (fun h' L' hh hR => ov_index_us (j - 1) Try.underlying22 Try.sizeOf61 rfl rfl (hv.mono hh) (by omega) (by omega)) rfl (w_q rfl (fun h' L' hh hR => ov_load_us Try.isAgg61 rfl (hv.mono hh) (by omega)) rfl (w_q rfl (fun h' L' hh hR => ov_move rfl) rfl (w_q rfl (fun h' L' hh hR => ov_move rfl) rfl (w_q rfl (fun h' L' hh hR => ov_index_us (j - 1) Try.underlying22 Try.sizeOf61 rfl rfl (hv'.mono hh) (by omega) (by omega)) rfl (w_q rfl (fun h' L' hh hR => ov_load_us Try.isAgg61 rfl (hv'.mono hh) (by omega)) rfl (w_q rfl (fun h' L' hh hR => ov_gtr_u (k := .u32) rfl rfl) rfl (w_nil (gq_then ?_)))))))))))
     refine gc_cond rfl (fun hc40 => ?_) (fun hc40 => ?_)
     ·
      refine gc_keep (e' := []) trivial (gc_seq (gc_region (asg (v := vI (1)) rfl rfl (gl_nil (gq_then (gc_ret (gr_in (gr_then (gr_then (gr_in (gr_then (gq_body1 rfl rfl ?_))))))))))))
      rw [← vA, ← vB', cmpN_gt (val_top fB hl.symm (by omega) (by omega) hd.symm (by omega))]
     ·
      refine gc_keep (e' := [(0, _), (1, _), (5, _)]) ⟨rfl, rfl, rfl, trivial⟩ (gc_skip (gq_in (gq_then (gc_region (mv rfl rfl (gv (ov_sub_i (q := 1) rfl rfl (by omega) (by omega)) rfl (asg rfl rfl (gl_nil ?_))))))))
      refine gq_round (j - 1) ?_ ?_ ⟨?_, ?_, ?_, trivial⟩ ?_ rfl
      ·
       refine ⟨by omega, ?_⟩
       rw [drop_eq_cons AA (j - 1) (by omega), drop_eq_cons BB (j - 1) (by omega)]
       have e : j - 1 + 1 = j := by omega
       rw [e, hd, Classical.not_not.1 (show ¬ ¬ AA.getD (j - 1) 0 = BB.getD (j - 1) 0 by omega)]
      ·
       omega
      · exact rfl
      · exact rfl
      · exact congrArg some (congrArg vI (by omega))
      · exact rfl
   ·
    refine gc_exit (gx_then (gx_then (gx_here (gq_then (gc_seq (gc_region (asg (v := vI (0)) rfl rfl (gl_nil (gq_then (gc_ret (gq_body1 rfl rfl ?_)))))))))))
    have h0 : j = 0 := by omega
    subst h0
    simp only [List.drop_zero] at hd
    rw [← vA, ← vB', hd, cmpN_eq]

theorem ref_bits {w0 : World} {h0 : Mem}  (hs : MLe h0 (mem w0)) {v : Value} {X : Nat} (hv : Us .u32 h0 v (limbs X)) (hl : (limbs X).length ≤ 1099511627776) :
    Calls Try.prog 93 #[v] w0 (Ret w0 h0 (fun _ r => r = vI ↑(bitsN X))) := by
 refine calls_begin (n := 25) (e := [(0, v)]) (vs := [v]) Try.func93 rfl rfl (Nat.le_of_ble_eq_true rfl) hs ⟨rfl, trivial⟩ (gc_seq (gc_region (asg (v := vI (0)) rfl rfl (gl_nil (gq_then (gc_seq (gc_seq (gc_region (mv rfl rfl (gv (ov_len_us Try.underlying22 rfl hv) rfl (gv (ov_eql_i (q := 0) rfl rfl) rfl (gl_nil (gq_then ?_)))))))))))))
 refine gc_cond rfl (fun hc7 => ?_) (fun hc7 => ?_)
 ·
  refine gc_seq (gc_region (asg (v := vI (0)) rfl rfl (gl_nil (gq_then (gc_ret (gr_then (gq_body1 rfl rfl ?_)))))))
  have h0 : X = 0 := Classical.byContradiction fun hne => by have := limbs_len_pos.2 hne; omega
  rw [h0]; rfl
 ·
  have hpos : 0 < (limbs X).length := by omega
  have hb := bitsN_top (fit_limbs X) (k := (limbs X).length - 1) (by omega) (limbs_top_ne hpos)
  rw [val_limbs] at hb
  refine gc_skip (gq_then (gc_seq (gc_region (mv rfl rfl (gv (ov_len_us Try.underlying22 rfl hv) rfl (gv (ov_sub_i (q := 1) rfl rfl (by omega) (by omega)) rfl (gv (ov_mul_i (p := 32) rfl rfl (by omega) (by omega)) rfl (asg rfl rfl (gl_nil (gq_then (gc_seq (gc_seq (gc_region ?_)))))))))))))
  refine mv rfl rfl (mv rfl rfl (gv (ov_len_us Try.underlying22 rfl hv) rfl (gv (ov_sub_i (q := 1) rfl rfl (by omega) (by omega)) rfl (gv (ov_index_us ((limbs X).length - 1) Try.underlying22 Try.sizeOf61 rfl rfl hv (by omega) (by omega)) rfl (gv (ov_load_us Try.isAgg61 rfl hv (by omega)) rfl ?_)))))
  have hx1 := hv.get32 ((limbs X).length - 1)
  refine asg rfl rfl (gl_nil (gq_keep (e' := [(3, _), (4, _)]) ⟨rfl, rfl, trivial⟩ (gq_then (gc_block ?_))))
  refine gc_loop (ι := Nat × Nat) (fun (x_ : (Nat × Nat)) => match x_ with | (c, x) => x < 4294967296 ∧ bitsN ((limbs X).getD ((limbs X).length - 1) 0) = c + bitsN x ∧ c ≤ 32) (fun (x_ : (Nat × Nat)) => match x_ with | (c, x) => [(3, vI (32 * (↑(limbs X).length - 1) + ↑c)), (4, vU .u32 x)]) (fun (x_ : (Nat × Nat)) => match x_ with | (c, x) => []) (fun (x_ : (Nat × Nat)) => match x_ with | (c, x) => h0) (fun (x_ : (Nat × Nat)) => match x_ with | (c, x) => x) (0, (limbs X).getD ((limbs X).length - 1) 0) ?_ ⟨?_, ?_, trivial⟩ rfl rfl ?_
  ·
   exact ⟨hx1, by omega, by omega⟩
  · exact congrArg some (congrArg vI (by omega))
  · exact rfl
  ·
   intro x hx
   obtain ⟨c, x⟩ := x
   obtain ⟨hx, hcx, hc32⟩ := hx
   show GC _ _ _ _ _ _ [(3, vI (32 * (↑(limbs X).length - 1) + ↑c)), (4, vU .u32 x)] [] h0
   have hb32 := bitsN_le (n := (limbs X).getD ((limbs X).length - 1) 0) (k := 32) hx1
   refine gc_seq (gc_seq (gc_region (mv rfl rfl (gv (ov_neq_u (k := .u32) (q := 0) rfl rfl) rfl (gl_nil (gq_then ?_))))))
   refine gc_cond rfl (fun hc19 => ?_) (fun hc19 => ?_)
   ·
    refine gc_skip (gq_then (gc_seq (gc_block (gc_region (mv rfl rfl (gv (ov_add_i (q := 1) rfl rfl (by omega) (by omega)) rfl (asg rfl rfl (gl_nil (gq_in (gq_then (gc_region (mv rfl rfl (gv (ov_shr_u (k := .u32) (s := 1) (yk := .u64) rfl rfl rfl (by simp only [ub]; omega)) rfl ?_)))))))))))))
    refine asg rfl rfl (gl_nil ?_)
    refine gq_round (c + 1, x / 2 ^ 1) ?_ ?_ ⟨?_, ?_, trivial⟩ ?_ rfl
    ·
     have h1 := bitsN_half hc19
     exact ⟨by omega, by rw [hcx, h1, show x / 2 ^ 1 = x / 2 from rfl]; omega, by omega⟩
    ·
     dsimp only
     omega
    · exact congrArg some (congrArg vI (by omega))
    · exact rfl
    · exact rfl
   ·
    refine gc_exit (gx_then (gx_then (gx_here (gq_then (gc_seq (gc_region (mv rfl rfl (asg rfl rfl (gl_nil (gq_then (gc_ret (gq_body1 rfl rfl ?_))))))))))))
    have hx0 : x = 0 := Classical.not_not.1 hc19
    rw [hx0, bitsN_zero] at hcx
    exact congrArg vI (by omega)

end Go.Proofs.Ytimoeckkdodogaa
