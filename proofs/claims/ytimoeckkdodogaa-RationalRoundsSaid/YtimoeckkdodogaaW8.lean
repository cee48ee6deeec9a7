/- Contracts of functions, walked by their text (nat8/b). -/
import Derived.Test.YtimoeckkdodogaaW7
import Derived.Test.YtimoeckkdodogaaTxt
namespace Go.Proofs.Ytimoeckkdodogaa
open Bk Go
set_option linter.unusedVariables false
set_option linter.unusedSimpArgs false
set_option maxRecDepth 10000

theorem nat_parse {w0 : World} {h0 : Mem}  (hs : MLe h0 (mem w0)) {s : ByteArray} (hsz : s.size ≤ 9223372036854775807) :
    Calls Try.prog 62 #[.string s] w0 (Ret w0 h0 (fun h r => ∃ u, r = .tuple #[u, vI (perr (byt s))] ∧ Us .u32 h u (limbs (pval (byt s))))) := by
 have hbl := byt_length s
 have hszl : (byt s).length ≤ 9223372036854775807 := by omega
 refine calls_begin (n := 63) (e := [(0, .string s)]) (vs := [.string s]) Try.func62 rfl rfl (Nat.le_of_ble_eq_true rfl) hs ⟨rfl, trivial⟩ (gc_seq (gc_region (asg rfl rfl (asg (v := vI (0)) rfl rfl (gl_nil (gq_then (gc_seq (gc_seq (gc_region (mv rfl rfl (gv (ov_len_str Try.underlying9 rfl) rfl (gv (ov_gtr_i (q := 4096) rfl rfl) rfl (gl_nil ?_)))))))))))))
 refine gq_then ?_
 refine gc_cond rfl (fun hc11 => ?_) (fun hc11 => ?_)
 ·
  refine gc_seq (gc_region (asg rfl rfl (asg (v := vI (2)) rfl rfl (gl_nil (gq_then (gc_ret (gr_then (gq_body2 rfl rfl rfl ?_))))))))
  have h1 : 4096 < (byt s).length := by rw [byt_length]; omega
  rw [perr, if_pos h1, pval, if_pos h1, limbs_zero]
  exact ⟨_, rfl, Us.nil _ _⟩
 ·
  have hsmall : s.size ≤ 4096 := by omega
  refine gc_skip (gq_then (gc_seq (gc_seq (gc_region (mv rfl rfl (gv (ov_eql_str rfl rfl) rfl (gl_nil (gq_then ?_))))))))
  refine gc_cond rfl (fun hc13 => ?_) (fun hc13 => ?_)
  ·
   refine gc_seq (gc_region (asg rfl rfl (asg (v := vI (4)) rfl rfl (gl_nil (gq_then (gc_ret (gr_then (gq_body2 rfl rfl rfl ?_))))))))
   have h1 : (byt s).length = 0 := by rw [byt_length, hc13]; rfl
   have h2 : byt s = [] := List.eq_nil_of_length_eq_zero h1
   rw [h2]
   show ∃ u, _ = Value.tuple #[u, vI 4] ∧ Us .u32 _ u (limbs 0)
   rw [limbs_zero]
   exact ⟨_, rfl, Us.nil _ _⟩
  ·
   have hne : (byt s).length ≠ 0 := fun h => hc13 (by
     have h2 : s.size = 0 := by omega
     obtain ⟨d⟩ := s
     have h3 : d = #[] := Array.eq_empty_of_size_eq_zero h2
     rw [h3])
   refine gc_skip (gq_then (gc_seq (gc_region (gl_val (ov_assign (v := .slice none 0 0) rfl) rfl rfl rfl (gl_addnil (E := 61) (k := .u32) (gl_nil (gq_then (gc_seq (gc_seq (gc_region (mv rfl rfl (gv (ov_len_str Try.underlying9 rfl) rfl (mv (v := vI (0)) rfl rfl ?_)))))))))))))
   refine gl_nil (gq_then (gc_block ?_))
   refine gc_loop (ι := Value × Nat × Mem) (fun (x_ : (Value × Nat × Mem)) => match x_ with | (vo, i, k1) => MLe h0 k1 ∧ (i ≤ (byt s).length ∧ digB ((byt s).take i) = true ∧ (limbs (hor ((byt s).take i))).length ≤ i)) (fun (x_ : (Value × Nat × Mem)) => match x_ with | (vo, i, k1) => [(0, .string s), (4, vo), (15, vI ↑s.size), (16, vI ↑i)]) (fun (x_ : (Value × Nat × Mem)) => match x_ with | (vo, i, k1) => [.us 61 .u32 vo (limbs (hor ((byt s).take i)))]) (fun (x_ : (Value × Nat × Mem)) => match x_ with | (vo, i, k1) => k1) (fun (x_ : (Value × Nat × Mem)) => match x_ with | (vo, i, k1) => (byt s).length - i) (.slice none 0 0, 0, h0) ?_ ⟨rfl, rfl, rfl, rfl, trivial⟩ ?_ rfl ?_
   ·
    refine ⟨MLe.refl _, ?_⟩
    exact ⟨Nat.zero_le _, by simp [digB], by simp [hor, limbs_zero]⟩
   ·
    try dsimp only [List.nil_append, List.cons_append]
    show [Res.us 61 .u32 (.slice none 0 0) (limbs (hor (List.take 0 (byt s))))] = _; rw [List.take_zero, hor_nil, limbs_zero]
   ·
    intro x hx
    obtain ⟨vo, i, k1⟩ := x
    obtain ⟨hmk1, ⟨hi, hdg, hln⟩⟩ := hx
    show GC _ _ _ _ _ _ [(0, .string s), (4, vo), (15, vI ↑s.size), (16, vI ↑i)] [.us 61 .u32 vo (limbs (hor ((byt s).take i)))] k1
    refine gc_seq (gc_region (gv (ov_lss_i rfl rfl) rfl (gl_nil (gq_then (gc_seq ?_)))))
    refine gc_cond rfl (fun hc17 => ?_) (fun hc17 => ?_)
    ·
     refine gc_skip (gq_then ?_)
     refine gc_cut (ι := Value × Mem) (fun (x_ : (Value × Mem)) => match x_ with | (vo2, k3) => MLe k1 k3 ∧ (48 ≤ (byt s).getD i 0 ∧ (byt s).getD i 0 ≤ 57 ∧ (limbs (10 * hor ((byt s).take i) + ((byt s).getD i 0 - 48))).length ≤ i + 1)) (fun (x_ : (Value × Mem)) => match x_ with | (vo2, k3) => [(0, .string s), (4, vo2), (15, vI ↑s.size), (16, vI ↑i)]) (fun (x_ : (Value × Mem)) => match x_ with | (vo2, k3) => [.us 61 .u32 vo2 (limbs (10 * hor ((byt s).take i) + ((byt s).getD i 0 - 48)))]) (fun (x_ : (Value × Mem)) => match x_ with | (vo2, k3) => k3) ?_ ?_
     ·
      refine gc_block (gc_seq (gc_region (mv rfl rfl (asg rfl rfl (gl_nil (gq_then (gc_seq (gc_seq (gc_region (mv rfl rfl (mv rfl rfl (gl_val (ov_index_byt (i) Try.underlying9 rfl rfl rfl (by rw [← byt_length]; omega)) rfl rfl rfl ?_))))))))))))
      have hb1 := byt_lt s (i)
      refine gv (ov_lss_u (k := .u8) (q := 48) rfl rfl) rfl ?_
      refine gl_cut (ι := Unit) 6 (fun _ => True) (fun _ => [(28, vB (((byt s).getD i 0 < 48) ∨ (57 < (byt s).getD i 0))), (0, .string s), (4, vo), (15, vI ↑s.size), (16, vI ↑i), (5, vI ↑i)]) (fun _ => [.us 61 .u32 vo (limbs (hor ((byt s).take i)))]) (fun _ => k1) ?_ ?_
      ·
       refine gl_cases ((byt s).getD i 0 < 48) (fun hg => ?_) (fun hg => ?_)
       ·
        refine gl_val (ov_move (v := .bool true) (congrArg some (vB_true hg))) rfl rfl rfl (gl_off rfl rfl rfl rfl rfl rfl (gl_off rfl rfl rfl rfl rfl rfl (gl_off rfl rfl rfl rfl rfl rfl (gl_off rfl rfl rfl rfl rfl rfl (gv (ov_pick_t rfl rfl) rfl (gl_nil ?_))))))
        refine gq_cut () trivial ⟨?_, rfl, rfl, rfl, rfl, rfl, trivial⟩ rfl rfl
        exact congrArg some (vB_or_t hg)
       ·
        refine gl_val (ov_move (v := .bool false) (congrArg some (vB_false hg))) rfl rfl rfl (gl_on rfl rfl rfl (mv rfl rfl (gl_on rfl rfl rfl (mv rfl rfl (gl_on rfl rfl rfl (gl_val (ov_index_byt (i) Try.underlying9 rfl rfl rfl (by rw [← byt_length]; omega)) rfl rfl rfl ?_))))))
        have hb1 := byt_lt s (i)
        refine gl_on rfl rfl rfl (gv (ov_gtr_u (k := .u8) (q := 57) rfl rfl) rfl (gv (ov_pick_f rfl rfl) rfl (gl_nil ?_)))
        refine gq_cut () trivial ⟨?_, rfl, rfl, rfl, rfl, rfl, trivial⟩ rfl rfl
        exact congrArg some (vB_or_f hg)
      ·
       intro _ _
       show GL _ _ _ _ _ _ _ [(28, vB (((byt s).getD i 0 < 48) ∨ (57 < (byt s).getD i 0))), (0, .string s), (4, vo), (15, vI ↑s.size), (16, vI ↑i), (5, vI ↑i)] [.us 61 .u32 vo (limbs (hor ((byt s).take i)))] k1
       refine gl_nil (gq_then ?_)
       refine gc_cond rfl (fun hc28 => ?_) (fun hc28 => ?_)
       ·
        refine gc_seq (gc_region (asg rfl rfl (asg (v := vI (4)) rfl rfl (gl_nil (gq_then (gc_ret (gr_then (gr_in (gr_then (gr_then (gr_in (gr_then (gq_body2 rfl rfl rfl ?_)))))))))))))
        obtain ⟨e1, e2⟩ := parse_bad (bs := byt s) (by omega) hne (digB_bad (i := i) (by omega) (by omega))
        rw [e1, e2, limbs_zero]
        exact ⟨_, rfl, Us.nil _ _⟩
       ·
        have hd1 : 48 ≤ (byt s).getD i 0 := by omega
        have hd2 : (byt s).getD i 0 ≤ 57 := by omega
        refine gc_skip (gq_then (gc_seq (gc_region (mv rfl rfl (mv rfl rfl (gl_val (ov_index_byt (i) Try.underlying9 rfl rfl rfl (by rw [← byt_length]; omega)) rfl rfl rfl ?_))))))
        have hb1 := byt_lt s (i)
        refine gv (ov_sub_u (k := .u8) (q := 48) (W := 256) rfl rfl rfl rfl (by omega) (by omega)) rfl (gv (ov_conv_u (k := .u8) (k' := .u64) (W := 18446744073709551616) Try.underlying5 Try.underlying75 rfl rfl rfl (by omega)) rfl (asg rfl rfl (gl_nil (gq_then (gc_seq (gc_seq (gc_region (mv rfl rfl (gv (ov_len_ous (A := []) Try.underlying22 rfl) rfl (mv (v := vI (0)) rfl rfl (gl_nil (gq_then (gc_block ?_)))))))))))))
        refine gc_loop (ι := List Nat × Nat) (fun (x_ : (List Nat × Nat)) => match x_ with | (ps, c) => ps.length ≤ (limbs (hor ((byt s).take i))).length ∧ Fit ps ∧ c ≤ 9 ∧ val ps + 4294967296 ^ ps.length * c = ((byt s).getD i 0 - 48) + 10 * val ((limbs (hor ((byt s).take i))).take ps.length)) (fun (x_ : (List Nat × Nat)) => match x_ with | (ps, c) => [(0, .string s), (4, vo), (6, vU .u64 c), (15, vI ↑s.size), (16, vI ↑i), (34, vo), (35, vI ↑(limbs (hor ((byt s).take i))).length), (36, vI ↑ps.length)]) (fun (x_ : (List Nat × Nat)) => match x_ with | (ps, c) => [.us 61 .u32 vo (mixA ps (limbs (hor ((byt s).take i))))]) (fun (x_ : (List Nat × Nat)) => match x_ with | (ps, c) => k1) (fun (x_ : (List Nat × Nat)) => match x_ with | (ps, c) => (limbs (hor ((byt s).take i))).length - ps.length) ([], (byt s).getD i 0 - 48) ?_ ⟨rfl, rfl, rfl, rfl, rfl, rfl, rfl, rfl, trivial⟩ rfl rfl ?_
        ·
         exact ⟨by simp, fun x hx => by simp at hx, by omega, by simp [val]⟩
        ·
         intro x hx
         obtain ⟨ps, c⟩ := x
         obtain ⟨hps, hfp, hc9, hval⟩ := hx
         show GC _ _ _ _ _ _ [(0, .string s), (4, vo), (6, vU .u64 c), (15, vI ↑s.size), (16, vI ↑i), (34, vo), (35, vI ↑(limbs (hor ((byt s).take i))).length), (36, vI ↑ps.length)] [.us 61 .u32 vo (mixA ps (limbs (hor ((byt s).take i))))] k1
         refine gc_seq (gc_region (gv (ov_lss_i rfl rfl) rfl (gl_nil (gq_then (gc_seq ?_)))))
         refine gc_cond rfl (fun hc37 => ?_) (fun hc37 => ?_)
         ·
          refine gc_skip (gq_then (gc_seq (gc_block (gc_seq (gc_region (mv rfl rfl (gv (ov_index_ous (A := []) (ps.length) Try.underlying22 Try.sizeOf61 rfl rfl (by omega) (by rw [mixA_len (by omega)]; omega)) rfl (gv (ov_load_ous (A := []) Try.isAgg61 rfl (by rw [mixA_len (by omega)]; omega)) rfl ?_))))))))
          rw [mixA_get (Nat.le_refl _)]
          have hgx := fit_get (fit_limbs (hor ((byt s).take i))) ps.length
          refine asg rfl rfl (asg rfl rfl (gl_nil (gq_then (gc_seq (gc_region (mv rfl rfl (mv rfl rfl (gv (ov_conv_u (k := .u32) (k' := .u64) (W := 18446744073709551616) Try.underlying61 Try.underlying75 rfl rfl rfl (by omega)) rfl (gv (ov_mul_u (k := .u64) (q := 10) (W := 18446744073709551616) rfl rfl rfl rfl (by omega)) rfl (gv (ov_add_u (k := .u64) (W := 18446744073709551616) rfl rfl rfl rfl (by omega)) rfl (asg rfl rfl (gl_nil (gq_keep (e' := [(0, _), (4, _), (15, _), (16, _), (34, _), (35, _), (36, _), (7, _), (6, _)]) ⟨rfl, rfl, rfl, rfl, rfl, rfl, rfl, rfl, rfl, trivial⟩ ?_)))))))))))))
          refine gq_then (gc_seq (gc_region (mv rfl rfl (mv rfl rfl (mv rfl rfl (gv (ov_conv_uu (k := .u64) (k' := .u32) (W := 4294967296) Try.underlying75 Try.underlying61 rfl rfl rfl) rfl (gv (ov_index_ous (A := []) (ps.length) Try.underlying22 Try.sizeOf61 rfl rfl (by omega) (by rw [mixA_len (by omega)]; omega)) rfl (gl_store_ous0 Try.sizeOf61 rfl rfl (by rw [mixA_len (by omega)]; omega) (gl_nil (gq_then (gc_region (mv rfl rfl (gv (ov_shr_u (k := .u64) (s := 32) (yk := .u64) rfl rfl rfl (by simp only [ub]; omega)) rfl ?_)))))))))))))
          refine asg rfl rfl (gl_nil (gq_in (gq_then (gc_region (gv (ov_add_i (q := 1) rfl rfl (by omega) (by omega)) rfl (mv rfl rfl (gl_nil ?_)))))))
          generalize hX : (limbs (hor ((byt s).take i))).getD ps.length 0 = X at *
          refine gq_round (ps ++ [(c + X * 10) % 4294967296], (c + X * 10) / 2 ^ 32) ?_ ?_ ⟨?_, ?_, ?_, ?_, ?_, ?_, ?_, ?_, trivial⟩ ?_ rfl
          ·
           refine ⟨by simp; omega, fit_append hfp (fit_one (by omega)), by omega, ?_⟩
           rw [List.length_append, List.length_singleton, val_take_getD, hX, val_snoc, Nat.pow_succ]
           have e := Nat.div_add_mod (c + X * 10) 4294967296
           rw [show (2 : Nat) ^ 32 = 4294967296 from rfl]
           generalize (c + X * 10) / 4294967296 = p at *
           generalize (c + X * 10) % 4294967296 = q at *
           grind
          ·
           dsimp only
           simp; omega
          · exact rfl
          · exact rfl
          · exact rfl
          · exact rfl
          · exact rfl
          · exact rfl
          · exact rfl
          · exact congrArg some (congrArg vI (by simp))
          ·
           try dsimp only [List.nil_append, List.cons_append]
           rw [mixA_set (by omega)]
         ·
          refine gc_exit (gx_then (gx_then (gx_here (gq_then (gc_seq (gc_region (mv rfl rfl (gv (ov_gtr_u (k := .u64) (q := 0) rfl rfl) rfl (gl_nil (gq_then ?_))))))))))
          refine gc_cond rfl (fun hc55 => ?_) (fun hc55 => ?_)
          ·
           refine gc_region (mv rfl rfl (mv rfl rfl (gv (ov_conv_uu (k := .u64) (k' := .u32) (W := 4294967296) Try.underlying75 Try.underlying61 rfl rfl rfl) rfl (gl_newop (new_build1 (kd := .u32) Try.underlying22 info61 rfl rfl rfl) rfl rfl rfl ?_))))
           intro v59 r59 hr59
           obtain rfl := hr59
           refine gl_freeze_us0 (by intro z hz; simp only [List.mem_singleton] at hz; subst hz; simp only [ub]; omega) ?_
           intro h1 hh1 hch
           refine gl_repop (A := []) (rep_append_us (kd := .u32) (bytes := 4) Try.underlying22 info61 rfl rfl rfl rfl rfl hch (by rw [mixA_len (by omega)]; simp only [List.length_singleton]; omega) (by rw [mixA_len (by omega)]; simp only [List.length_singleton]; omega)) rfl rfl rfl ?_
           intro v60 r60 hr60
           obtain rfl := hr60
           refine asg rfl rfl (gl_nil (gq_in ?_))
           have hpl : ps.length = (limbs (hor ((byt s).take i))).length := by omega
           rw [val_take_all (by omega)] at hval
           have hfull := (hor_full hfp rfl hpl (by omega) hval).1 hc55
           refine gq_cut (v60, h1) ?_ ⟨?_, ?_, ?_, ?_, trivial⟩ ?_ rfl
           ·
            refine ⟨hh1, ?_⟩
            exact ⟨hd1, hd2, by rw [← hfull, List.length_append, List.length_singleton]; omega⟩
           · exact rfl
           · exact rfl
           · exact rfl
           · exact rfl
           ·
            try dsimp only [List.nil_append, List.cons_append]
            rw [mixA_full hpl, hfull]
          ·
           refine gc_skip (gq_in ?_)
           have hpl : ps.length = (limbs (hor ((byt s).take i))).length := by omega
           rw [val_take_all (by omega)] at hval
           have hfull := (hor_full hfp rfl hpl (by omega) hval).2 (by omega)
           refine gq_cut (vo, k1) ?_ ⟨?_, ?_, ?_, ?_, trivial⟩ ?_ rfl
           ·
            refine ⟨MLe.refl _, ?_⟩
            exact ⟨hd1, hd2, by rw [← hfull]; omega⟩
           · exact rfl
           · exact rfl
           · exact rfl
           · exact rfl
           ·
            try dsimp only [List.nil_append, List.cons_append]
            rw [mixA_full hpl, hfull]
     ·
      intro x hx
      obtain ⟨vo2, k3⟩ := x
      obtain ⟨hmk3, ⟨hd1, hd2, hln2⟩⟩ := hx
      show GC _ _ _ _ _ _ [(0, .string s), (4, vo2), (15, vI ↑s.size), (16, vI ↑i)] [.us 61 .u32 vo2 (limbs (10 * hor ((byt s).take i) + ((byt s).getD i 0 - 48)))] k3
      refine gc_region (gv (ov_add_i (q := 1) rfl rfl (by omega) (by omega)) rfl (mv rfl rfl (gl_nil ?_)))
      refine gq_round (vo2, i + 1, k3) ?_ ?_ ⟨?_, ?_, ?_, ?_, trivial⟩ ?_ rfl
      ·
       refine ⟨(hmk1.trans hmk3), ?_⟩
       exact ⟨by omega, digB_take hdg (by omega) hd1 hd2, by rw [hor_take (by omega)]; exact hln2⟩
      ·
       dsimp only
       omega
      · exact rfl
      · exact rfl
      · exact rfl
      · exact rfl
      ·
       try dsimp only [List.nil_append, List.cons_append]
       rw [hor_take (by omega)]
    ·
     refine gc_exit (gx_then (gx_then (gx_here (gq_then (gc_seq (gc_region (mv rfl rfl (gl_freeze_us0 (by exact fit_limbs _) ?_))))))))
     intro h1 hh1 ho
     refine asg rfl rfl (asg (v := vI (0)) rfl rfl (gl_nil (gq_then (gc_ret (gq_body2 rfl rfl rfl ?_)))))
     have hi2 : i = (byt s).length := by omega
     rw [hi2, List.take_length] at hdg ho
     obtain ⟨e1, e2⟩ := parse_ok (bs := byt s) (by omega) hne hdg
     rw [e1, e2]
     exact ⟨_, rfl, ho⟩

end Go.Proofs.Ytimoeckkdodogaa
