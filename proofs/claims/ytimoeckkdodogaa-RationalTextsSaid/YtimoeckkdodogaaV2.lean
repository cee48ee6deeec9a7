/- Contracts of functions, walked by their text (nat9+rat7+rat8/t). -/
import Derived.Test.YtimoeckkdodogaaV1
namespace Go.Proofs.Ytimoeckkdodogaa
open Bk Go
set_option linter.unusedVariables false
set_option linter.unusedSimpArgs false
set_option maxRecDepth 10000

theorem ref_parse {w0 : World} {h0 : Mem}  (hs : MLe h0 (mem w0)) {s : ByteArray} (hsz : s.size ≤ 9223372036854775807) :
    Calls Try.prog 70 #[.string s] w0 (Ret w0 h0 (fun h r => ∃ u, r = .tuple #[u, vI (perr (byt s))] ∧ Us .u32 h u (limbs (pval (byt s))))) := by
 have hbl := byt_length s
 have hszl : (byt s).length ≤ 9223372036854775807 := by omega
 refine calls_begin (n := 70) (e := [(0, .string s)]) (vs := [.string s]) Try.func70 rfl rfl (Nat.le_of_ble_eq_true rfl) hs ⟨rfl, trivial⟩ (gc_seq (gc_region (asg rfl rfl (asg (v := vI (0)) rfl rfl (gl_nil (gq_then (gc_seq (gc_seq (gc_region (mv rfl rfl (gv (ov_len_str Try.underlying9 rfl) rfl (gv (ov_gtr_i (q := 4096) rfl rfl) rfl (gl_nil ?_)))))))))))))
 refine gq_then ?_
 refine gc_cond rfl (fun hc11 => ?_) (fun hc11 => ?_)
 ·
  refine gc_seq (gc_region (asg rfl rfl (asg (v := vI (2)) rfl rfl (gl_nil (gq_then (gc_ret (gr_then (gq_body2 rfl rfl rfl ?_))))))))
  have h1 : 4096 < (byt s).length := by rw [byt_length]; omega
  rw [perr, if_pos h1, pval, if_pos h1, limbs_zero]
  exact ⟨_, rfl, Us.nil _ _⟩
 ·
  have hsmall : s.size ≤ 4096 := by omega
  refine gc_skip (gq_then (gc_seq (gc_seq (gc_region (mv rfl rfl (gv (ov_eql_str rfl rfl) rfl (gl_nil (gq_then ?_))))))))
  refine gc_cond rfl (fun hc13 => ?_) (fun hc13 => ?_)
  ·
   refine gc_seq (gc_region (asg rfl rfl (asg (v := vI (4)) rfl rfl (gl_nil (gq_then (gc_ret (gr_then (gq_body2 rfl rfl rfl ?_))))))))
   have h1 : (byt s).length = 0 := by rw [byt_length, hc13]; rfl
   have h2 : byt s = [] := List.eq_nil_of_length_eq_zero h1
   rw [h2]
   show ∃ u, _ = Value.tuple #[u, vI 4] ∧ Us .u32 _ u (limbs 0)
   rw [limbs_zero]
   exact ⟨_, rfl, Us.nil _ _⟩
  ·
   have hne : (byt s).length ≠ 0 := fun h => hc13 (by
     have h2 : s.size = 0 := by omega
     obtain ⟨d⟩ := s
     have h3 : d = #[] := Array.eq_empty_of_size_eq_zero h2
     rw [h3])
   refine gc_skip (gq_then (gc_seq (gc_region (gl_val (ov_assign (v := .slice none 0 0) rfl) rfl rfl rfl (gl_addnil (E := 61) (k := .u32) (gl_nil (gq_then (gc_seq (gc_seq (gc_region (asg (v := vI (0)) rfl rfl (gl_nil (gq_then ?_)))))))))))))
   refine gc_block ?_
   refine gc_loop (ι := Nat) (fun (i : (Nat)) => i ≤ (byt s).length ∧ digB ((byt s).take i) = true) (fun (i : (Nat)) => [(0, .string s), (4, .slice none 0 0), (5, vI ↑i)]) (fun (i : (Nat)) => [.us 61 .u32 (.slice none 0 0) []]) (fun (i : (Nat)) => h0) (fun (i : (Nat)) => (byt s).length - i) 0 ?_ ⟨rfl, rfl, rfl, trivial⟩ rfl rfl ?_
   ·
    exact ⟨Nat.zero_le _, by simp [digB]⟩
   ·
    intro i hx
    obtain ⟨hi, hdg0⟩ := hx
    show GC _ _ _ _ _ _ [(0, .string s), (4, .slice none 0 0), (5, vI ↑i)] [.us 61 .u32 (.slice none 0 0) []] h0
    refine gc_seq (gc_seq (gc_region (mv rfl rfl (mv rfl rfl (gv (ov_len_str Try.underlying9 rfl) rfl (gv (ov_lss_i rfl rfl) rfl (gl_nil (gq_then ?_))))))))
    refine gc_cond rfl (fun hc17 => ?_) (fun hc17 => ?_)
    ·
     refine gc_skip (gq_then (gc_seq (gc_block (gc_seq (gc_region (mv rfl rfl (mv rfl rfl (gl_val (ov_index_byt (i) Try.underlying9 rfl rfl rfl (by rw [← byt_length]; omega)) rfl rfl rfl ?_))))))))
     have hb1 := byt_lt s (i)
     refine gv (ov_lss_u (k := .u8) (q := 48) rfl rfl) rfl ?_
     refine gl_cut (ι := Unit) 6 (fun _ => True) (fun _ => [(29, vB (((byt s).getD i 0 < 48) ∨ (57 < (byt s).getD i 0))), (0, .string s), (4, .slice none 0 0), (5, vI ↑i)]) (fun _ => [.us 61 .u32 (.slice none 0 0) []]) (fun _ => h0) ?_ ?_
     ·
      refine gl_cases ((byt s).getD i 0 < 48) (fun hg => ?_) (fun hg => ?_)
      ·
       refine gl_val (ov_move (v := .bool true) (congrArg some (vB_true hg))) rfl rfl rfl (gl_off rfl rfl rfl rfl rfl rfl (gl_off rfl rfl rfl rfl rfl rfl (gl_off rfl rfl rfl rfl rfl rfl (gl_off rfl rfl rfl rfl rfl rfl (gv (ov_pick_t rfl rfl) rfl (gl_nil ?_))))))
       refine gq_cut () trivial ⟨?_, rfl, rfl, rfl, trivial⟩ rfl rfl
       exact congrArg some (vB_or_t hg)
      ·
       refine gl_val (ov_move (v := .bool false) (congrArg some (vB_false hg))) rfl rfl rfl (gl_on rfl rfl rfl (mv rfl rfl (gl_on rfl rfl rfl (mv rfl rfl (gl_on rfl rfl rfl (gl_val (ov_index_byt (i) Try.underlying9 rfl rfl rfl (by rw [← byt_length]; omega)) rfl rfl rfl ?_))))))
       have hb1 := byt_lt s (i)
       refine gl_on rfl rfl rfl (gv (ov_gtr_u (k := .u8) (q := 57) rfl rfl) rfl (gv (ov_pick_f rfl rfl) rfl (gl_nil ?_)))
       refine gq_cut () trivial ⟨?_, rfl, rfl, rfl, trivial⟩ rfl rfl
       exact congrArg some (vB_or_f hg)
     ·
      intro _ _
      show GL _ _ _ _ _ _ _ [(29, vB (((byt s).getD i 0 < 48) ∨ (57 < (byt s).getD i 0))), (0, .string s), (4, .slice none 0 0), (5, vI ↑i)] [.us 61 .u32 (.slice none 0 0) []] h0
      refine gl_nil (gq_then ?_)
      refine gc_cond rfl (fun hc29 => ?_) (fun hc29 => ?_)
      ·
       refine gc_seq (gc_region (asg rfl rfl (asg (v := vI (4)) rfl rfl (gl_nil (gq_then (gc_ret (gr_in (gr_then (gr_then (gr_in (gr_then (gq_body2 rfl rfl rfl ?_))))))))))))
       obtain ⟨e1, e2⟩ := parse_bad (bs := byt s) (by omega) hne (digB_bad (i := i) (by omega) (by omega))
       rw [e1, e2, limbs_zero]
       exact ⟨_, rfl, Us.nil _ _⟩
      ·
       have hd1 : 48 ≤ (byt s).getD i 0 := by omega
       have hd2 : (byt s).getD i 0 ≤ 57 := by omega
       refine gc_skip (gq_in (gq_then (gc_region (mv rfl rfl (gv (ov_add_i (q := 1) rfl rfl (by omega) (by omega)) rfl (asg rfl rfl (gl_nil ?_)))))))
       refine gq_round (i + 1) ?_ ?_ ⟨?_, ?_, ?_, trivial⟩ ?_ rfl
       ·
        exact ⟨by omega, digB_take hdg0 (by omega) hd1 hd2⟩
       ·
        omega
       · exact rfl
       · exact rfl
       · exact rfl
       · exact rfl
    ·
     have hdall : digB (byt s) = true := by rw [← List.take_of_length_le (l := byt s) (show (byt s).length ≤ i by omega)]; exact hdg0
     refine gc_exit (gx_then (gx_then (gx_here (gq_then (gc_seq (gc_seq (gc_region (asg (v := vI (0)) rfl rfl (gl_nil (gq_then (gc_block ?_)))))))))))
     refine gc_loop (ι := Value × Nat × Mem) (fun (x_ : (Value × Nat × Mem)) => match x_ with | (vo, j, k1) => MLe h0 k1 ∧ (j ≤ (byt s).length ∧ (limbs (hor ((byt s).take j))).length ≤ j)) (fun (x_ : (Value × Nat × Mem)) => match x_ with | (vo, j, k1) => [(0, .string s), (4, vo), (6, vI ↑j)]) (fun (x_ : (Value × Nat × Mem)) => match x_ with | (vo, j, k1) => [.us 61 .u32 vo (limbs (hor ((byt s).take j)))]) (fun (x_ : (Value × Nat × Mem)) => match x_ with | (vo, j, k1) => k1) (fun (x_ : (Value × Nat × Mem)) => match x_ with | (vo, j, k1) => (byt s).length - j) (.slice none 0 0, 0, h0) ?_ ⟨rfl, rfl, rfl, trivial⟩ ?_ rfl ?_
     ·
      refine ⟨MLe.refl _, ?_⟩
      exact ⟨Nat.zero_le _, by simp [hor, limbs_zero]⟩
     ·
      try dsimp only [List.nil_append, List.cons_append]
      show [Res.us 61 .u32 (.slice none 0 0) (limbs (hor (List.take 0 (byt s))))] = _
      rw [List.take_zero, hor_nil, limbs_zero]
     ·
      intro x hx
      obtain ⟨vo, j, k1⟩ := x
      obtain ⟨hmk1, ⟨hj, hln⟩⟩ := hx
      show GC _ _ _ _ _ _ [(0, .string s), (4, vo), (6, vI ↑j)] [.us 61 .u32 vo (limbs (hor ((byt s).take j)))] k1
      refine gc_seq (gc_seq (gc_region (mv rfl rfl (mv rfl rfl (gv (ov_len_str Try.underlying9 rfl) rfl (gv (ov_lss_i rfl rfl) rfl (gl_nil (gq_then ?_))))))))
      refine gc_cond rfl (fun hc33 => ?_) (fun hc33 => ?_)
      ·
       refine gc_skip (gq_then ?_)
       refine gc_cut (ι := Value × Mem) (fun (x_ : (Value × Mem)) => match x_ with | (vo2, k3) => MLe k1 k3 ∧ ((limbs (10 * hor ((byt s).take j) + ((byt s).getD j 0 - 48))).length ≤ j + 1)) (fun (x_ : (Value × Mem)) => match x_ with | (vo2, k3) => [(0, .string s), (4, vo2), (6, vI ↑j)]) (fun (x_ : (Value × Mem)) => match x_ with | (vo2, k3) => [.us 61 .u32 vo2 (limbs (10 * hor ((byt s).take j) + ((byt s).getD j 0 - 48)))]) (fun (x_ : (Value × Mem)) => match x_ with | (vo2, k3) => k3) ?_ ?_
       ·
        refine gc_block (gc_seq (gc_region (mv rfl rfl (mv rfl rfl ?_))))
        obtain ⟨hd1, hd2⟩ := digB_get hdall (i := j) (by omega)
        refine gl_val (ov_index_byt (j) Try.underlying9 rfl rfl rfl (by rw [← byt_length]; omega)) rfl rfl rfl ?_
        have hb1 := byt_lt s (j)
        refine gv (ov_sub_u (k := .u8) (q := 48) (W := 256) rfl rfl rfl rfl (by omega) (by omega)) rfl (gv (ov_conv_u (k := .u8) (k' := .u64) (W := 18446744073709551616) Try.underlying5 Try.underlying75 rfl rfl rfl (by omega)) rfl (asg rfl rfl (gl_nil (gq_then (gc_seq (gc_seq (gc_region (asg (v := vI (0)) rfl rfl (gl_nil (gq_then (gc_block ?_)))))))))))
        refine gc_loop (ι := List Nat × Nat) (fun (x_ : (List Nat × Nat)) => match x_ with | (ps, c) => ps.length ≤ (limbs (hor ((byt s).take j))).length ∧ Fit ps ∧ c ≤ 9 ∧ val ps + 4294967296 ^ ps.length * c = ((byt s).getD j 0 - 48) + 10 * val ((limbs (hor ((byt s).take j))).take ps.length)) (fun (x_ : (List Nat × Nat)) => match x_ with | (ps, c) => [(0, .string s), (4, vo), (6, vI ↑j), (7, vU .u64 c), (8, vI ↑ps.length)]) (fun (x_ : (List Nat × Nat)) => match x_ with | (ps, c) => [.us 61 .u32 vo (mixA ps (limbs (hor ((byt s).take j))))]) (fun (x_ : (List Nat × Nat)) => match x_ with | (ps, c) => k1) (fun (x_ : (List Nat × Nat)) => match x_ with | (ps, c) => (limbs (hor ((byt s).take j))).length - ps.length) ([], (byt s).getD j 0 - 48) ?_ ⟨rfl, rfl, rfl, rfl, rfl, trivial⟩ rfl rfl ?_
        ·
         exact ⟨by simp, fun x hx => by simp at hx, by omega, by simp [val]⟩
        ·
         intro x hx
         obtain ⟨ps, c⟩ := x
         obtain ⟨hps, hfp, hc9, hval⟩ := hx
         show GC _ _ _ _ _ _ [(0, .string s), (4, vo), (6, vI ↑j), (7, vU .u64 c), (8, vI ↑ps.length)] [.us 61 .u32 vo (mixA ps (limbs (hor ((byt s).take j))))] k1
         refine gc_seq (gc_seq (gc_region (mv rfl rfl (mv rfl rfl (gv (ov_len_ous (A := []) Try.underlying22 rfl) rfl ?_)))))
         rw [mixA_len (by omega)]
         refine gv (ov_lss_i rfl rfl) rfl (gl_nil (gq_then ?_))
         refine gc_cond rfl (fun hc44 => ?_) (fun hc44 => ?_)
         ·
          refine gc_skip (gq_then (gc_seq (gc_block (gc_seq (gc_region (mv rfl rfl (mv rfl rfl (mv rfl rfl (gv (ov_index_ous (A := []) (ps.length) Try.underlying22 Try.sizeOf61 rfl rfl (by omega) (by rw [mixA_len (by omega)]; omega)) rfl (gv (ov_load_ous (A := []) Try.isAgg61 rfl (by rw [mixA_len (by omega)]; omega)) rfl ?_))))))))))
          rw [mixA_get (Nat.le_refl _)]
          have hgx := fit_get (fit_limbs (hor ((byt s).take j))) ps.length
          refine gv (ov_conv_u (k := .u32) (k' := .u64) (W := 18446744073709551616) Try.underlying61 Try.underlying75 rfl rfl rfl (by omega)) rfl (gv (ov_mul_u (k := .u64) (q := 10) (W := 18446744073709551616) rfl rfl rfl rfl (by omega)) rfl (gv (ov_add_u (k := .u64) (W := 18446744073709551616) rfl rfl rfl rfl (by omega)) rfl (asg rfl rfl (gl_nil (gq_keep (e' := [(0, _), (4, _), (6, _), (8, _), (7, _)]) ⟨rfl, rfl, rfl, rfl, rfl, trivial⟩ (gq_then (gc_seq (gc_region (mv rfl rfl (mv rfl rfl (mv rfl rfl (gv (ov_conv_uu (k := .u64) (k' := .u32) (W := 4294967296) Try.underlying75 Try.underlying61 rfl rfl rfl) rfl (gv (ov_index_ous (A := []) (ps.length) Try.underlying22 Try.sizeOf61 rfl rfl (by omega) (by rw [mixA_len (by omega)]; omega)) rfl ?_)))))))))))))
          refine gl_store_ous0 Try.sizeOf61 rfl rfl (by rw [mixA_len (by omega)]; omega) (gl_nil (gq_then (gc_region (mv rfl rfl (gv (ov_shr_u (k := .u64) (s := 32) (yk := .u64) rfl rfl rfl (by simp only [ub]; omega)) rfl (asg rfl rfl (gl_nil (gq_in (gq_then (gc_region (mv rfl rfl (gv (ov_add_i (q := 1) rfl rfl (by omega) (by omega)) rfl (asg rfl rfl ?_)))))))))))))
          refine gl_nil ?_
          generalize hX : (limbs (hor ((byt s).take j))).getD ps.length 0 = X at *
          refine gq_round (ps ++ [(c + X * 10) % 4294967296], (c + X * 10) / 2 ^ 32) ?_ ?_ ⟨?_, ?_, ?_, ?_, ?_, trivial⟩ ?_ rfl
          ·
           refine ⟨by simp; omega, fit_append hfp (fit_one (by omega)), by omega, ?_⟩
           rw [List.length_append, List.length_singleton, val_take_getD, hX, val_snoc, Nat.pow_succ]
           have e := Nat.div_add_mod (c + X * 10) 4294967296
           rw [show (2 : Nat) ^ 32 = 4294967296 from rfl]
           generalize (c + X * 10) / 4294967296 = p at *
           generalize (c + X * 10) % 4294967296 = q at *
           grind
          ·
           dsimp only
           simp; omega
          · exact rfl
          · exact rfl
          · exact rfl
          · exact rfl
          · exact congrArg some (congrArg vI (by simp))
          ·
           try dsimp only [List.nil_append, List.cons_append]
           rw [mixA_set (by omega)]
         ·
          refine gc_exit (gx_then (gx_then (gx_here (gq_then (gc_seq (gc_region (mv rfl rfl (gv (ov_gtr_u (k := .u64) (q := 0) rfl rfl) rfl (gl_nil (gq_then ?_))))))))))
          refine gc_cond rfl (fun hc63 => ?_) (fun hc63 => ?_)
          ·
           refine gc_region (mv rfl rfl (mv rfl rfl (gv (ov_conv_uu (k := .u64) (k' := .u32) (W := 4294967296) Try.underlying75 Try.underlying61 rfl rfl rfl) rfl (gl_newop (new_build1 (kd := .u32) Try.underlying22 info61 rfl rfl rfl) rfl rfl rfl ?_))))
           intro v67 r67 hr67
           obtain rfl := hr67
           refine gl_freeze_us0 (by intro z hz; simp only [List.mem_singleton] at hz; subst hz; simp only [ub]; omega) ?_
           intro h1 hh1 hch
           refine gl_repop (A := []) (rep_append_us (kd := .u32) (bytes := 4) Try.underlying22 info61 rfl rfl rfl rfl rfl hch (by rw [mixA_len (by omega)]; simp only [List.length_singleton]; omega) (by rw [mixA_len (by omega)]; simp only [List.length_singleton]; omega)) rfl rfl rfl ?_
           intro v68 r68 hr68
           obtain rfl := hr68
           refine asg rfl rfl (gl_nil (gq_in ?_))
           have hpl : ps.length = (limbs (hor ((byt s).take j))).length := by omega
           rw [val_take_all (by omega)] at hval
           have hfull := (hor_full hfp rfl hpl (by omega) hval).1 hc63
           refine gq_cut (v68, h1) ?_ ⟨?_, ?_, ?_, trivial⟩ ?_ rfl
           ·
            refine ⟨hh1, ?_⟩
            rw [← hfull, List.length_append, List.length_singleton]; omega
           · exact rfl
           · exact rfl
           · exact rfl
           ·
            try dsimp only [List.nil_append, List.cons_append]
            rw [mixA_full hpl, hfull]
          ·
           refine gc_skip (gq_in ?_)
           have hpl : ps.length = (limbs (hor ((byt s).take j))).length := by omega
           rw [val_take_all (by omega)] at hval
           have hfull := (hor_full hfp rfl hpl (by omega) hval).2 (by omega)
           refine gq_cut (vo, k1) ?_ ⟨?_, ?_, ?_, trivial⟩ ?_ rfl
           ·
            refine ⟨MLe.refl _, ?_⟩
            rw [← hfull]; omega
           · exact rfl
           · exact rfl
           · exact rfl
           ·
            try dsimp only [List.nil_append, List.cons_append]
            rw [mixA_full hpl, hfull]
       ·
        intro x hx
        obtain ⟨vo2, k3⟩ := x
        obtain ⟨hmk3, hln2⟩ := hx
        show GC _ _ _ _ _ _ [(0, .string s), (4, vo2), (6, vI ↑j)] [.us 61 .u32 vo2 (limbs (10 * hor ((byt s).take j) + ((byt s).getD j 0 - 48)))] k3
        refine gc_region (mv rfl rfl (gv (ov_add_i (q := 1) rfl rfl (by omega) (by omega)) rfl (asg rfl rfl (gl_nil ?_))))
        refine gq_round (vo2, j + 1, k3) ?_ ?_ ⟨?_, ?_, ?_, trivial⟩ ?_ rfl
        ·
         refine ⟨(hmk1.trans hmk3), ?_⟩
         exact ⟨by omega, by rw [hor_take (by omega)]; exact hln2⟩
        ·
         dsimp only
         omega
        · exact rfl
        · exact rfl
        · exact rfl
        ·
         try dsimp only [List.nil_append, List.cons_append]
         rw [hor_take (by omega)]
      ·
       refine gc_exit (gx_then (gx_then (gx_here (gq_then (gc_seq (gc_region (mv rfl rfl (gl_freeze_us0 (by exact fit_limbs _) ?_))))))))
       intro h1 hh1 ho
       refine asg rfl rfl (asg (v := vI (0)) rfl rfl (gl_nil (gq_then (gc_ret (gq_body2 rfl rfl rfl ?_)))))
       have hi2 : j = (byt s).length := by omega
       rw [hi2, List.take_length] at ho
       obtain ⟨e1, e2⟩ := parse_ok (bs := byt s) (by omega) hne hdall
       rw [e1, e2]
       exact ⟨_, rfl, ho⟩

theorem ref_text {w0 : World} {h0 : Mem}  (hs : MLe h0 (mem w0)) {v : Value} {X : Nat} (hv : Us .u32 h0 v (limbs X)) (hl : (limbs X).length ≤ 1099511627776) :
    Calls Try.prog 76 #[v] w0 (Ret w0 h0 (fun _ r => r = .string (strOf (txt X)))) := by
 have hcl := chLE_len (fit_limbs X)
 rw [val_limbs] at hcl
 refine calls_begin (n := 65) (e := [(0, v)]) (vs := [v]) Try.func76 rfl rfl (Nat.le_of_ble_eq_true rfl) hs ⟨rfl, trivial⟩ (gc_seq (gc_region (asg rfl rfl (gl_nil (gq_then (gc_seq (gc_seq (gc_region (mv rfl rfl (gv (ov_len_us Try.underlying22 rfl hv) rfl (gv (ov_eql_i (q := 0) rfl rfl) rfl (gl_nil (gq_then ?_)))))))))))))
 refine gc_cond rfl (fun hc11 => ?_) (fun hc11 => ?_)
 ·
  have hz0 : (limbs X).length = 0 := by omega
  refine gc_seq (gc_region (asg rfl rfl (gl_nil (gq_then (gc_ret (gr_then (gq_body1 rfl rfl ?_)))))))
  have e : X = 0 := Classical.byContradiction fun hne => by have := limbs_len_pos.2 hne; omega
  rw [e]; rfl
 ·
  have hnz : (limbs X).length ≠ 0 := by omega
  refine gc_skip (gq_then (gc_seq (gc_region (gl_val (ov_assign (v := .slice none 0 0) rfl) rfl rfl rfl (gl_addnil (E := 5) (k := .u8) (gl_nil (gq_then (gc_seq (gc_block ?_)))))))))
  refine gc_loop (ι := Value × Nat × Value × List Nat × Mem) (fun (x_ : (Value × Nat × Value × List Nat × Mem)) => match x_ with | (va, n, vo, ds, hm1) => MLe h0 hm1 ∧ (Us .u32 hm1 va (limbs n) ∧ n ≤ X ∧ ds ++ chLE n = chLE (X))) (fun (x_ : (Value × Nat × Value × List Nat × Mem)) => match x_ with | (va, n, vo, ds, hm1) => [(0, va), (3, vo)]) (fun (x_ : (Value × Nat × Value × List Nat × Mem)) => match x_ with | (va, n, vo, ds, hm1) => [.us 5 .u8 vo ds]) (fun (x_ : (Value × Nat × Value × List Nat × Mem)) => match x_ with | (va, n, vo, ds, hm1) => hm1) (fun (x_ : (Value × Nat × Value × List Nat × Mem)) => match x_ with | (va, n, vo, ds, hm1) => n) (v, X, .slice none 0 0, [], h0) ?_ ⟨rfl, rfl, trivial⟩ rfl rfl ?_
  ·
   refine ⟨MLe.refl _, ?_⟩
   exact ⟨hv, Nat.le_refl _, rfl⟩
  ·
   intro x hx
   obtain ⟨va, n, vo, ds, hm1⟩ := x
   obtain ⟨hmhm1, ⟨ha, hnle, hds⟩⟩ := hx
   show GC _ _ _ _ _ _ [(0, va), (3, vo)] [.us 5 .u8 vo ds] hm1
   have hlln : (limbs n).length ≤ (limbs X).length := limbs_len_mono hnle
   refine gc_seq (gc_seq (gc_region (mv rfl rfl (gv (ov_len_us Try.underlying22 rfl ha) rfl (gv (ov_gtr_i (q := 0) rfl rfl) rfl (gl_nil (gq_then ?_)))))))
   refine gc_cond rfl (fun hc14 => ?_) (fun hc14 => ?_)
   ·
    refine gc_skip (gq_then (gc_block (gc_seq (gc_region (mv rfl rfl ?_)))))
    refine gl_call (vs := [_, vU .u32 1000000000]) rfl rfl rfl rfl Try.call108 ⟨rfl, rfl, trivial⟩ (fun w hs => ref_bylimb hs ha (by omega) (by omega) (by omega)) ?_
    intro v17 h1 hh1 hr17
    obtain ⟨u17, rfl, hu17⟩ := hr17
    rw [val_limbs] at hu17 ⊢
    refine mv rfl rfl (gv (ov_extract (vs := [_, _]) rfl rfl) rfl (gv (ov_extract (vs := [_, _]) rfl rfl) rfl (asg rfl rfl (asg rfl rfl (gl_nil (gq_then (gc_seq (gc_seq (gc_region (asg (v := vI (0)) rfl rfl (gl_nil (gq_then (gc_block ?_)))))))))))))
    refine gc_loop (ι := Nat × Nat × Value × List Nat × Mem) (fun (x_ : (Nat × Nat × Value × List Nat × Mem)) => match x_ with | (i, x, vo2, ds2, hm2) => MLe h1 hm2 ∧ (i ≤ 9 ∧ x < 10 ^ (9 - i) ∧ ds2 ++ chLE (x + 10 ^ (9 - i) * (n / 1000000000)) = chLE (X))) (fun (x_ : (Nat × Nat × Value × List Nat × Mem)) => match x_ with | (i, x, vo2, ds2, hm2) => [(3, vo2), (4, u17), (5, vU .u32 x), (6, vI ↑i)]) (fun (x_ : (Nat × Nat × Value × List Nat × Mem)) => match x_ with | (i, x, vo2, ds2, hm2) => [.us 5 .u8 vo2 ds2]) (fun (x_ : (Nat × Nat × Value × List Nat × Mem)) => match x_ with | (i, x, vo2, ds2, hm2) => hm2) (fun (x_ : (Nat × Nat × Value × List Nat × Mem)) => match x_ with | (i, x, vo2, ds2, hm2) => 9 - i) (0, n % 1000000000, vo, ds, h1) ?_ ⟨rfl, rfl, rfl, rfl, trivial⟩ rfl rfl ?_
    ·
     refine ⟨MLe.refl _, ?_⟩
     exact ⟨by omega, by omega, by rw [← hds]; congr 2; omega⟩
    ·
     intro x hx
     obtain ⟨i, x, vo2, ds2, hm2⟩ := x
     obtain ⟨hmhm2, ⟨hi, hxb, hds2⟩⟩ := hx
     show GC _ _ _ _ _ _ [(3, vo2), (4, u17), (5, vU .u32 x), (6, vI ↑i)] [.us 5 .u8 vo2 ds2] hm2
     have hxm : x < 4294967296 := Nat.lt_of_lt_of_le hxb (Nat.le_trans (Nat.pow_le_pow_right (by omega) (show 9 - i ≤ 9 by omega)) (by decide))
     refine gc_seq (gc_seq (gc_region (mv rfl rfl (gv (ov_lss_i (q := 9) rfl rfl) rfl ?_))))
     refine gl_cut (ι := Unit) 9 (fun _ => True) (fun _ => [(30, vB (((i : Int) < 9) ∧ (0 < x ∨ (0 : Int) < ↑(limbs (n / 1000000000)).length))), (3, vo2), (4, u17), (5, vU .u32 x), (6, vI ↑i)]) (fun _ => [.us 5 .u8 vo2 ds2]) (fun _ => hm2) ?_ ?_
     ·
      refine gl_cases ((i : Int) < 9) (fun hg => ?_) (fun hg => ?_)
      ·
       refine gl_val (ov_move (v := .bool true) (congrArg some (vB_true hg))) rfl rfl rfl (gl_on rfl rfl rfl (mv rfl rfl (gl_on rfl rfl rfl (gv (ov_gtr_u (k := .u32) (q := 0) rfl rfl) rfl ?_))))
       refine gl_cut (ι := Unit) 5 (fun _ => True) (fun _ => [(29, vB ((0 < x) ∨ ((0 : Int) < ↑(limbs (n / 1000000000)).length))), (3, vo2), (4, u17), (5, vU .u32 x), (6, vI ↑i), (22, .bool true)]) (fun _ => [.us 5 .u8 vo2 ds2]) (fun _ => hm2) ?_ ?_
       ·
        refine gl_cases (0 < x) (fun hg => ?_) (fun hg => ?_)
        ·
         refine gl_on rfl rfl rfl (gl_val (ov_move (v := .bool true) (congrArg some (vB_true hg))) rfl rfl rfl (gl_off rfl rfl rfl rfl rfl rfl (gl_off rfl rfl rfl rfl rfl rfl (gl_off rfl rfl rfl rfl rfl rfl (gl_on rfl rfl rfl (gv (ov_pick_t rfl rfl) rfl (gl_nil ?_)))))))
         refine gq_cut () trivial ⟨?_, rfl, rfl, rfl, rfl, rfl, trivial⟩ rfl rfl
         exact congrArg some (vB_or_t hg)
        ·
         refine gl_on rfl rfl rfl (gl_val (ov_move (v := .bool false) (congrArg some (vB_false hg))) rfl rfl rfl (gl_on rfl rfl rfl (mv rfl rfl (gl_on rfl rfl rfl ?_))))
         replace hu17 := hu17.mono hmhm2
         refine gv (ov_len_us Try.underlying22 rfl hu17) rfl (gl_on rfl rfl rfl (gv (ov_gtr_i (q := 0) rfl rfl) rfl (gl_on rfl rfl rfl (gv (ov_pick_f rfl rfl) rfl (gl_nil ?_)))))
         refine gq_cut () trivial ⟨?_, rfl, rfl, rfl, rfl, rfl, trivial⟩ rfl rfl
         exact congrArg some (vB_or_f hg)
       ·
        intro _ _
        show GL _ _ _ _ _ _ _ [(29, vB ((0 < x) ∨ ((0 : Int) < ↑(limbs (n / 1000000000)).length))), (3, vo2), (4, u17), (5, vU .u32 x), (6, vI ↑i), (22, .bool true)] [.us 5 .u8 vo2 ds2] hm2
        refine gv (ov_pick_t rfl rfl) rfl (gl_nil ?_)
        refine gq_cut () trivial ⟨?_, rfl, rfl, rfl, rfl, trivial⟩ rfl rfl
        exact congrArg some (vB_and_t hg)
      ·
       refine gl_val (ov_move (v := .bool false) (congrArg some (vB_false hg))) rfl rfl rfl (gl_off rfl rfl rfl rfl rfl rfl (gl_off rfl rfl rfl rfl rfl rfl (gl_off rfl rfl rfl rfl rfl rfl (gl_offu rfl rfl rfl rfl rfl (gl_offu rfl rfl rfl rfl rfl (gl_offu rfl rfl rfl rfl rfl (gl_off rfl rfl rfl rfl rfl rfl (gv (ov_pick_f rfl rfl) rfl (gl_nil ?_)))))))))
       refine gq_cut () trivial ⟨?_, rfl, rfl, rfl, rfl, trivial⟩ rfl rfl
       exact congrArg some (vB_and_f hg)
     ·
      intro _ _
      show GL _ _ _ _ _ _ _ [(30, vB (((i : Int) < 9) ∧ (0 < x ∨ (0 : Int) < ↑(limbs (n / 1000000000)).length))), (3, vo2), (4, u17), (5, vU .u32 x), (6, vI ↑i)] [.us 5 .u8 vo2 ds2] hm2
      refine gl_nil (gq_then ?_)
      refine gc_cond rfl (fun hc30 => ?_) (fun hc30 => ?_)
      ·
       have hdl2 : ds2.length ≤ (chLE (X)).length := by rw [← hds2]; simp
       refine gc_skip (gq_then (gc_seq (gc_block (gc_seq (gc_region (mv rfl rfl (mv rfl rfl (gv (ov_rem_u (k := .u32) (q := 10) rfl rfl (by omega)) rfl (gv (ov_add_u (k := .u32) (p := 48) (W := 4294967296) rfl rfl rfl rfl (by omega)) rfl (gv (ov_conv_u (k := .u32) (k' := .u8) (W := 256) Try.underlying61 Try.underlying5 rfl rfl rfl (by omega)) rfl (gl_newop (new_build1 (kd := .u8) Try.underlying85 info5 rfl rfl rfl) rfl rfl rfl ?_)))))))))))
       intro v38 r38 hr38
       obtain rfl := hr38
       refine gl_freeze_us0 (by intro z hz; simp only [List.mem_singleton] at hz; subst hz; simp only [ub]; omega) ?_
       intro h2 hh2 hch
       refine gl_repop (A := []) (rep_append_us (kd := .u8) (bytes := 1) Try.underlying85 info5 rfl rfl rfl rfl rfl hch (by simp only [List.length_singleton]; omega) (by simp only [List.length_singleton]; omega)) rfl rfl rfl ?_
       intro v39 r39 hr39
       obtain rfl := hr39
       refine asg rfl rfl (gl_nil (gq_then (gc_region (mv rfl rfl (gv (ov_quo_u (k := .u32) (q := 10) (W := 4294967296) rfl rfl rfl rfl (by omega) (by omega)) rfl (asg rfl rfl (gl_nil (gq_in (gq_then (gc_region (mv rfl rfl (gv (ov_add_i (q := 1) rfl rfl (by omega) (by omega)) rfl (asg rfl rfl ?_)))))))))))))
       refine gl_nil ?_
       refine gq_round (i + 1, x / 10, v39, ds2 ++ [48 + x % 10], h2) ?_ ?_ ⟨?_, ?_, ?_, ?_, trivial⟩ ?_ rfl
       ·
        refine ⟨(hmhm2.trans hh2), ?_⟩
        obtain ⟨h9, hor⟩ := hc30
        obtain ⟨k, hk⟩ : ∃ k, 9 - i = k + 1 := ⟨8 - i, by omega⟩
        have hln := limbs_len_pos (n := n / 1000000000)
        refine ⟨by omega, ?_, ?_⟩
        · rw [show 9 - (i + 1) = k by omega]
          rw [hk, Nat.pow_succ] at hxb
          omega
        · rw [show 9 - (i + 1) = k by omega]
          rw [hk, chLE_step (by omega)] at hds2
          rw [List.append_assoc]
          exact hds2
       ·
        dsimp only
        omega
       · exact rfl
       · exact rfl
       · exact rfl
       · exact rfl
       · exact rfl
      ·
       refine gc_exit (gx_then (gx_then (gx_here (gq_then (gc_region (mv rfl rfl (asg rfl rfl (gl_nil (gq_in ?_)))))))))
       refine gq_round (u17, n / 1000000000, vo2, ds2, hm2) ?_ ?_ ⟨?_, ?_, trivial⟩ ?_ rfl
       ·
        refine ⟨((hmhm1.trans hh1).trans hmhm2), ?_⟩
        replace hu17 := hu17.mono hmhm2
        refine ⟨hu17, by omega, ?_⟩
        rw [← hds2]
        congr 2
        by_cases h9 : i = 9
        · subst h9; simp at hxb ⊢; omega
        · have h1 : ¬ (0 < x ∨ (0 : Int) < ↑(limbs (n / 1000000000)).length) := fun h => hc30 ⟨by omega, h⟩
          have h2 : n / 1000000000 = 0 := Classical.byContradiction fun hne => h1 (.inr (by have := limbs_len_pos.2 hne; omega))
          rw [h2, show x = 0 by omega, Nat.mul_zero]
       ·
        dsimp only
        have := limbs_len_pos (n := n); omega
       · exact rfl
       · exact rfl
       · exact rfl
   ·
    have hn0 : n = 0 := Classical.byContradiction fun hne => hc14 (by have := limbs_len_pos.2 hne; omega)
    subst hn0
    rw [chLE_zero, List.append_nil] at hds
    have hdl0 : ds.length ≤ 10 * (limbs X).length := by rw [hds]; exact hcl
    refine gc_exit (gx_then (gx_then (gx_here (gq_then (gc_seq (gc_region (mv rfl rfl (gv (ov_len_ous (A := []) Try.underlying85 rfl) rfl (gl_make_us (kd := .u8) (by' := 1) (ds.length) Try.underlying85 info5 rfl rfl rfl rfl rfl (by omega) (by omega) (by omega) (by omega) rfl ?_)))))))))
    intro v45
    refine asg rfl rfl (gl_nil (gq_then (gc_seq (gc_seq (gc_region (asg (v := vI (0)) rfl rfl (gl_nil (gq_then (gc_block ?_)))))))))
    refine gc_loop (ι := Nat) (fun (k : (Nat)) => k ≤ ds.length) (fun (k : (Nat)) => [(3, vo), (7, v45), (8, vI ↑k)]) (fun (k : (Nat)) => [.us 5 .u8 v45 (fillDn (ds.length - k) (ds.take k).reverse), .us 5 .u8 vo ds]) (fun (k : (Nat)) => hm1) (fun (k : (Nat)) => ds.length - k) 0 ?_ ⟨rfl, rfl, rfl, trivial⟩ ?_ rfl ?_
    ·
     exact Nat.zero_le _
    ·
     try dsimp only [List.nil_append, List.cons_append]
     exact congrArg (fun z => [Res.us 5 .u8 v45 z, Res.us 5 .u8 vo ds]) (fillDn_nil _)
    ·
     intro k hx
     obtain hk := hx
     show GC _ _ _ _ _ _ [(3, vo), (7, v45), (8, vI ↑k)] [.us 5 .u8 v45 (fillDn (ds.length - k) (ds.take k).reverse), .us 5 .u8 vo ds] hm1
     refine gc_seq (gc_seq (gc_region (mv rfl rfl (mv rfl rfl (gv (ov_len_ous (A := [_]) Try.underlying85 rfl) rfl (gv (ov_lss_i rfl rfl) rfl (gl_nil (gq_then ?_))))))))
     refine gc_cond rfl (fun hc49 => ?_) (fun hc49 => ?_)
     ·
      refine gc_skip (gq_then (gc_seq (gc_block (gc_region (mv rfl rfl (mv rfl rfl (gv (ov_len_ous (A := [_]) Try.underlying85 rfl) rfl (gv (ov_sub_i (q := 1) rfl rfl (by omega) (by omega)) rfl (mv rfl rfl (gv (ov_sub_i rfl rfl (by omega) (by omega)) rfl (mv rfl rfl (mv rfl rfl (gv (ov_index_ous (A := [_]) (k) Try.underlying85 Try.sizeOf5 rfl rfl (by omega) (by omega)) rfl ?_)))))))))))))
      refine gv (ov_load_ous (A := [_]) Try.isAgg5 rfl (by omega)) rfl (gv (ov_index_ous (A := []) (ds.length - k - 1) Try.underlying85 Try.sizeOf5 rfl rfl (by omega) (by rw [length_fillDn, List.length_reverse, List.length_take]; omega)) rfl (gl_store_ous0 Try.sizeOf5 rfl rfl (by rw [length_fillDn, List.length_reverse, List.length_take]; omega) (gl_nil (gq_in (gq_keep (e' := [(3, _), (7, _), (8, _)]) ⟨rfl, rfl, rfl, trivial⟩ (gq_then (gc_region (mv rfl rfl (gv (ov_add_i (q := 1) rfl rfl (by omega) (by omega)) rfl (asg rfl rfl (gl_nil ?_)))))))))))
      refine gq_round (k + 1) ?_ ?_ ⟨?_, ?_, ?_, trivial⟩ ?_ rfl
      ·
       omega
      ·
       omega
      · exact rfl
      · exact rfl
      · exact rfl
      ·
       try dsimp only [List.nil_append, List.cons_append]
       rw [fillDn_set (by omega), take_succ ds k (by omega), List.reverse_append, List.reverse_singleton, List.singleton_append, Nat.sub_sub]
     ·
      refine gc_exit (gx_then (gx_then (gx_here (gq_then (gc_seq (gc_region (mv rfl rfl ?_)))))))
      have hk2 : k = ds.length := by omega
      rw [hk2, Nat.sub_self, fillDn_zero, List.take_length]
      refine gl_freeze_us0 (by intro z hz; rw [hds] at hz; exact chLE_lt _ z (List.mem_reverse.1 hz)) ?_
      intro h1 hh1 hfin
      refine gv (ov_bytes_str Try.underlying85 Try.underlying5 Try.underlying9 rfl hfin) rfl (asg rfl rfl (gl_nil (gq_then (gc_ret (gq_body1 rfl rfl ?_)))))
      have e : X ≠ 0 := limbs_len_pos.1 (by omega)
      rw [txt, if_neg e, ← hds]

theorem rref_text {w0 : World} {h0 : Mem}  (hs : MLe h0 (mem w0)) {qa : Rat} {vna vda : Value} (hna : Us .u32 h0 vna (limbs qa.num.natAbs)) (hda : Us .u32 h0 vda (limbs (denN qa.den))) (hqa : lq qa ≤ 100000000000)  :
    Calls Try.prog 19 #[.agg #[vB (qa.num < 0), vna, vda]] w0 (Ret w0 h0 (fun _ r => r = .string (strOf (txtQ qa)))) := by
 have hlna := lq_num qa
 have hlda := lq_den qa
 have hlDa := lq_denL qa
 refine calls_begin (n := 22) (e := [(0, .agg #[vB (qa.num < 0), vna, vda])]) (vs := [.agg #[vB (qa.num < 0), vna, vda]]) Try.func19 rfl rfl (Nat.le_of_ble_eq_true rfl) hs ⟨rfl, trivial⟩ (gc_seq (gc_region (gl_newop (new_box (cs := [_, _, _]) rfl rfl) rfl rfl rfl ?_)))
 intro v1 r1 hr1
 obtain ⟨b1, rfl, rfl⟩ := hr1
 refine asg rfl rfl (gl_nil (gq_then (gc_seq (gc_region (gv (ov_field_addr Try.underlying27 rfl Try.sizeOf22 rfl) rfl (gv (ov_load_var (.head _) Try.isAgg22 rfl rfl) rfl ?_))))))
 refine gl_call (vs := [_]) rfl rfl rfl rfl Try.call76 ⟨rfl, trivial⟩ (fun w hs => ref_text hs hna (by omega)) ?_
 intro v6 h1 hh1 hr6
 subst hr6
 have htl6 := txt_len ((qa.num.natAbs))
 refine asg rfl rfl (gl_nil (gq_then (gc_seq (gc_seq (gc_region (gv (ov_field_addr Try.underlying27 rfl Try.sizeOf4 rfl) rfl (gv (ov_load_var (.head _) Try.isAgg4 rfl rfl) rfl (gl_nil (gq_then ?_)))))))))
 refine gc_cond rfl (fun hc8 => ?_) (fun hc8 => ?_)
 ·
  refine gc_region (mv rfl rfl (gv (ov_add_s (pa := ([45] : List Nat)) (pb := (txt ((qa.num.natAbs)))) rfl rfl (by first | omega | (simp only [List.length_append, List.length_cons, List.length_nil, List.length_drop, List.length_take]; omega))) rfl (asg rfl rfl (gl_nil (gq_then (gc_seq (gc_seq (gc_region (gv (ov_field_addr Try.underlying27 rfl Try.sizeOf22 rfl) rfl (gv (ov_load_var (.head _) Try.isAgg22 rfl rfl) rfl ?_))))))))))
  replace hda := hda.mono hh1
  refine gv (ov_len_us Try.underlying22 rfl hda) rfl (gv (ov_gtr_i (q := 0) rfl rfl) rfl (gl_nil (gq_keep (e' := [(1, _), (3, _), (14, _)]) ⟨rfl, rfl, rfl, trivial⟩ (gq_then ?_))))
  refine gc_cond rfl (fun hc14 => ?_) (fun hc14 => ?_)
  ·
   refine gc_region (mv rfl rfl (gv (ov_field_addr Try.underlying27 rfl Try.sizeOf22 rfl) rfl (gv (ov_load_var (.head _) Try.isAgg22 rfl rfl) rfl ?_)))
   refine gl_call (vs := [_]) rfl rfl rfl rfl Try.call76 ⟨rfl, trivial⟩ (fun w hs => ref_text hs hda (by omega)) ?_
   intro v18 h2 hh2 hr18
   subst hr18
   have htl18 := txt_len (((denN qa.den)))
   refine gv (ov_add_s (pa := ([47] : List Nat)) (pb := (txt (((denN qa.den))))) rfl rfl (by first | omega | (simp only [List.length_append, List.length_cons, List.length_nil, List.length_drop, List.length_take]; omega))) rfl (gv (ov_add_s (pa := (([45] : List Nat) ++ (txt ((qa.num.natAbs))))) (pb := (([47] : List Nat) ++ (txt (((denN qa.den)))))) rfl rfl (by first | omega | (simp only [List.length_append, List.length_cons, List.length_nil, List.length_drop, List.length_take]; omega))) rfl (asg rfl rfl (gl_nil (gq_then (gc_seq (gc_region (mv rfl rfl (asg rfl rfl (gl_nil (gq_keep (e' := [(2, _)]) ⟨rfl, trivial⟩ (gq_then (gc_ret (gq_body1 rfl rfl ?_)))))))))))))
   rw [← txtQ_t hc8 hc14]
  ·
   refine gc_skip (gq_then (gc_seq (gc_region (mv rfl rfl (asg rfl rfl (gl_nil (gq_then (gc_ret (gq_body1 rfl rfl ?_)))))))))
   rw [← txtQ_td hc8 hc14]
 ·
  refine gc_skip (gq_then (gc_seq (gc_seq (gc_region (gv (ov_field_addr Try.underlying27 rfl Try.sizeOf22 rfl) rfl (gv (ov_load_var (.head _) Try.isAgg22 rfl rfl) rfl ?_))))))
  replace hda := hda.mono hh1
  refine gv (ov_len_us Try.underlying22 rfl hda) rfl (gv (ov_gtr_i (q := 0) rfl rfl) rfl (gl_nil (gq_keep (e' := [(1, _), (3, _), (14, _)]) ⟨rfl, rfl, rfl, trivial⟩ (gq_then ?_))))
  refine gc_cond rfl (fun hc14 => ?_) (fun hc14 => ?_)
  ·
   refine gc_region (mv rfl rfl (gv (ov_field_addr Try.underlying27 rfl Try.sizeOf22 rfl) rfl (gv (ov_load_var (.head _) Try.isAgg22 rfl rfl) rfl ?_)))
   refine gl_call (vs := [_]) rfl rfl rfl rfl Try.call76 ⟨rfl, trivial⟩ (fun w hs => ref_text hs hda (by omega)) ?_
   intro v18 h2 hh2 hr18
   subst hr18
   have htl18 := txt_len (((denN qa.den)))
   refine gv (ov_add_s (pa := ([47] : List Nat)) (pb := (txt (((denN qa.den))))) rfl rfl (by first | omega | (simp only [List.length_append, List.length_cons, List.length_nil, List.length_drop, List.length_take]; omega))) rfl (gv (ov_add_s (pa := (txt ((qa.num.natAbs)))) (pb := (([47] : List Nat) ++ (txt (((denN qa.den)))))) rfl rfl (by first | omega | (simp only [List.length_append, List.length_cons, List.length_nil, List.length_drop, List.length_take]; omega))) rfl (asg rfl rfl (gl_nil (gq_then (gc_seq (gc_region (mv rfl rfl (asg rfl rfl (gl_nil (gq_keep (e' := [(2, _)]) ⟨rfl, trivial⟩ (gq_then (gc_ret (gq_body1 rfl rfl ?_)))))))))))))
   rw [← txtQ_nt hc8 hc14]
  ·
   refine gc_skip (gq_then (gc_seq (gc_region (mv rfl rfl (asg rfl rfl (gl_nil (gq_then (gc_ret (gq_body1 rfl rfl ?_)))))))))
   rw [← txtQ_nd hc8 hc14]

theorem rref_digits {w0 : World} {h0 : Mem}  (hs : MLe h0 (mem w0)) {bs : List Nat} (hbs : ByB bs) (hls : bs.length ≤ 1000000000) :
    Calls Try.prog 69 #[.string (strOf bs)] w0 (Ret w0 h0 (fun _ r => r = vI ↑(digs bs))) := by
 refine calls_begin (n := 23) (e := [(0, .string (strOf bs))]) (vs := [.string (strOf bs)]) Try.func69 rfl rfl (Nat.le_of_ble_eq_true rfl) hs ⟨rfl, trivial⟩ (gc_seq (gc_region (asg (v := vI (0)) rfl rfl (gl_nil (gq_then (gc_seq (gc_region (asg (v := vI (0)) rfl rfl (gl_nil (gq_then (gc_seq (gc_block ?_))))))))))))
 refine gc_loop (ι := Nat) (fun (k : (Nat)) => k ≤ bs.length ∧ digs bs = k + digs (bs.drop k)) (fun (k : (Nat)) => [(0, .string (strOf bs)), (3, vI ↑k)]) (fun (k : (Nat)) => []) (fun (k : (Nat)) => h0) (fun (k : (Nat)) => bs.length - k) 0 ?_ ⟨rfl, rfl, trivial⟩ rfl rfl ?_
 ·
  exact ⟨by omega, by simp⟩
 ·
  intro k hx
  obtain ⟨hk2, hk3⟩ := hx
  show GC _ _ _ _ _ _ [(0, .string (strOf bs)), (3, vI ↑k)] [] h0
  refine gc_seq (gc_seq (gc_region (mv rfl rfl (mv rfl rfl (gv (ov_len_s (bs := bs) Try.underlying9 rfl) rfl (gv (ov_lss_i rfl rfl) rfl ?_))))))
  refine gl_cut (ι := Unit) 6 (fun _ => True) (fun _ => [(13, vB (((↑k : Int) < (↑(bs).length : Int)) ∧ ((48 : Nat) ≤ ((bs).getD (k) 0)))), (0, .string (strOf bs)), (3, vI ↑k)]) (fun _ => []) (fun _ => h0) ?_ ?_
  ·
   refine gl_cases ((↑k : Int) < (↑(bs).length : Int)) (fun hg => ?_) (fun hg => ?_)
   ·
    refine gl_val (ov_move (v := .bool true) (congrArg some (vB_true hg))) rfl rfl rfl (gl_on rfl rfl rfl (mv rfl rfl (gl_on rfl rfl rfl (mv rfl rfl (gl_on rfl rfl rfl (gv (ov_index_s (bs := bs) hbs (k) Try.underlying9 rfl rfl (by omega) (by omega)) rfl ?_))))))
    have hlt11 := (hbs : ByB (bs)).lt (k)
    refine gl_on rfl rfl rfl (gv (ov_geq_u (k := .u8) (q := 48) rfl rfl) rfl (gv (ov_pick_t rfl rfl) rfl (gl_nil ?_)))
    refine gq_cut () trivial ⟨?_, rfl, rfl, trivial⟩ rfl rfl
    exact congrArg some (vB_and_t hg)
   ·
    refine gl_val (ov_move (v := .bool false) (congrArg some (vB_false hg))) rfl rfl rfl (gl_off rfl rfl rfl rfl rfl rfl (gl_off rfl rfl rfl rfl rfl rfl (gl_off rfl rfl rfl rfl rfl rfl (gl_off rfl rfl rfl rfl rfl rfl (gv (ov_pick_f rfl rfl) rfl (gl_nil ?_))))))
    refine gq_cut () trivial ⟨?_, rfl, rfl, trivial⟩ rfl rfl
    exact congrArg some (vB_and_f hg)
  ·
   intro _ _
   show GL _ _ _ _ _ _ _ [(13, vB (((↑k : Int) < (↑(bs).length : Int)) ∧ ((48 : Nat) ≤ ((bs).getD (k) 0)))), (0, .string (strOf bs)), (3, vI ↑k)] [] h0
   refine gl_cut (ι := Unit) 6 (fun _ => True) (fun _ => [(19, vB ((((↑k : Int) < (↑(bs).length : Int)) ∧ ((48 : Nat) ≤ ((bs).getD (k) 0))) ∧ (((bs).getD (k) 0) ≤ (57 : Nat)))), (0, .string (strOf bs)), (3, vI ↑k)]) (fun _ => []) (fun _ => h0) ?_ ?_
   ·
    refine gl_cases (((↑k : Int) < (↑(bs).length : Int)) ∧ ((48 : Nat) ≤ ((bs).getD (k) 0))) (fun hg => ?_) (fun hg => ?_)
    ·
     refine gl_val (ov_move (v := .bool true) (congrArg some (vB_true hg))) rfl rfl rfl (gl_on rfl rfl rfl (mv rfl rfl (gl_on rfl rfl rfl (mv rfl rfl (gl_on rfl rfl rfl (gv (ov_index_s (bs := bs) hbs (k) Try.underlying9 rfl rfl (by omega) (by omega)) rfl ?_))))))
     have hlt17 := (hbs : ByB (bs)).lt (k)
     refine gl_on rfl rfl rfl (gv (ov_leq_u (k := .u8) (q := 57) rfl rfl) rfl (gv (ov_pick_t rfl rfl) rfl (gl_nil ?_)))
     refine gq_cut () trivial ⟨?_, rfl, rfl, trivial⟩ rfl rfl
     exact congrArg some (vB_and_t hg)
    ·
     refine gl_val (ov_move (v := .bool false) (congrArg some (vB_false hg))) rfl rfl rfl (gl_off rfl rfl rfl rfl rfl rfl (gl_off rfl rfl rfl rfl rfl rfl (gl_off rfl rfl rfl rfl rfl rfl (gl_off rfl rfl rfl rfl rfl rfl (gv (ov_pick_f rfl rfl) rfl (gl_nil ?_))))))
     refine gq_cut () trivial ⟨?_, rfl, rfl, trivial⟩ rfl rfl
     exact congrArg some (vB_and_f hg)
   ·
    intro _ _
    show GL _ _ _ _ _ _ _ [(19, vB ((((↑k : Int) < (↑(bs).length : Int)) ∧ ((48 : Nat) ≤ ((bs).getD (k) 0))) ∧ (((bs).getD (k) 0) ≤ (57 : Nat)))), (0, .string (strOf bs)), (3, vI ↑k)] [] h0
    refine gl_nil (gq_then ?_)
    refine gc_cond rfl (fun hc19 => ?_) (fun hc19 => ?_)
    ·
     refine gc_skip (gq_then (gc_block (gc_region (mv rfl rfl (gv (ov_add_i (q := 1) rfl rfl (by omega) (by omega)) rfl (asg rfl rfl (gl_nil (gq_in ?_))))))))
     refine gq_round (k + 1) ?_ ?_ ⟨?_, ?_, trivial⟩ ?_ rfl
     ·
      refine ⟨by omega, ?_⟩
      rw [hk3, digs_step (by omega) hc19.1.2 hc19.2]
      omega
     ·
      omega
     · exact rfl
     · exact congrArg some (congrArg vI (by omega))
     · exact rfl
    ·
     refine gc_exit (gx_then (gx_then (gx_here (gq_then (gc_seq (gc_region (mv rfl rfl (asg rfl rfl (gl_nil (gq_then (gc_ret (gq_body1 rfl rfl ?_))))))))))))
     rw [hk3, digs_stop (fun e => hc19 ⟨⟨by omega, e.2.1⟩, e.2.2⟩)]; rfl

theorem rref_ten {w0 : World} {h0 : Mem}  (hs : MLe h0 (mem w0)) {n : Nat} (hn' : n ≤ 100000) :
    Calls Try.prog 71 #[vI ↑n] w0 (Ret w0 h0 (fun h r => Us .u32 h r (limbs (10 ^ n)))) := by
 refine calls_begin (n := 15) (e := [(0, vI ↑n)]) (vs := [vI ↑n]) Try.func71 rfl rfl (Nat.le_of_ble_eq_true rfl) hs ⟨rfl, trivial⟩ (gc_seq (gc_region (asg rfl rfl (gl_nil (gq_then (gc_seq (gc_region (gl_newop (new_build1 (kd := .u32) (p := 1) Try.underlying22 info61 rfl rfl rfl) rfl rfl rfl ?_))))))))
 intro v5 r5 hr5
 obtain rfl := hr5
 refine gl_freeze_us0 (by intro z hz; simp only [List.mem_singleton] at hz; subst hz; decide) ?_
 intro h1 hh1 ho5
 rw [one_limbs] at ho5
 have hlm5 := len_one
 refine asg rfl rfl (gl_nil (gq_then (gc_seq (gc_seq (gc_region (asg (v := vI (0)) rfl rfl (gl_nil (gq_then (gc_block ?_)))))))))
 refine gc_loop (ι := Nat × Value × Nat × Mem) (fun (x_ : (Nat × Value × Nat × Mem)) => match x_ with | (k, vo, X, m0) => MLe h1 m0 ∧ (Us .u32 m0 vo (limbs X) ∧ X = 10 ^ k ∧ k ≤ n)) (fun (x_ : (Nat × Value × Nat × Mem)) => match x_ with | (k, vo, X, m0) => [(0, vI ↑n), (3, vo), (4, vI ↑k)]) (fun (x_ : (Nat × Value × Nat × Mem)) => match x_ with | (k, vo, X, m0) => []) (fun (x_ : (Nat × Value × Nat × Mem)) => match x_ with | (k, vo, X, m0) => m0) (fun (x_ : (Nat × Value × Nat × Mem)) => match x_ with | (k, vo, X, m0) => n - k) (0, v5, 1, h1) ?_ ⟨rfl, rfl, rfl, trivial⟩ rfl rfl ?_
 ·
  refine ⟨MLe.refl _, ?_⟩
  exact ⟨ho5, rfl, by omega⟩
 ·
  intro x hx
  obtain ⟨k, vo, X, m0⟩ := x
  obtain ⟨hmm0, ⟨ho, hX, hk⟩⟩ := hx
  show GC _ _ _ _ _ _ [(0, vI ↑n), (3, vo), (4, vI ↑k)] [] m0
  have h8 := ten_len k
  rw [← hX] at h8
  refine gc_seq (gc_seq (gc_region (mv rfl rfl (mv rfl rfl (gv (ov_lss_i rfl rfl) rfl (gl_nil (gq_then ?_)))))))
  refine gc_cond rfl (fun hc8 => ?_) (fun hc8 => ?_)
  ·
   refine gc_skip (gq_then (gc_seq (gc_block (gc_region (mv rfl rfl (gl_newop (new_build1 (kd := .u32) (p := 10) Try.underlying22 info61 rfl rfl rfl) rfl rfl rfl ?_))))))
   intro v12 r12 hr12
   obtain rfl := hr12
   refine gl_freeze_us0 (by intro z hz; simp only [List.mem_singleton] at hz; subst hz; decide) ?_
   intro h2 hh2 h10
   replace ho := ho.mono hh2
   refine gl_call (vs := [_, _]) rfl rfl rfl rfl Try.call73 ⟨rfl, rfl, trivial⟩ (fun w hs => ref_mul hs ho h10 (by omega) (by simp)) ?_
   intro v13 h3 hh3 hr13
   rw [val_limbs, show val [10] = 10 from rfl] at hr13
   refine asg rfl rfl (gl_nil (gq_in (gq_then (gc_region (mv rfl rfl (gv (ov_add_i (q := 1) rfl rfl (by omega) (by omega)) rfl (asg rfl rfl (gl_nil ?_))))))))
   refine gq_round (k + 1, v13, X * 10, h3) ?_ ?_ ⟨?_, ?_, ?_, trivial⟩ ?_ rfl
   ·
    refine ⟨((hmm0.trans hh2).trans hh3), ?_⟩
    exact ⟨hr13, by rw [hX, Nat.pow_succ], by omega⟩
   ·
    dsimp only
    omega
   · exact rfl
   · exact rfl
   · exact congrArg some (congrArg vI (by omega))
   · exact rfl
  ·
   refine gc_exit (gx_then (gx_then (gx_here (gq_then (gc_seq (gc_region (mv rfl rfl (asg rfl rfl (gl_nil (gq_then (gc_ret (gq_body1 rfl rfl ?_))))))))))))
   have hk0 : k = n := by omega
   rw [← hk0, ← hX]
   exact ho

set_option maxHeartbeats 1000000 in
theorem rref_parse {w0 : World} {h0 : Mem}  (hs : MLe h0 (mem w0)) {bs : List Nat} (hbs : ByB bs) (hls : bs.length ≤ 9223372036854775807) :
    Calls Try.prog 17 #[.string (strOf bs)] w0 (Ret w0 h0 (fun h r => ∃ u, r = .tuple #[u, vI (parQ bs).1] ∧ IsRat h u (parQ bs).2)) := by
 refine calls_begin (n := 191) (e := [(0, .string (strOf bs))]) (vs := [.string (strOf bs)]) Try.func17 rfl rfl (Nat.le_of_ble_eq_true rfl) hs ⟨rfl, trivial⟩ (gc_seq (gc_region (gl_newop (new_alloc (cs := [vB ((0 : Rat).num < 0), .slice none 0 0, .slice none 0 0]) info27 rfl (by simp only [zb]; rfl)) rfl rfl rfl ?_)))
 intro v2 r2 hr2
 obtain ⟨b2, rfl, rfl⟩ := hr2
 refine asg (v := vI (0)) rfl rfl (gl_nil (gq_then (gc_seq (gc_seq (gc_region (mv rfl rfl (gv (ov_len_s (bs := bs) Try.underlying9 rfl) rfl (gv (ov_gtr_i (q := 4096) rfl rfl) rfl (gl_nil (gq_then ?_))))))))))
 refine gc_cond rfl (fun hc17 => ?_) (fun hc17 => ?_)
 ·
  refine gc_seq (gc_region (gv (ov_build_parts (ps' := []) (vs := [vB ((0 : Rat).num < 0), .slice none 0 0, .slice none 0 0]) Try.underlying27 info27 rfl (places27 Try.underlying27) trivial (by simp only [zb]; rfl)) rfl (gl_upd (A := []) (r' := .var b2 27 [vB ((0 : Rat).num < 0), .slice none 0 0, .slice none 0 0]) (upd_store_var (k := 0) (cs := [_, _, _]) (vs := [_, _, _]) rfl rfl rfl rfl size27 (Nat.le_of_ble_eq_true rfl)) rfl rfl rfl (asg (v := vI (2)) rfl rfl (gl_nil (gq_then (gc_ret (gr_then (gq_res (fun E S => run_res2 rfl (rv_agg (cs := [_, _, _]) (.head _) Try.underlying27 rfl size27 rfl) (rv_tmp rfl) E S) ?_)))))))))
  rw [parQ_big hc17]
  exact ⟨_, rfl, IsRat.zero _⟩
 ·
  have hpar := parQ_fin hc17
  refine gc_skip (gq_then (gc_seq (gc_region (mv rfl rfl (gv (ov_len_s (bs := bs) Try.underlying9 rfl) rfl (gv (ov_gtr_i (q := 0) rfl rfl) rfl ?_))))))
  refine gl_cut (ι := Unit) 5 (fun _ => True) (fun _ => [(26, vB (((0 : Int) < (↑(bs).length : Int)) ∧ (((bs).getD (0) 0) = (45 : Nat)))), (0, .string (strOf bs)), (2, vP b2 0)]) (fun _ => [.var b2 27 [vB ((0 : Rat).num < 0), .slice none 0 0, .slice none 0 0]]) (fun _ => h0) ?_ ?_
  ·
   refine gl_cases ((0 : Int) < (↑(bs).length : Int)) (fun hg => ?_) (fun hg => ?_)
   ·
    refine gl_val (ov_move (v := .bool true) (congrArg some (vB_true hg))) rfl rfl rfl (gl_on rfl rfl rfl (mv rfl rfl (gl_on rfl rfl rfl (gv (ov_index_s (q := 0) (bs := bs) hbs (0) Try.underlying9 rfl rfl rfl (by first | omega | (have hnn := List.length_pos_iff.2 (by assumption); omega) | (have hnn := List.length_pos_iff.2 (And.left (by assumption)); omega) | (simp only [List.length_drop, List.length_take]; omega))) rfl ?_))))
    have hlt24 := (hbs : ByB (bs)).lt (0)
    refine gl_on rfl rfl rfl (gv (ov_eql_u (k := .u8) (q := 45) rfl rfl) rfl (gv (ov_pick_t rfl rfl) rfl (gl_nil ?_)))
    refine gq_cut () trivial ⟨?_, rfl, rfl, trivial⟩ rfl rfl
    exact congrArg some (vB_and_t hg)
   ·
    refine gl_val (ov_move (v := .bool false) (congrArg some (vB_false hg))) rfl rfl rfl (gl_off rfl rfl rfl rfl rfl rfl (gl_off rfl rfl rfl rfl rfl rfl (gl_off rfl rfl rfl rfl rfl rfl (gv (ov_pick_f rfl rfl) rfl (gl_nil ?_)))))
    refine gq_cut () trivial ⟨?_, rfl, rfl, trivial⟩ rfl rfl
    exact congrArg some (vB_and_f hg)
  ·
   intro _ _
   show GL _ _ _ _ _ _ _ [(26, vB (((0 : Int) < (↑(bs).length : Int)) ∧ (((bs).getD (0) 0) = (45 : Nat)))), (0, .string (strOf bs)), (2, vP b2 0)] [.var b2 27 [vB ((0 : Rat).num < 0), .slice none 0 0, .slice none 0 0]] h0
   refine asg rfl rfl (gl_nil (gq_then ?_))
   refine gc_cut (ι := List Nat) (fun (s1 : (List Nat)) => parBody bs = s1 ∧ ByB s1 ∧ s1.length ≤ bs.length) (fun (s1 : (List Nat)) => [(0, .string (strOf s1)), (2, vP b2 0), (4, vB (parNeg bs))]) (fun (s1 : (List Nat)) => [.var b2 27 [vB ((0 : Rat).num < 0), .slice none 0 0, .slice none 0 0]]) (fun (s1 : (List Nat)) => h0) ?_ ?_
   ·
    refine gc_seq (gc_region (mv rfl rfl (gl_nil (gq_then ?_))))
    refine gc_cond rfl (fun hc27 => ?_) (fun hc27 => ?_)
    ·
     refine gc_region (mv rfl rfl (gv (ov_slice_s_l (bs := bs) (p := 1) (1) Try.underlying9 rfl rfl rfl (by first | omega | (have hnn := List.length_pos_iff.2 (by assumption); omega) | (have hnn := List.length_pos_iff.2 (And.left (by assumption)); omega) | (simp only [List.length_drop, List.length_take]; omega))) rfl (asg rfl rfl (gl_nil ?_))))
     refine gq_cut (bs.drop 1) ?_ ⟨?_, ?_, ?_, trivial⟩ ?_ rfl
     ·
      exact ⟨parBody_t hc27, hbs.dr 1, by simp⟩
     · exact rfl
     · exact rfl
     · exact rfl
     · exact rfl
    ·
     refine gc_skip ?_
     refine gq_cut (bs) ?_ ⟨?_, ?_, ?_, trivial⟩ ?_ rfl
     ·
      exact ⟨parBody_f hc27, hbs, Nat.le_refl _⟩
     · exact rfl
     · exact rfl
     · exact rfl
     · exact rfl
   ·
    intro s1 hx
    obtain ⟨hs1, hbs1, hls1⟩ := hx
    show GC _ _ _ _ _ _ [(0, .string (strOf s1)), (2, vP b2 0), (4, vB (parNeg bs))] [.var b2 27 [vB ((0 : Rat).num < 0), .slice none 0 0, .slice none 0 0]] h0
    rw [hs1] at hpar
    refine gc_seq (gc_region (mv rfl rfl ?_))
    refine gl_call (vs := [_]) rfl rfl rfl rfl Try.call69 ⟨rfl, trivial⟩ (fun w hs => rref_digits hs hbs1 (by first | omega | (simp only [List.length_drop]; omega))) ?_
    intro v31 h1 hh1 hr31
    have hdl31 := digs_le s1
    subst hr31
    refine asg rfl rfl (gl_nil (gq_then (gc_seq (gc_seq (gc_region (mv rfl rfl (gv (ov_eql_i (q := 0) rfl rfl) rfl (gl_nil (gq_then ?_)))))))))
    refine gc_cond rfl (fun hc33 => ?_) (fun hc33 => ?_)
    ·
     refine gc_seq (gc_region (gv (ov_build_parts (ps' := []) (vs := [vB ((0 : Rat).num < 0), .slice none 0 0, .slice none 0 0]) Try.underlying27 info27 rfl (places27 Try.underlying27) trivial (by simp only [zb]; rfl)) rfl (gl_upd (A := []) (r' := .var b2 27 [vB ((0 : Rat).num < 0), .slice none 0 0, .slice none 0 0]) (upd_store_var (k := 0) (cs := [_, _, _]) (vs := [_, _, _]) rfl rfl rfl rfl size27 (Nat.le_of_ble_eq_true rfl)) rfl rfl rfl (asg (v := vI (4)) rfl rfl (gl_nil (gq_then (gc_ret (gr_then (gq_res (fun E S => run_res2 rfl (rv_agg (cs := [_, _, _]) (.head _) Try.underlying27 rfl size27 rfl) (rv_tmp rfl) E S) ?_)))))))))
     rw [hpar, fin2_none (by omega)]
     exact ⟨_, rfl, IsRat.zero _⟩
    ·
     have hd0 : digs s1 ≠ 0 := by omega
     refine gc_skip (gq_then (gc_seq (gc_region (mv rfl rfl (mv rfl rfl (gv (ov_slice_s_h (bs := s1) (digs s1) Try.underlying9 rfl rfl (by omega) (by first | omega | (have hnn := List.length_pos_iff.2 (by assumption); omega) | (have hnn := List.length_pos_iff.2 (And.left (by assumption)); omega) | (simp only [List.length_drop, List.length_take]; omega))) rfl ?_))))))
     refine gl_call (vs := [_]) rfl rfl rfl rfl Try.call70 ⟨rfl, trivial⟩ (fun w hs => ref_parse hs (by rw [Us.str_size]; simp only [List.length_take, List.length_drop, List.length_append]; omega)) ?_
     intro v39 h2 hh2 hr39
     obtain ⟨u39, rfl, hu39⟩ := hr39
     rw [byt_strOf (hbs1.tk (digs s1))] at hu39 ⊢
     rw [pval_take (by omega)] at hu39
     rw [perr_take (by omega)]
     have hlN := hor_limbs (digs_digB s1)
     rw [List.length_take] at hlN
     refine mv rfl rfl (gv (ov_extract (vs := [_, _]) rfl rfl) rfl (gv (ov_extract (vs := [_, _]) rfl rfl) rfl (asg rfl rfl (asg rfl rfl (gl_nil (gq_keep (e' := [(0, _), (2, _), (4, _), (5, _), (6, _)]) ⟨rfl, rfl, rfl, rfl, rfl, trivial⟩ (gq_then (gc_seq (gc_region (gl_newop (new_build1 (kd := .u32) (p := 1) Try.underlying22 info61 rfl rfl rfl) rfl rfl rfl ?_))))))))))
     intro v42 r42 hr42
     obtain rfl := hr42
     refine gl_freeze_us0 (by intro z hz; simp only [List.mem_singleton] at hz; subst hz; decide) ?_
     intro h3 hh3 ho42
     rw [one_limbs] at ho42
     have hlm42 := len_one
     refine asg rfl rfl (gl_nil (gq_then (gc_seq (gc_region (mv rfl rfl (mv rfl rfl (gv (ov_slice_s_l (bs := s1) (digs s1) Try.underlying9 rfl rfl (by omega) (by first | omega | (have hnn := List.length_pos_iff.2 (by assumption); omega) | (have hnn := List.length_pos_iff.2 (And.left (by assumption)); omega) | (simp only [List.length_drop, List.length_take]; omega))) rfl (asg rfl rfl (gl_nil (gq_then ?_))))))))))
     refine gc_cut (ι := Value × Nat × List Nat × Mem) (fun (x_ : (Value × Nat × List Nat × Mem)) => match x_ with | (vb, B, r, m1) => MLe h3 m1 ∧ (Us .u32 m1 vb (limbs B) ∧ B ≠ 0 ∧ (limbs B).length ≤ 5000 ∧ ByB r ∧ r.length ≤ s1.length ∧ ((r = [] ∧ fin2 (parNeg bs) s1 = fin3 (parNeg bs) (hor (s1.take (digs s1))) B []) ∨ (B = 1 ∧ r = s1.drop (digs s1) ∧ ¬ slash r)))) (fun (x_ : (Value × Nat × List Nat × Mem)) => match x_ with | (vb, B, r, m1) => [(0, .string (strOf r)), (2, vP b2 0), (4, vB (parNeg bs)), (6, u39), (8, vb)]) (fun (x_ : (Value × Nat × List Nat × Mem)) => match x_ with | (vb, B, r, m1) => [.var b2 27 [vB ((0 : Rat).num < 0), .slice none 0 0, .slice none 0 0]]) (fun (x_ : (Value × Nat × List Nat × Mem)) => match x_ with | (vb, B, r, m1) => m1) ?_ ?_
     ·
      refine gc_seq (gc_region (mv rfl rfl (gv (ov_len_s (bs := ((s1).drop (digs s1))) Try.underlying9 rfl) rfl (gv (ov_gtr_i (q := 0) rfl rfl) rfl ?_))))
      refine gl_cut (ι := Unit) 5 (fun _ => True) (fun _ => [(53, vB (((0 : Int) < (↑(((s1).drop (digs s1))).length : Int)) ∧ (((((s1).drop (digs s1))).getD (0) 0) = (47 : Nat)))), (2, vP b2 0), (4, vB (parNeg bs)), (6, u39), (8, v42), (0, .string (strOf (((s1).drop (digs s1)))))]) (fun _ => [.var b2 27 [vB ((0 : Rat).num < 0), .slice none 0 0, .slice none 0 0]]) (fun _ => h3) ?_ ?_
      ·
       refine gl_cases ((0 : Int) < (↑(((s1).drop (digs s1))).length : Int)) (fun hg => ?_) (fun hg => ?_)
       ·
        refine gl_val (ov_move (v := .bool true) (congrArg some (vB_true hg))) rfl rfl rfl (gl_on rfl rfl rfl (mv rfl rfl (gl_on rfl rfl rfl (gv (ov_index_s (q := 0) (bs := ((s1).drop (digs s1))) (hbs1.dr (digs s1)) (0) Try.underlying9 rfl rfl rfl (by first | omega | (have hnn := List.length_pos_iff.2 (by assumption); omega) | (have hnn := List.length_pos_iff.2 (And.left (by assumption)); omega) | (simp only [List.length_drop, List.length_take]; omega))) rfl ?_))))
        have hlt51 := ((hbs1.dr (digs s1)) : ByB (((s1).drop (digs s1)))).lt (0)
        refine gl_on rfl rfl rfl (gv (ov_eql_u (k := .u8) (q := 47) rfl rfl) rfl (gv (ov_pick_t rfl rfl) rfl (gl_nil ?_)))
        refine gq_cut () trivial ⟨?_, rfl, rfl, rfl, rfl, rfl, trivial⟩ rfl rfl
        exact congrArg some (vB_and_t hg)
       ·
        refine gl_val (ov_move (v := .bool false) (congrArg some (vB_false hg))) rfl rfl rfl (gl_off rfl rfl rfl rfl rfl rfl (gl_off rfl rfl rfl rfl rfl rfl (gl_off rfl rfl rfl rfl rfl rfl (gv (ov_pick_f rfl rfl) rfl (gl_nil ?_)))))
        refine gq_cut () trivial ⟨?_, rfl, rfl, rfl, rfl, rfl, trivial⟩ rfl rfl
        exact congrArg some (vB_and_f hg)
      ·
       intro _ _
       show GL _ _ _ _ _ _ _ [(53, vB (((0 : Int) < (↑(((s1).drop (digs s1))).length : Int)) ∧ (((((s1).drop (digs s1))).getD (0) 0) = (47 : Nat)))), (2, vP b2 0), (4, vB (parNeg bs)), (6, u39), (8, v42), (0, .string (strOf (((s1).drop (digs s1)))))] [.var b2 27 [vB ((0 : Rat).num < 0), .slice none 0 0, .slice none 0 0]] h3
       refine gl_nil (gq_then ?_)
       refine gc_cond rfl (fun hc53 => ?_) (fun hc53 => ?_)
       ·
        refine gc_seq (gc_region (mv rfl rfl (gv (ov_slice_s_l (bs := ((s1).drop (digs s1))) (p := 1) (1) Try.underlying9 rfl rfl rfl (by first | omega | (have hnn := List.length_pos_iff.2 (by assumption); omega) | (have hnn := List.length_pos_iff.2 (And.left (by assumption)); omega) | (simp only [List.length_drop, List.length_take]; omega))) rfl ?_)))
        refine gl_call (vs := [_]) rfl rfl rfl rfl Try.call69 ⟨rfl, trivial⟩ (fun w hs => rref_digits hs ((hbs1.dr (digs s1)).dr (1)) (by first | omega | (simp only [List.length_drop]; omega))) ?_
        intro v56 h4 hh4 hr56
        have hdl56 := digs_le ((((s1).drop (digs s1))).drop (1))
        subst hr56
        have hL1 := List.length_drop (i := 1) (l := s1.drop (digs s1))
        have hL2 := List.length_drop (i := digs s1) (l := s1)
        refine asg rfl rfl (gl_nil (gq_then (gc_seq (gc_seq (gc_region (mv rfl rfl (gv (ov_eql_i (q := 0) rfl rfl) rfl ?_)))))))
        refine gl_cut (ι := Unit) 7 (fun _ => True) (fun _ => [(65, vB (((↑(digs (((((s1).drop (digs s1))).drop (1)))) : Int) = (0 : Int)) ∨ (((↑(digs (((((s1).drop (digs s1))).drop (1)))) : Int) + (1 : Int)) ≠ (↑(((s1).drop (digs s1))).length : Int)))), (2, vP b2 0), (4, vB (parNeg bs)), (6, u39), (0, .string (strOf (((s1).drop (digs s1)))))]) (fun _ => [.var b2 27 [vB ((0 : Rat).num < 0), .slice none 0 0, .slice none 0 0]]) (fun _ => h4) ?_ ?_
        ·
         refine gl_cases ((↑(digs (((((s1).drop (digs s1))).drop (1)))) : Int) = (0 : Int)) (fun hg => ?_) (fun hg => ?_)
         ·
          refine gl_val (ov_move (v := .bool true) (congrArg some (vB_true hg))) rfl rfl rfl (gl_off rfl rfl rfl rfl rfl rfl (gl_off rfl rfl rfl rfl rfl rfl (gl_off rfl rfl rfl rfl rfl rfl (gl_off rfl rfl rfl rfl rfl rfl (gl_off rfl rfl rfl rfl rfl rfl (gv (ov_pick_t rfl rfl) rfl (gl_nil ?_)))))))
          refine gq_cut () trivial ⟨?_, rfl, rfl, rfl, rfl, trivial⟩ rfl rfl
          exact congrArg some (vB_or_t hg)
         ·
          refine gl_val (ov_move (v := .bool false) (congrArg some (vB_false hg))) rfl rfl rfl (gl_on rfl rfl rfl (mv rfl rfl (gl_on rfl rfl rfl (gv (ov_add_i (q := 1) rfl rfl (by omega) (by omega)) rfl (gl_on rfl rfl rfl (mv rfl rfl (gl_on rfl rfl rfl (gv (ov_len_s (bs := ((s1).drop (digs s1))) Try.underlying9 rfl) rfl (gl_on rfl rfl rfl (gv (ov_neq_i rfl rfl) rfl (gv (ov_pick_f rfl rfl) rfl (gl_nil ?_))))))))))))
          refine gq_cut () trivial ⟨?_, rfl, rfl, rfl, rfl, trivial⟩ rfl rfl
          exact congrArg some (vB_or_f hg)
        ·
         intro _ _
         show GL _ _ _ _ _ _ _ [(65, vB (((↑(digs (((((s1).drop (digs s1))).drop (1)))) : Int) = (0 : Int)) ∨ (((↑(digs (((((s1).drop (digs s1))).drop (1)))) : Int) + (1 : Int)) ≠ (↑(((s1).drop (digs s1))).length : Int)))), (2, vP b2 0), (4, vB (parNeg bs)), (6, u39), (0, .string (strOf (((s1).drop (digs s1)))))] [.var b2 27 [vB ((0 : Rat).num < 0), .slice none 0 0, .slice none 0 0]] h4
         refine gl_nil (gq_then ?_)
         refine gc_cond rfl (fun hc65 => ?_) (fun hc65 => ?_)
         ·
          refine gc_seq (gc_region (gv (ov_build_parts (ps' := []) (vs := [vB ((0 : Rat).num < 0), .slice none 0 0, .slice none 0 0]) Try.underlying27 info27 rfl (places27 Try.underlying27) trivial (by simp only [zb]; rfl)) rfl (gl_upd (A := []) (r' := .var b2 27 [vB ((0 : Rat).num < 0), .slice none 0 0, .slice none 0 0]) (upd_store_var (k := 0) (cs := [_, _, _]) (vs := [_, _, _]) rfl rfl rfl rfl size27 (Nat.le_of_ble_eq_true rfl)) rfl rfl rfl (asg (v := vI (4)) rfl rfl (gl_nil (gq_then (gc_ret (gr_then (gr_then (gq_res (fun E S => run_res2 rfl (rv_agg (cs := [_, _, _]) (.head _) Try.underlying27 rfl size27 rfl) (rv_tmp rfl) E S) ?_))))))))))
          rw [hpar, fin2_slash_bad hd0 rfl (slash_iff.1 hc53) (slash_bad hc65 (slash_iff.1 hc53))]
          exact ⟨_, rfl, IsRat.zero _⟩
         ·
          have hok2 := slash_good hc65 (slash_iff.1 hc53)
          have hdB := digs_all.1 (Classical.not_not.1 fun e => hok2 (.inr e))
          refine gc_skip (gq_then (gc_seq (gc_region (mv rfl rfl (gv (ov_slice_s_l (bs := ((s1).drop (digs s1))) (p := 1) (1) Try.underlying9 rfl rfl rfl (by first | omega | (have hnn := List.length_pos_iff.2 (by assumption); omega) | (have hnn := List.length_pos_iff.2 (And.left (by assumption)); omega) | (simp only [List.length_drop, List.length_take]; omega))) rfl ?_)))))
          refine gl_call (vs := [_]) rfl rfl rfl rfl Try.call70 ⟨rfl, trivial⟩ (fun w hs => ref_parse hs (by rw [Us.str_size]; simp only [List.length_take, List.length_drop, List.length_append]; omega)) ?_
          intro v70 h5 hh5 hr70
          obtain ⟨u70, rfl, hu70⟩ := hr70
          rw [byt_strOf ((hbs1.dr (digs s1)).dr (1)), pval_dig (by rw [List.length_drop, List.length_drop]; omega) hdB] at hu70
          rw [byt_strOf ((hbs1.dr (digs s1)).dr (1))]
          have hlB := hor_limbs hdB
          rw [List.length_drop, List.length_drop] at hlB
          refine mv rfl rfl (gv (ov_extract (vs := [_, _]) rfl rfl) rfl (gv (ov_extract (vs := [_, _]) rfl rfl) rfl (asg rfl rfl (gl_nil (gq_then (gc_seq (gc_seq (gc_region (mv rfl rfl (gv (ov_len_us Try.underlying22 rfl hu70) rfl (gv (ov_eql_i (q := 0) rfl rfl) rfl (gl_nil (gq_keep (e' := [(2, _), (4, _), (6, _), (8, _), (75, _)]) ⟨rfl, rfl, rfl, rfl, rfl, trivial⟩ ?_)))))))))))))
          refine gq_then ?_
          refine gc_cond rfl (fun hc75 => ?_) (fun hc75 => ?_)
          ·
           refine gc_seq (gc_region (gv (ov_build_parts (ps' := []) (vs := [vB ((0 : Rat).num < 0), .slice none 0 0, .slice none 0 0]) Try.underlying27 info27 rfl (places27 Try.underlying27) trivial (by simp only [zb]; rfl)) rfl (gl_upd (A := []) (r' := .var b2 27 [vB ((0 : Rat).num < 0), .slice none 0 0, .slice none 0 0]) (upd_store_var (k := 0) (cs := [_, _, _]) (vs := [_, _, _]) rfl rfl rfl rfl size27 (Nat.le_of_ble_eq_true rfl)) rfl rfl rfl (asg (v := vI (3)) rfl rfl (gl_nil (gq_then (gc_ret (gr_then (gr_then (gq_res (fun E S => run_res2 rfl (rv_agg (cs := [_, _, _]) (.head _) Try.underlying27 rfl size27 rfl) (rv_tmp rfl) E S) ?_))))))))))
           have hz : hor ((s1.drop (digs s1)).drop 1) = 0 := Classical.byContradiction fun e => by have := limbs_len_pos.2 e; omega
           rw [hpar, fin2_slash_zero hd0 rfl (slash_iff.1 hc53) hok2 hz]
           exact ⟨_, rfl, IsRat.zero _⟩
          ·
           have hB0 : hor ((s1.drop (digs s1)).drop 1) ≠ 0 := limbs_len_pos.1 (by omega)
           refine gc_skip (gq_then (gc_region (asg rfl rfl (gl_nil ?_))))
           refine gq_cut (u70, hor ((s1.drop (digs s1)).drop 1), [], h5) ?_ ⟨?_, ?_, ?_, ?_, ?_, trivial⟩ ?_ rfl
           ·
            refine ⟨(hh4.trans hh5), ?_⟩
            exact ⟨hu70, hB0, by omega, ByB.nil, by simp, .inl ⟨rfl, fin2_slash hd0 rfl (slash_iff.1 hc53) hok2 hB0⟩⟩
           · exact rfl
           · exact rfl
           · exact rfl
           · exact rfl
           · exact rfl
           · exact rfl
       ·
        refine gc_skip ?_
        refine gq_cut (v42, 1, s1.drop (digs s1), h3) ?_ ⟨?_, ?_, ?_, ?_, ?_, trivial⟩ ?_ rfl
        ·
         refine ⟨MLe.refl _, ?_⟩
         exact ⟨ho42, by omega, by rw [len_one]; omega, hbs1.dr _, by simp, .inr ⟨rfl, rfl, fun e => hc53 (slash_iff.2 e)⟩⟩
        · exact rfl
        · exact rfl
        · exact rfl
        · exact rfl
        · exact rfl
        · exact rfl
     ·
      intro x hx
      obtain ⟨vb, B, r, m1⟩ := x
      obtain ⟨hmm1, ⟨hvb, hB0, hlB, hbr, hlr, hor1⟩⟩ := hx
      show GC _ _ _ _ _ _ [(0, .string (strOf r)), (2, vP b2 0), (4, vB (parNeg bs)), (6, u39), (8, vb)] [.var b2 27 [vB ((0 : Rat).num < 0), .slice none 0 0, .slice none 0 0]] m1
      refine gc_cut (ι := Value × Nat × Value × Nat × List Nat × Mem) (fun (x_ : (Value × Nat × Value × Nat × List Nat × Mem)) => match x_ with | (va, A, vc, D, r2, m2) => MLe m1 m2 ∧ (Us .u32 m2 va (limbs A) ∧ Us .u32 m2 vc (limbs D) ∧ D ≠ 0 ∧ (limbs A).length ≤ 10000 ∧ (limbs D).length ≤ 10000 ∧ ByB r2 ∧ r2.length ≤ s1.length ∧ fin2 (parNeg bs) s1 = fin3 (parNeg bs) A D r2)) (fun (x_ : (Value × Nat × Value × Nat × List Nat × Mem)) => match x_ with | (va, A, vc, D, r2, m2) => [(0, .string (strOf r2)), (2, vP b2 0), (4, vB (parNeg bs)), (6, va), (8, vc)]) (fun (x_ : (Value × Nat × Value × Nat × List Nat × Mem)) => match x_ with | (va, A, vc, D, r2, m2) => [.var b2 27 [vB ((0 : Rat).num < 0), .slice none 0 0, .slice none 0 0]]) (fun (x_ : (Value × Nat × Value × Nat × List Nat × Mem)) => match x_ with | (va, A, vc, D, r2, m2) => m2) ?_ ?_
      ·
       refine gc_seq (gc_region (mv rfl rfl (gv (ov_len_s (bs := r) Try.underlying9 rfl) rfl (gv (ov_gtr_i (q := 0) rfl rfl) rfl ?_))))
       refine gl_cut (ι := Unit) 5 (fun _ => True) (fun _ => [(84, vB (((0 : Int) < (↑(r).length : Int)) ∧ (((r).getD (0) 0) = (46 : Nat)))), (0, .string (strOf r)), (2, vP b2 0), (4, vB (parNeg bs)), (6, u39), (8, vb)]) (fun _ => [.var b2 27 [vB ((0 : Rat).num < 0), .slice none 0 0, .slice none 0 0]]) (fun _ => m1) ?_ ?_
       ·
        refine gl_cases ((0 : Int) < (↑(r).length : Int)) (fun hg => ?_) (fun hg => ?_)
        ·
         refine gl_val (ov_move (v := .bool true) (congrArg some (vB_true hg))) rfl rfl rfl (gl_on rfl rfl rfl (mv rfl rfl (gl_on rfl rfl rfl (gv (ov_index_s (q := 0) (bs := r) hbr (0) Try.underlying9 rfl rfl rfl (by first | omega | (have hnn := List.length_pos_iff.2 (by assumption); omega) | (have hnn := List.length_pos_iff.2 (And.left (by assumption)); omega) | (simp only [List.length_drop, List.length_take]; omega))) rfl ?_))))
         have hlt82 := (hbr : ByB (r)).lt (0)
         refine gl_on rfl rfl rfl (gv (ov_eql_u (k := .u8) (q := 46) rfl rfl) rfl (gv (ov_pick_t rfl rfl) rfl (gl_nil ?_)))
         refine gq_cut () trivial ⟨?_, rfl, rfl, rfl, rfl, rfl, trivial⟩ rfl rfl
         exact congrArg some (vB_and_t hg)
        ·
         refine gl_val (ov_move (v := .bool false) (congrArg some (vB_false hg))) rfl rfl rfl (gl_off rfl rfl rfl rfl rfl rfl (gl_off rfl rfl rfl rfl rfl rfl (gl_off rfl rfl rfl rfl rfl rfl (gv (ov_pick_f rfl rfl) rfl (gl_nil ?_)))))
         refine gq_cut () trivial ⟨?_, rfl, rfl, rfl, rfl, rfl, trivial⟩ rfl rfl
         exact congrArg some (vB_and_f hg)
       ·
        intro _ _
        show GL _ _ _ _ _ _ _ [(84, vB (((0 : Int) < (↑(r).length : Int)) ∧ (((r).getD (0) 0) = (46 : Nat)))), (0, .string (strOf r)), (2, vP b2 0), (4, vB (parNeg bs)), (6, u39), (8, vb)] [.var b2 27 [vB ((0 : Rat).num < 0), .slice none 0 0, .slice none 0 0]] m1
        refine gl_nil (gq_then ?_)
        refine gc_cond rfl (fun hc84 => ?_) (fun hc84 => ?_)
        ·
         refine gc_seq (gc_region (mv rfl rfl (gv (ov_slice_s_l (bs := r) (p := 1) (1) Try.underlying9 rfl rfl rfl (by first | omega | (have hnn := List.length_pos_iff.2 (by assumption); omega) | (have hnn := List.length_pos_iff.2 (And.left (by assumption)); omega) | (simp only [List.length_drop, List.length_take]; omega))) rfl ?_)))
         refine gl_call (vs := [_]) rfl rfl rfl rfl Try.call69 ⟨rfl, trivial⟩ (fun w hs => rref_digits hs (hbr.dr (1)) (by first | omega | (simp only [List.length_drop]; omega))) ?_
         intro v87 h4 hh4 hr87
         have hdl2 := digs_le (r.drop 1)
         rw [List.length_drop] at hdl2
         subst hr87
         have hnn := List.length_pos_iff.2 (dot_iff.1 hc84).1
         rcases hor1 with ⟨hr0, _⟩ | ⟨hB1, hr0, hnsl⟩
         · exact absurd hr0 (dot_iff.1 hc84).1
         refine asg rfl rfl (gl_nil (gq_then (gc_seq (gc_seq (gc_region (mv rfl rfl (gv (ov_eql_i (q := 0) rfl rfl) rfl (gl_nil (gq_then ?_)))))))))
         refine gc_cond rfl (fun hc89 => ?_) (fun hc89 => ?_)
         ·
          refine gc_keep (e' := [(2, _)]) ⟨rfl, trivial⟩ (gc_seq (gc_region (gv (ov_build_parts (ps' := []) (vs := [vB ((0 : Rat).num < 0), .slice none 0 0, .slice none 0 0]) Try.underlying27 info27 rfl (places27 Try.underlying27) trivial (by simp only [zb]; rfl)) rfl (gl_upd (A := []) (r' := .var b2 27 [vB ((0 : Rat).num < 0), .slice none 0 0, .slice none 0 0]) (upd_store_var (k := 0) (cs := [_, _, _]) (vs := [_, _, _]) rfl rfl rfl rfl size27 (Nat.le_of_ble_eq_true rfl)) rfl rfl rfl (asg (v := vI (4)) rfl rfl (gl_nil (gq_then (gc_ret (gr_then (gr_then (gq_res (fun E S => run_res2 rfl (rv_agg (cs := [_, _, _]) (.head _) Try.underlying27 rfl size27 rfl) (rv_tmp rfl) E S) ?_)))))))))))
          rw [hpar, fin2_dot_bad hd0 hr0 hnsl (dot_iff.1 hc84) (by omega)]
          exact ⟨_, rfl, IsRat.zero _⟩
         ·
          have hdd : digs (r.drop 1) ≠ 0 := by omega
          refine gc_skip (gq_then (gc_seq (gc_region (mv rfl rfl (mv rfl rfl (gv (ov_add_i (q := 1) rfl rfl (by omega) (by omega)) rfl (gv (ov_slice_s_lh (bs := r) (p := 1) (1) (digs (r.drop 1) + 1) Try.underlying9 rfl rfl rfl rfl (by omega) (by first | omega | (have hnn := List.length_pos_iff.2 (by assumption); omega) | (have hnn := List.length_pos_iff.2 (And.left (by assumption)); omega) | (simp only [List.length_drop, List.length_take]; omega)) (by first | omega | (have hnn := List.length_pos_iff.2 (by assumption); omega) | (have hnn := List.length_pos_iff.2 (And.left (by assumption)); omega) | (simp only [List.length_drop, List.length_take]; omega))) rfl ?_)))))))
          refine gl_call (vs := [_]) rfl rfl rfl rfl Try.call70 ⟨rfl, trivial⟩ (fun w hs => ref_parse hs (by rw [Us.str_size]; simp only [List.length_take, List.length_drop, List.length_append]; omega)) ?_
          intro v96 h5 hh5 hr96
          have hdg : digB (s1.take (digs s1) ++ (r.drop 1).take (digs (r.drop 1))) = true := digB_app (digs_digB _) (digs_digB _)
          have hle : (s1.take (digs s1) ++ (r.drop 1).take (digs (r.drop 1))).length ≤ 4096 := by
            have h8 : r.length = s1.length - digs s1 := by rw [hr0, List.length_drop]
            simp only [List.length_append, List.length_take, List.length_drop]
            omega
          obtain ⟨u96, rfl, hu96⟩ := hr96
          rw [byt_strOf ((hbr.dr (1)).tk ((digs (r.drop 1) + 1) - (1)))] at hu96 ⊢
          rw [Nat.add_sub_cancel, pval_dig (by rw [List.length_take, List.length_drop]; omega) (digs_digB _)] at hu96
          have hlf := hor_limbs (digs_digB (r.drop 1))
          rw [List.length_take, List.length_drop] at hlf
          refine mv rfl rfl (gv (ov_extract (vs := [_, _]) rfl rfl) rfl (gv (ov_extract (vs := [_, _]) rfl rfl) rfl (asg rfl rfl (asg rfl rfl (gl_nil (gq_keep (e' := [(0, _), (2, _), (4, _), (6, _), (5, _), (9, _)]) ⟨rfl, rfl, rfl, rfl, rfl, rfl, trivial⟩ (gq_then (gc_seq (gc_region (mv rfl rfl ?_))))))))))
          refine gl_call (vs := [_]) rfl rfl rfl rfl Try.call71 ⟨rfl, trivial⟩ (fun w hs => rref_ten hs (by omega)) ?_
          intro v100 h6 hh6 hr100
          have hlm100 := ten_len ((digs (((r).drop (1)))))
          refine asg rfl rfl (gl_nil (gq_then (gc_seq (gc_region (mv rfl rfl (mv rfl rfl ?_))))))
          replace hu39 := hu39.mono ((((hh3.trans hmm1).trans hh4).trans hh5).trans hh6)
          refine gl_call (vs := [_, _]) rfl rfl rfl rfl Try.call73 ⟨rfl, rfl, trivial⟩ (fun w hs => ref_mul hs hu39 hr100 (by omega) (by omega)) ?_
          intro v103 h7 hh7 hr103
          try simp only [val_limbs] at hr103
          have hlm103 := limbs_len_mul (((hor (s1.take (digs s1))))) (((10 ^ ((digs (((r).drop (1))))))))
          refine mv rfl rfl ?_
          replace hu96 := hu96.mono (hh6.trans hh7)
          refine gl_call (vs := [_, _]) rfl rfl rfl rfl Try.call72 ⟨rfl, rfl, trivial⟩ (fun w hs => ref_add hs hr103 hu96 (by omega) (by omega)) ?_
          intro v105 h8 hh8 hr105
          have hlm105 := limbs_len_add (((((hor (s1.take (digs s1))))) * (((10 ^ ((digs (((r).drop (1)))))))))) ((hor ((r.drop 1).take (digs (r.drop 1)))))
          rw [hor_dot (by rw [List.length_take, List.length_drop]; omega)] at hr105
          refine asg rfl rfl (gl_nil (gq_then (gc_region (mv rfl rfl (mv rfl rfl (gv (ov_add_i (q := 1) rfl rfl (by omega) (by omega)) rfl (gv (ov_slice_s_l (bs := r) (digs (r.drop 1) + 1) Try.underlying9 rfl rfl (by omega) (by first | omega | (have hnn := List.length_pos_iff.2 (by assumption); omega) | (have hnn := List.length_pos_iff.2 (And.left (by assumption)); omega) | (simp only [List.length_drop, List.length_take]; omega))) rfl (asg rfl rfl (gl_nil ?_)))))))))
          refine gq_cut (v105, hor (s1.take (digs s1) ++ (r.drop 1).take (digs (r.drop 1))), v100, 10 ^ digs (r.drop 1), r.drop (digs (r.drop 1) + 1), h8) ?_ ⟨?_, ?_, ?_, ?_, ?_, trivial⟩ ?_ rfl
          ·
           refine ⟨((((hh4.trans hh5).trans hh6).trans hh7).trans hh8), ?_⟩
           replace hr100 := hr100.mono (hh7.trans hh8)
           refine ⟨hr105, hr100, Nat.ne_of_gt (Nat.pow_pos (by omega)), ?_, ?_, hbr.dr _, by simp only [List.length_drop]; omega, ?_⟩
           · have := hor_limbs hdg; omega
           · have := ten_len (digs (r.drop 1)); omega
           · exact fin2_dot hd0 hr0 hnsl (dot_iff.1 hc84) hdd
          · exact rfl
          · exact rfl
          · exact rfl
          · exact rfl
          · exact rfl
          · exact rfl
        ·
         refine gc_skip ?_
         refine gq_cut (u39, hor (s1.take (digs s1)), vb, B, r, m1) ?_ ⟨?_, ?_, ?_, ?_, ?_, trivial⟩ ?_ rfl
         ·
          refine ⟨MLe.refl _, ?_⟩
          replace hu39 := hu39.mono (hh3.trans hmm1)
          refine ⟨hu39, hvb, hB0, by omega, by omega, hbr, hlr, ?_⟩
          rcases hor1 with ⟨h1, h2⟩ | ⟨h1, h2, h3⟩
          · rw [h1]; exact h2
          · rw [h1]; exact fin2_plain hd0 h2 h3 (fun e => hc84 (dot_iff.2 e))
         · exact rfl
         · exact rfl
         · exact rfl
         · exact rfl
         · exact rfl
         · exact rfl
      ·
       intro x hx
       obtain ⟨va, A, vc, D, r2, m2⟩ := x
       obtain ⟨hmm2, ⟨hva, hvc, hD0, hlA, hlD, hbr2, hlr2, hfin⟩⟩ := hx
       show GC _ _ _ _ _ _ [(0, .string (strOf r2)), (2, vP b2 0), (4, vB (parNeg bs)), (6, va), (8, vc)] [.var b2 27 [vB ((0 : Rat).num < 0), .slice none 0 0, .slice none 0 0]] m2
       refine gc_cut (ι := Value × Nat × Value × Nat × Mem) (fun (x_ : (Value × Nat × Value × Nat × Mem)) => match x_ with | (vx, X, vy, Y, m3) => MLe m2 m3 ∧ (Us .u32 m3 vx (limbs X) ∧ Us .u32 m3 vy (limbs Y) ∧ Y ≠ 0 ∧ (limbs X).length ≤ 20000 ∧ (limbs Y).length ≤ 20000 ∧ fin2 (parNeg bs) s1 = fin4 (parNeg bs) X Y)) (fun (x_ : (Value × Nat × Value × Nat × Mem)) => match x_ with | (vx, X, vy, Y, m3) => [(2, vP b2 0), (4, vB (parNeg bs)), (6, vx), (8, vy)]) (fun (x_ : (Value × Nat × Value × Nat × Mem)) => match x_ with | (vx, X, vy, Y, m3) => [.var b2 27 [vB ((0 : Rat).num < 0), .slice none 0 0, .slice none 0 0]]) (fun (x_ : (Value × Nat × Value × Nat × Mem)) => match x_ with | (vx, X, vy, Y, m3) => m3) ?_ ?_
       ·
        refine gc_seq (gc_region (mv rfl rfl (gv (ov_len_s (bs := r2) Try.underlying9 rfl) rfl (gv (ov_gtr_i (q := 0) rfl rfl) rfl (gl_nil (gq_then ?_))))))
        refine gc_cond rfl (fun hc112 => ?_) (fun hc112 => ?_)
        ·
         refine gc_seq (gc_seq (gc_region (mv rfl rfl (gv (ov_index_s (q := 0) (bs := r2) hbr2 (0) Try.underlying9 rfl rfl rfl (by first | omega | (have hnn := List.length_pos_iff.2 (by assumption); omega) | (have hnn := List.length_pos_iff.2 (And.left (by assumption)); omega) | (simp only [List.length_drop, List.length_take]; omega))) rfl ?_))))
         have hlt114 := (hbr2 : ByB (r2)).lt (0)
         refine gv (ov_neq_u (k := .u8) (q := 69) rfl rfl) rfl ?_
         refine gl_cut (ι := Unit) 5 (fun _ => True) (fun _ => [(120, vB ((((r2).getD (0) 0) ≠ (69 : Nat)) ∧ (((r2).getD (0) 0) ≠ (101 : Nat)))), (0, .string (strOf r2)), (2, vP b2 0), (4, vB (parNeg bs)), (6, va), (8, vc)]) (fun _ => [.var b2 27 [vB ((0 : Rat).num < 0), .slice none 0 0, .slice none 0 0]]) (fun _ => m2) ?_ ?_
         ·
          refine gl_cases (((r2).getD (0) 0) ≠ (69 : Nat)) (fun hg => ?_) (fun hg => ?_)
          ·
           refine gl_val (ov_move (v := .bool true) (congrArg some (vB_true hg))) rfl rfl rfl (gl_on rfl rfl rfl (mv rfl rfl (gl_on rfl rfl rfl (gv (ov_index_s (q := 0) (bs := r2) hbr2 (0) Try.underlying9 rfl rfl rfl (by first | omega | (have hnn := List.length_pos_iff.2 (by assumption); omega) | (have hnn := List.length_pos_iff.2 (And.left (by assumption)); omega) | (simp only [List.length_drop, List.length_take]; omega))) rfl ?_))))
           have hlt118 := (hbr2 : ByB (r2)).lt (0)
           refine gl_on rfl rfl rfl (gv (ov_neq_u (k := .u8) (q := 101) rfl rfl) rfl (gv (ov_pick_t rfl rfl) rfl (gl_nil ?_)))
           refine gq_cut () trivial ⟨?_, rfl, rfl, rfl, rfl, rfl, trivial⟩ rfl rfl
           exact congrArg some (vB_and_t hg)
          ·
           refine gl_val (ov_move (v := .bool false) (congrArg some (vB_false hg))) rfl rfl rfl (gl_off rfl rfl rfl rfl rfl rfl (gl_off rfl rfl rfl rfl rfl rfl (gl_off rfl rfl rfl rfl rfl rfl (gv (ov_pick_f rfl rfl) rfl (gl_nil ?_)))))
           refine gq_cut () trivial ⟨?_, rfl, rfl, rfl, rfl, rfl, trivial⟩ rfl rfl
           exact congrArg some (vB_and_f hg)
         ·
          intro _ _
          show GL _ _ _ _ _ _ _ [(120, vB ((((r2).getD (0) 0) ≠ (69 : Nat)) ∧ (((r2).getD (0) 0) ≠ (101 : Nat)))), (0, .string (strOf r2)), (2, vP b2 0), (4, vB (parNeg bs)), (6, va), (8, vc)] [.var b2 27 [vB ((0 : Rat).num < 0), .slice none 0 0, .slice none 0 0]] m2
          refine gl_nil (gq_then ?_)
          refine gc_cond rfl (fun hc120 => ?_) (fun hc120 => ?_)
          ·
           refine gc_seq (gc_region (gv (ov_build_parts (ps' := []) (vs := [vB ((0 : Rat).num < 0), .slice none 0 0, .slice none 0 0]) Try.underlying27 info27 rfl (places27 Try.underlying27) trivial (by simp only [zb]; rfl)) rfl (gl_upd (A := []) (r' := .var b2 27 [vB ((0 : Rat).num < 0), .slice none 0 0, .slice none 0 0]) (upd_store_var (k := 0) (cs := [_, _, _]) (vs := [_, _, _]) rfl rfl rfl rfl size27 (Nat.le_of_ble_eq_true rfl)) rfl rfl rfl (asg (v := vI (4)) rfl rfl (gl_nil (gq_then (gc_ret (gr_then (gr_then (gq_res (fun E S => run_res2 rfl (rv_agg (cs := [_, _, _]) (.head _) Try.underlying27 rfl size27 rfl) (rv_tmp rfl) E S) ?_))))))))))
           rw [hpar, hfin, fin3_bad (lenpos.1 hc112) (exp_bad3 hc120)]
           exact ⟨_, rfl, IsRat.zero _⟩
          ·
           refine gc_skip (gq_then (gc_seq (gc_region (mv rfl rfl (gv (ov_slice_s_l (bs := r2) (p := 1) (1) Try.underlying9 rfl rfl rfl (by first | omega | (have hnn := List.length_pos_iff.2 (by assumption); omega) | (have hnn := List.length_pos_iff.2 (And.left (by assumption)); omega) | (simp only [List.length_drop, List.length_take]; omega))) rfl (asg rfl rfl (gl_nil (gq_then (gc_seq (gc_region (mv rfl rfl (gv (ov_len_s (bs := ((r2).drop (1))) Try.underlying9 rfl) rfl (gv (ov_gtr_i (q := 0) rfl rfl) rfl ?_)))))))))))))
           refine gl_cut (ι := Unit) 5 (fun _ => True) (fun _ => [(131, vB (((0 : Int) < (↑(((r2).drop (1))).length : Int)) ∧ (((((r2).drop (1))).getD (0) 0) = (45 : Nat)))), (2, vP b2 0), (4, vB (parNeg bs)), (6, va), (8, vc), (0, .string (strOf (((r2).drop (1)))))]) (fun _ => [.var b2 27 [vB ((0 : Rat).num < 0), .slice none 0 0, .slice none 0 0]]) (fun _ => m2) ?_ ?_
           ·
            refine gl_cases ((0 : Int) < (↑(((r2).drop (1))).length : Int)) (fun hg => ?_) (fun hg => ?_)
            ·
             refine gl_val (ov_move (v := .bool true) (congrArg some (vB_true hg))) rfl rfl rfl (gl_on rfl rfl rfl (mv rfl rfl (gl_on rfl rfl rfl (gv (ov_index_s (q := 0) (bs := ((r2).drop (1))) (hbr2.dr (1)) (0) Try.underlying9 rfl rfl rfl (by first | omega | (have hnn := List.length_pos_iff.2 (by assumption); omega) | (have hnn := List.length_pos_iff.2 (And.left (by assumption)); omega) | (simp only [List.length_drop, List.length_take]; omega))) rfl ?_))))
             have hlt129 := ((hbr2.dr (1)) : ByB (((r2).drop (1)))).lt (0)
             refine gl_on rfl rfl rfl (gv (ov_eql_u (k := .u8) (q := 45) rfl rfl) rfl (gv (ov_pick_t rfl rfl) rfl (gl_nil ?_)))
             refine gq_cut () trivial ⟨?_, rfl, rfl, rfl, rfl, rfl, trivial⟩ rfl rfl
             exact congrArg some (vB_and_t hg)
            ·
             refine gl_val (ov_move (v := .bool false) (congrArg some (vB_false hg))) rfl rfl rfl (gl_off rfl rfl rfl rfl rfl rfl (gl_off rfl rfl rfl rfl rfl rfl (gl_off rfl rfl rfl rfl rfl rfl (gv (ov_pick_f rfl rfl) rfl (gl_nil ?_)))))
             refine gq_cut () trivial ⟨?_, rfl, rfl, rfl, rfl, rfl, trivial⟩ rfl rfl
             exact congrArg some (vB_and_f hg)
           ·
            intro _ _
            show GL _ _ _ _ _ _ _ [(131, vB (((0 : Int) < (↑(((r2).drop (1))).length : Int)) ∧ (((((r2).drop (1))).getD (0) 0) = (45 : Nat)))), (2, vP b2 0), (4, vB (parNeg bs)), (6, va), (8, vc), (0, .string (strOf (((r2).drop (1)))))] [.var b2 27 [vB ((0 : Rat).num < 0), .slice none 0 0, .slice none 0 0]] m2
            refine asg rfl rfl (gl_nil (gq_then ?_))
            refine gc_cut (ι := List Nat) (fun (u : (List Nat)) => exU r2 = u ∧ ByB u ∧ u.length ≤ r2.length) (fun (u : (List Nat)) => [(0, .string (strOf u)), (2, vP b2 0), (4, vB (parNeg bs)), (6, va), (8, vc), (11, vB (exDown r2))]) (fun (u : (List Nat)) => [.var b2 27 [vB ((0 : Rat).num < 0), .slice none 0 0, .slice none 0 0]]) (fun (u : (List Nat)) => m2) ?_ ?_
            ·
             refine gc_seq (gc_region (mv rfl rfl ?_))
             refine gl_cut (ι := Unit) 10 (fun _ => True) (fun _ => [(142, vB ((((0 : Int) < (↑(((r2).drop (1))).length : Int)) ∧ (((((r2).drop (1))).getD (0) 0) = (45 : Nat))) ∨ (((0 : Int) < (↑(((r2).drop (1))).length : Int)) ∧ (((((r2).drop (1))).getD (0) 0) = (43 : Nat))))), (2, vP b2 0), (4, vB (parNeg bs)), (6, va), (8, vc), (0, .string (strOf (((r2).drop (1))))), (11, vB (((0 : Int) < (↑(((r2).drop (1))).length : Int)) ∧ (((((r2).drop (1))).getD (0) 0) = (45 : Nat))))]) (fun _ => [.var b2 27 [vB ((0 : Rat).num < 0), .slice none 0 0, .slice none 0 0]]) (fun _ => m2) ?_ ?_
             ·
              refine gl_cases (((0 : Int) < (↑(((r2).drop (1))).length : Int)) ∧ (((((r2).drop (1))).getD (0) 0) = (45 : Nat))) (fun hg => ?_) (fun hg => ?_)
              ·
               refine gl_val (ov_move (v := .bool true) (congrArg some (vB_true hg))) rfl rfl rfl (gl_off rfl rfl rfl rfl rfl rfl (gl_off rfl rfl rfl rfl rfl rfl (gl_off rfl rfl rfl rfl rfl rfl (gl_off rfl rfl rfl rfl rfl rfl (gl_offu rfl rfl rfl rfl rfl (gl_offu rfl rfl rfl rfl rfl (gl_offu rfl rfl rfl rfl rfl (gl_off rfl rfl rfl rfl rfl rfl (gv (ov_pick_t rfl rfl) rfl (gl_nil ?_))))))))))
               refine gq_cut () trivial ⟨?_, rfl, rfl, rfl, rfl, rfl, rfl, trivial⟩ rfl rfl
               exact congrArg some (vB_or_t hg)
              ·
               refine gl_val (ov_move (v := .bool false) (congrArg some (vB_false hg))) rfl rfl rfl (gl_on rfl rfl rfl (mv rfl rfl (gl_on rfl rfl rfl (gv (ov_len_s (bs := ((r2).drop (1))) Try.underlying9 rfl) rfl (gl_on rfl rfl rfl (gv (ov_gtr_i (q := 0) rfl rfl) rfl ?_))))))
               refine gl_cut (ι := Unit) 5 (fun _ => True) (fun _ => [(141, vB (((0 : Int) < (↑(((r2).drop (1))).length : Int)) ∧ (((((r2).drop (1))).getD (0) 0) = (43 : Nat)))), (2, vP b2 0), (4, vB (parNeg bs)), (6, va), (8, vc), (0, .string (strOf (((r2).drop (1))))), (11, vB (((0 : Int) < (↑(((r2).drop (1))).length : Int)) ∧ (((((r2).drop (1))).getD (0) 0) = (45 : Nat)))), (133, .bool false)]) (fun _ => [.var b2 27 [vB ((0 : Rat).num < 0), .slice none 0 0, .slice none 0 0]]) (fun _ => m2) ?_ ?_
               ·
                refine gl_cases ((0 : Int) < (↑(((r2).drop (1))).length : Int)) (fun hg => ?_) (fun hg => ?_)
                ·
                 refine gl_on rfl rfl rfl (gl_val (ov_move (v := .bool true) (congrArg some (vB_true hg))) rfl rfl rfl (gl_on rfl rfl rfl (mv rfl rfl (gl_on rfl rfl rfl (gv (ov_index_s (q := 0) (bs := ((r2).drop (1))) (hbr2.dr (1)) (0) Try.underlying9 rfl rfl rfl (by first | omega | (have hnn := List.length_pos_iff.2 (by assumption); omega) | (have hnn := List.length_pos_iff.2 (And.left (by assumption)); omega) | (simp only [List.length_drop, List.length_take]; omega))) rfl ?_)))))
                 have hlt139 := ((hbr2.dr (1)) : ByB (((r2).drop (1)))).lt (0)
                 refine gl_on rfl rfl rfl (gv (ov_eql_u (k := .u8) (q := 43) rfl rfl) rfl (gl_on rfl rfl rfl (gv (ov_pick_t rfl rfl) rfl (gl_nil ?_))))
                 refine gq_cut () trivial ⟨?_, rfl, rfl, rfl, rfl, rfl, rfl, rfl, trivial⟩ rfl rfl
                 exact congrArg some (vB_and_t hg)
                ·
                 refine gl_on rfl rfl rfl (gl_val (ov_move (v := .bool false) (congrArg some (vB_false hg))) rfl rfl rfl (gl_off rfl rfl rfl rfl rfl rfl (gl_off rfl rfl rfl rfl rfl rfl (gl_off rfl rfl rfl rfl rfl rfl (gl_on rfl rfl rfl (gv (ov_pick_f rfl rfl) rfl (gl_nil ?_)))))))
                 refine gq_cut () trivial ⟨?_, rfl, rfl, rfl, rfl, rfl, rfl, rfl, trivial⟩ rfl rfl
                 exact congrArg some (vB_and_f hg)
               ·
                intro _ _
                show GL _ _ _ _ _ _ _ [(141, vB (((0 : Int) < (↑(((r2).drop (1))).length : Int)) ∧ (((((r2).drop (1))).getD (0) 0) = (43 : Nat)))), (2, vP b2 0), (4, vB (parNeg bs)), (6, va), (8, vc), (0, .string (strOf (((r2).drop (1))))), (11, vB (((0 : Int) < (↑(((r2).drop (1))).length : Int)) ∧ (((((r2).drop (1))).getD (0) 0) = (45 : Nat)))), (133, .bool false)] [.var b2 27 [vB ((0 : Rat).num < 0), .slice none 0 0, .slice none 0 0]] m2
                refine gv (ov_pick_f rfl rfl) rfl (gl_nil ?_)
                refine gq_cut () trivial ⟨?_, rfl, rfl, rfl, rfl, rfl, rfl, trivial⟩ rfl rfl
                exact congrArg some (vB_or_f hg)
             ·
              intro _ _
              show GL _ _ _ _ _ _ _ [(142, vB ((((0 : Int) < (↑(((r2).drop (1))).length : Int)) ∧ (((((r2).drop (1))).getD (0) 0) = (45 : Nat))) ∨ (((0 : Int) < (↑(((r2).drop (1))).length : Int)) ∧ (((((r2).drop (1))).getD (0) 0) = (43 : Nat))))), (2, vP b2 0), (4, vB (parNeg bs)), (6, va), (8, vc), (0, .string (strOf (((r2).drop (1))))), (11, vB (((0 : Int) < (↑(((r2).drop (1))).length : Int)) ∧ (((((r2).drop (1))).getD (0) 0) = (45 : Nat))))] [.var b2 27 [vB ((0 : Rat).num < 0), .slice none 0 0, .slice none 0 0]] m2
              refine gl_nil (gq_then ?_)
              refine gc_cond rfl (fun hc142 => ?_) (fun hc142 => ?_)
              ·
               refine gc_region (mv rfl rfl (gv (ov_slice_s_l (bs := ((r2).drop (1))) (p := 1) (1) Try.underlying9 rfl rfl rfl (by first | omega | (have hnn := List.length_pos_iff.2 (by assumption); omega) | (have hnn := List.length_pos_iff.2 (And.left (by assumption)); omega) | (simp only [List.length_drop, List.length_take]; omega))) rfl (asg rfl rfl (gl_nil ?_))))
               refine gq_cut ((r2.drop 1).drop 1) ?_ ⟨?_, ?_, ?_, ?_, ?_, ?_, trivial⟩ ?_ rfl
               ·
                exact ⟨exU_t' hc142, (hbr2.dr 1).dr 1, by simp⟩
               · exact rfl
               · exact rfl
               · exact rfl
               · exact rfl
               · exact rfl
               · exact congrArg some (vB_iff exDown_iff)
               · exact rfl
              ·
               refine gc_skip ?_
               refine gq_cut (r2.drop 1) ?_ ⟨?_, ?_, ?_, ?_, ?_, ?_, trivial⟩ ?_ rfl
               ·
                exact ⟨exU_f' hc142, hbr2.dr 1, by simp⟩
               · exact rfl
               · exact rfl
               · exact rfl
               · exact rfl
               · exact rfl
               · exact congrArg some (vB_iff exDown_iff)
               · exact rfl
            ·
             intro u hx
             obtain ⟨hu, hbu, hul⟩ := hx
             show GC _ _ _ _ _ _ [(0, .string (strOf u)), (2, vP b2 0), (4, vB (parNeg bs)), (6, va), (8, vc), (11, vB (exDown r2))] [.var b2 27 [vB ((0 : Rat).num < 0), .slice none 0 0, .slice none 0 0]] m2
             refine gc_seq (gc_region (mv rfl rfl ?_))
             refine gl_call (vs := [_]) rfl rfl rfl rfl Try.call69 ⟨rfl, trivial⟩ (fun w hs => rref_digits hs hbu (by first | omega | (simp only [List.length_drop]; omega))) ?_
             intro v146 h4 hh4 hr146
             have hdl146 := digs_le u
             subst hr146
             refine asg rfl rfl (gl_nil (gq_then (gc_seq (gc_seq (gc_region (mv rfl rfl (gv (ov_lss_i (q := 1) rfl rfl) rfl ?_)))))))
             refine gl_cut (ι := Unit) 4 (fun _ => True) (fun _ => [(152, vB (((↑(digs (u)) : Int) < (1 : Int)) ∨ ((3 : Int) < (↑(digs (u)) : Int)))), (0, .string (strOf u)), (2, vP b2 0), (4, vB (parNeg bs)), (6, va), (8, vc), (11, vB (exDown r2)), (5, vI (↑(digs (u)) : Int))]) (fun _ => [.var b2 27 [vB ((0 : Rat).num < 0), .slice none 0 0, .slice none 0 0]]) (fun _ => h4) ?_ ?_
             ·
              refine gl_cases ((↑(digs (u)) : Int) < (1 : Int)) (fun hg => ?_) (fun hg => ?_)
              ·
               refine gl_val (ov_move (v := .bool true) (congrArg some (vB_true hg))) rfl rfl rfl (gl_off rfl rfl rfl rfl rfl rfl (gl_off rfl rfl rfl rfl rfl rfl (gv (ov_pick_t rfl rfl) rfl (gl_nil ?_))))
               refine gq_cut () trivial ⟨?_, rfl, rfl, rfl, rfl, rfl, rfl, rfl, trivial⟩ rfl rfl
               exact congrArg some (vB_or_t hg)
              ·
               refine gl_val (ov_move (v := .bool false) (congrArg some (vB_false hg))) rfl rfl rfl (gl_on rfl rfl rfl (mv rfl rfl (gl_on rfl rfl rfl (gv (ov_gtr_i (q := 3) rfl rfl) rfl (gv (ov_pick_f rfl rfl) rfl (gl_nil ?_))))))
               refine gq_cut () trivial ⟨?_, rfl, rfl, rfl, rfl, rfl, rfl, rfl, trivial⟩ rfl rfl
               exact congrArg some (vB_or_f hg)
             ·
              intro _ _
              show GL _ _ _ _ _ _ _ [(152, vB (((↑(digs (u)) : Int) < (1 : Int)) ∨ ((3 : Int) < (↑(digs (u)) : Int)))), (0, .string (strOf u)), (2, vP b2 0), (4, vB (parNeg bs)), (6, va), (8, vc), (11, vB (exDown r2)), (5, vI (↑(digs (u)) : Int))] [.var b2 27 [vB ((0 : Rat).num < 0), .slice none 0 0, .slice none 0 0]] h4
              refine gl_cut (ι := Unit) 6 (fun _ => True) (fun _ => [(158, vB ((((↑(digs (u)) : Int) < (1 : Int)) ∨ ((3 : Int) < (↑(digs (u)) : Int))) ∨ ((↑(digs (u)) : Int) ≠ (↑(u).length : Int)))), (0, .string (strOf u)), (2, vP b2 0), (4, vB (parNeg bs)), (6, va), (8, vc), (11, vB (exDown r2)), (5, vI (↑(digs (u)) : Int))]) (fun _ => [.var b2 27 [vB ((0 : Rat).num < 0), .slice none 0 0, .slice none 0 0]]) (fun _ => h4) ?_ ?_
              ·
               refine gl_cases (((↑(digs (u)) : Int) < (1 : Int)) ∨ ((3 : Int) < (↑(digs (u)) : Int))) (fun hg => ?_) (fun hg => ?_)
               ·
                refine gl_val (ov_move (v := .bool true) (congrArg some (vB_true hg))) rfl rfl rfl (gl_off rfl rfl rfl rfl rfl rfl (gl_off rfl rfl rfl rfl rfl rfl (gl_off rfl rfl rfl rfl rfl rfl (gl_off rfl rfl rfl rfl rfl rfl (gv (ov_pick_t rfl rfl) rfl (gl_nil ?_))))))
                refine gq_cut () trivial ⟨?_, rfl, rfl, rfl, rfl, rfl, rfl, rfl, trivial⟩ rfl rfl
                exact congrArg some (vB_or_t hg)
               ·
                refine gl_val (ov_move (v := .bool false) (congrArg some (vB_false hg))) rfl rfl rfl (gl_on rfl rfl rfl (mv rfl rfl (gl_on rfl rfl rfl (mv rfl rfl (gl_on rfl rfl rfl (gv (ov_len_s (bs := u) Try.underlying9 rfl) rfl (gl_on rfl rfl rfl (gv (ov_neq_i rfl rfl) rfl (gv (ov_pick_f rfl rfl) rfl (gl_nil ?_))))))))))
                refine gq_cut () trivial ⟨?_, rfl, rfl, rfl, rfl, rfl, rfl, rfl, trivial⟩ rfl rfl
                exact congrArg some (vB_or_f hg)
              ·
               intro _ _
               show GL _ _ _ _ _ _ _ [(158, vB ((((↑(digs (u)) : Int) < (1 : Int)) ∨ ((3 : Int) < (↑(digs (u)) : Int))) ∨ ((↑(digs (u)) : Int) ≠ (↑(u).length : Int)))), (0, .string (strOf u)), (2, vP b2 0), (4, vB (parNeg bs)), (6, va), (8, vc), (11, vB (exDown r2)), (5, vI (↑(digs (u)) : Int))] [.var b2 27 [vB ((0 : Rat).num < 0), .slice none 0 0, .slice none 0 0]] h4
               refine gl_nil (gq_then ?_)
               refine gc_cond rfl (fun hc158 => ?_) (fun hc158 => ?_)
               ·
                refine gc_seq (gc_region (gv (ov_build_parts (ps' := []) (vs := [vB ((0 : Rat).num < 0), .slice none 0 0, .slice none 0 0]) Try.underlying27 info27 rfl (places27 Try.underlying27) trivial (by simp only [zb]; rfl)) rfl (gl_upd (A := []) (r' := .var b2 27 [vB ((0 : Rat).num < 0), .slice none 0 0, .slice none 0 0]) (upd_store_var (k := 0) (cs := [_, _, _]) (vs := [_, _, _]) rfl rfl rfl rfl size27 (Nat.le_of_ble_eq_true rfl)) rfl rfl rfl (asg (v := vI (4)) rfl rfl (gl_nil (gq_then (gc_ret (gr_then (gr_then (gq_res (fun E S => run_res2 rfl (rv_agg (cs := [_, _, _]) (.head _) Try.underlying27 rfl size27 rfl) (rv_tmp rfl) E S) ?_))))))))))
                rw [hpar, hfin, fin3_bad (lenpos.1 hc112) (exp_bad4 hu hc158)]
                exact ⟨_, rfl, IsRat.zero _⟩
               ·
                have hok := exp_ok4 hc120 hu hc158
                have hd3 := hok.2.2
                rw [hu] at hd3
                obtain ⟨hu3, hd3⟩ := hd3
                have hdB := digs_all.1 hd3
                refine gc_skip (gq_then (gc_seq (gc_region (asg (v := vI (0)) rfl rfl (gl_nil (gq_then (gc_seq (gc_seq (gc_region (asg (v := vI (0)) rfl rfl (gl_nil (gq_then (gc_block ?_)))))))))))))
                refine gc_loop (ι := Nat) (fun (k : (Nat)) => k ≤ u.length) (fun (k : (Nat)) => [(0, .string (strOf u)), (2, vP b2 0), (4, vB (parNeg bs)), (5, vI (↑(digs (u)) : Int)), (6, va), (8, vc), (11, vB (exDown r2)), (12, vI ↑(hor (u.take k))), (13, vI ↑k)]) (fun (k : (Nat)) => [.var b2 27 [vB ((0 : Rat).num < 0), .slice none 0 0, .slice none 0 0]]) (fun (k : (Nat)) => h4) (fun (k : (Nat)) => u.length - k) 0 ?_ ⟨rfl, rfl, rfl, rfl, rfl, rfl, rfl, rfl, rfl, trivial⟩ rfl rfl ?_
                ·
                 omega
                ·
                 intro k hx
                 obtain hk := hx
                 show GC _ _ _ _ _ _ [(0, .string (strOf u)), (2, vP b2 0), (4, vB (parNeg bs)), (5, vI (↑(digs (u)) : Int)), (6, va), (8, vc), (11, vB (exDown r2)), (12, vI ↑(hor (u.take k))), (13, vI ↑k)] [.var b2 27 [vB ((0 : Rat).num < 0), .slice none 0 0, .slice none 0 0]] h4
                 refine gc_seq (gc_seq (gc_region (mv rfl rfl (mv rfl rfl (gv (ov_lss_i rfl rfl) rfl (gl_nil (gq_then ?_)))))))
                 refine gc_cond rfl (fun hc162 => ?_) (fun hc162 => ?_)
                 ·
                  refine gc_skip (gq_then (gc_seq (gc_block (gc_region (mv rfl rfl ?_)))))
                  have h99 := hor3 (bs := u.take k) (by unfold digB at *; exact List.all_eq_true.2 fun x hx => List.all_eq_true.1 hdB x (List.mem_of_mem_take hx)) (by rw [List.length_take]; omega)
                  refine gv (ov_mul_i (p := 10) rfl rfl (by omega) (by omega)) rfl (mv rfl rfl (mv rfl rfl (gv (ov_index_s (bs := u) hbu (k) Try.underlying9 rfl rfl (by omega) (by omega)) rfl ?_)))
                  have hlt169 := (hbu : ByB (u)).lt (k)
                  have hdk := digB_get hdB (i := k) (by omega)
                  refine gv (ov_sub_u (k := .u8) (q := 48) (W := 256) rfl rfl rfl rfl (by omega) (by omega)) rfl (gv (ov_conv_ui (k := .u8) Try.underlying5 Try.underlying3 rfl (by omega)) rfl (gv (ov_add_i rfl rfl (by omega) (by omega)) rfl (asg rfl rfl (gl_nil (gq_in (gq_keep (e' := [(0, _), (2, _), (4, _), (5, _), (6, _), (8, _), (11, _), (13, _), (12, _)]) ⟨rfl, rfl, rfl, rfl, rfl, rfl, rfl, rfl, rfl, trivial⟩ (gq_then (gc_region (mv rfl rfl (gv (ov_add_i (q := 1) rfl rfl (by omega) (by omega)) rfl (asg rfl rfl (gl_nil ?_))))))))))))
                  refine gq_round (k + 1) ?_ ?_ ⟨?_, ?_, ?_, ?_, ?_, ?_, ?_, ?_, ?_, trivial⟩ ?_ rfl
                  ·
                   omega
                  ·
                   omega
                  · exact rfl
                  · exact rfl
                  · exact rfl
                  · exact rfl
                  · exact rfl
                  · exact rfl
                  · exact rfl
                  · exact congrArg some (congrArg vI (by rw [hor_take (by omega)]; omega))
                  · exact congrArg some (congrArg vI (by omega))
                  · exact rfl
                 ·
                  have hkk : k = u.length := by omega
                  have hnn8 : hor (u.take k) = exN r2 := by rw [exN_t hok, hu, hkk, List.take_length]
                  rw [hnn8]
                  have hen := exN_le r2
                  refine gc_exit (gx_then (gx_then (gx_here (gq_then (gc_seq (gc_region (mv rfl rfl (gl_nil (gq_then ?_)))))))))
                  refine gc_cond rfl (fun hc173 => ?_) (fun hc173 => ?_)
                  ·
                   refine gc_region (mv rfl rfl (mv rfl rfl ?_))
                   refine gl_call (vs := [_]) rfl rfl rfl rfl Try.call71 ⟨rfl, trivial⟩ (fun w hs => rref_ten hs (by omega)) ?_
                   intro v176 h5 hh5 hr176
                   have hlm176 := ten_len ((exN r2))
                   replace hvc := hvc.mono (hh4.trans hh5)
                   refine gl_call (vs := [_, _]) rfl rfl rfl rfl Try.call73 ⟨rfl, rfl, trivial⟩ (fun w hs => ref_mul hs hvc hr176 (by omega) (by omega)) ?_
                   intro v177 h6 hh6 hr177
                   try simp only [val_limbs] at hr177
                   have hlm177 := limbs_len_mul ((D)) (((10 ^ ((exN r2)))))
                   refine asg rfl rfl (gl_nil ?_)
                   refine gq_cut (va, A, v177, D * 10 ^ exN r2, h6) ?_ ⟨?_, ?_, ?_, ?_, trivial⟩ ?_ rfl
                   ·
                    refine ⟨((hh4.trans hh5).trans hh6), ?_⟩
                    replace hva := hva.mono ((hh4.trans hh5).trans hh6)
                    refine ⟨hva, hr177, Nat.mul_ne_zero hD0 (Nat.ne_of_gt (Nat.pow_pos (by omega))), by omega, ?_, ?_⟩
                    · have h8 := limbs_len_mul D (10 ^ exN r2)
                      have h9 := ten_len (exN r2)
                      omega
                    · rw [hfin]; exact fin3_down (lenpos.1 hc112) hok hc173
                   · exact rfl
                   · exact rfl
                   · exact rfl
                   · exact rfl
                   · exact rfl
                  ·
                   refine gc_region (mv rfl rfl (mv rfl rfl ?_))
                   refine gl_call (vs := [_]) rfl rfl rfl rfl Try.call71 ⟨rfl, trivial⟩ (fun w hs => rref_ten hs (by omega)) ?_
                   intro v180 h5 hh5 hr180
                   have hlm180 := ten_len ((exN r2))
                   replace hva := hva.mono (hh4.trans hh5)
                   refine gl_call (vs := [_, _]) rfl rfl rfl rfl Try.call73 ⟨rfl, rfl, trivial⟩ (fun w hs => ref_mul hs hva hr180 (by omega) (by omega)) ?_
                   intro v181 h6 hh6 hr181
                   try simp only [val_limbs] at hr181
                   have hlm181 := limbs_len_mul ((A)) (((10 ^ ((exN r2)))))
                   refine asg rfl rfl (gl_nil ?_)
                   refine gq_cut (v181, A * 10 ^ exN r2, vc, D, h6) ?_ ⟨?_, ?_, ?_, ?_, trivial⟩ ?_ rfl
                   ·
                    refine ⟨((hh4.trans hh5).trans hh6), ?_⟩
                    replace hvc := hvc.mono ((hh4.trans hh5).trans hh6)
                    refine ⟨hr181, hvc, hD0, ?_, by omega, ?_⟩
                    · have h8 := limbs_len_mul A (10 ^ exN r2)
                      have h9 := ten_len (exN r2)
                      omega
                    · rw [hfin]; exact fin3_up (lenpos.1 hc112) hok hc173
                   · exact rfl
                   · exact rfl
                   · exact rfl
                   · exact rfl
                   · exact rfl
        ·
         refine gc_skip ?_
         refine gq_cut (va, A, vc, D, m2) ?_ ⟨?_, ?_, ?_, ?_, trivial⟩ ?_ rfl
         ·
          refine ⟨MLe.refl _, ?_⟩
          refine ⟨hva, hvc, hD0, by omega, by omega, ?_⟩
          rw [hfin, Classical.not_not.1 (fun e => hc112 (lenpos.2 e))]; exact fin3_nil _ _ _
         · exact rfl
         · exact rfl
         · exact rfl
         · exact rfl
         · exact rfl
       ·
        intro x hx
        obtain ⟨vx, X, vy, Y, m3⟩ := x
        obtain ⟨hmm3, ⟨hvx, hvy, hY0, hlX, hlY, hfin4⟩⟩ := hx
        show GC _ _ _ _ _ _ [(2, vP b2 0), (4, vB (parNeg bs)), (6, vx), (8, vy)] [.var b2 27 [vB ((0 : Rat).num < 0), .slice none 0 0, .slice none 0 0]] m3
        refine gc_seq (gc_region (mv rfl rfl (mv rfl rfl (mv rfl rfl ?_))))
        refine gl_call (vs := [_, _, _]) rfl rfl rfl rfl Try.call74 ⟨rfl, rfl, rfl, trivial⟩ (fun w hs => rref_reduce hs hvx hvy (by omega) (by omega) (by first | (simp only [val_limbs]; omega) | (simp only [val_limbs]; first | exact Rat.den_nz _ | exact Nat.mul_ne_zero (Rat.den_nz _) (Rat.den_nz _) | exact Nat.one_ne_zero | assumption) | assumption)) ?_
        intro v185 h4 hh4 hr185
        have hlqm := lq_mk (s := parNeg bs) (n := X) (d := Y) (k := 20000) (by omega) (by omega) (by omega)
        try simp only [val_limbs] at hr185
        obtain ⟨vn185, vd185, rfl, hn185, hd185⟩ := hr185
        refine gl_newop (new_alloc (cs := [vB ((0 : Rat).num < 0), .slice none 0 0, .slice none 0 0]) info27 rfl (by simp only [zb]; rfl)) rfl rfl rfl ?_
        intro v14 r14 hr14
        obtain ⟨b14, rfl, rfl⟩ := hr14
        refine gl_upd (A := []) (r' := .var b14 27 [vB ((mkRat (sg (parNeg bs) ((X))) ((Y))).num < 0), vn185, vd185]) (upd_store_var (k := 0) (cs := [_, _, _]) (vs := [_, _, _]) rfl rfl rfl (ocr rfl (ocu hn185 (ocu hd185 oc0))) size27 (Nat.le_of_ble_eq_true rfl)) rfl rfl rfl (gl_nil (gq_then (gc_seq (gc_seq (gc_region (gv (ov_load_agg (vs := [_, _, _]) (.head _) Try.underlying27 rfl size27 rfl rfl) rfl ?_))))))
        refine gl_call (vs := [_]) rfl rfl rfl rfl Try.call37 ⟨rfl, trivial⟩ (fun w hs => rref_bits hs hn185 hd185 (by omega)) ?_
        intro v187 h5 hh5 hr187
        subst hr187
        refine gv (ov_gtr_i (q := 2048) rfl rfl) rfl (gl_nil (gq_then ?_))
        refine gc_cond rfl (fun hc188 => ?_) (fun hc188 => ?_)
        ·
         refine gc_keep (e' := [(2, _)]) ⟨rfl, trivial⟩ (gc_seq (gc_region (gv (ov_build_parts (ps' := []) (vs := [vB ((0 : Rat).num < 0), .slice none 0 0, .slice none 0 0]) Try.underlying27 info27 rfl (places27 Try.underlying27) trivial (by simp only [zb]; rfl)) rfl (gl_upd (A := [_]) (r' := .var b2 27 [vB ((0 : Rat).num < 0), .slice none 0 0, .slice none 0 0]) (upd_store_var (k := 0) (cs := [_, _, _]) (vs := [_, _, _]) rfl rfl rfl rfl size27 (Nat.le_of_ble_eq_true rfl)) rfl rfl rfl (asg (v := vI (2)) rfl rfl (gl_nil (gq_then (gc_ret (gr_then (gq_res (fun E S => run_res2 rfl (rv_agg (cs := [_, _, _]) (.tail _ (.head _)) Try.underlying27 rfl size27 rfl) (rv_tmp rfl) E S) ?_))))))))))
         rw [hpar, hfin4, fin4_big hc188]
         exact ⟨_, rfl, IsRat.zero _⟩
        ·
         refine gc_keep (e' := [(2, _), (14, _)]) ⟨rfl, rfl, trivial⟩ (gc_skip (gq_then (gc_seq (gc_region (gv (ov_load_agg (vs := [_, _, _]) (.head _) Try.underlying27 rfl size27 rfl rfl) rfl ?_)))))
         replace hn185 := hn185.mono hh5
         replace hd185 := hd185.mono hh5
         refine gl_upd (A := [_]) (r' := .var b2 27 [vB ((mkRat (sg (parNeg bs) ((X))) ((Y))).num < 0), vn185, vd185]) (upd_store_var (k := 0) (cs := [_, _, _]) (vs := [_, _, _]) rfl rfl rfl (ocr rfl (ocu hn185 (ocu hd185 oc0))) size27 (Nat.le_of_ble_eq_true rfl)) rfl rfl rfl (asg (v := vI (0)) rfl rfl (gl_nil (gq_then (gc_ret (gq_res (fun E S => run_res2 rfl (rv_agg (cs := [_, _, _]) (.tail _ (.head _)) Try.underlying27 rfl size27 rfl) (rv_tmp rfl) E S) ?_)))))
         rw [hpar, hfin4, fin4_ok hc188]
         exact ⟨_, rfl, _, _, rfl, hn185, hd185⟩

end Go.Proofs.Ytimoeckkdodogaa
