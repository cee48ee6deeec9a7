/- Contracts of functions, walked by their text (nat9). -/
import Derived.Test.YtoionddicppahaaW8
namespace Go.Proofs.Ytoionddicppahaa
open Bk Go
set_option linter.unusedVariables false
set_option linter.unusedSimpArgs false

theorem ref_parse {w0 : World} {h0 : Mem}  (hs : MLe h0 (mem w0)) {s : ByteArray} (hsz : s.size ≤ 9223372036854775807) :
    Calls Try.prog 28 #[.string s] w0 (Ret w0 h0 (fun h r => ∃ u, r = .tuple #[u, vI (perr (byt s))] ∧ Us .u32 h u (limbs (pval (byt s))))) := by
  have hbl := byt_length s
  have hszl : (byt s).length ≤ 9223372036854775807 := by omega
  refine calls_begin (n := 70) (e := [(0, .string s)]) (vs := [.string s]) Try.func28 rfl rfl (Nat.le_of_ble_eq_true rfl) hs ⟨rfl, trivial⟩ ?_
  refine gc_seq ?_
  refine gc_region ?_  -- region 0 (line 274)
  refine gl_val (ov_assign rfl) rfl rfl rfl ?_
  refine gl_val (ov_assign (v := vI (0)) rfl) rfl rfl rfl ?_
  refine gl_nil ?_
  refine gq_keep (e' := [(0, _)]) ⟨rfl, trivial⟩ ?_
  refine gq_then ?_
  refine gc_seq ?_
  refine gc_seq ?_
  refine gc_region ?_  -- region 1 (line 275)
  refine gl_val (ov_move rfl) rfl rfl rfl ?_
  refine gl_val (ov_len_str Try.underlying9 rfl) rfl rfl rfl ?_
  refine gl_val (ov_gtr_i (q := 4096) rfl rfl) rfl rfl rfl ?_
  refine gl_nil ?_
  refine gq_keep (e' := [(0, _), (11, _)]) ⟨rfl, rfl, trivial⟩ ?_
  refine gq_then ?_
  refine gc_cond rfl (fun hc11 => ?_) (fun hc11 => ?_)
  · skip
    refine gc_keep (e' := []) trivial ?_
    refine gc_seq ?_
    refine gc_region ?_  -- region 2 (line 276)
    refine gl_val (ov_assign rfl) rfl rfl rfl ?_
    refine gl_val (ov_assign (v := vI (2)) rfl) rfl rfl rfl ?_
    refine gl_nil ?_
    refine gq_then ?_
    refine gc_ret ?_
    refine gr_then ?_
    refine gq_body2 rfl rfl rfl ?_
    have h1 : 4096 < (byt s).length := by rw [byt_length]; omega
    rw [perr, if_pos h1, pval, if_pos h1, limbs_zero]
    exact ⟨_, rfl, Us.nil _ _⟩
  · skip
    have hsmall : s.size ≤ 4096 := by omega
    refine gc_keep (e' := [(0, _)]) ⟨rfl, trivial⟩ ?_
    refine gc_skip ?_
    refine gq_then ?_
    refine gc_seq ?_
    refine gc_seq ?_
    refine gc_region ?_  -- region 3 (line 278)
    refine gl_val (ov_move rfl) rfl rfl rfl ?_
    refine gl_val (ov_eql_str rfl rfl) rfl rfl rfl ?_
    refine gl_nil ?_
    refine gq_keep (e' := [(0, _), (13, _)]) ⟨rfl, rfl, trivial⟩ ?_
    refine gq_then ?_
    refine gc_cond rfl (fun hc13 => ?_) (fun hc13 => ?_)
    · skip
      refine gc_keep (e' := []) trivial ?_
      refine gc_seq ?_
      refine gc_region ?_  -- region 4 (line 279)
      refine gl_val (ov_assign rfl) rfl rfl rfl ?_
      refine gl_val (ov_assign (v := vI (4)) rfl) rfl rfl rfl ?_
      refine gl_nil ?_
      refine gq_then ?_
      refine gc_ret ?_
      refine gr_then ?_
      refine gq_body2 rfl rfl rfl ?_
      have h1 : (byt s).length = 0 := by rw [byt_length, hc13]; rfl
      have h2 : byt s = [] := List.eq_nil_of_length_eq_zero h1
      rw [h2]
      show ∃ u, _ = Value.tuple #[u, vI 4] ∧ Us .u32 _ u (limbs 0)
      rw [limbs_zero]
      exact ⟨_, rfl, Us.nil _ _⟩
    · skip
      have hne : (byt s).length ≠ 0 := fun h => hc13 (by
        have h2 : s.size = 0 := by omega
        obtain ⟨d⟩ := s
        have h3 : d = #[] := Array.eq_empty_of_size_eq_zero h2
        rw [h3])
      refine gc_keep (e' := [(0, _)]) ⟨rfl, trivial⟩ ?_
      refine gc_skip ?_
      refine gq_then ?_
      refine gc_seq ?_
      refine gc_region ?_  -- region 5 (line 281)
      refine gl_val (ov_assign (v := .slice none 0 0) rfl) rfl rfl rfl ?_
      refine gl_addnil (E := 45) (k := .u32) ?_
      refine gl_nil ?_
      refine gq_then ?_
      refine gc_seq ?_
      refine gc_seq ?_
      refine gc_region ?_  -- region 6 (line 282)
      refine gl_val (ov_assign (v := vI (0)) rfl) rfl rfl rfl ?_
      refine gl_nil ?_
      refine gq_then ?_
      refine gc_block ?_
      refine gc_loop (ι := Nat) (fun (i : (Nat)) => i ≤ (byt s).length ∧ digB ((byt s).take i) = true) (fun (i : (Nat)) => [(0, .string s), (4, .slice none 0 0), (5, vI ↑i)]) (fun (i : (Nat)) => [.us 45 .u32 (.slice none 0 0) []]) (fun (i : (Nat)) => h0) (fun (i : (Nat)) => (byt s).length - i) 0 ?_ ⟨rfl, rfl, rfl, trivial⟩ rfl rfl ?_
      · skip
        exact ⟨Nat.zero_le _, by simp [digB]⟩
      · skip
        intro i hx
        obtain ⟨hi, hdg0⟩ := hx
        show GC _ _ _ _ _ _ [(0, .string s), (4, .slice none 0 0), (5, vI ↑i)] [.us 45 .u32 (.slice none 0 0) []] h0
        refine gc_seq ?_
        refine gc_seq ?_
        refine gc_region ?_  -- region 7 (line 282)
        refine gl_val (ov_move rfl) rfl rfl rfl ?_
        refine gl_val (ov_move rfl) rfl rfl rfl ?_
        refine gl_val (ov_len_str Try.underlying9 rfl) rfl rfl rfl ?_
        refine gl_val (ov_lss_i rfl rfl) rfl rfl rfl ?_
        refine gl_nil ?_
        refine gq_keep (e' := [(0, _), (4, _), (5, _), (17, _)]) ⟨rfl, rfl, rfl, rfl, trivial⟩ ?_
        refine gq_then ?_
        refine gc_cond rfl (fun hc17 => ?_) (fun hc17 => ?_)
        · skip
          refine gc_keep (e' := [(0, _), (4, _), (5, _)]) ⟨rfl, rfl, rfl, trivial⟩ ?_
          refine gc_skip ?_
          refine gq_then ?_
          refine gc_seq ?_
          refine gc_block ?_
          refine gc_seq ?_
          refine gc_region ?_  -- region 9 (line 283)
          refine gl_val (ov_move rfl) rfl rfl rfl ?_
          refine gl_val (ov_move rfl) rfl rfl rfl ?_
          refine gl_val (ov_index_byt (i) Try.underlying9 rfl rfl rfl (by rw [← byt_length]; omega)) rfl rfl rfl ?_
          have hb1 := byt_lt s (i)
          refine gl_val (ov_lss_u (k := .u8) (q := 48) rfl rfl) rfl rfl rfl ?_
          refine gl_cut (ι := Unit) 6 (fun _ => True) (fun _ => [(29, vB (((byt s).getD i 0 < 48) ∨ (57 < (byt s).getD i 0))), (0, .string s), (4, .slice none 0 0), (5, vI ↑i)]) (fun _ => [.us 45 .u32 (.slice none 0 0) []]) (fun _ => h0) ?_ ?_
          · skip
            refine gl_cases ((byt s).getD i 0 < 48) (fun hg => ?_) (fun hg => ?_)
            · skip
              refine gl_val (ov_move (v := .bool true) (congrArg some (vB_true hg))) rfl rfl rfl ?_
              refine gl_off rfl rfl rfl rfl rfl rfl ?_
              refine gl_off rfl rfl rfl rfl rfl rfl ?_
              refine gl_off rfl rfl rfl rfl rfl rfl ?_
              refine gl_off rfl rfl rfl rfl rfl rfl ?_
              refine gl_val (ov_pick_t rfl rfl) rfl rfl rfl ?_
              refine gl_nil ?_
              refine gq_cut () trivial ⟨?_, rfl, rfl, rfl, trivial⟩ rfl rfl
              exact congrArg some (vB_or_t hg)
            · skip
              refine gl_val (ov_move (v := .bool false) (congrArg some (vB_false hg))) rfl rfl rfl ?_
              refine gl_on rfl rfl rfl ?_
              refine gl_val (ov_move rfl) rfl rfl rfl ?_
              refine gl_on rfl rfl rfl ?_
              refine gl_val (ov_move rfl) rfl rfl rfl ?_
              refine gl_on rfl rfl rfl ?_
              refine gl_val (ov_index_byt (i) Try.underlying9 rfl rfl rfl (by rw [← byt_length]; omega)) rfl rfl rfl ?_
              have hb1 := byt_lt s (i)
              refine gl_on rfl rfl rfl ?_
              refine gl_val (ov_gtr_u (k := .u8) (q := 57) rfl rfl) rfl rfl rfl ?_
              refine gl_val (ov_pick_f rfl rfl) rfl rfl rfl ?_
              refine gl_nil ?_
              refine gq_cut () trivial ⟨?_, rfl, rfl, rfl, trivial⟩ rfl rfl
              exact congrArg some (vB_or_f hg)
          · skip
            intro _ _
            show GL _ _ _ _ _ _ _ [(29, vB (((byt s).getD i 0 < 48) ∨ (57 < (byt s).getD i 0))), (0, .string s), (4, .slice none 0 0), (5, vI ↑i)] [.us 45 .u32 (.slice none 0 0) []] h0
            refine gl_nil ?_
            refine gq_then ?_
            refine gc_cond rfl (fun hc29 => ?_) (fun hc29 => ?_)
            · skip
              refine gc_keep (e' := []) trivial ?_
              refine gc_seq ?_
              refine gc_region ?_  -- region 10 (line 284)
              refine gl_val (ov_assign rfl) rfl rfl rfl ?_
              refine gl_val (ov_assign (v := vI (4)) rfl) rfl rfl rfl ?_
              refine gl_nil ?_
              refine gq_then ?_
              refine gc_ret ?_
              refine gr_in ?_
              refine gr_then ?_
              refine gr_then ?_
              refine gr_in ?_
              refine gr_then ?_
              refine gq_body2 rfl rfl rfl ?_
              obtain ⟨e1, e2⟩ := parse_bad (bs := byt s) (by omega) hne (digB_bad (i := i) (by omega) (by omega))
              rw [e1, e2, limbs_zero]
              exact ⟨_, rfl, Us.nil _ _⟩
            · skip
              have hd1 : 48 ≤ (byt s).getD i 0 := by omega
              have hd2 : (byt s).getD i 0 ≤ 57 := by omega
              refine gc_keep (e' := [(0, _), (4, _), (5, _)]) ⟨rfl, rfl, rfl, trivial⟩ ?_
              refine gc_skip ?_
              refine gq_in ?_
              refine gq_then ?_
              refine gc_region ?_  -- region 8 (line 282)
              refine gl_val (ov_move rfl) rfl rfl rfl ?_
              refine gl_val (ov_add_i (q := 1) rfl rfl (by omega) (by omega)) rfl rfl rfl ?_
              refine gl_val (ov_assign rfl) rfl rfl rfl ?_
              refine gl_nil ?_
              refine gq_round (i + 1) ?_ ?_ ⟨?_, ?_, ?_, trivial⟩ ?_ rfl
              · skip
                exact ⟨by omega, digB_take hdg0 (by omega) hd1 hd2⟩
              · skip
                omega
              · exact rfl
              · exact rfl
              · exact rfl
              · exact rfl
        · skip
          have hdall : digB (byt s) = true := by rw [← List.take_of_length_le (l := byt s) (show (byt s).length ≤ i by omega)]; exact hdg0
          refine gc_keep (e' := [(0, _), (4, _)]) ⟨rfl, rfl, trivial⟩ ?_
          refine gc_exit ?_
          refine gx_then ?_
          refine gx_then ?_
          refine gx_here ?_
          refine gq_then ?_
          refine gc_seq ?_
          refine gc_seq ?_
          refine gc_region ?_  -- region 11 (line 287)
          refine gl_val (ov_assign (v := vI (0)) rfl) rfl rfl rfl ?_
          refine gl_nil ?_
          refine gq_then ?_
          refine gc_block ?_
          refine gc_loop (ι := Value × Nat × Mem) (fun (x_ : (Value × Nat × Mem)) => match x_ with | (vo, j, k1) => MLe h0 k1 ∧ (j ≤ (byt s).length ∧ (limbs (hor ((byt s).take j))).length ≤ j)) (fun (x_ : (Value × Nat × Mem)) => match x_ with | (vo, j, k1) => [(0, .string s), (4, vo), (6, vI ↑j)]) (fun (x_ : (Value × Nat × Mem)) => match x_ with | (vo, j, k1) => [.us 45 .u32 vo (limbs (hor ((byt s).take j)))]) (fun (x_ : (Value × Nat × Mem)) => match x_ with | (vo, j, k1) => k1) (fun (x_ : (Value × Nat × Mem)) => match x_ with | (vo, j, k1) => (byt s).length - j) (.slice none 0 0, 0, h0) ?_ ⟨rfl, rfl, rfl, trivial⟩ ?_ rfl ?_
          · skip
            refine ⟨MLe.refl _, ?_⟩
            exact ⟨Nat.zero_le _, by simp [hor, limbs_zero]⟩
          · skip
            try dsimp only [List.nil_append, List.cons_append]
            show [Res.us 45 .u32 (.slice none 0 0) (limbs (hor (List.take 0 (byt s))))] = _
            rw [List.take_zero, hor_nil, limbs_zero]
          · skip
            intro x hx
            obtain ⟨vo, j, k1⟩ := x
            obtain ⟨hmk1, ⟨hj, hln⟩⟩ := hx
            show GC _ _ _ _ _ _ [(0, .string s), (4, vo), (6, vI ↑j)] [.us 45 .u32 vo (limbs (hor ((byt s).take j)))] k1
            refine gc_seq ?_
            refine gc_seq ?_
            refine gc_region ?_  -- region 12 (line 287)
            refine gl_val (ov_move rfl) rfl rfl rfl ?_
            refine gl_val (ov_move rfl) rfl rfl rfl ?_
            refine gl_val (ov_len_str Try.underlying9 rfl) rfl rfl rfl ?_
            refine gl_val (ov_lss_i rfl rfl) rfl rfl rfl ?_
            refine gl_nil ?_
            refine gq_keep (e' := [(0, _), (4, _), (6, _), (33, _)]) ⟨rfl, rfl, rfl, rfl, trivial⟩ ?_
            refine gq_then ?_
            refine gc_cond rfl (fun hc33 => ?_) (fun hc33 => ?_)
            · skip
              refine gc_keep (e' := [(0, _), (4, _), (6, _)]) ⟨rfl, rfl, rfl, trivial⟩ ?_
              refine gc_skip ?_
              refine gq_then ?_
              refine gc_cut (ι := Value × Mem) (fun (x_ : (Value × Mem)) => match x_ with | (vo2, k3) => MLe k1 k3 ∧ ((limbs (10 * hor ((byt s).take j) + ((byt s).getD j 0 - 48))).length ≤ j + 1)) (fun (x_ : (Value × Mem)) => match x_ with | (vo2, k3) => [(0, .string s), (4, vo2), (6, vI ↑j)]) (fun (x_ : (Value × Mem)) => match x_ with | (vo2, k3) => [.us 45 .u32 vo2 (limbs (10 * hor ((byt s).take j) + ((byt s).getD j 0 - 48)))]) (fun (x_ : (Value × Mem)) => match x_ with | (vo2, k3) => k3) ?_ ?_
              · skip
                refine gc_block ?_
                refine gc_seq ?_
                refine gc_region ?_  -- region 14 (line 288)
                refine gl_val (ov_move rfl) rfl rfl rfl ?_
                refine gl_val (ov_move rfl) rfl rfl rfl ?_
                obtain ⟨hd1, hd2⟩ := digB_get hdall (i := j) (by omega)
                refine gl_val (ov_index_byt (j) Try.underlying9 rfl rfl rfl (by rw [← byt_length]; omega)) rfl rfl rfl ?_
                have hb1 := byt_lt s (j)
                refine gl_val (ov_sub_u (k := .u8) (q := 48) (W := 256) rfl rfl rfl rfl (by omega) (by omega)) rfl rfl rfl ?_
                refine gl_val (ov_conv_u (k := .u8) (k' := .u64) (W := 18446744073709551616) Try.underlying5 Try.underlying23 rfl rfl rfl (by omega)) rfl rfl rfl ?_
                refine gl_val (ov_assign rfl) rfl rfl rfl ?_
                refine gl_nil ?_
                refine gq_keep (e' := [(0, _), (4, _), (6, _), (7, _)]) ⟨rfl, rfl, rfl, rfl, trivial⟩ ?_
                refine gq_then ?_
                refine gc_seq ?_
                refine gc_seq ?_
                refine gc_region ?_  -- region 15 (line 289)
                refine gl_val (ov_assign (v := vI (0)) rfl) rfl rfl rfl ?_
                refine gl_nil ?_
                refine gq_then ?_
                refine gc_block ?_
                refine gc_loop (ι := List Nat × Nat) (fun (x_ : (List Nat × Nat)) => match x_ with | (ps, c) => ps.length ≤ (limbs (hor ((byt s).take j))).length ∧ Fit ps ∧ c ≤ 9 ∧ val ps + 4294967296 ^ ps.length * c = ((byt s).getD j 0 - 48) + 10 * val ((limbs (hor ((byt s).take j))).take ps.length)) (fun (x_ : (List Nat × Nat)) => match x_ with | (ps, c) => [(0, .string s), (4, vo), (6, vI ↑j), (7, vU .u64 c), (8, vI ↑ps.length)]) (fun (x_ : (List Nat × Nat)) => match x_ with | (ps, c) => [.us 45 .u32 vo (mixA ps (limbs (hor ((byt s).take j))))]) (fun (x_ : (List Nat × Nat)) => match x_ with | (ps, c) => k1) (fun (x_ : (List Nat × Nat)) => match x_ with | (ps, c) => (limbs (hor ((byt s).take j))).length - ps.length) ([], (byt s).getD j 0 - 48) ?_ ⟨rfl, rfl, rfl, rfl, rfl, trivial⟩ rfl rfl ?_
                · skip
                  exact ⟨by simp, fun x hx => by simp at hx, by omega, by simp [val]⟩
                · skip
                  intro x hx
                  obtain ⟨ps, c⟩ := x
                  obtain ⟨hps, hfp, hc9, hval⟩ := hx
                  show GC _ _ _ _ _ _ [(0, .string s), (4, vo), (6, vI ↑j), (7, vU .u64 c), (8, vI ↑ps.length)] [.us 45 .u32 vo (mixA ps (limbs (hor ((byt s).take j))))] k1
                  refine gc_seq ?_
                  refine gc_seq ?_
                  refine gc_region ?_  -- region 16 (line 289)
                  refine gl_val (ov_move rfl) rfl rfl rfl ?_
                  refine gl_val (ov_move rfl) rfl rfl rfl ?_
                  refine gl_val (ov_len_ous (A := []) Try.underlying22 rfl) rfl rfl rfl ?_
                  rw [mixA_len (by omega)]
                  refine gl_val (ov_lss_i rfl rfl) rfl rfl rfl ?_
                  refine gl_nil ?_
                  refine gq_keep (e' := [(0, _), (4, _), (6, _), (7, _), (8, _), (44, _)]) ⟨rfl, rfl, rfl, rfl, rfl, rfl, trivial⟩ ?_
                  refine gq_then ?_
                  refine gc_cond rfl (fun hc44 => ?_) (fun hc44 => ?_)
                  · skip
                    refine gc_keep (e' := [(0, _), (4, _), (6, _), (7, _), (8, _)]) ⟨rfl, rfl, rfl, rfl, rfl, trivial⟩ ?_
                    refine gc_skip ?_
                    refine gq_then ?_
                    refine gc_seq ?_
                    refine gc_block ?_
                    refine gc_seq ?_
                    refine gc_region ?_  -- region 18 (line 290)
                    refine gl_val (ov_move rfl) rfl rfl rfl ?_
                    refine gl_val (ov_move rfl) rfl rfl rfl ?_
                    refine gl_val (ov_move rfl) rfl rfl rfl ?_
                    refine gl_val (ov_index_ous (A := []) (ps.length) Try.underlying22 Try.sizeOf45 rfl rfl (by omega) (by rw [mixA_len (by omega)]; omega)) rfl rfl rfl ?_
                    refine gl_val (ov_load_ous (A := []) Try.isAgg45 rfl (by rw [mixA_len (by omega)]; omega)) rfl rfl rfl ?_
                    rw [mixA_get (Nat.le_refl _)]
                    have hgx := fit_get (fit_limbs (hor ((byt s).take j))) ps.length
                    refine gl_val (ov_conv_u (k := .u32) (k' := .u64) (W := 18446744073709551616) Try.underlying45 Try.underlying23 rfl rfl rfl (by omega)) rfl rfl rfl ?_
                    refine gl_val (ov_mul_u (k := .u64) (q := 10) (W := 18446744073709551616) rfl rfl rfl rfl (by omega)) rfl rfl rfl ?_
                    refine gl_val (ov_add_u (k := .u64) (W := 18446744073709551616) rfl rfl rfl rfl (by omega)) rfl rfl rfl ?_
                    refine gl_val (ov_assign rfl) rfl rfl rfl ?_
                    refine gl_nil ?_
                    refine gq_keep (e' := [(0, _), (4, _), (6, _), (8, _), (7, _)]) ⟨rfl, rfl, rfl, rfl, rfl, trivial⟩ ?_
                    refine gq_then ?_
                    refine gc_seq ?_
                    refine gc_region ?_  -- region 19 (line 291)
                    refine gl_val (ov_move rfl) rfl rfl rfl ?_
                    refine gl_val (ov_move rfl) rfl rfl rfl ?_
                    refine gl_val (ov_move rfl) rfl rfl rfl ?_
                    refine gl_val (ov_conv_uu (k := .u64) (k' := .u32) (W := 4294967296) Try.underlying23 Try.underlying45 rfl rfl rfl) rfl rfl rfl ?_
                    refine gl_val (ov_index_ous (A := []) (ps.length) Try.underlying22 Try.sizeOf45 rfl rfl (by omega) (by rw [mixA_len (by omega)]; omega)) rfl rfl rfl ?_
                    refine gl_store_ous0 Try.sizeOf45 rfl rfl (by rw [mixA_len (by omega)]; omega) ?_
                    refine gl_nil ?_
                    refine gq_keep (e' := [(0, _), (4, _), (6, _), (8, _), (7, _)]) ⟨rfl, rfl, rfl, rfl, rfl, trivial⟩ ?_
                    refine gq_then ?_
                    refine gc_region ?_  -- region 20 (line 292)
                    refine gl_val (ov_move rfl) rfl rfl rfl ?_
                    refine gl_val (ov_shr_u (k := .u64) (s := 32) (yk := .u64) rfl rfl rfl (by simp only [ub]; omega)) rfl rfl rfl ?_
                    refine gl_val (ov_assign rfl) rfl rfl rfl ?_
                    refine gl_nil ?_
                    refine gq_in ?_
                    refine gq_keep (e' := [(0, _), (4, _), (6, _), (8, _), (7, _)]) ⟨rfl, rfl, rfl, rfl, rfl, trivial⟩ ?_
                    refine gq_then ?_
                    refine gc_region ?_  -- region 17 (line 289)
                    refine gl_val (ov_move rfl) rfl rfl rfl ?_
                    refine gl_val (ov_add_i (q := 1) rfl rfl (by omega) (by omega)) rfl rfl rfl ?_
                    refine gl_val (ov_assign rfl) rfl rfl rfl ?_
                    refine gl_nil ?_
                    generalize hX : (limbs (hor ((byt s).take j))).getD ps.length 0 = X at *
                    refine gq_round (ps ++ [(c + X * 10) % 4294967296], (c + X * 10) / 2 ^ 32) ?_ ?_ ⟨?_, ?_, ?_, ?_, ?_, trivial⟩ ?_ rfl
                    · skip
                      refine ⟨by simp; omega, fit_append hfp (fit_one (by omega)), by omega, ?_⟩
                      rw [List.length_append, List.length_singleton, val_take_getD, hX, val_snoc, Nat.pow_succ]
                      have e := Nat.div_add_mod (c + X * 10) 4294967296
                      rw [show (2 : Nat) ^ 32 = 4294967296 from rfl]
                      generalize (c + X * 10) / 4294967296 = p at *
                      generalize (c + X * 10) % 4294967296 = q at *
                      grind
                    · skip
                      dsimp only
                      simp; omega
                    · exact rfl
                    · exact rfl
                    · exact rfl
                    · exact rfl
                    · exact congrArg some (congrArg vI (by simp))
                    · skip
                      try dsimp only [List.nil_append, List.cons_append]
                      rw [mixA_set (by omega)]
                  · skip
                    refine gc_keep (e' := [(0, _), (4, _), (6, _), (7, _)]) ⟨rfl, rfl, rfl, rfl, trivial⟩ ?_
                    refine gc_exit ?_
                    refine gx_then ?_
                    refine gx_then ?_
                    refine gx_here ?_
                    refine gq_then ?_
                    refine gc_seq ?_
                    refine gc_region ?_  -- region 21 (line 294)
                    refine gl_val (ov_move rfl) rfl rfl rfl ?_
                    refine gl_val (ov_gtr_u (k := .u64) (q := 0) rfl rfl) rfl rfl rfl ?_
                    refine gl_nil ?_
                    refine gq_keep (e' := [(0, _), (4, _), (6, _), (7, _), (63, _)]) ⟨rfl, rfl, rfl, rfl, rfl, trivial⟩ ?_
                    refine gq_then ?_
                    refine gc_cond rfl (fun hc63 => ?_) (fun hc63 => ?_)
                    · skip
                      refine gc_keep (e' := [(0, _), (4, _), (6, _), (7, _)]) ⟨rfl, rfl, rfl, rfl, trivial⟩ ?_
                      refine gc_region ?_  -- region 22 (line 295)
                      refine gl_val (ov_move rfl) rfl rfl rfl ?_
                      refine gl_val (ov_move rfl) rfl rfl rfl ?_
                      refine gl_val (ov_conv_uu (k := .u64) (k' := .u32) (W := 4294967296) Try.underlying23 Try.underlying45 rfl rfl rfl) rfl rfl rfl ?_
                      refine gl_newop (new_build1 (kd := .u32) Try.underlying22 info45 rfl rfl rfl) rfl rfl rfl ?_
                      intro v67 r67 hr67
                      obtain rfl := hr67
                      refine gl_freeze_us0 (by intro z hz; simp only [List.mem_singleton] at hz; subst hz; simp only [ub]; omega) ?_
                      intro h1 hh1 hch
                      refine gl_repop (A := []) (rep_append_us (kd := .u32) (bytes := 4) Try.underlying22 info45 rfl rfl rfl rfl rfl hch (by rw [mixA_len (by omega)]; simp only [List.length_singleton]; omega) (by rw [mixA_len (by omega)]; simp only [List.length_singleton]; omega)) rfl rfl rfl ?_
                      intro v68 r68 hr68
                      obtain rfl := hr68
                      refine gl_val (ov_assign rfl) rfl rfl rfl ?_
                      refine gl_nil ?_
                      refine gq_in ?_
                      have hpl : ps.length = (limbs (hor ((byt s).take j))).length := by omega
                      rw [val_take_all (by omega)] at hval
                      have hfull := (hor_full hfp rfl hpl (by omega) hval).1 hc63
                      refine gq_cut (v68, h1) ?_ ⟨?_, ?_, ?_, trivial⟩ ?_ rfl
                      · skip
                        refine ⟨hh1, ?_⟩
                        rw [← hfull, List.length_append, List.length_singleton]; omega
                      · exact rfl
                      · exact rfl
                      · exact rfl
                      · skip
                        try dsimp only [List.nil_append, List.cons_append]
                        rw [mixA_full hpl, hfull]
                    · skip
                      refine gc_keep (e' := [(0, _), (4, _), (6, _)]) ⟨rfl, rfl, rfl, trivial⟩ ?_
                      refine gc_skip ?_
                      refine gq_in ?_
                      have hpl : ps.length = (limbs (hor ((byt s).take j))).length := by omega
                      rw [val_take_all (by omega)] at hval
                      have hfull := (hor_full hfp rfl hpl (by omega) hval).2 (by omega)
                      refine gq_cut (vo, k1) ?_ ⟨?_, ?_, ?_, trivial⟩ ?_ rfl
                      · skip
                        refine ⟨MLe.refl _, ?_⟩
                        rw [← hfull]; omega
                      · exact rfl
                      · exact rfl
                      · exact rfl
                      · skip
                        try dsimp only [List.nil_append, List.cons_append]
                        rw [mixA_full hpl, hfull]
              · skip
                intro x hx
                obtain ⟨vo2, k3⟩ := x
                obtain ⟨hmk3, hln2⟩ := hx
                show GC _ _ _ _ _ _ [(0, .string s), (4, vo2), (6, vI ↑j)] [.us 45 .u32 vo2 (limbs (10 * hor ((byt s).take j) + ((byt s).getD j 0 - 48)))] k3
                refine gc_region ?_  -- region 13 (line 287)
                refine gl_val (ov_move rfl) rfl rfl rfl ?_
                refine gl_val (ov_add_i (q := 1) rfl rfl (by omega) (by omega)) rfl rfl rfl ?_
                refine gl_val (ov_assign rfl) rfl rfl rfl ?_
                refine gl_nil ?_
                refine gq_round (vo2, j + 1, k3) ?_ ?_ ⟨?_, ?_, ?_, trivial⟩ ?_ rfl
                · skip
                  refine ⟨(hmk1.trans hmk3), ?_⟩
                  exact ⟨by omega, by rw [hor_take (by omega)]; exact hln2⟩
                · skip
                  dsimp only
                  omega
                · exact rfl
                · exact rfl
                · exact rfl
                · skip
                  try dsimp only [List.nil_append, List.cons_append]
                  rw [hor_take (by omega)]
            · skip
              refine gc_keep (e' := [(4, _)]) ⟨rfl, trivial⟩ ?_
              refine gc_exit ?_
              refine gx_then ?_
              refine gx_then ?_
              refine gx_here ?_
              refine gq_then ?_
              refine gc_seq ?_
              refine gc_region ?_  -- region 23 (line 298)
              refine gl_val (ov_move rfl) rfl rfl rfl ?_
              refine gl_freeze_us0 (by exact fit_limbs _) ?_
              intro h1 hh1 ho
              refine gl_val (ov_assign rfl) rfl rfl rfl ?_
              refine gl_val (ov_assign (v := vI (0)) rfl) rfl rfl rfl ?_
              refine gl_nil ?_
              refine gq_keep (e' := [(2, _), (3, _)]) ⟨rfl, rfl, trivial⟩ ?_
              refine gq_then ?_
              refine gc_ret ?_
              refine gq_body2 rfl rfl rfl ?_
              have hi2 : j = (byt s).length := by omega
              rw [hi2, List.take_length] at ho
              obtain ⟨e1, e2⟩ := parse_ok (bs := byt s) (by omega) hne hdall
              rw [e1, e2]
              exact ⟨_, rfl, ho⟩

theorem ref_bylimb {w0 : World} {h0 : Mem}  (hs : MLe h0 (mem w0)) {v : Value} {xs : List Nat} {b : Nat} (hv : Us .u32 h0 v xs) (hb : 0 < b) (hb' : b < 4294967296) (hl : xs.length ≤ 1099511627776) :
    Calls Try.prog 48 #[v, vU .u32 b] w0 (Ret w0 h0 (fun h r => ∃ u, r = .tuple #[u, vU .u32 (val xs % b)] ∧ Us .u32 h u (limbs (val xs / b)))) := by
  have hf : Fit xs := hv.lt
  refine calls_begin (n := 43) (e := [(0, v), (1, vU .u32 b)]) (vs := [v, vU .u32 b]) Try.func48 rfl rfl (Nat.le_of_ble_eq_true rfl) hs ⟨rfl, rfl, trivial⟩ ?_
  refine gc_seq ?_
  refine gc_region ?_  -- region 0 (line 129)
  refine gl_val (ov_assign rfl) rfl rfl rfl ?_
  refine gl_val (ov_assign (v := vU .u32 0) rfl) rfl rfl rfl ?_
  refine gl_nil ?_
  refine gq_keep (e' := [(0, _), (1, _)]) ⟨rfl, rfl, trivial⟩ ?_
  refine gq_then ?_
  refine gc_seq ?_
  refine gc_region ?_  -- region 1 (line 130)
  refine gl_val (ov_move rfl) rfl rfl rfl ?_
  refine gl_val (ov_len_us Try.underlying22 rfl hv) rfl rfl rfl ?_
  refine gl_make_us (kd := .u32) (by' := 4) _ Try.underlying22 info45 rfl rfl rfl rfl rfl rfl rfl (by omega) (by omega) rfl ?_
  intro v11
  refine gl_val (ov_assign rfl) rfl rfl rfl ?_
  refine gl_nil ?_
  refine gq_keep (e' := [(0, _), (1, _), (6, _)]) ⟨rfl, rfl, rfl, trivial⟩ ?_
  refine gq_then ?_
  refine gc_seq ?_
  refine gc_region ?_  -- region 2 (line 131)
  refine gl_val (ov_assign (v := vU .u64 0) rfl) rfl rfl rfl ?_
  refine gl_nil ?_
  refine gq_then ?_
  refine gc_seq ?_
  refine gc_seq ?_
  refine gc_region ?_  -- region 3 (line 132)
  refine gl_val (ov_move rfl) rfl rfl rfl ?_
  refine gl_val (ov_len_us Try.underlying22 rfl hv) rfl rfl rfl ?_
  refine gl_val (ov_sub_i (q := 1) rfl rfl (by omega) (by omega)) rfl rfl rfl ?_
  refine gl_val (ov_assign rfl) rfl rfl rfl ?_
  refine gl_nil ?_
  refine gq_keep (e' := [(0, _), (1, _), (6, _), (7, _), (8, _)]) ⟨rfl, rfl, rfl, rfl, rfl, trivial⟩ ?_
  refine gq_then ?_
  refine gc_block ?_
  refine gc_loop (ι := Nat × List Nat × Nat) (fun (x_ : (Nat × List Nat × Nat)) => match x_ with | (j, qs, r) => j ≤ xs.length ∧ qs.length = xs.length - j ∧ Fit qs ∧ r < b ∧ val (xs.drop j) = b * val qs + r) (fun (x_ : (Nat × List Nat × Nat)) => match x_ with | (j, qs, r) => [(0, v), (1, vU .u32 b), (6, v11), (7, vU .u64 r), (8, vI (↑j - 1))]) (fun (x_ : (Nat × List Nat × Nat)) => match x_ with | (j, qs, r) => [.us 45 .u32 v11 (fillDn j qs)]) (fun (x_ : (Nat × List Nat × Nat)) => match x_ with | (j, qs, r) => h0) (fun (x_ : (Nat × List Nat × Nat)) => match x_ with | (j, qs, r) => j) (xs.length, [], 0) ?_ ⟨rfl, rfl, rfl, rfl, rfl, trivial⟩ ?_ rfl ?_
  · skip
    exact ⟨Nat.le_refl _, by simp, fun x hx => by simp at hx, hb, by rw [List.drop_of_length_le (Nat.le_refl _)]; rfl⟩
  · skip
    try dsimp only [List.nil_append, List.cons_append]
    exact congrArg (fun z => [Res.us 45 .u32 v11 z]) (fillDn_nil _)
  · skip
    intro x hx
    obtain ⟨j, qs, r⟩ := x
    obtain ⟨hj, hql, hfq, hr, hval⟩ := hx
    show GC _ _ _ _ _ _ [(0, v), (1, vU .u32 b), (6, v11), (7, vU .u64 r), (8, vI (↑j - 1))] [.us 45 .u32 v11 (fillDn j qs)] h0
    refine gc_seq ?_
    refine gc_seq ?_
    refine gc_region ?_  -- region 4 (line 132)
    refine gl_val (ov_move rfl) rfl rfl rfl ?_
    refine gl_val (ov_geq_i (q := 0) rfl rfl) rfl rfl rfl ?_
    refine gl_nil ?_
    refine gq_keep (e' := [(0, _), (1, _), (6, _), (7, _), (8, _), (16, _)]) ⟨rfl, rfl, rfl, rfl, rfl, rfl, trivial⟩ ?_
    refine gq_then ?_
    refine gc_cond rfl (fun hc16 => ?_) (fun hc16 => ?_)
    · skip
      refine gc_keep (e' := [(0, _), (1, _), (6, _), (7, _), (8, _)]) ⟨rfl, rfl, rfl, rfl, rfl, trivial⟩ ?_
      refine gc_skip ?_
      refine gq_then ?_
      refine gc_seq ?_
      refine gc_block ?_
      refine gc_seq ?_
      refine gc_region ?_  -- region 6 (line 133)
      refine gl_val (ov_move rfl) rfl rfl rfl ?_
      refine gl_val (ov_shl_u (k := .u64) (s := 32) (yk := .u64) (W := 18446744073709551616) rfl rfl rfl rfl) rfl rfl rfl ?_
      refine gl_val (ov_move rfl) rfl rfl rfl ?_
      refine gl_val (ov_move rfl) rfl rfl rfl ?_
      refine gl_val (ov_index_us (j - 1) Try.underlying22 Try.sizeOf45 rfl rfl hv (by omega) (by omega)) rfl rfl rfl ?_
      refine gl_val (ov_load_us Try.isAgg45 rfl hv (by omega)) rfl rfl rfl ?_
      have hx1 := hv.get32 (j - 1)
      refine gl_val (ov_conv_u (k := .u32) (k' := .u64) (W := 18446744073709551616) Try.underlying45 Try.underlying23 rfl rfl rfl (by omega)) rfl rfl rfl ?_
      refine gl_val (ov_or_u (k := .u64) rfl rfl rfl (by simp only [ub]; omega) (by simp only [ub]; omega)) rfl rfl rfl ?_
      rw [or_shift (by omega) hx1]
      generalize ht : r * 4294967296 + xs.getD (j - 1) 0 = t at *
      have hq : t / b < 4294967296 := Nat.div_lt_of_lt_mul (by rw [← ht]; have h1 : (r + 1) * 4294967296 ≤ b * 4294967296 := Nat.mul_le_mul_right _ hr; omega)
      refine gl_val (ov_assign rfl) rfl rfl rfl ?_
      refine gl_nil ?_
      refine gq_keep (e' := [(0, _), (1, _), (6, _), (8, _), (7, _)]) ⟨rfl, rfl, rfl, rfl, rfl, trivial⟩ ?_
      refine gq_then ?_
      refine gc_seq ?_
      refine gc_region ?_  -- region 7 (line 134)
      refine gl_val (ov_move rfl) rfl rfl rfl ?_
      refine gl_val (ov_move rfl) rfl rfl rfl ?_
      refine gl_val (ov_move rfl) rfl rfl rfl ?_
      refine gl_val (ov_move rfl) rfl rfl rfl ?_
      refine gl_val (ov_conv_u (k := .u32) (k' := .u64) (W := 18446744073709551616) Try.underlying45 Try.underlying23 rfl rfl rfl (by omega)) rfl rfl rfl ?_
      refine gl_val (ov_quo_u (k := .u64) (W := 18446744073709551616) rfl rfl rfl rfl (by omega) (by omega)) rfl rfl rfl ?_
      refine gl_val (ov_conv_u (k := .u64) (k' := .u32) (W := 4294967296) Try.underlying23 Try.underlying45 rfl rfl rfl (by omega)) rfl rfl rfl ?_
      refine gl_val (ov_index_ous (A := []) (j - 1) Try.underlying22 Try.sizeOf45 rfl rfl (by omega) (by rw [length_fillDn]; omega)) rfl rfl rfl ?_
      refine gl_store_ous0 Try.sizeOf45 rfl rfl (by rw [length_fillDn]; omega) ?_
      refine gl_nil ?_
      refine gq_keep (e' := [(0, _), (1, _), (6, _), (8, _), (7, _)]) ⟨rfl, rfl, rfl, rfl, rfl, trivial⟩ ?_
      refine gq_then ?_
      refine gc_region ?_  -- region 8 (line 135)
      refine gl_val (ov_move rfl) rfl rfl rfl ?_
      refine gl_val (ov_move rfl) rfl rfl rfl ?_
      refine gl_val (ov_conv_u (k := .u32) (k' := .u64) (W := 18446744073709551616) Try.underlying45 Try.underlying23 rfl rfl rfl (by omega)) rfl rfl rfl ?_
      refine gl_val (ov_rem_u (k := .u64) rfl rfl (by omega)) rfl rfl rfl ?_
      refine gl_val (ov_assign rfl) rfl rfl rfl ?_
      refine gl_nil ?_
      refine gq_in ?_
      refine gq_keep (e' := [(0, _), (1, _), (6, _), (8, _), (7, _)]) ⟨rfl, rfl, rfl, rfl, rfl, trivial⟩ ?_
      refine gq_then ?_
      refine gc_region ?_  -- region 5 (line 132)
      refine gl_val (ov_move rfl) rfl rfl rfl ?_
      refine gl_val (ov_sub_i (q := 1) rfl rfl (by omega) (by omega)) rfl rfl rfl ?_
      refine gl_val (ov_assign rfl) rfl rfl rfl ?_
      refine gl_nil ?_
      refine gq_round (j - 1, t / b :: qs, t % b) ?_ ?_ ⟨?_, ?_, ?_, ?_, ?_, trivial⟩ ?_ rfl
      · skip
        refine ⟨by omega, by simp only [List.length_cons]; omega, fit_cons.2 ⟨hq, hfq⟩, Nat.mod_lt _ hb, ?_⟩
        rw [val_drop xs (j - 1) (by omega), show j - 1 + 1 = j by omega, val]
        exact small_step hval ht.symm rfl rfl
      · skip
        dsimp only
        omega
      · exact rfl
      · exact rfl
      · exact rfl
      · exact rfl
      · exact congrArg some (congrArg vI (by omega))
      · skip
        try dsimp only [List.nil_append, List.cons_append]
        rw [fillDn_set (by omega)]
    · skip
      refine gc_keep (e' := [(6, _), (7, _)]) ⟨rfl, rfl, trivial⟩ ?_
      refine gc_exit ?_
      refine gx_then ?_
      refine gx_then ?_
      refine gx_here ?_
      refine gq_then ?_
      refine gc_seq ?_
      refine gc_region ?_  -- region 9 (line 137)
      refine gl_val (ov_move rfl) rfl rfl rfl ?_
      have hj0 : j = 0 := by omega
      subst hj0
      rw [fillDn_zero]
      refine gl_freeze_us0 (by exact hfq) ?_
      intro h1 hh1 ho
      replace hv := hv.mono hh1
      refine gl_call (vs := [_]) rfl rfl rfl rfl Try.call39 ⟨rfl, trivial⟩ (fun w hs => ref_trim hs ho (by omega)) ?_
      intro v40 h2 hh2 hr40
      replace hv := hv.mono hh2
      replace ho := ho.mono hh2
      refine gl_val (ov_move rfl) rfl rfl rfl ?_
      refine gl_val (ov_conv_u (k := .u64) (k' := .u32) (W := 4294967296) Try.underlying23 Try.underlying45 rfl rfl rfl (by omega)) rfl rfl rfl ?_
      refine gl_val (ov_assign rfl) rfl rfl rfl ?_
      refine gl_val (ov_assign rfl) rfl rfl rfl ?_
      refine gl_nil ?_
      refine gq_keep (e' := [(4, _), (5, _)]) ⟨rfl, rfl, trivial⟩ ?_
      refine gq_then ?_
      refine gc_ret ?_
      refine gq_body2 rfl rfl rfl ?_
      simp only [List.drop_zero] at hval
      have e1 : val xs / b = val qs := by rw [hval, Nat.mul_add_div hb, Nat.div_eq_of_lt hr]; omega
      have e2 : val xs % b = r := by rw [hval, Nat.mul_add_mod, Nat.mod_eq_of_lt hr]
      rw [e1, e2]
      exact ⟨_, rfl, hr40⟩

theorem ref_text {w0 : World} {h0 : Mem}  (hs : MLe h0 (mem w0)) {v : Value} {X : Nat} (hv : Us .u32 h0 v (limbs X)) (hl : (limbs X).length ≤ 1099511627776) :
    Calls Try.prog 30 #[v] w0 (Ret w0 h0 (fun _ r => r = .string (strOf (txt X)))) := by
  have hcl := chLE_len (fit_limbs X)
  rw [val_limbs] at hcl
  refine calls_begin (n := 65) (e := [(0, v)]) (vs := [v]) Try.func30 rfl rfl (Nat.le_of_ble_eq_true rfl) hs ⟨rfl, trivial⟩ ?_
  refine gc_seq ?_
  refine gc_region ?_  -- region 0 (line 253)
  refine gl_val (ov_assign rfl) rfl rfl rfl ?_
  refine gl_nil ?_
  refine gq_keep (e' := [(0, _)]) ⟨rfl, trivial⟩ ?_
  refine gq_then ?_
  refine gc_seq ?_
  refine gc_seq ?_
  refine gc_region ?_  -- region 1 (line 254)
  refine gl_val (ov_move rfl) rfl rfl rfl ?_
  refine gl_val (ov_len_us Try.underlying22 rfl hv) rfl rfl rfl ?_
  refine gl_val (ov_eql_i (q := 0) rfl rfl) rfl rfl rfl ?_
  refine gl_nil ?_
  refine gq_keep (e' := [(0, _), (11, _)]) ⟨rfl, rfl, trivial⟩ ?_
  refine gq_then ?_
  refine gc_cond rfl (fun hc11 => ?_) (fun hc11 => ?_)
  · skip
    have hz0 : (limbs X).length = 0 := by omega
    refine gc_keep (e' := []) trivial ?_
    refine gc_seq ?_
    refine gc_region ?_  -- region 2 (line 255)
    refine gl_val (ov_assign rfl) rfl rfl rfl ?_
    refine gl_nil ?_
    refine gq_then ?_
    refine gc_ret ?_
    refine gr_then ?_
    refine gq_body1 rfl rfl ?_
    have e : X = 0 := Classical.byContradiction fun hne => by have := limbs_len_pos.2 hne; omega
    rw [e]; rfl
  · skip
    have hnz : (limbs X).length ≠ 0 := by omega
    refine gc_keep (e' := [(0, _)]) ⟨rfl, trivial⟩ ?_
    refine gc_skip ?_
    refine gq_then ?_
    refine gc_seq ?_
    refine gc_region ?_  -- region 3 (line 257)
    refine gl_val (ov_assign (v := .slice none 0 0) rfl) rfl rfl rfl ?_
    refine gl_addnil (E := 5) (k := .u8) ?_
    refine gl_nil ?_
    refine gq_then ?_
    refine gc_seq ?_
    refine gc_block ?_
    refine gc_loop (ι := Value × Nat × Value × List Nat × Mem) (fun (x_ : (Value × Nat × Value × List Nat × Mem)) => match x_ with | (va, n, vo, ds, hm1) => MLe h0 hm1 ∧ (Us .u32 hm1 va (limbs n) ∧ n ≤ X ∧ ds ++ chLE n = chLE (X))) (fun (x_ : (Value × Nat × Value × List Nat × Mem)) => match x_ with | (va, n, vo, ds, hm1) => [(0, va), (3, vo)]) (fun (x_ : (Value × Nat × Value × List Nat × Mem)) => match x_ with | (va, n, vo, ds, hm1) => [.us 5 .u8 vo ds]) (fun (x_ : (Value × Nat × Value × List Nat × Mem)) => match x_ with | (va, n, vo, ds, hm1) => hm1) (fun (x_ : (Value × Nat × Value × List Nat × Mem)) => match x_ with | (va, n, vo, ds, hm1) => n) (v, X, .slice none 0 0, [], h0) ?_ ⟨rfl, rfl, trivial⟩ rfl rfl ?_
    · skip
      refine ⟨MLe.refl _, ?_⟩
      exact ⟨hv, Nat.le_refl _, rfl⟩
    · skip
      intro x hx
      obtain ⟨va, n, vo, ds, hm1⟩ := x
      obtain ⟨hmhm1, ⟨ha, hnle, hds⟩⟩ := hx
      replace hv := hv.mono hmhm1
      show GC _ _ _ _ _ _ [(0, va), (3, vo)] [.us 5 .u8 vo ds] hm1
      have hlln : (limbs n).length ≤ (limbs X).length := limbs_len_mono hnle
      refine gc_seq ?_
      refine gc_seq ?_
      refine gc_region ?_  -- region 4 (line 258)
      refine gl_val (ov_move rfl) rfl rfl rfl ?_
      refine gl_val (ov_len_us Try.underlying22 rfl ha) rfl rfl rfl ?_
      refine gl_val (ov_gtr_i (q := 0) rfl rfl) rfl rfl rfl ?_
      refine gl_nil ?_
      refine gq_keep (e' := [(0, _), (3, _), (14, _)]) ⟨rfl, rfl, rfl, trivial⟩ ?_
      refine gq_then ?_
      refine gc_cond rfl (fun hc14 => ?_) (fun hc14 => ?_)
      · skip
        refine gc_keep (e' := [(0, _), (3, _)]) ⟨rfl, rfl, trivial⟩ ?_
        refine gc_skip ?_
        refine gq_then ?_
        refine gc_block ?_
        refine gc_seq ?_
        refine gc_region ?_  -- region 5 (line 259)
        refine gl_val (ov_move rfl) rfl rfl rfl ?_
        refine gl_call (vs := [_, vU .u32 1000000000]) rfl rfl rfl rfl Try.call48 ⟨rfl, rfl, trivial⟩ (fun w hs => ref_bylimb hs ha (by omega) (by omega) (by omega)) ?_
        intro v17 h1 hh1 hr17
        replace hv := hv.mono hh1
        replace ha := ha.mono hh1
        obtain ⟨u17, rfl, hu17⟩ := hr17
        rw [val_limbs] at hu17 ⊢
        refine gl_val (ov_move rfl) rfl rfl rfl ?_
        refine gl_val (ov_extract (vs := [_, _]) rfl rfl) rfl rfl rfl ?_
        refine gl_val (ov_extract (vs := [_, _]) rfl rfl) rfl rfl rfl ?_
        refine gl_val (ov_assign rfl) rfl rfl rfl ?_
        refine gl_val (ov_assign rfl) rfl rfl rfl ?_
        refine gl_nil ?_
        refine gq_keep (e' := [(3, _), (4, _), (5, _)]) ⟨rfl, rfl, rfl, trivial⟩ ?_
        refine gq_then ?_
        refine gc_seq ?_
        refine gc_seq ?_
        refine gc_region ?_  -- region 6 (line 260)
        refine gl_val (ov_assign (v := vI (0)) rfl) rfl rfl rfl ?_
        refine gl_nil ?_
        refine gq_then ?_
        refine gc_block ?_
        refine gc_loop (ι := Nat × Nat × Value × List Nat × Mem) (fun (x_ : (Nat × Nat × Value × List Nat × Mem)) => match x_ with | (i, x, vo2, ds2, hm2) => MLe h1 hm2 ∧ (i ≤ 9 ∧ x < 10 ^ (9 - i) ∧ ds2 ++ chLE (x + 10 ^ (9 - i) * (n / 1000000000)) = chLE (X))) (fun (x_ : (Nat × Nat × Value × List Nat × Mem)) => match x_ with | (i, x, vo2, ds2, hm2) => [(3, vo2), (4, u17), (5, vU .u32 x), (6, vI ↑i)]) (fun (x_ : (Nat × Nat × Value × List Nat × Mem)) => match x_ with | (i, x, vo2, ds2, hm2) => [.us 5 .u8 vo2 ds2]) (fun (x_ : (Nat × Nat × Value × List Nat × Mem)) => match x_ with | (i, x, vo2, ds2, hm2) => hm2) (fun (x_ : (Nat × Nat × Value × List Nat × Mem)) => match x_ with | (i, x, vo2, ds2, hm2) => 9 - i) (0, n % 1000000000, vo, ds, h1) ?_ ⟨rfl, rfl, rfl, rfl, trivial⟩ rfl rfl ?_
        · skip
          refine ⟨MLe.refl _, ?_⟩
          exact ⟨by omega, by omega, by rw [← hds]; congr 2; omega⟩
        · skip
          intro x hx
          obtain ⟨i, x, vo2, ds2, hm2⟩ := x
          obtain ⟨hmhm2, ⟨hi, hxb, hds2⟩⟩ := hx
          replace hv := hv.mono hmhm2
          replace ha := ha.mono hmhm2
          replace hu17 := hu17.mono hmhm2
          show GC _ _ _ _ _ _ [(3, vo2), (4, u17), (5, vU .u32 x), (6, vI ↑i)] [.us 5 .u8 vo2 ds2] hm2
          have hxm : x < 4294967296 := Nat.lt_of_lt_of_le hxb (Nat.le_trans (Nat.pow_le_pow_right (by omega) (show 9 - i ≤ 9 by omega)) (by decide))
          refine gc_seq ?_
          refine gc_seq ?_
          refine gc_region ?_  -- region 7 (line 260)
          refine gl_val (ov_move rfl) rfl rfl rfl ?_
          refine gl_val (ov_lss_i (q := 9) rfl rfl) rfl rfl rfl ?_
          refine gl_cut (ι := Unit) 9 (fun _ => True) (fun _ => [(30, vB (((i : Int) < 9) ∧ (0 < x ∨ (0 : Int) < ↑(limbs (n / 1000000000)).length))), (3, vo2), (4, u17), (5, vU .u32 x), (6, vI ↑i)]) (fun _ => [.us 5 .u8 vo2 ds2]) (fun _ => hm2) ?_ ?_
          · skip
            refine gl_cases ((i : Int) < 9) (fun hg => ?_) (fun hg => ?_)
            · skip
              refine gl_val (ov_move (v := .bool true) (congrArg some (vB_true hg))) rfl rfl rfl ?_
              refine gl_on rfl rfl rfl ?_
              refine gl_val (ov_move rfl) rfl rfl rfl ?_
              refine gl_on rfl rfl rfl ?_
              refine gl_val (ov_gtr_u (k := .u32) (q := 0) rfl rfl) rfl rfl rfl ?_
              refine gl_cut (ι := Unit) 5 (fun _ => True) (fun _ => [(29, vB ((0 < x) ∨ ((0 : Int) < ↑(limbs (n / 1000000000)).length))), (3, vo2), (4, u17), (5, vU .u32 x), (6, vI ↑i), (22, .bool true)]) (fun _ => [.us 5 .u8 vo2 ds2]) (fun _ => hm2) ?_ ?_
              · skip
                refine gl_cases (0 < x) (fun hg => ?_) (fun hg => ?_)
                · skip
                  refine gl_on rfl rfl rfl ?_
                  refine gl_val (ov_move (v := .bool true) (congrArg some (vB_true hg))) rfl rfl rfl ?_
                  refine gl_off rfl rfl rfl rfl rfl rfl ?_
                  refine gl_off rfl rfl rfl rfl rfl rfl ?_
                  refine gl_off rfl rfl rfl rfl rfl rfl ?_
                  refine gl_on rfl rfl rfl ?_
                  refine gl_val (ov_pick_t rfl rfl) rfl rfl rfl ?_
                  refine gl_nil ?_
                  refine gq_cut () trivial ⟨?_, rfl, rfl, rfl, rfl, rfl, trivial⟩ rfl rfl
                  exact congrArg some (vB_or_t hg)
                · skip
                  refine gl_on rfl rfl rfl ?_
                  refine gl_val (ov_move (v := .bool false) (congrArg some (vB_false hg))) rfl rfl rfl ?_
                  refine gl_on rfl rfl rfl ?_
                  refine gl_val (ov_move rfl) rfl rfl rfl ?_
                  refine gl_on rfl rfl rfl ?_
                  refine gl_val (ov_len_us Try.underlying22 rfl hu17) rfl rfl rfl ?_
                  refine gl_on rfl rfl rfl ?_
                  refine gl_val (ov_gtr_i (q := 0) rfl rfl) rfl rfl rfl ?_
                  refine gl_on rfl rfl rfl ?_
                  refine gl_val (ov_pick_f rfl rfl) rfl rfl rfl ?_
                  refine gl_nil ?_
                  refine gq_cut () trivial ⟨?_, rfl, rfl, rfl, rfl, rfl, trivial⟩ rfl rfl
                  exact congrArg some (vB_or_f hg)
              · skip
                intro _ _
                show GL _ _ _ _ _ _ _ [(29, vB ((0 < x) ∨ ((0 : Int) < ↑(limbs (n / 1000000000)).length))), (3, vo2), (4, u17), (5, vU .u32 x), (6, vI ↑i), (22, .bool true)] [.us 5 .u8 vo2 ds2] hm2
                refine gl_val (ov_pick_t rfl rfl) rfl rfl rfl ?_
                refine gl_nil ?_
                refine gq_cut () trivial ⟨?_, rfl, rfl, rfl, rfl, trivial⟩ rfl rfl
                exact congrArg some (vB_and_t hg)
            · skip
              refine gl_val (ov_move (v := .bool false) (congrArg some (vB_false hg))) rfl rfl rfl ?_
              refine gl_off rfl rfl rfl rfl rfl rfl ?_
              refine gl_off rfl rfl rfl rfl rfl rfl ?_
              refine gl_off rfl rfl rfl rfl rfl rfl ?_
              refine gl_offu rfl rfl rfl rfl rfl ?_
              refine gl_offu rfl rfl rfl rfl rfl ?_
              refine gl_offu rfl rfl rfl rfl rfl ?_
              refine gl_off rfl rfl rfl rfl rfl rfl ?_
              refine gl_val (ov_pick_f rfl rfl) rfl rfl rfl ?_
              refine gl_nil ?_
              refine gq_cut () trivial ⟨?_, rfl, rfl, rfl, rfl, trivial⟩ rfl rfl
              exact congrArg some (vB_and_f hg)
          · skip
            intro _ _
            show GL _ _ _ _ _ _ _ [(30, vB (((i : Int) < 9) ∧ (0 < x ∨ (0 : Int) < ↑(limbs (n / 1000000000)).length))), (3, vo2), (4, u17), (5, vU .u32 x), (6, vI ↑i)] [.us 5 .u8 vo2 ds2] hm2
            refine gl_nil ?_
            refine gq_then ?_
            refine gc_cond rfl (fun hc30 => ?_) (fun hc30 => ?_)
            · skip
              have hdl2 : ds2.length ≤ (chLE (X)).length := by rw [← hds2]; simp
              refine gc_keep (e' := [(3, _), (4, _), (5, _), (6, _)]) ⟨rfl, rfl, rfl, rfl, trivial⟩ ?_
              refine gc_skip ?_
              refine gq_then ?_
              refine gc_seq ?_
              refine gc_block ?_
              refine gc_seq ?_
              refine gc_region ?_  -- region 9 (line 261)
              refine gl_val (ov_move rfl) rfl rfl rfl ?_
              refine gl_val (ov_move rfl) rfl rfl rfl ?_
              refine gl_val (ov_rem_u (k := .u32) (q := 10) rfl rfl (by omega)) rfl rfl rfl ?_
              refine gl_val (ov_add_u (k := .u32) (p := 48) (W := 4294967296) rfl rfl rfl rfl (by omega)) rfl rfl rfl ?_
              refine gl_val (ov_conv_u (k := .u32) (k' := .u8) (W := 256) Try.underlying45 Try.underlying5 rfl rfl rfl (by omega)) rfl rfl rfl ?_
              refine gl_newop (new_build1 (kd := .u8) Try.underlying49 info5 rfl rfl rfl) rfl rfl rfl ?_
              intro v38 r38 hr38
              obtain rfl := hr38
              refine gl_freeze_us0 (by intro z hz; simp only [List.mem_singleton] at hz; subst hz; simp only [ub]; omega) ?_
              intro h2 hh2 hch
              replace hv := hv.mono hh2
              replace ha := ha.mono hh2
              replace hu17 := hu17.mono hh2
              refine gl_repop (A := []) (rep_append_us (kd := .u8) (bytes := 1) Try.underlying49 info5 rfl rfl rfl rfl rfl hch (by simp only [List.length_singleton]; omega) (by simp only [List.length_singleton]; omega)) rfl rfl rfl ?_
              intro v39 r39 hr39
              obtain rfl := hr39
              refine gl_val (ov_assign rfl) rfl rfl rfl ?_
              refine gl_nil ?_
              refine gq_keep (e' := [(4, _), (5, _), (6, _), (3, _)]) ⟨rfl, rfl, rfl, rfl, trivial⟩ ?_
              refine gq_then ?_
              refine gc_region ?_  -- region 10 (line 262)
              refine gl_val (ov_move rfl) rfl rfl rfl ?_
              refine gl_val (ov_quo_u (k := .u32) (q := 10) (W := 4294967296) rfl rfl rfl rfl (by omega) (by omega)) rfl rfl rfl ?_
              refine gl_val (ov_assign rfl) rfl rfl rfl ?_
              refine gl_nil ?_
              refine gq_in ?_
              refine gq_keep (e' := [(4, _), (6, _), (3, _), (5, _)]) ⟨rfl, rfl, rfl, rfl, trivial⟩ ?_
              refine gq_then ?_
              refine gc_region ?_  -- region 8 (line 260)
              refine gl_val (ov_move rfl) rfl rfl rfl ?_
              refine gl_val (ov_add_i (q := 1) rfl rfl (by omega) (by omega)) rfl rfl rfl ?_
              refine gl_val (ov_assign rfl) rfl rfl rfl ?_
              refine gl_nil ?_
              refine gq_round (i + 1, x / 10, v39, ds2 ++ [48 + x % 10], h2) ?_ ?_ ⟨?_, ?_, ?_, ?_, trivial⟩ ?_ rfl
              · skip
                refine ⟨(hmhm2.trans hh2), ?_⟩
                obtain ⟨h9, hor⟩ := hc30
                obtain ⟨k, hk⟩ : ∃ k, 9 - i = k + 1 := ⟨8 - i, by omega⟩
                have hln := limbs_len_pos (n := n / 1000000000)
                refine ⟨by omega, ?_, ?_⟩
                · rw [show 9 - (i + 1) = k by omega]
                  rw [hk, Nat.pow_succ] at hxb
                  omega
                · rw [show 9 - (i + 1) = k by omega]
                  rw [hk, chLE_step (by omega)] at hds2
                  rw [List.append_assoc]
                  exact hds2
              · skip
                dsimp only
                omega
              · exact rfl
              · exact rfl
              · exact rfl
              · exact rfl
              · exact rfl
            · skip
              refine gc_keep (e' := [(3, _), (4, _)]) ⟨rfl, rfl, trivial⟩ ?_
              refine gc_exit ?_
              refine gx_then ?_
              refine gx_then ?_
              refine gx_here ?_
              refine gq_then ?_
              refine gc_region ?_  -- region 11 (line 264)
              refine gl_val (ov_move rfl) rfl rfl rfl ?_
              refine gl_val (ov_assign rfl) rfl rfl rfl ?_
              refine gl_nil ?_
              refine gq_in ?_
              refine gq_round (u17, n / 1000000000, vo2, ds2, hm2) ?_ ?_ ⟨?_, ?_, trivial⟩ ?_ rfl
              · skip
                refine ⟨((hmhm1.trans hh1).trans hmhm2), ?_⟩
                refine ⟨hu17, by omega, ?_⟩
                rw [← hds2]
                congr 2
                by_cases h9 : i = 9
                · subst h9; simp at hxb ⊢; omega
                · have h1 : ¬ (0 < x ∨ (0 : Int) < ↑(limbs (n / 1000000000)).length) := fun h => hc30 ⟨by omega, h⟩
                  have h2 : n / 1000000000 = 0 := Classical.byContradiction fun hne => h1 (.inr (by have := limbs_len_pos.2 hne; omega))
                  rw [h2, show x = 0 by omega, Nat.mul_zero]
              · skip
                dsimp only
                have := limbs_len_pos (n := n); omega
              · exact rfl
              · exact rfl
              · exact rfl
      · skip
        have hn0 : n = 0 := Classical.byContradiction fun hne => hc14 (by have := limbs_len_pos.2 hne; omega)
        subst hn0
        rw [chLE_zero, List.append_nil] at hds
        have hdl0 : ds.length ≤ 10 * (limbs X).length := by rw [hds]; exact hcl
        refine gc_keep (e' := [(3, _)]) ⟨rfl, trivial⟩ ?_
        refine gc_exit ?_
        refine gx_then ?_
        refine gx_then ?_
        refine gx_here ?_
        refine gq_then ?_
        refine gc_seq ?_
        refine gc_region ?_  -- region 12 (line 266)
        refine gl_val (ov_move rfl) rfl rfl rfl ?_
        refine gl_val (ov_len_ous (A := []) Try.underlying49 rfl) rfl rfl rfl ?_
        refine gl_make_us (kd := .u8) (by' := 1) (ds.length) Try.underlying49 info5 rfl rfl rfl rfl rfl (by omega) (by omega) (by omega) (by omega) rfl ?_
        intro v45
        refine gl_val (ov_assign rfl) rfl rfl rfl ?_
        refine gl_nil ?_
        refine gq_keep (e' := [(3, _), (7, _)]) ⟨rfl, rfl, trivial⟩ ?_
        refine gq_then ?_
        refine gc_seq ?_
        refine gc_seq ?_
        refine gc_region ?_  -- region 13 (line 267)
        refine gl_val (ov_assign (v := vI (0)) rfl) rfl rfl rfl ?_
        refine gl_nil ?_
        refine gq_then ?_
        refine gc_block ?_
        refine gc_loop (ι := Nat) (fun (k : (Nat)) => k ≤ ds.length) (fun (k : (Nat)) => [(3, vo), (7, v45), (8, vI ↑k)]) (fun (k : (Nat)) => [.us 5 .u8 v45 (fillDn (ds.length - k) (ds.take k).reverse), .us 5 .u8 vo ds]) (fun (k : (Nat)) => hm1) (fun (k : (Nat)) => ds.length - k) 0 ?_ ⟨rfl, rfl, rfl, trivial⟩ ?_ rfl ?_
        · skip
          exact Nat.zero_le _
        · skip
          try dsimp only [List.nil_append, List.cons_append]
          exact congrArg (fun z => [Res.us 5 .u8 v45 z, Res.us 5 .u8 vo ds]) (fillDn_nil _)
        · skip
          intro k hx
          obtain hk := hx
          show GC _ _ _ _ _ _ [(3, vo), (7, v45), (8, vI ↑k)] [.us 5 .u8 v45 (fillDn (ds.length - k) (ds.take k).reverse), .us 5 .u8 vo ds] hm1
          refine gc_seq ?_
          refine gc_seq ?_
          refine gc_region ?_  -- region 14 (line 267)
          refine gl_val (ov_move rfl) rfl rfl rfl ?_
          refine gl_val (ov_move rfl) rfl rfl rfl ?_
          refine gl_val (ov_len_ous (A := [_]) Try.underlying49 rfl) rfl rfl rfl ?_
          refine gl_val (ov_lss_i rfl rfl) rfl rfl rfl ?_
          refine gl_nil ?_
          refine gq_keep (e' := [(3, _), (7, _), (8, _), (49, _)]) ⟨rfl, rfl, rfl, rfl, trivial⟩ ?_
          refine gq_then ?_
          refine gc_cond rfl (fun hc49 => ?_) (fun hc49 => ?_)
          · skip
            refine gc_keep (e' := [(3, _), (7, _), (8, _)]) ⟨rfl, rfl, rfl, trivial⟩ ?_
            refine gc_skip ?_
            refine gq_then ?_
            refine gc_seq ?_
            refine gc_block ?_
            refine gc_region ?_  -- region 16 (line 268)
            refine gl_val (ov_move rfl) rfl rfl rfl ?_
            refine gl_val (ov_move rfl) rfl rfl rfl ?_
            refine gl_val (ov_len_ous (A := [_]) Try.underlying49 rfl) rfl rfl rfl ?_
            refine gl_val (ov_sub_i (q := 1) rfl rfl (by omega) (by omega)) rfl rfl rfl ?_
            refine gl_val (ov_move rfl) rfl rfl rfl ?_
            refine gl_val (ov_sub_i rfl rfl (by omega) (by omega)) rfl rfl rfl ?_
            refine gl_val (ov_move rfl) rfl rfl rfl ?_
            refine gl_val (ov_move rfl) rfl rfl rfl ?_
            refine gl_val (ov_index_ous (A := [_]) (k) Try.underlying49 Try.sizeOf5 rfl rfl (by omega) (by omega)) rfl rfl rfl ?_
            refine gl_val (ov_load_ous (A := [_]) Try.isAgg5 rfl (by omega)) rfl rfl rfl ?_
            refine gl_val (ov_index_ous (A := []) (ds.length - k - 1) Try.underlying49 Try.sizeOf5 rfl rfl (by omega) (by rw [length_fillDn, List.length_reverse, List.length_take]; omega)) rfl rfl rfl ?_
            refine gl_store_ous0 Try.sizeOf5 rfl rfl (by rw [length_fillDn, List.length_reverse, List.length_take]; omega) ?_
            refine gl_nil ?_
            refine gq_in ?_
            refine gq_keep (e' := [(3, _), (7, _), (8, _)]) ⟨rfl, rfl, rfl, trivial⟩ ?_
            refine gq_then ?_
            refine gc_region ?_  -- region 15 (line 267)
            refine gl_val (ov_move rfl) rfl rfl rfl ?_
            refine gl_val (ov_add_i (q := 1) rfl rfl (by omega) (by omega)) rfl rfl rfl ?_
            refine gl_val (ov_assign rfl) rfl rfl rfl ?_
            refine gl_nil ?_
            refine gq_round (k + 1) ?_ ?_ ⟨?_, ?_, ?_, trivial⟩ ?_ rfl
            · skip
              omega
            · skip
              omega
            · exact rfl
            · exact rfl
            · exact rfl
            · skip
              try dsimp only [List.nil_append, List.cons_append]
              rw [fillDn_set (by omega), take_succ ds k (by omega), List.reverse_append, List.reverse_singleton, List.singleton_append, Nat.sub_sub]
          · skip
            refine gc_keep (e' := [(7, _)]) ⟨rfl, trivial⟩ ?_
            refine gc_exit ?_
            refine gx_then ?_
            refine gx_then ?_
            refine gx_here ?_
            refine gq_then ?_
            refine gc_seq ?_
            refine gc_region ?_  -- region 17 (line 270)
            refine gl_val (ov_move rfl) rfl rfl rfl ?_
            have hk2 : k = ds.length := by omega
            rw [hk2, Nat.sub_self, fillDn_zero, List.take_length]
            refine gl_freeze_us0 (by intro z hz; rw [hds] at hz; exact chLE_lt _ z (List.mem_reverse.1 hz)) ?_
            intro h1 hh1 hfin
            replace hv := hv.mono hh1
            replace ha := ha.mono hh1
            refine gl_val (ov_bytes_str Try.underlying49 Try.underlying5 Try.underlying9 rfl hfin) rfl rfl rfl ?_
            refine gl_val (ov_assign rfl) rfl rfl rfl ?_
            refine gl_nil ?_
            refine gq_keep (e' := [(2, _)]) ⟨rfl, trivial⟩ ?_
            refine gq_then ?_
            refine gc_ret ?_
            refine gq_body1 rfl rfl ?_
            have e : X ≠ 0 := limbs_len_pos.1 (by omega)
            rw [txt, if_neg e, ← hds]

end Go.Proofs.Ytoionddicppahaa
