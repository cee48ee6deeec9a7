/- Texts that the proof needs, part 5. -/
import Derived.Test.YtfpjclgbieppeaaGreatK4


namespace Go.Proofs.YtfpjclgbieppeaaGreat
open Bk Go
set_option linter.unusedVariables false
set_option linter.unusedSimpArgs false
set_option maxRecDepth 10000

theorem o_made_corners {w0 : World} {h0 : Mem}  (hs : MLe h0 (mem w0)) {x : Int} (hx1 : -9223372036854775808 ≤ x) (hx2 : x < 9223372036854775808) {y : Int} (hy1 : -9223372036854775808 ≤ y) (hy2 : y < 9223372036854775808) {vl : Value} {l : (List Int)} (rl : (rpS rpI).Is h0 vl l) (hcd0 : -9 ≤ x ∧ x ≤ 9) (hcd1 : -9 ≤ y ∧ y ≤ 9) (hcd2 : l.length ≤ 100) (hcd3 : ∀ v, v ∈ l → -9 ≤ v ∧ v ≤ 9)  :
    Calls Tryz.prog 52 #[vI x, vI y, vl] w0 (Ret w0 h0 (fun h r => (rpS (rpT (rpQ 2))).Is h r (corn x y l (l.length / 2)))) := by
 refine calls_begin (n := 36) (e := [(0, vI x), (1, vI y), (2, vl)]) (vs := [vI x, vI y, vl]) Tryz.func52 rfl rfl (Nat.le_of_ble_eq_true rfl) hs ⟨rfl, rfl, rfl, trivial⟩ (gc_seq (gc_region (asg rfl rfl (gl_nil (gq_then (gc_seq (gc_region (asg rfl rfl (gl_nil (gq_then (gc_seq (gc_seq (gc_region ?_)))))))))))))
 refine asg (v := vI (0)) rfl rfl (gl_nil (gq_then (gc_block (gc_nilown 33 9 ?_))))
 have rl_1 : RL (rpT (rpQ 2)) h0 [] ([] : List (T3 Rat)) := RL.nil
 refine gc_loop (ι := Nat × Value × List Value × Mem) (fun (x_ : (Nat × Value × List Value × Mem)) => match x_ with | (m, s7_2, cs_3, ma) => MLe h0 ma ∧ (RL (rpT (rpQ 2)) ma cs_3 (corn x y l m) ∧ 2 * m ≤ l.length)) (fun (x_ : (Nat × Value × List Value × Mem)) => match x_ with | (m, s7_2, cs_3, ma) => [(0, vI x), (1, vI y), (2, vl), (7, s7_2), (8, vI ↑(2 * m))]) (fun (x_ : (Nat × Value × List Value × Mem)) => match x_ with | (m, s7_2, cs_3, ma) => [.gs 33 9 s7_2 (corn x y l m).length cs_3]) (fun (x_ : (Nat × Value × List Value × Mem)) => match x_ with | (m, s7_2, cs_3, ma) => ma) (fun (x_ : (Nat × Value × List Value × Mem)) => match x_ with | (m, s7_2, cs_3, ma) => l.length - m) (0, (.slice none 0 0), [], h0) ?_ ⟨rfl, rfl, rfl, rfl, rfl, trivial⟩ rfl rfl ?_
 ·
  refine ⟨MLe.refl _, ?_⟩
  refine ⟨rl_1, ?_⟩
  exact (by omega)
 ·
  intro x hx
  obtain ⟨m, s7_2, cs_3, ma⟩ := x
  obtain ⟨hmma, hinv⟩ := hx
  show GC _ _ _ _ _ _ [(0, vI x), (1, vI y), (2, vl), (7, s7_2), (8, vI ↑(2 * m))] [.gs 33 9 s7_2 (corn x y l m).length cs_3] ma
  obtain ⟨rl_4, hinv⟩ := hinv
  have hm1 := hinv
  have hcl := corn_len x y l m
  refine gc_seq (gc_seq (gc_region (mv rfl rfl (gv (ov_add_i (q := 1) rfl rfl (by omega) (by omega)) rfl (mv rfl rfl ?_)))))
  replace rl := rl.mono hmma
  refine gv (ov_len_sr Tryz.underlying22 rfl rl) rfl (gv (ov_lss_i rfl rfl) rfl (gl_nil (gq_then ?_)))
  refine gc_cond rfl (fun hc13 => ?_) (fun hc13 => ?_)
  ·
   refine gc_skip (gq_then (gc_seq (gc_block ?_)))
   refine gc_draw1 (A := []) 20 [] [(0, .q), (1, .q), (2, .q), (3, .q), (4, .q), (5, .q), (6, .q), (8, .q), (9, .q), (10, .q), (11, .q), (12, .q), (13, .q), (14, .q), (7, .c), (15, .c), (16, .q), (17, .c), (18, .c), (19, .q)] mixed (fun x hx => by cases hx) (chk_of [0, 0, 0, 0, 12, 16, 34, 64, 0, 0, 0, 1024, 2560, 4096, 8448, 16512, 32896, 65536, 163841, 524287] [1048575, 1048575, 1048575, 1048575, 1048563, 1048559, 1048541, 1048511, 1048575, 1048575, 1048575, 1047551, 1046015, 1044479, 1040127, 1032191, 1015679, 983039, 917502, 786430] (by kernel_rfl)) (fun x hx => by cases hx) (w_q rfl (fun h' L' hh hR => ov_move rfl) rfl (w_q rfl (fun h' L' hh hR => ov_move rfl) rfl (w_q rfl (fun h' L' hh hR => ov_move rfl) rfl (w_q rfl (fun h' L' hh hR => ov_move rfl) rfl (w_qx (F := fun v_ => AtP rpI ma v_ (l.getD (2 * m) (0 : Int))) rfl (ox_idx_s (0 : Int) (2 * m) Tryz.underlying22 ty3 rfl rfl rl (by rfl) (by omega) (show 0 < 1 from by decide)) mem0 rfl ?_)))))
   intro v20 r20
   refine w_qx (F := fun v_ => rpI.Is ma v_ (l.getD (2 * m) (0 : Int))) rfl (ox_load_at ty3 rfl r20) mem0 rfl ?_
   intro v21 r21
   obtain ⟨rfl, hl21, hu21⟩ := of_i r21
   refine w_q rfl (fun h' L' hh hR => ov_add_i rfl rfl (by have := getD_b (by assumption) (2 * m); omega) (by have := getD_b (by assumption) (2 * m); omega)) rfl (w_q rfl (fun h' L' hh hR => ov_move rfl) rfl (w_q rfl (fun h' L' hh hR => ov_move rfl) rfl (w_q rfl (fun h' L' hh hR => ov_move rfl) rfl (w_q rfl (fun h' L' hh hR => ov_add_i (q := 1) rfl rfl (by omega) (by omega)) rfl (w_qx (F := fun v_ => AtP rpI ma v_ (l.getD (2 * m + 1) (0 : Int))) rfl (ox_idx_s (0 : Int) (2 * m + 1) Tryz.underlying22 ty3 rfl rfl rl (by omega) (by omega) (show 0 < 1 from by decide)) mem0 rfl ?_)))))
   intro v28 r28
   refine w_qx (F := fun v_ => rpI.Is ma v_ (l.getD (2 * m + 1) (0 : Int))) rfl (ox_load_at ty3 rfl r28) mem0 rfl ?_
   intro v29 r29
   obtain ⟨rfl, hl29, hu29⟩ := of_i r29
   refine w_q rfl (fun h' L' hh hR => ov_add_i rfl rfl (by have := getD_b (by assumption) (2 * m + 1); omega) (by have := getD_b (by assumption) (2 * m + 1); omega)) rfl ?_
   refine w_c rfl ?_
   refine s_call (vs := [_]) Tryz.call32 ⟨rfl, trivial⟩ (fun w hs => o_rref_int hs (by have := getD_b (by assumption) (2 * m); omega) (by have := getD_b (by assumption) (2 * m); omega)) rfl ?_
   intro v23 h1 hh1 r23
   change (rpQ 2).Is h1 v23 (((x + (l.getD (2 * m) (0 : Int))) : Int) : Rat) at r23
   refine w_c rfl ?_
   refine s_call (vs := [_]) Tryz.call32 ⟨rfl, trivial⟩ (fun w hs => o_rref_int hs (by have := getD_b (by assumption) (2 * m + 1); omega) (by have := getD_b (by assumption) (2 * m + 1); omega)) rfl ?_
   intro v31 h2 hh2 r31
   change (rpQ 2).Is h2 v31 (((y + (l.getD (2 * m + 1) (0 : Int))) : Int) : Rat) at r31
   replace r23 := r23.mono hh2
   refine w_qx (F := fun v_ => (rpT (rpQ 2)).Is h2 v_ (T3.mk (((x + (l.getD (2 * m) (0 : Int))) : Int) : Rat) (((y + (l.getD (2 * m + 1) (0 : Int))) : Int) : Rat) (0 : Rat))) rfl (ox_build_arr (ps' := [(0, _), (1, _)]) Tryz.underlying33 info33 rfl rfl Tryz.sizeOf31 ⟨rfl, rfl, rfl, rfl, trivial⟩ rfl (zr_t (zr_q (by decide))) (fx_one rfl (Pc.tx (Pc.here _)) r23 (fx_one rfl (Pc.ty (Pc.here _)) r31 fx_nil))) mem0 rfl ?_
   intro v32 r32
   refine w_c rfl (s_new (fun X => new_buildx (ρ := (rpT (rpQ 2))) (m := 1) (xs := [(T3.mk (((x + (l.getD (2 * m) (0 : Int))) : Int) : Rat) (((y + (l.getD (2 * m + 1) (0 : Int))) : Int) : Rat) (0 : Rat))]) (ps' := [(0, _)]) Tryz.underlying36 info33 rfl rfl rfl (zr_t (zr_q (by decide))) ⟨rfl, rfl, trivial⟩ (fx_one rfl (Pc.arr (Pc.here _) (T3.mk (0 : Rat) (0 : Rat) (0 : Rat)) 0 (by decide)) r32 fx_nil) (show 1 * 9 ≤ 16777216 from by decide) (show 0 < 9 from by decide)) rfl ?_)
   intro v33 q33 hq33
   obtain ⟨cs33, rfl, rl33⟩ := hq33
   refine w_c rfl (s_freezex (A := []) (ρ := (rpT (rpQ 2))) rl33 (drop_kept (by first | (simp; done) | grind)) ?_)
   intro h3 hh3 rs_5
   replace rl_4 := rl_4.mono ((hh1.trans hh2).trans hh3)
   refine s_rep (A := []) (fun X => rep_appendx (ρ := (rpT (rpQ 2))) (bytes := 168) Tryz.underlying36 info33 rfl rfl rfl rfl (by decide) rfl rfl rl_4 rs_5 (by first | omega | (simp only [List.length_append, List.length_cons, List.length_nil, List.length_replicate, List.length_set]; omega)) (by first | omega | (simp only [List.length_append, List.length_cons, List.length_nil, List.length_replicate, List.length_set]; omega))) rfl (mem_kept (by first | (simp; done) | grind)) ?_
   intro v34 q34 hq34
   obtain ⟨cs34, rfl, rl34⟩ := hq34
   refine w_q rfl (fun h' L' hh hR => ov_assign rfl) rfl (w_nil (gq_in (gq_keep (e' := [(0, _), (1, _), (2, _), (8, _), (7, _)]) ⟨rfl, rfl, rfl, rfl, rfl, trivial⟩ (gq_then (gc_region (mv rfl rfl (gv (ov_add_i (q := 2) rfl rfl (by omega) (by omega)) rfl (asg rfl rfl (gl_nil ?_)))))))))
   refine gq_round ((m + 1), v34, cs34, h3) ?_ ?_ ⟨?_, ?_, ?_, ?_, ?_, trivial⟩ ?_ rfl
   ·
    refine ⟨(((hmma.trans hh1).trans hh2).trans hh3), ?_⟩
    refine ⟨rl34, ?_⟩
    exact (by omega)
   ·
    dsimp only
    omega
   · exact rfl
   · exact rfl
   · exact rfl
   · exact rfl
   · exact congrArg (fun z => some (vI z)) (by omega)
   · exact rfl
  ·
   have em : m = l.length / 2 := by omega
   refine gc_exit (gx_then (gx_then (gx_here (gq_then (gc_seq (gc_region (mv rfl rfl (asg rfl rfl (gl_nil (gq_keep (e' := [(6, _)]) ⟨rfl, trivial⟩ (gq_then (gc_ret (gq_freezex (A := []) (ρ := (rpT (rpQ 2))) rl_4 ?_)))))))))))))
   intro h1 hh1 rs_6
   refine gq_body1 rfl rfl ?_
   exact (Rp.Is.cast rs_6 (by rw [em]))

theorem o_dice_base {w0 w : World} {h0 h : Mem} {b k : Nat} {vl : Value} {xs : List Int} (hl : Is h vl xs) (hk : k ≤ xs.length) {L : List Res} (hs : St w0 h0 (.var b 57 [vl, vI ↑k] :: L) h w) :
    Calls Tryz.prog 28 #[vP b 0] w (RetMutO w0 h0 h L (fun g r q' o => ∃ k' : Nat, ∃ m : List (List (T3 Rat)), ∃ cs : List Value, q' = .var b 57 [vl, vI ↑k'] ∧ k' ≤ xs.length ∧ o = .gs 36 1 r m.length cs ∧ (okL 4 m) ∧ RL (rpS (rpT (rpQ 2))) g cs m)) := by
 have hlen := hl.lt63
 refine calls_begin_st (n := 60) (e := [(0, vP b 0)]) (vs := [vP b 0]) Tryz.func28 rfl rfl (Nat.le_of_ble_eq_true rfl) hs ⟨rfl, trivial⟩ (gc_seq (gc_region (asg rfl rfl (gl_nil (gq_then (gc_seq (gc_region (mv rfl rfl ?_))))))))
 refine gl_call_mut2 (A := []) (vs := [_, vI (2)]) Tryz.call15 ⟨rfl, rfl, trivial⟩ (fun X w hs => dice_next hl (by first | omega | exact Nat.zero_le _) (by omega) (by omega) hs) rfl ?_
 intro v6 g6 q6 hg6 hr6
 obtain ⟨k6, z6, rfl, hk6, rfl, hz6, hy6⟩ := hr6
 refine mv rfl rfl ?_
 replace hl := hl.mono hg6
 refine gl_call_mut2 (A := []) (vs := [_, vI (2)]) Tryz.call15 ⟨rfl, rfl, trivial⟩ (fun X w hs => dice_next hl (by first | omega | exact Nat.zero_le _) (by omega) (by omega) hs) rfl ?_
 intro v8 g8 q8 hg8 hr8
 obtain ⟨k8, z8, rfl, hk8, rfl, hz8, hy8⟩ := hr8
 refine asg rfl rfl (asg rfl rfl (gl_nil (gq_then (gc_seq (gc_seq (gc_region (mv rfl rfl ?_)))))))
 replace hl := hl.mono hg8
 refine gl_call_mut2 (A := []) (vs := [_, vI (6)]) Tryz.call15 ⟨rfl, rfl, trivial⟩ (fun X w hs => dice_next hl (by first | omega | exact Nat.zero_le _) (by omega) (by omega) hs) rfl ?_
 intro v10 g10 q10 hg10 hr10
 obtain ⟨k10, z10, rfl, hk10, rfl, hz10, hy10⟩ := hr10
 refine gl_nil (gq_then (gc_block (gc_seq (gc_region (gv (ov_eql_i (q := 1) rfl rfl) rfl (asg rfl rfl (gl_nil (gq_then ?_))))))))
 refine gc_cond rfl (fun hc11 => ?_) (fun hc11 => ?_)
 ·
  refine gc_keep (e' := [(3, _), (4, _)]) ⟨rfl, rfl, trivial⟩ (gc_seq (gc_region (mv rfl rfl (mv rfl rfl (gl_newop (new_buildx (ρ := rpI) (m := 12) (xs := [(0 : Int), (0 : Int), (2 : Int), (0 : Int), (2 : Int), (1 : Int), (1 : Int), (1 : Int), (1 : Int), (2 : Int), (0 : Int), (2 : Int)]) (ps' := [(0, _), (1, _), (2, _), (3, _), (4, _), (5, _), (6, _), (7, _), (8, _), (9, _), (10, _), (11, _)]) Tryz.underlying22 info3 rfl rfl rfl zr_i ⟨rfl, rfl, rfl, rfl, rfl, rfl, rfl, rfl, rfl, rfl, rfl, rfl, rfl, rfl, rfl, rfl, rfl, rfl, rfl, rfl, rfl, rfl, rfl, rfl, trivial⟩ (fx_one rfl (Pc.arr (Pc.here _) (0 : Int) 0 (by decide)) (is_i (by decide) (by decide)) (fx_one rfl (Pc.arr (Pc.here _) (0 : Int) 1 (by decide)) (is_i (by decide) (by decide)) (fx_one rfl (Pc.arr (Pc.here _) (0 : Int) 2 (by decide)) (is_i (by decide) (by decide)) (fx_one rfl (Pc.arr (Pc.here _) (0 : Int) 3 (by decide)) (is_i (by decide) (by decide)) (fx_one rfl (Pc.arr (Pc.here _) (0 : Int) 4 (by decide)) (is_i (by decide) (by decide)) (fx_one rfl (Pc.arr (Pc.here _) (0 : Int) 5 (by decide)) (is_i (by decide) (by decide)) (fx_one rfl (Pc.arr (Pc.here _) (0 : Int) 6 (by decide)) (is_i (by decide) (by decide)) (fx_one rfl (Pc.arr (Pc.here _) (0 : Int) 7 (by decide)) (is_i (by decide) (by decide)) (fx_one rfl (Pc.arr (Pc.here _) (0 : Int) 8 (by decide)) (is_i (by decide) (by decide)) (fx_one rfl (Pc.arr (Pc.here _) (0 : Int) 9 (by decide)) (is_i (by decide) (by decide)) (fx_one rfl (Pc.arr (Pc.here _) (0 : Int) 10 (by decide)) (is_i (by decide) (by decide)) (fx_one rfl (Pc.arr (Pc.here _) (0 : Int) 11 (by decide)) (is_i (by decide) (by decide)) fx_nil)))))))))))) (show 12 * 1 ≤ 16777216 from by decide) (show 0 < 1 from by decide)) rfl rfl rfl ?_)))))
  intro v15 q15 hq15
  obtain ⟨cs15, rfl, rl15⟩ := hq15
  refine gl_freezex (A := []) (ρ := rpI) rl15 ?_
  intro h1 hh1 rs_7
  refine gl_call (vs := [_, _, _]) rfl rfl rfl rfl Tryz.call52 ⟨rfl, rfl, rfl, trivial⟩ (fun w hs => o_made_corners hs (by omega) (by omega) (by omega) (by omega) rs_7 (by first | omega | decide | exact (by decide : 6 ≤ 100) | (intro v hv; simp only [List.mem_cons, List.not_mem_nil, or_false] at hv; omega)) (by first | omega | decide | exact (by decide : 6 ≤ 100) | (intro v hv; simp only [List.mem_cons, List.not_mem_nil, or_false] at hv; omega)) (by first | omega | decide | exact (by decide : 6 ≤ 100) | (intro v hv; simp only [List.mem_cons, List.not_mem_nil, or_false] at hv; omega)) (by first | omega | decide | exact (by decide : 6 ≤ 100) | (intro v hv; simp only [List.mem_cons, List.not_mem_nil, or_false] at hv; omega))) ?_
  intro v16 h2 hh2 r16
  change (rpS (rpT (rpQ 2))).Is h2 v16 (corn z6 z8 [(0 : Int), (0 : Int), (2 : Int), (0 : Int), (2 : Int), (1 : Int), (1 : Int), (1 : Int), (1 : Int), (2 : Int), (0 : Int), (2 : Int)] ([(0 : Int), (0 : Int), (2 : Int), (0 : Int), (2 : Int), (1 : Int), (1 : Int), (1 : Int), (1 : Int), (2 : Int), (0 : Int), (2 : Int)].length / 2)) at r16
  refine gl_newop (new_buildx (ρ := (rpS (rpT (rpQ 2)))) (m := 1) (xs := [corn z6 z8 [(0 : Int), (0 : Int), (2 : Int), (0 : Int), (2 : Int), (1 : Int), (1 : Int), (1 : Int), (1 : Int), (2 : Int), (0 : Int), (2 : Int)] ([(0 : Int), (0 : Int), (2 : Int), (0 : Int), (2 : Int), (1 : Int), (1 : Int), (1 : Int), (1 : Int), (2 : Int), (0 : Int), (2 : Int)].length / 2)]) (ps' := [(0, _)]) Tryz.underlying27 info36 rfl rfl rfl zr_s ⟨rfl, rfl, trivial⟩ (fx_one rfl (Pc.arr (Pc.here _) [] 0 (by decide)) r16 fx_nil) (show 1 * 1 ≤ 16777216 from by decide) (show 0 < 1 from by decide)) rfl rfl rfl ?_
  intro v17 q17 hq17
  obtain ⟨cs17, rfl, rl17⟩ := hq17
  refine asg rfl rfl (gl_nil (gq_then (gc_ret (gr_in (gr_then (gq_body1_own rfl rfl ?_))))))
  exact ⟨_, _, (.cons_cons _ (.cons_cons _ (List.Sublist.refl _))), ((((hg6.trans hg8).trans hg10).trans hh1).trans hh2), _, _, _, rfl, by omega, rfl, (by refine ⟨by simp, by simp, fun x hx => ?_⟩; simp only [List.mem_cons, List.not_mem_nil, or_false] at hx; first | (subst hx; rw [corn_len]; simp) | (rcases hx with rfl | rfl <;> rw [corn_len] <;> simp)), rl17⟩
 ·
  refine gc_seq (gc_region (gv (ov_eql_i (q := 2) rfl rfl) rfl (asg rfl rfl (gl_nil (gq_then ?_)))))
  refine gc_cond rfl (fun hc18 => ?_) (fun hc18 => ?_)
  ·
   refine gc_keep (e' := [(3, _), (4, _)]) ⟨rfl, rfl, trivial⟩ (gc_seq (gc_region (mv rfl rfl (mv rfl rfl (gl_newop (new_buildx (ρ := rpI) (m := 8) (xs := [(0 : Int), (0 : Int), (3 : Int), (0 : Int), (3 : Int), (3 : Int), (0 : Int), (3 : Int)]) (ps' := [(0, _), (1, _), (2, _), (3, _), (4, _), (5, _), (6, _), (7, _)]) Tryz.underlying22 info3 rfl rfl rfl zr_i ⟨rfl, rfl, rfl, rfl, rfl, rfl, rfl, rfl, rfl, rfl, rfl, rfl, rfl, rfl, rfl, rfl, trivial⟩ (fx_one rfl (Pc.arr (Pc.here _) (0 : Int) 0 (by decide)) (is_i (by decide) (by decide)) (fx_one rfl (Pc.arr (Pc.here _) (0 : Int) 1 (by decide)) (is_i (by decide) (by decide)) (fx_one rfl (Pc.arr (Pc.here _) (0 : Int) 2 (by decide)) (is_i (by decide) (by decide)) (fx_one rfl (Pc.arr (Pc.here _) (0 : Int) 3 (by decide)) (is_i (by decide) (by decide)) (fx_one rfl (Pc.arr (Pc.here _) (0 : Int) 4 (by decide)) (is_i (by decide) (by decide)) (fx_one rfl (Pc.arr (Pc.here _) (0 : Int) 5 (by decide)) (is_i (by decide) (by decide)) (fx_one rfl (Pc.arr (Pc.here _) (0 : Int) 6 (by decide)) (is_i (by decide) (by decide)) (fx_one rfl (Pc.arr (Pc.here _) (0 : Int) 7 (by decide)) (is_i (by decide) (by decide)) fx_nil)))))))) (show 8 * 1 ≤ 16777216 from by decide) (show 0 < 1 from by decide)) rfl rfl rfl ?_)))))
   intro v22 q22 hq22
   obtain ⟨cs22, rfl, rl22⟩ := hq22
   refine gl_freezex (A := []) (ρ := rpI) rl22 ?_
   intro h1 hh1 rs_8
   refine gl_call (vs := [_, _, _]) rfl rfl rfl rfl Tryz.call52 ⟨rfl, rfl, rfl, trivial⟩ (fun w hs => o_made_corners hs (by omega) (by omega) (by omega) (by omega) rs_8 (by first | omega | decide | exact (by decide : 6 ≤ 100) | (intro v hv; simp only [List.mem_cons, List.not_mem_nil, or_false] at hv; omega)) (by first | omega | decide | exact (by decide : 6 ≤ 100) | (intro v hv; simp only [List.mem_cons, List.not_mem_nil, or_false] at hv; omega)) (by first | omega | decide | exact (by decide : 6 ≤ 100) | (intro v hv; simp only [List.mem_cons, List.not_mem_nil, or_false] at hv; omega)) (by first | omega | decide | exact (by decide : 6 ≤ 100) | (intro v hv; simp only [List.mem_cons, List.not_mem_nil, or_false] at hv; omega))) ?_
   intro v23 h2 hh2 r23
   change (rpS (rpT (rpQ 2))).Is h2 v23 (corn z6 z8 [(0 : Int), (0 : Int), (3 : Int), (0 : Int), (3 : Int), (3 : Int), (0 : Int), (3 : Int)] ([(0 : Int), (0 : Int), (3 : Int), (0 : Int), (3 : Int), (3 : Int), (0 : Int), (3 : Int)].length / 2)) at r23
   refine mv rfl rfl (mv rfl rfl (gl_newop (new_buildx (ρ := rpI) (m := 8) (xs := [(1 : Int), (1 : Int), (1 : Int), (2 : Int), (2 : Int), (2 : Int), (2 : Int), (1 : Int)]) (ps' := [(0, _), (1, _), (2, _), (3, _), (4, _), (5, _), (6, _), (7, _)]) Tryz.underlying22 info3 rfl rfl rfl zr_i ⟨rfl, rfl, rfl, rfl, rfl, rfl, rfl, rfl, rfl, rfl, rfl, rfl, rfl, rfl, rfl, rfl, trivial⟩ (fx_one rfl (Pc.arr (Pc.here _) (0 : Int) 0 (by decide)) (is_i (by decide) (by decide)) (fx_one rfl (Pc.arr (Pc.here _) (0 : Int) 1 (by decide)) (is_i (by decide) (by decide)) (fx_one rfl (Pc.arr (Pc.here _) (0 : Int) 2 (by decide)) (is_i (by decide) (by decide)) (fx_one rfl (Pc.arr (Pc.here _) (0 : Int) 3 (by decide)) (is_i (by decide) (by decide)) (fx_one rfl (Pc.arr (Pc.here _) (0 : Int) 4 (by decide)) (is_i (by decide) (by decide)) (fx_one rfl (Pc.arr (Pc.here _) (0 : Int) 5 (by decide)) (is_i (by decide) (by decide)) (fx_one rfl (Pc.arr (Pc.here _) (0 : Int) 6 (by decide)) (is_i (by decide) (by decide)) (fx_one rfl (Pc.arr (Pc.here _) (0 : Int) 7 (by decide)) (is_i (by decide) (by decide)) fx_nil)))))))) (show 8 * 1 ≤ 16777216 from by decide) (show 0 < 1 from by decide)) rfl rfl rfl ?_))
   intro v26 q26 hq26
   obtain ⟨cs26, rfl, rl26⟩ := hq26
   refine gl_freezex (A := []) (ρ := rpI) rl26 ?_
   intro h3 hh3 rs_9
   refine gl_call (vs := [_, _, _]) rfl rfl rfl rfl Tryz.call52 ⟨rfl, rfl, rfl, trivial⟩ (fun w hs => o_made_corners hs (by omega) (by omega) (by omega) (by omega) rs_9 (by first | omega | decide | exact (by decide : 6 ≤ 100) | (intro v hv; simp only [List.mem_cons, List.not_mem_nil, or_false] at hv; omega)) (by first | omega | decide | exact (by decide : 6 ≤ 100) | (intro v hv; simp only [List.mem_cons, List.not_mem_nil, or_false] at hv; omega)) (by first | omega | decide | exact (by decide : 6 ≤ 100) | (intro v hv; simp only [List.mem_cons, List.not_mem_nil, or_false] at hv; omega)) (by first | omega | decide | exact (by decide : 6 ≤ 100) | (intro v hv; simp only [List.mem_cons, List.not_mem_nil, or_false] at hv; omega))) ?_
   intro v27 h4 hh4 r27
   change (rpS (rpT (rpQ 2))).Is h4 v27 (corn z6 z8 [(1 : Int), (1 : Int), (1 : Int), (2 : Int), (2 : Int), (2 : Int), (2 : Int), (1 : Int)] ([(1 : Int), (1 : Int), (1 : Int), (2 : Int), (2 : Int), (2 : Int), (2 : Int), (1 : Int)].length / 2)) at r27
   replace r23 := r23.mono (hh3.trans hh4)
   refine gl_newop (new_buildx (ρ := (rpS (rpT (rpQ 2)))) (m := 2) (xs := [corn z6 z8 [(0 : Int), (0 : Int), (3 : Int), (0 : Int), (3 : Int), (3 : Int), (0 : Int), (3 : Int)] ([(0 : Int), (0 : Int), (3 : Int), (0 : Int), (3 : Int), (3 : Int), (0 : Int), (3 : Int)].length / 2), corn z6 z8 [(1 : Int), (1 : Int), (1 : Int), (2 : Int), (2 : Int), (2 : Int), (2 : Int), (1 : Int)] ([(1 : Int), (1 : Int), (1 : Int), (2 : Int), (2 : Int), (2 : Int), (2 : Int), (1 : Int)].length / 2)]) (ps' := [(0, _), (1, _)]) Tryz.underlying27 info36 rfl rfl rfl zr_s ⟨rfl, rfl, rfl, rfl, trivial⟩ (fx_one rfl (Pc.arr (Pc.here _) [] 0 (by decide)) r23 (fx_one rfl (Pc.arr (Pc.here _) [] 1 (by decide)) r27 fx_nil)) (show 2 * 1 ≤ 16777216 from by decide) (show 0 < 1 from by decide)) rfl rfl rfl ?_
   intro v28 q28 hq28
   obtain ⟨cs28, rfl, rl28⟩ := hq28
   refine asg rfl rfl (gl_nil (gq_keep (e' := [(2, _)]) ⟨rfl, trivial⟩ (gq_then (gc_ret (gr_in (gr_then (gq_body1_own rfl rfl ?_)))))))
   exact ⟨_, _, (.cons_cons _ (.cons_cons _ (List.Sublist.refl _))), ((((((hg6.trans hg8).trans hg10).trans hh1).trans hh2).trans hh3).trans hh4), _, _, _, rfl, by omega, rfl, (by refine ⟨by simp, by simp, fun x hx => ?_⟩; simp only [List.mem_cons, List.not_mem_nil, or_false] at hx; first | (subst hx; rw [corn_len]; simp) | (rcases hx with rfl | rfl <;> rw [corn_len] <;> simp)), rl28⟩
  ·
   refine gc_keep (e' := [(0, _), (3, _), (4, _), (10, _)]) ⟨rfl, rfl, rfl, rfl, trivial⟩ (gc_seq (gc_region (gv (ov_eql_i (q := 3) rfl rfl) rfl (asg rfl rfl (gl_nil (gq_then ?_))))))
   refine gc_cond rfl (fun hc29 => ?_) (fun hc29 => ?_)
   ·
    refine gc_seq (gc_region (mv rfl rfl (mv rfl rfl (gl_newop (new_buildx (ρ := rpI) (m := 8) (xs := [(0 : Int), (0 : Int), (3 : Int), (0 : Int), (3 : Int), (3 : Int), (0 : Int), (3 : Int)]) (ps' := [(0, _), (1, _), (2, _), (3, _), (4, _), (5, _), (6, _), (7, _)]) Tryz.underlying22 info3 rfl rfl rfl zr_i ⟨rfl, rfl, rfl, rfl, rfl, rfl, rfl, rfl, rfl, rfl, rfl, rfl, rfl, rfl, rfl, rfl, trivial⟩ (fx_one rfl (Pc.arr (Pc.here _) (0 : Int) 0 (by decide)) (is_i (by decide) (by decide)) (fx_one rfl (Pc.arr (Pc.here _) (0 : Int) 1 (by decide)) (is_i (by decide) (by decide)) (fx_one rfl (Pc.arr (Pc.here _) (0 : Int) 2 (by decide)) (is_i (by decide) (by decide)) (fx_one rfl (Pc.arr (Pc.here _) (0 : Int) 3 (by decide)) (is_i (by decide) (by decide)) (fx_one rfl (Pc.arr (Pc.here _) (0 : Int) 4 (by decide)) (is_i (by decide) (by decide)) (fx_one rfl (Pc.arr (Pc.here _) (0 : Int) 5 (by decide)) (is_i (by decide) (by decide)) (fx_one rfl (Pc.arr (Pc.here _) (0 : Int) 6 (by decide)) (is_i (by decide) (by decide)) (fx_one rfl (Pc.arr (Pc.here _) (0 : Int) 7 (by decide)) (is_i (by decide) (by decide)) fx_nil)))))))) (show 8 * 1 ≤ 16777216 from by decide) (show 0 < 1 from by decide)) rfl rfl rfl ?_))))
    intro v33 q33 hq33
    obtain ⟨cs33, rfl, rl33⟩ := hq33
    refine gl_freezex (A := []) (ρ := rpI) rl33 ?_
    intro h1 hh1 rs_10
    refine gl_call (vs := [_, _, _]) rfl rfl rfl rfl Tryz.call52 ⟨rfl, rfl, rfl, trivial⟩ (fun w hs => o_made_corners hs (by omega) (by omega) (by omega) (by omega) rs_10 (by first | omega | decide | exact (by decide : 6 ≤ 100) | (intro v hv; simp only [List.mem_cons, List.not_mem_nil, or_false] at hv; omega)) (by first | omega | decide | exact (by decide : 6 ≤ 100) | (intro v hv; simp only [List.mem_cons, List.not_mem_nil, or_false] at hv; omega)) (by first | omega | decide | exact (by decide : 6 ≤ 100) | (intro v hv; simp only [List.mem_cons, List.not_mem_nil, or_false] at hv; omega)) (by first | omega | decide | exact (by decide : 6 ≤ 100) | (intro v hv; simp only [List.mem_cons, List.not_mem_nil, or_false] at hv; omega))) ?_
    intro v34 h2 hh2 r34
    change (rpS (rpT (rpQ 2))).Is h2 v34 (corn z6 z8 [(0 : Int), (0 : Int), (3 : Int), (0 : Int), (3 : Int), (3 : Int), (0 : Int), (3 : Int)] ([(0 : Int), (0 : Int), (3 : Int), (0 : Int), (3 : Int), (3 : Int), (0 : Int), (3 : Int)].length / 2)) at r34
    refine mv rfl rfl (mv rfl rfl (gl_newop (new_buildx (ρ := rpI) (m := 6) (xs := [(1 : Int), (1 : Int), (0 : Int), (0 : Int), (1 : Int), (2 : Int)]) (ps' := [(0, _), (1, _), (2, _), (3, _), (4, _), (5, _)]) Tryz.underlying22 info3 rfl rfl rfl zr_i ⟨rfl, rfl, rfl, rfl, rfl, rfl, rfl, rfl, rfl, rfl, rfl, rfl, trivial⟩ (fx_one rfl (Pc.arr (Pc.here _) (0 : Int) 0 (by decide)) (is_i (by decide) (by decide)) (fx_one rfl (Pc.arr (Pc.here _) (0 : Int) 1 (by decide)) (is_i (by decide) (by decide)) (fx_one rfl (Pc.arr (Pc.here _) (0 : Int) 2 (by decide)) (is_i (by decide) (by decide)) (fx_one rfl (Pc.arr (Pc.here _) (0 : Int) 3 (by decide)) (is_i (by decide) (by decide)) (fx_one rfl (Pc.arr (Pc.here _) (0 : Int) 4 (by decide)) (is_i (by decide) (by decide)) (fx_one rfl (Pc.arr (Pc.here _) (0 : Int) 5 (by decide)) (is_i (by decide) (by decide)) fx_nil)))))) (show 6 * 1 ≤ 16777216 from by decide) (show 0 < 1 from by decide)) rfl rfl rfl ?_))
    intro v37 q37 hq37
    obtain ⟨cs37, rfl, rl37⟩ := hq37
    refine gl_freezex (A := []) (ρ := rpI) rl37 ?_
    intro h3 hh3 rs_11
    refine gl_call (vs := [_, _, _]) rfl rfl rfl rfl Tryz.call52 ⟨rfl, rfl, rfl, trivial⟩ (fun w hs => o_made_corners hs (by omega) (by omega) (by omega) (by omega) rs_11 (by first | omega | decide | exact (by decide : 6 ≤ 100) | (intro v hv; simp only [List.mem_cons, List.not_mem_nil, or_false] at hv; omega)) (by first | omega | decide | exact (by decide : 6 ≤ 100) | (intro v hv; simp only [List.mem_cons, List.not_mem_nil, or_false] at hv; omega)) (by first | omega | decide | exact (by decide : 6 ≤ 100) | (intro v hv; simp only [List.mem_cons, List.not_mem_nil, or_false] at hv; omega)) (by first | omega | decide | exact (by decide : 6 ≤ 100) | (intro v hv; simp only [List.mem_cons, List.not_mem_nil, or_false] at hv; omega))) ?_
    intro v38 h4 hh4 r38
    change (rpS (rpT (rpQ 2))).Is h4 v38 (corn z6 z8 [(1 : Int), (1 : Int), (0 : Int), (0 : Int), (1 : Int), (2 : Int)] ([(1 : Int), (1 : Int), (0 : Int), (0 : Int), (1 : Int), (2 : Int)].length / 2)) at r38
    replace r34 := r34.mono (hh3.trans hh4)
    refine gl_newop (new_buildx (ρ := (rpS (rpT (rpQ 2)))) (m := 2) (xs := [corn z6 z8 [(0 : Int), (0 : Int), (3 : Int), (0 : Int), (3 : Int), (3 : Int), (0 : Int), (3 : Int)] ([(0 : Int), (0 : Int), (3 : Int), (0 : Int), (3 : Int), (3 : Int), (0 : Int), (3 : Int)].length / 2), corn z6 z8 [(1 : Int), (1 : Int), (0 : Int), (0 : Int), (1 : Int), (2 : Int)] ([(1 : Int), (1 : Int), (0 : Int), (0 : Int), (1 : Int), (2 : Int)].length / 2)]) (ps' := [(0, _), (1, _)]) Tryz.underlying27 info36 rfl rfl rfl zr_s ⟨rfl, rfl, rfl, rfl, trivial⟩ (fx_one rfl (Pc.arr (Pc.here _) [] 0 (by decide)) r34 (fx_one rfl (Pc.arr (Pc.here _) [] 1 (by decide)) r38 fx_nil)) (show 2 * 1 ≤ 16777216 from by decide) (show 0 < 1 from by decide)) rfl rfl rfl ?_
    intro v39 q39 hq39
    obtain ⟨cs39, rfl, rl39⟩ := hq39
    refine asg rfl rfl (gl_nil (gq_keep (e' := [(2, _)]) ⟨rfl, trivial⟩ (gq_then (gc_ret (gr_in (gr_then (gq_body1_own rfl rfl ?_)))))))
    exact ⟨_, _, (.cons_cons _ (.cons_cons _ (List.Sublist.refl _))), ((((((hg6.trans hg8).trans hg10).trans hh1).trans hh2).trans hh3).trans hh4), _, _, _, rfl, by omega, rfl, (by refine ⟨by simp, by simp, fun x hx => ?_⟩; simp only [List.mem_cons, List.not_mem_nil, or_false] at hx; first | (subst hx; rw [corn_len]; simp) | (rcases hx with rfl | rfl <;> rw [corn_len] <;> simp)), rl39⟩
   ·
    refine gc_seq (gc_region (gv (ov_eql_i (q := 4) rfl rfl) rfl (asg rfl rfl (gl_nil (gq_then ?_)))))
    refine gc_cond rfl (fun hc40 => ?_) (fun hc40 => ?_)
    ·
     refine gc_seq (gc_region (mv rfl rfl (mv rfl rfl (gl_newop (new_buildx (ρ := rpI) (m := 10) (xs := [(0 : Int), (0 : Int), (1 : Int), (0 : Int), (2 : Int), (0 : Int), (2 : Int), (2 : Int), (0 : Int), (1 : Int)]) (ps' := [(0, _), (1, _), (2, _), (3, _), (4, _), (5, _), (6, _), (7, _), (8, _), (9, _)]) Tryz.underlying22 info3 rfl rfl rfl zr_i ⟨rfl, rfl, rfl, rfl, rfl, rfl, rfl, rfl, rfl, rfl, rfl, rfl, rfl, rfl, rfl, rfl, rfl, rfl, rfl, rfl, trivial⟩ (fx_one rfl (Pc.arr (Pc.here _) (0 : Int) 0 (by decide)) (is_i (by decide) (by decide)) (fx_one rfl (Pc.arr (Pc.here _) (0 : Int) 1 (by decide)) (is_i (by decide) (by decide)) (fx_one rfl (Pc.arr (Pc.here _) (0 : Int) 2 (by decide)) (is_i (by decide) (by decide)) (fx_one rfl (Pc.arr (Pc.here _) (0 : Int) 3 (by decide)) (is_i (by decide) (by decide)) (fx_one rfl (Pc.arr (Pc.here _) (0 : Int) 4 (by decide)) (is_i (by decide) (by decide)) (fx_one rfl (Pc.arr (Pc.here _) (0 : Int) 5 (by decide)) (is_i (by decide) (by decide)) (fx_one rfl (Pc.arr (Pc.here _) (0 : Int) 6 (by decide)) (is_i (by decide) (by decide)) (fx_one rfl (Pc.arr (Pc.here _) (0 : Int) 7 (by decide)) (is_i (by decide) (by decide)) (fx_one rfl (Pc.arr (Pc.here _) (0 : Int) 8 (by decide)) (is_i (by decide) (by decide)) (fx_one rfl (Pc.arr (Pc.here _) (0 : Int) 9 (by decide)) (is_i (by decide) (by decide)) fx_nil)))))))))) (show 10 * 1 ≤ 16777216 from by decide) (show 0 < 1 from by decide)) rfl rfl rfl ?_))))
     intro v44 q44 hq44
     obtain ⟨cs44, rfl, rl44⟩ := hq44
     refine gl_freezex (A := []) (ρ := rpI) rl44 ?_
     intro h1 hh1 rs_12
     refine gl_call (vs := [_, _, _]) rfl rfl rfl rfl Tryz.call52 ⟨rfl, rfl, rfl, trivial⟩ (fun w hs => o_made_corners hs (by omega) (by omega) (by omega) (by omega) rs_12 (by first | omega | decide | exact (by decide : 6 ≤ 100) | (intro v hv; simp only [List.mem_cons, List.not_mem_nil, or_false] at hv; omega)) (by first | omega | decide | exact (by decide : 6 ≤ 100) | (intro v hv; simp only [List.mem_cons, List.not_mem_nil, or_false] at hv; omega)) (by first | omega | decide | exact (by decide : 6 ≤ 100) | (intro v hv; simp only [List.mem_cons, List.not_mem_nil, or_false] at hv; omega)) (by first | omega | decide | exact (by decide : 6 ≤ 100) | (intro v hv; simp only [List.mem_cons, List.not_mem_nil, or_false] at hv; omega))) ?_
     intro v45 h2 hh2 r45
     change (rpS (rpT (rpQ 2))).Is h2 v45 (corn z6 z8 [(0 : Int), (0 : Int), (1 : Int), (0 : Int), (2 : Int), (0 : Int), (2 : Int), (2 : Int), (0 : Int), (1 : Int)] ([(0 : Int), (0 : Int), (1 : Int), (0 : Int), (2 : Int), (0 : Int), (2 : Int), (2 : Int), (0 : Int), (1 : Int)].length / 2)) at r45
     refine gl_newop (new_buildx (ρ := (rpS (rpT (rpQ 2)))) (m := 1) (xs := [corn z6 z8 [(0 : Int), (0 : Int), (1 : Int), (0 : Int), (2 : Int), (0 : Int), (2 : Int), (2 : Int), (0 : Int), (1 : Int)] ([(0 : Int), (0 : Int), (1 : Int), (0 : Int), (2 : Int), (0 : Int), (2 : Int), (2 : Int), (0 : Int), (1 : Int)].length / 2)]) (ps' := [(0, _)]) Tryz.underlying27 info36 rfl rfl rfl zr_s ⟨rfl, rfl, trivial⟩ (fx_one rfl (Pc.arr (Pc.here _) [] 0 (by decide)) r45 fx_nil) (show 1 * 1 ≤ 16777216 from by decide) (show 0 < 1 from by decide)) rfl rfl rfl ?_
     intro v46 q46 hq46
     obtain ⟨cs46, rfl, rl46⟩ := hq46
     refine asg rfl rfl (gl_nil (gq_keep (e' := [(2, _)]) ⟨rfl, trivial⟩ (gq_then (gc_ret (gr_in (gr_then (gq_body1_own rfl rfl ?_)))))))
     exact ⟨_, _, (.cons_cons _ (.cons_cons _ (List.Sublist.refl _))), ((((hg6.trans hg8).trans hg10).trans hh1).trans hh2), _, _, _, rfl, by omega, rfl, (by refine ⟨by simp, by simp, fun x hx => ?_⟩; simp only [List.mem_cons, List.not_mem_nil, or_false] at hx; first | (subst hx; rw [corn_len]; simp) | (rcases hx with rfl | rfl <;> rw [corn_len] <;> simp)), rl46⟩
    ·
     refine gc_skip (gq_in (gq_then (gc_seq (gc_region (mv rfl rfl (mv rfl rfl (mv rfl rfl ?_)))))))
     replace hl := hl.mono hg10
     refine gl_call_mut2 (A := []) (vs := [_, vI (3)]) Tryz.call15 ⟨rfl, rfl, trivial⟩ (fun X w hs => dice_next hl (by first | omega | exact Nat.zero_le _) (by omega) (by omega) hs) rfl ?_
     intro v50 g50 q50 hg50 hr50
     obtain ⟨k50, z50, rfl, hk50, rfl, hz50, hy50⟩ := hr50
     refine gv (ov_add_i (p := 1) rfl rfl (by omega) (by omega)) rfl (mv rfl rfl ?_)
     replace hl := hl.mono hg50
     refine gl_call_mut2 (A := []) (vs := [_, vI (2)]) Tryz.call15 ⟨rfl, rfl, trivial⟩ (fun X w hs => dice_next hl (by first | omega | exact Nat.zero_le _) (by omega) (by omega) hs) rfl ?_
     intro v53 g53 q53 hg53 hr53
     obtain ⟨k53, z53, rfl, hk53, rfl, hz53, hy53⟩ := hr53
     refine mv rfl rfl ?_
     replace hl := hl.mono hg53
     refine gl_call_mut2 (A := []) (vs := [_, vI (2)]) Tryz.call15 ⟨rfl, rfl, trivial⟩ (fun X w hs => dice_next hl (by first | omega | exact Nat.zero_le _) (by omega) (by omega) hs) rfl ?_
     intro v55 g55 q55 hg55 hr55
     obtain ⟨k55, z55, rfl, hk55, rfl, hz55, hy55⟩ := hr55
     refine gv (ov_add_i (p := 1) rfl rfl (by omega) (by omega)) rfl (gl_newop (new_buildx (ρ := rpI) (m := 6) (xs := [(0 : Int), (0 : Int), ((1 : Int) + z50), (0 : Int), z53, ((1 : Int) + z55)]) (ps' := [(0, _), (1, _), (2, _), (3, _), (4, _), (5, _)]) Tryz.underlying22 info3 rfl rfl rfl zr_i ⟨rfl, rfl, rfl, rfl, rfl, rfl, rfl, rfl, rfl, rfl, rfl, rfl, trivial⟩ (fx_one rfl (Pc.arr (Pc.here _) (0 : Int) 0 (by decide)) (is_i (by decide) (by decide)) (fx_one rfl (Pc.arr (Pc.here _) (0 : Int) 1 (by decide)) (is_i (by decide) (by decide)) (fx_one rfl (Pc.arr (Pc.here _) (0 : Int) 2 (by decide)) (is_i (by omega) (by omega)) (fx_one rfl (Pc.arr (Pc.here _) (0 : Int) 3 (by decide)) (is_i (by decide) (by decide)) (fx_one rfl (Pc.arr (Pc.here _) (0 : Int) 4 (by decide)) (is_i (by omega) (by omega)) (fx_one rfl (Pc.arr (Pc.here _) (0 : Int) 5 (by decide)) (is_i (by omega) (by omega)) fx_nil)))))) (show 6 * 1 ≤ 16777216 from by decide) (show 0 < 1 from by decide)) rfl rfl rfl ?_)
     intro v57 q57 hq57
     obtain ⟨cs57, rfl, rl57⟩ := hq57
     refine gl_freezex (A := []) (ρ := rpI) rl57 ?_
     intro h1 hh1 rs_13
     refine gl_call (vs := [_, _, _]) rfl rfl rfl rfl Tryz.call52 ⟨rfl, rfl, rfl, trivial⟩ (fun w hs => o_made_corners hs (by omega) (by omega) (by omega) (by omega) rs_13 (by first | omega | decide | exact (by decide : 6 ≤ 100) | (intro v hv; simp only [List.mem_cons, List.not_mem_nil, or_false] at hv; omega)) (by first | omega | decide | exact (by decide : 6 ≤ 100) | (intro v hv; simp only [List.mem_cons, List.not_mem_nil, or_false] at hv; omega)) (by first | omega | decide | exact (by decide : 6 ≤ 100) | (intro v hv; simp only [List.mem_cons, List.not_mem_nil, or_false] at hv; omega)) (by first | omega | decide | exact (by decide : 6 ≤ 100) | (intro v hv; simp only [List.mem_cons, List.not_mem_nil, or_false] at hv; omega))) ?_
     intro v58 h2 hh2 r58
     change (rpS (rpT (rpQ 2))).Is h2 v58 (corn z6 z8 [(0 : Int), (0 : Int), ((1 : Int) + z50), (0 : Int), z53, ((1 : Int) + z55)] ([(0 : Int), (0 : Int), ((1 : Int) + z50), (0 : Int), z53, ((1 : Int) + z55)].length / 2)) at r58
     refine gl_newop (new_buildx (ρ := (rpS (rpT (rpQ 2)))) (m := 1) (xs := [corn z6 z8 [(0 : Int), (0 : Int), ((1 : Int) + z50), (0 : Int), z53, ((1 : Int) + z55)] ([(0 : Int), (0 : Int), ((1 : Int) + z50), (0 : Int), z53, ((1 : Int) + z55)].length / 2)]) (ps' := [(0, _)]) Tryz.underlying27 info36 rfl rfl rfl zr_s ⟨rfl, rfl, trivial⟩ (fx_one rfl (Pc.arr (Pc.here _) [] 0 (by decide)) r58 fx_nil) (show 1 * 1 ≤ 16777216 from by decide) (show 0 < 1 from by decide)) rfl rfl rfl ?_
     intro v59 q59 hq59
     obtain ⟨cs59, rfl, rl59⟩ := hq59
     refine asg rfl rfl (gl_nil (gq_keep (e' := [(2, _)]) ⟨rfl, trivial⟩ (gq_then (gc_ret (gq_body1_own rfl rfl ?_)))))
     exact ⟨_, _, (.cons_cons _ (.cons_cons _ (List.Sublist.refl _))), (((((((hg6.trans hg8).trans hg10).trans hg50).trans hg53).trans hg55).trans hh1).trans hh2), _, _, _, rfl, by omega, rfl, (by refine ⟨by simp, by simp, fun x hx => ?_⟩; simp only [List.mem_cons, List.not_mem_nil, or_false] at hx; first | (subst hx; rw [corn_len]; simp) | (rcases hx with rfl | rfl <;> rw [corn_len] <;> simp)), rl59⟩

theorem o_dice_loops {w0 w : World} {h0 h : Mem} {b k : Nat} {vl : Value} {xs : List Int} (hl : Is h vl xs) (hk : k ≤ xs.length) {L : List Res} (hs : St w0 h0 (.var b 57 [vl, vI ↑k] :: L) h w) :
    Calls Tryz.prog 34 #[vP b 0] w (RetMutO w0 h0 h L (fun g r q' o => ∃ k' : Nat, ∃ m : List (List (T3 Rat)), ∃ cs : List Value, q' = .var b 57 [vl, vI ↑k'] ∧ k' ≤ xs.length ∧ o = .gs 36 1 r m.length cs ∧ (okL 4 m) ∧ RL (rpS (rpT (rpQ 2))) g cs m)) := by
 have hlen := hl.lt63
 refine calls_begin_st (n := 18) (e := [(0, vP b 0)]) (vs := [vP b 0]) Tryz.func34 rfl rfl (Nat.le_of_ble_eq_true rfl) hs ⟨rfl, trivial⟩ (gc_seq (gc_region (asg rfl rfl (gl_nil (gq_then (gc_seq (gc_region (asg rfl rfl (gl_nil (gq_then (gc_seq (gc_seq (gc_region ?_)))))))))))))
 refine mv rfl rfl ?_
 refine gl_call_mut2 (A := []) (vs := [_, vI (3)]) Tryz.call15 ⟨rfl, rfl, trivial⟩ (fun X w hs => dice_next hl (by first | omega | exact Nat.zero_le _) (by omega) (by omega) hs) rfl ?_
 intro v6 g6 q6 hg6 hr6
 obtain ⟨k6, z6, rfl, hk6, rfl, hz6, hy6⟩ := hr6
 refine gv (ov_add_i (p := 1) rfl rfl (by omega) (by omega)) rfl (asg rfl rfl (gl_nil (gq_then (gc_block (gc_nilown 36 1 ?_)))))
 have rl_14 : RL (rpS (rpT (rpQ 2))) g6 [] ([] : List (List (T3 Rat))) := RL.nil
 refine gc_loop (ι := Nat × List (List (T3 Rat)) × Value × List Value × Nat × Mem) (fun (x_ : (Nat × List (List (T3 Rat)) × Value × List Value × Nat × Mem)) => match x_ with | (n, M, s3_15, cs_16, kd_18, ma) => MLe g6 ma ∧ (RL (rpS (rpT (rpQ 2))) ma cs_16 M ∧ kd_18 ≤ xs.length ∧ n + M.length ≤ 4 ∧ 0 < n + M.length ∧ ∀ x, x ∈ M → x.length ≤ 8)) (fun (x_ : (Nat × List (List (T3 Rat)) × Value × List Value × Nat × Mem)) => match x_ with | (n, M, s3_15, cs_16, kd_18, ma) => [(0, vP b 0), (3, s3_15), (4, vI ↑n)]) (fun (x_ : (Nat × List (List (T3 Rat)) × Value × List Value × Nat × Mem)) => match x_ with | (n, M, s3_15, cs_16, kd_18, ma) => (.gs 36 1 s3_15 M.length cs_16 :: .var b 57 [vl, vI ↑kd_18] :: L)) (fun (x_ : (Nat × List (List (T3 Rat)) × Value × List Value × Nat × Mem)) => match x_ with | (n, M, s3_15, cs_16, kd_18, ma) => ma) (fun (x_ : (Nat × List (List (T3 Rat)) × Value × List Value × Nat × Mem)) => match x_ with | (n, M, s3_15, cs_16, kd_18, ma) => n) ((1 + z6.toNat), [], (.slice none 0 0), [], k6, g6) ?_ ⟨?_, ?_, ?_, trivial⟩ rfl rfl ?_
 ·
  refine ⟨MLe.refl _, ?_⟩
  refine ⟨rl_14, (by omega), ?_⟩
  exact ⟨by simp only [List.length_nil]; omega, by omega, fun x hx => absurd hx (List.not_mem_nil)⟩
 · exact rfl
 · exact rfl
 · exact congrArg (fun z => some (vI z)) (by omega)
 ·
  intro x hx
  obtain ⟨n, M, s3_15, cs_16, kd_18, ma⟩ := x
  obtain ⟨hmma, hinv⟩ := hx
  show GC _ _ _ _ _ _ [(0, vP b 0), (3, s3_15), (4, vI ↑n)] (.gs 36 1 s3_15 M.length cs_16 :: .var b 57 [vl, vI ↑kd_18] :: L) ma
  obtain ⟨rl_17, hkd_19, hinv⟩ := hinv
  obtain ⟨hn1, hn2, hn3⟩ := hinv
  refine gc_seq (gc_seq (gc_region (mv rfl rfl (gv (ov_gtr_i (q := 0) rfl rfl) rfl (gl_nil (gq_then ?_))))))
  refine gc_cond rfl (fun hc9 => ?_) (fun hc9 => ?_)
  ·
   refine gc_skip (gq_then (gc_seq (gc_block (gc_region (mv rfl rfl (mv rfl rfl ?_))))))
   replace hl := hl.mono (hg6.trans hmma)
   refine gl_call_mut2 (A := [_]) (vs := [_]) Tryz.call21 ⟨rfl, trivial⟩ (fun X w hs => o_dice_loop hl (by first | omega | exact Nat.zero_le _) hs) rfl ?_
   intro v14 g14 q14 hg14 hr14
   obtain ⟨k14, p14, rfl, hk14, hx14, hr14⟩ := hr14
   refine gl_newop (new_buildx (ρ := (rpS (rpT (rpQ 2)))) (m := 1) (xs := [p14]) (ps' := [(0, _)]) Tryz.underlying27 info36 rfl rfl rfl zr_s ⟨rfl, rfl, trivial⟩ (fx_one rfl (Pc.arr (Pc.here _) [] 0 (by decide)) hr14 fx_nil) (show 1 * 1 ≤ 16777216 from by decide) (show 0 < 1 from by decide)) rfl rfl rfl ?_
   intro v15 q15 hq15
   obtain ⟨cs15, rfl, rl15⟩ := hq15
   refine gl_freezex (A := []) (ρ := (rpS (rpT (rpQ 2)))) rl15 ?_
   intro h1 hh1 rs_20
   replace rl_17 := rl_17.mono (hg14.trans hh1)
   refine gl_repop (A := []) (rep_appendx (ρ := (rpS (rpT (rpQ 2)))) (bytes := 24) Tryz.underlying27 info36 rfl rfl rfl rfl (by decide) rfl rfl rl_17 rs_20 (by first | omega | (simp only [List.length_append, List.length_cons, List.length_nil, List.length_replicate, List.length_set]; omega)) (by first | omega | (simp only [List.length_append, List.length_cons, List.length_nil, List.length_replicate, List.length_set]; omega))) rfl rfl rfl ?_
   intro v16 q16 hq16
   obtain ⟨cs16, rfl, rl16⟩ := hq16
   refine asg rfl rfl (gl_nil (gq_in (gq_then (gc_region (mv rfl rfl (gv (ov_sub_i (q := 1) rfl rfl (by omega) (by omega)) rfl (asg rfl rfl (gl_nil ?_))))))))
   refine gq_round ((n - 1), (M ++ [p14]), v16, cs16, k14, h1) ?_ ?_ ⟨?_, ?_, ?_, trivial⟩ ?_ rfl
   ·
    refine ⟨((hmma.trans hg14).trans hh1), ?_⟩
    refine ⟨rl16, (by omega), ?_⟩
    exact ⟨by simp only [List.length_append, List.length_cons, List.length_nil]; omega, by simp only [List.length_append, List.length_cons, List.length_nil]; omega, fun x hx => by rcases List.mem_append.1 hx with hx | hx; exact hn3 x hx; simp only [List.mem_cons, List.not_mem_nil, or_false] at hx; subst hx; exact hx14⟩
   ·
    dsimp only
    omega
   · exact rfl
   · exact rfl
   · exact congrArg (fun z => some (vI z)) (by omega)
   · exact rfl
  ·
   refine gc_exit (gx_then (gx_then (gx_here (gq_then (gc_seq (gc_region (mv rfl rfl (asg rfl rfl (gl_nil (gq_then (gc_ret (gq_body1_own rfl rfl ?_))))))))))))
   exact ⟨_, _, (.cons_cons _ (.cons_cons _ (List.Sublist.refl _))), (hg6.trans hmma), _, _, _, rfl, by omega, rfl, ⟨by omega, by omega, hn3⟩, rl_17⟩

end Go.Proofs.YtfpjclgbieppeaaGreat


namespace Bk
set_option linter.unusedVariables false
set_option linter.unusedSimpArgs false
open Go Go.RowKit
open Classical

abbrev Pl := Pt × Rat
/-- The axes that remain. -/
noncomputable def axI (n : Pt) : Nat := if 0 < n.z then 0 else if n.z < 0 then 1 else if 0 < n.y then 2 else if n.y < 0 then 0 else if 0 < n.x then 1 else if n.x < 0 then 2 else 1
noncomputable def axJ (n : Pt) : Nat := if 0 < n.z then 1 else if n.z < 0 then 0 else if 0 < n.y then 0 else if n.y < 0 then 2 else if 0 < n.x then 2 else if n.x < 0 then 1 else 2
noncomputable def axK (n : Pt) : Nat := if n.z ≠ 0 then 2 else if n.y ≠ 0 then 1 else 0
/-- Flatten. -/
noncomputable def flatZ (pl : Pl) (p : Pt) : Pt := T3.mk (p.at (axI pl.1)) (p.at (axJ pl.1)) (0 : Rat)
/-- The coordinate that is found again. -/
noncomputable def liftQ (pl : Pl) (q : Pt) : Rat := if pl.1.at (axK pl.1) = 0 then 0 else (pl.2 - (pl.1.at (axI pl.1) * q.x + pl.1.at (axJ pl.1) * q.y)) / pl.1.at (axK pl.1)
noncomputable def liftZ (pl : Pl) (q : Pt) : Pt := if pl.1.at (axK pl.1) = 0 then T3.mk (0 : Rat) (0 : Rat) (0 : Rat) else (((T3.mk (0 : Rat) (0 : Rat) (0 : Rat)).set (axI pl.1) q.x).set (axJ pl.1) q.y).set (axK pl.1) (liftQ pl q)
def dotT (a b : Pt) : Rat := a.x * b.x + a.y * b.y + a.z * b.z
def crossT (a b : Pt) : Pt := T3.mk (a.y * b.z - a.z * b.y) (a.z * b.x - a.x * b.z) (a.x * b.y - a.y * b.x)
def subT (a b : Pt) : Pt := T3.mk (a.x - b.x) (a.y - b.y) (a.z - b.z)
/-! ### Flatten and Lift undo each other -/
end Bk


namespace Go.Proofs.YtfpjclgbieppeaaGreat
open Bk Go
set_option linter.unusedVariables false
set_option linter.unusedSimpArgs false
set_option maxRecDepth 10000

theorem o_dice_bool {w0 w : World} {h0 h : Mem} {b k : Nat} {vl : Value} {xs : List Int} (hl : Is h vl xs) (hk : k ≤ xs.length) {n : Int} (hn : 0 < n) (hn2 : n < 4611686018427387904) {L : List Res} (hs : St w0 h0 (.var b 57 [vl, vI ↑k] :: L) h w) :
    Calls Tryz.prog 11 #[vP b 0, vI n] w (RetMut w0 h0 h L (fun g r q' => ∃ k' : Nat, ∃ p : Prop, q' = .var b 57 [vl, vI ↑k'] ∧ k' ≤ xs.length ∧ r = vB p)) := by
 have hlen := hl.lt63
 refine calls_begin_st (n := 11) (e := [(0, vP b 0), (1, vI n)]) (vs := [vP b 0, vI n]) Tryz.func11 rfl rfl (Nat.le_of_ble_eq_true rfl) hs ⟨rfl, rfl, trivial⟩ (gc_seq (gc_region (asg rfl rfl (gl_nil (gq_then (gc_seq (gc_region (mv rfl rfl (mv rfl rfl ?_)))))))))
 refine gl_call_mut2 (A := []) (vs := [_, _]) Tryz.call15 ⟨rfl, rfl, trivial⟩ (fun X w hs => dice_next hl (by first | omega | exact Nat.zero_le _) (by omega) (by omega) hs) rfl ?_
 intro v7 g7 q7 hg7 hr7
 obtain ⟨k7, z7, rfl, hk7, rfl, hz7, hy7⟩ := hr7
 refine mv rfl rfl (gv (ov_sub_i (q := 1) rfl rfl (by omega) (by omega)) rfl (gv (ov_eql_i rfl rfl) rfl (asg rfl rfl (gl_nil (gq_then (gc_ret (gq_body1_own rfl rfl ?_)))))))
 exact ⟨_, (List.Sublist.refl _), hg7, _, _, rfl, by omega, rfl⟩

end Go.Proofs.YtfpjclgbieppeaaGreat


namespace Go.Proofs.YtfpjclgbieppeaaGreat
open Bk Go
set_option linter.unusedVariables false
set_option linter.unusedSimpArgs false
set_option maxRecDepth 10000

theorem o_law_loops {w0 w : World} {h0 h : Mem} {b k : Nat} {vl : Value} {xs : List Int} (hl : Is h vl xs) (hk : k ≤ xs.length) {L : List Res} (hs : St w0 h0 (.var b 57 [vl, vI ↑k] :: L) h w) :
    Calls Tryz.prog 9 #[vP b 0] w (RetMutO w0 h0 h L (fun g r q' o => ∃ k' : Nat, ∃ m : List (List (T3 Rat)), ∃ cs : List Value, q' = .var b 57 [vl, vI ↑k'] ∧ k' ≤ xs.length ∧ o = .gs 36 1 r m.length cs ∧ (okL 6 m) ∧ RL (rpS (rpT (rpQ 2))) g cs m)) := by
 have hlen := hl.lt63
 refine calls_begin_st (n := 66) (e := [(0, vP b 0)]) (vs := [vP b 0]) Tryz.func9 rfl rfl (Nat.le_of_ble_eq_true rfl) hs ⟨rfl, trivial⟩ (gc_seq (gc_region (asg rfl rfl (gl_nil (gq_then (gc_seq (gc_seq (gc_region (mv rfl rfl ?_)))))))))
 refine gl_call_mut2 (A := []) (vs := [_, vI (2)]) Tryz.call11 ⟨rfl, rfl, trivial⟩ (fun X w hs => o_dice_bool hl (by first | omega | exact Nat.zero_le _) (by omega) (by omega) hs) rfl ?_
 intro v8 g8 q8 hg8 hr8
 obtain ⟨k8, P8, rfl, hk8, rfl⟩ := hr8
 refine gl_nil (gq_then ?_)
 refine gc_cond rfl (fun hc8 => ?_) (fun hc8 => ?_)
 ·
  refine gc_seq (gc_region (mv rfl rfl ?_))
  replace hl := hl.mono hg8
  refine gl_call_mutO (A := []) (vs := [_]) Tryz.call34 ⟨rfl, trivial⟩ (fun X w hs => o_dice_loops hl (by first | omega | exact Nat.zero_le _) hs) rfl ?_
  intro v10 g10 q10 o10 hg10 hr10
  obtain ⟨k10, p10, cs10, rfl, hk10, rfl, hx10, rl10⟩ := hr10
  refine asg rfl rfl (gl_nil (gq_then (gc_ret (gr_then (gq_body1_own rfl rfl ?_)))))
  exact ⟨_, _, (.cons_cons _ (.cons_cons _ (List.Sublist.refl _))), (hg8.trans hg10), _, _, _, rfl, by omega, rfl, (by first | exact hx10.mono (by omega) | exact hM2.put hl8 | exact hM2), rl10⟩
 ·
  refine gc_skip (gq_then (gc_seq (gc_region (mv rfl rfl ?_))))
  replace hl := hl.mono hg8
  refine gl_call_mutO (A := []) (vs := [_]) Tryz.call28 ⟨rfl, trivial⟩ (fun X w hs => o_dice_base hl (by first | omega | exact Nat.zero_le _) hs) rfl ?_
  intro v12 g12 q12 o12 hg12 hr12
  obtain ⟨k12, p12, cs12, rfl, hk12, rfl, hx12, rl12⟩ := hr12
  refine asg rfl rfl (gl_nil (gq_then ?_))
  refine gc_cut (ι := List (List (T3 Rat)) × Value × List Value × Nat × Mem) (fun (x_ : (List (List (T3 Rat)) × Value × List Value × Nat × Mem)) => match x_ with | (M1, s3_1, cs_2, kd_4, m1) => MLe g12 m1 ∧ (RL (rpS (rpT (rpQ 2))) m1 cs_2 M1 ∧ kd_4 ≤ xs.length ∧ okL 5 M1)) (fun (x_ : (List (List (T3 Rat)) × Value × List Value × Nat × Mem)) => match x_ with | (M1, s3_1, cs_2, kd_4, m1) => [(0, vP b 0), (3, s3_1)]) (fun (x_ : (List (List (T3 Rat)) × Value × List Value × Nat × Mem)) => match x_ with | (M1, s3_1, cs_2, kd_4, m1) => (.gs 36 1 s3_1 M1.length cs_2 :: .var b 57 [vl, vI ↑kd_4] :: L)) (fun (x_ : (List (List (T3 Rat)) × Value × List Value × Nat × Mem)) => match x_ with | (M1, s3_1, cs_2, kd_4, m1) => m1) ?_ ?_
  ·
   refine gc_seq (gc_region (mv rfl rfl ?_))
   replace hl := hl.mono hg12
   refine gl_call_mut2 (A := [_]) (vs := [_, vI (4)]) Tryz.call11 ⟨rfl, rfl, trivial⟩ (fun X w hs => o_dice_bool hl (by first | omega | exact Nat.zero_le _) (by omega) (by omega) hs) rfl ?_
   intro v14 g14 q14 hg14 hr14
   obtain ⟨k14, P14, rfl, hk14, rfl⟩ := hr14
   refine gl_nil (gq_then ?_)
   refine gc_cond rfl (fun hc14 => ?_) (fun hc14 => ?_)
   ·
    refine gc_region (mv rfl rfl (mv rfl rfl (mv rfl rfl (mv rfl rfl (gv (ov_len_os (.head _) Tryz.underlying27 rfl) rfl ?_)))))
    have hx12p := hx12.2.1
    have hx12q := hx12.1
    replace hl := hl.mono hg14
    refine gl_call_mut2 (A := [_]) (vs := [_, _]) Tryz.call15 ⟨rfl, rfl, trivial⟩ (fun X w hs => dice_next hl (by first | omega | exact Nat.zero_le _) (by omega) (by omega) hs) rfl ?_
    intro v20 g20 q20 hg20 hr20
    obtain ⟨k20, z20, rfl, hk20, rfl, hz20, hy20⟩ := hr20
    refine gv ((ov_index_os z20.toNat (.head _) Tryz.underlying27 Tryz.sizeOf36 rfl rfl (by omega) (by have := hx12.2.1; omega) (by decide)).cv (show _ = elemPtr 1 v12 ((z20.toNat * 1 + 0)) from congrArg (elemPtr 1 v12) (by rfl))) rfl ?_
    replace rl12 := rl12.mono (hg14.trans hg20)
    refine gl_x (F := fun v_ => (rpS (rpT (rpQ 2))).Is g20 v_ (p12.getD z20.toNat [])) (ox_load_os ty36 (Pc.arr (Pc.here _) [] z20.toNat (by have := hx12.2.1; omega)) rfl (by decide) rfl rl12 rfl) (mem1 (.head _)) rfl ?_
    intro v22 r22
    refine gl_newop (new_buildx (ρ := (rpS (rpT (rpQ 2)))) (m := 1) (xs := [(p12.getD z20.toNat [])]) (ps' := [(0, _)]) Tryz.underlying27 info36 rfl rfl rfl zr_s ⟨rfl, rfl, trivial⟩ (fx_one rfl (Pc.arr (Pc.here _) [] 0 (by decide)) r22 fx_nil) (show 1 * 1 ≤ 16777216 from by decide) (show 0 < 1 from by decide)) rfl rfl rfl ?_
    intro v23 q23 hq23
    obtain ⟨cs23, rfl, rl23⟩ := hq23
    refine gl_freezex (A := []) (ρ := (rpS (rpT (rpQ 2)))) rl23 ?_
    intro h1 hh1 rs_6
    replace rl12 := rl12.mono hh1
    refine gl_repop (A := []) (rep_appendx (ρ := (rpS (rpT (rpQ 2)))) (bytes := 24) Tryz.underlying27 info36 rfl rfl rfl rfl (by decide) rfl rfl rl12 rs_6 (by first | omega | (simp only [List.length_append, List.length_cons, List.length_nil, List.length_replicate, List.length_set]; omega)) (by first | omega | (simp only [List.length_append, List.length_cons, List.length_nil, List.length_replicate, List.length_set]; omega))) rfl rfl rfl ?_
    intro v24 q24 hq24
    obtain ⟨cs24, rfl, rl24⟩ := hq24
    refine asg rfl rfl (gl_nil ?_)
    refine gq_cut ((p12 ++ [(p12.getD z20.toNat [])]), v24, cs24, k20, h1) ?_ ⟨?_, ?_, trivial⟩ ?_ rfl
    ·
     refine ⟨((hg14.trans hg20).trans hh1), ?_⟩
     refine ⟨rl24, (by omega), ?_⟩
     exact hx12.app (okL.get hx12 _)
    · exact rfl
    · exact rfl
    · exact rfl
   ·
    refine gc_skip ?_
    refine gq_cut (p12, v12, cs12, k14, g14) ?_ ⟨?_, ?_, trivial⟩ ?_ rfl
    ·
     refine ⟨hg14, ?_⟩
     replace rl12 := rl12.mono hg14
     refine ⟨rl12, (by omega), ?_⟩
     exact hx12.mono (by omega)
    · exact rfl
    · exact rfl
    · exact rfl
  ·
   intro x hx
   obtain ⟨M1, s3_1, cs_2, kd_4, m1⟩ := x
   obtain ⟨hmm1, hM1⟩ := hx
   show GC _ _ _ _ _ _ [(0, vP b 0), (3, s3_1)] (.gs 36 1 s3_1 M1.length cs_2 :: .var b 57 [vl, vI ↑kd_4] :: L) m1
   obtain ⟨rl_3, hkd_5, hM1⟩ := hM1
   refine gc_cut (ι := List (List (T3 Rat)) × Value × List Value × Nat × Mem) (fun (x_ : (List (List (T3 Rat)) × Value × List Value × Nat × Mem)) => match x_ with | (M2, s3_7, cs_8, kd_10, m2) => MLe m1 m2 ∧ (RL (rpS (rpT (rpQ 2))) m2 cs_8 M2 ∧ kd_10 ≤ xs.length ∧ okL 6 M2)) (fun (x_ : (List (List (T3 Rat)) × Value × List Value × Nat × Mem)) => match x_ with | (M2, s3_7, cs_8, kd_10, m2) => [(0, vP b 0), (3, s3_7)]) (fun (x_ : (List (List (T3 Rat)) × Value × List Value × Nat × Mem)) => match x_ with | (M2, s3_7, cs_8, kd_10, m2) => (.gs 36 1 s3_7 M2.length cs_8 :: .var b 57 [vl, vI ↑kd_10] :: L)) (fun (x_ : (List (List (T3 Rat)) × Value × List Value × Nat × Mem)) => match x_ with | (M2, s3_7, cs_8, kd_10, m2) => m2) ?_ ?_
   ·
    refine gc_seq (gc_region (mv rfl rfl ?_))
    replace hl := hl.mono (hg12.trans hmm1)
    refine gl_call_mut2 (A := [_]) (vs := [_, vI (4)]) Tryz.call11 ⟨rfl, rfl, trivial⟩ (fun X w hs => o_dice_bool hl (by first | omega | exact Nat.zero_le _) (by omega) (by omega) hs) rfl ?_
    intro v26 g26 q26 hg26 hr26
    obtain ⟨k26, P26, rfl, hk26, rfl⟩ := hr26
    refine gl_nil (gq_then ?_)
    refine gc_cond rfl (fun hc26 => ?_) (fun hc26 => ?_)
    ·
     refine gc_region (mv rfl rfl (mv rfl rfl ?_))
     replace hl := hl.mono hg26
     refine gl_call_mut2 (A := [_]) (vs := [_]) Tryz.call21 ⟨rfl, trivial⟩ (fun X w hs => o_dice_loop hl (by first | omega | exact Nat.zero_le _) hs) rfl ?_
     intro v29 g29 q29 hg29 hr29
     obtain ⟨k29, p29, rfl, hk29, hx29, hr29⟩ := hr29
     refine gl_newop (new_buildx (ρ := (rpS (rpT (rpQ 2)))) (m := 1) (xs := [p29]) (ps' := [(0, _)]) Tryz.underlying27 info36 rfl rfl rfl zr_s ⟨rfl, rfl, trivial⟩ (fx_one rfl (Pc.arr (Pc.here _) [] 0 (by decide)) hr29 fx_nil) (show 1 * 1 ≤ 16777216 from by decide) (show 0 < 1 from by decide)) rfl rfl rfl ?_
     intro v30 q30 hq30
     obtain ⟨cs30, rfl, rl30⟩ := hq30
     have hM1p := hM1.1
     have hM1q := hM1.2.1
     refine gl_freezex (A := []) (ρ := (rpS (rpT (rpQ 2)))) rl30 ?_
     intro h1 hh1 rs_12
     replace rl_3 := rl_3.mono ((hg26.trans hg29).trans hh1)
     refine gl_repop (A := []) (rep_appendx (ρ := (rpS (rpT (rpQ 2)))) (bytes := 24) Tryz.underlying27 info36 rfl rfl rfl rfl (by decide) rfl rfl rl_3 rs_12 (by first | omega | (simp only [List.length_append, List.length_cons, List.length_nil, List.length_replicate, List.length_set]; omega)) (by first | omega | (simp only [List.length_append, List.length_cons, List.length_nil, List.length_replicate, List.length_set]; omega))) rfl rfl rfl ?_
     intro v31 q31 hq31
     obtain ⟨cs31, rfl, rl31⟩ := hq31
     refine asg rfl rfl (gl_nil ?_)
     refine gq_cut ((M1 ++ [p29]), v31, cs31, k29, h1) ?_ ⟨?_, ?_, trivial⟩ ?_ rfl
     ·
      refine ⟨((hg26.trans hg29).trans hh1), ?_⟩
      refine ⟨rl31, (by omega), ?_⟩
      exact hM1.app hx29
     · exact rfl
     · exact rfl
     · exact rfl
    ·
     refine gc_skip ?_
     refine gq_cut (M1, s3_1, cs_2, k26, g26) ?_ ⟨?_, ?_, trivial⟩ ?_ rfl
     ·
      refine ⟨hg26, ?_⟩
      replace rl_3 := rl_3.mono hg26
      refine ⟨rl_3, (by omega), ?_⟩
      exact hM1.mono (by omega)
     · exact rfl
     · exact rfl
     · exact rfl
   ·
    intro x hx
    obtain ⟨M2, s3_7, cs_8, kd_10, m2⟩ := x
    obtain ⟨hmm2, hM2⟩ := hx
    show GC _ _ _ _ _ _ [(0, vP b 0), (3, s3_7)] (.gs 36 1 s3_7 M2.length cs_8 :: .var b 57 [vl, vI ↑kd_10] :: L) m2
    obtain ⟨rl_9, hkd_11, hM2⟩ := hM2
    refine gc_seq (gc_seq (gc_region (mv rfl rfl ?_)))
    replace hl := hl.mono ((hg12.trans hmm1).trans hmm2)
    refine gl_call_mut2 (A := [_]) (vs := [_, vI (5)]) Tryz.call11 ⟨rfl, rfl, trivial⟩ (fun X w hs => o_dice_bool hl (by first | omega | exact Nat.zero_le _) (by omega) (by omega) hs) rfl ?_
    intro v33 g33 q33 hg33 hr33
    obtain ⟨k33, P33, rfl, hk33, rfl⟩ := hr33
    refine gl_nil (gq_then ?_)
    refine gc_cond rfl (fun hc33 => ?_) (fun hc33 => ?_)
    ·
     refine gc_seq (gc_region (mv rfl rfl (gv ((ov_index_os (q := 0) 0 (.head _) Tryz.underlying27 Tryz.sizeOf36 rfl rfl rfl (by exact hM2.2.1) (by decide)).cv (show _ = elemPtr 1 s3_7 0 from congrArg (elemPtr 1 s3_7) (by rfl))) rfl ?_)))
     replace rl_9 := rl_9.mono hg33
     refine gl_x (F := fun v_ => (rpS (rpT (rpQ 2))).Is g33 v_ (M2.getD 0 [])) (ox_load_os ty36 (Pc.arr (Pc.here _) [] 0 (by exact hM2.2.1)) rfl (by decide) rfl rl_9 rfl) (mem1 (.head _)) rfl ?_
     intro v36 r36
     have hlg8 := okL.get hM2 0
     refine gl_nilown 33 9 ?_
     have rl_13 : RL (rpT (rpQ 2)) g33 [] ([] : List (T3 Rat)) := RL.nil
     refine gl_repop (A := []) (rep_appendx (ρ := (rpT (rpQ 2))) (bytes := 168) Tryz.underlying36 info33 rfl rfl rfl rfl (by decide) rfl rfl rl_13 r36 (by first | omega | (simp only [List.length_append, List.length_cons, List.length_nil, List.length_replicate, List.length_set]; omega)) (by first | omega | (simp only [List.length_append, List.length_cons, List.length_nil, List.length_replicate, List.length_set]; omega))) rfl rfl rfl ?_
     intro v37 q37 hq37
     obtain ⟨cs37, rfl, rl37⟩ := hq37
     refine asg rfl rfl (gl_nil (gq_then (gc_seq (gc_seq (gc_region (mv rfl rfl ?_))))))
     have hlg9 : ([] ++ M2.getD 0 []).length ≤ 8 := by rw [List.nil_append]; exact okL.get hM2 0
     refine gv (ov_len_os (.head _) Tryz.underlying36 rfl) rfl (gv (ov_sub_i (q := 1) rfl rfl (by omega) (by omega)) rfl (asg (v := vI (0)) rfl rfl (asg rfl rfl (gl_nil (gq_keep (e' := [(3, _), (4, _), (5, _), (6, _)]) ⟨rfl, rfl, rfl, rfl, trivial⟩ (gq_then (gc_block ?_)))))))
     refine gc_loop (ι := Nat × List (T3 Rat) × Value × List Value × Nat × Mem) (fun (x_ : (Nat × List (T3 Rat) × Value × List Value × Nat × Mem)) => match x_ with | (i, l, s4_14, cs_15, kd_17, ma) => MLe g33 ma ∧ (RL (rpT (rpQ 2)) ma cs_15 l ∧ kd_17 ≤ xs.length ∧ l.length ≤ 8)) (fun (x_ : (Nat × List (T3 Rat) × Value × List Value × Nat × Mem)) => match x_ with | (i, l, s4_14, cs_15, kd_17, ma) => [(3, s3_7), (4, s4_14), (5, vI ↑i), (6, vI (↑l.length - 1 - ↑i))]) (fun (x_ : (Nat × List (T3 Rat) × Value × List Value × Nat × Mem)) => match x_ with | (i, l, s4_14, cs_15, kd_17, ma) => (.gs 33 9 s4_14 l.length cs_15 :: .gs 36 1 s3_7 M2.length cs_8 :: .var b 57 [vl, vI ↑kd_17] :: L)) (fun (x_ : (Nat × List (T3 Rat) × Value × List Value × Nat × Mem)) => match x_ with | (i, l, s4_14, cs_15, kd_17, ma) => ma) (fun (x_ : (Nat × List (T3 Rat) × Value × List Value × Nat × Mem)) => match x_ with | (i, l, s4_14, cs_15, kd_17, ma) => 8 - i) (0, ([] ++ (M2.getD 0 [])), v37, cs37, k33, g33) ?_ ⟨?_, ?_, ?_, ?_, trivial⟩ rfl rfl ?_
     ·
      refine ⟨MLe.refl _, ?_⟩
      refine ⟨rl37, (by omega), ?_⟩
      exact (by rw [List.nil_append]; exact okL.get hM2 0)
     · exact rfl
     · exact rfl
     · exact rfl
     · exact congrArg (fun z => some (vI z)) (by omega)
     ·
      intro x hx
      obtain ⟨i, l, s4_14, cs_15, kd_17, ma⟩ := x
      obtain ⟨hmma, hinv⟩ := hx
      show GC _ _ _ _ _ _ [(3, s3_7), (4, s4_14), (5, vI ↑i), (6, vI (↑l.length - 1 - ↑i))] (.gs 33 9 s4_14 l.length cs_15 :: .gs 36 1 s3_7 M2.length cs_8 :: .var b 57 [vl, vI ↑kd_17] :: L) ma
      obtain ⟨rl_16, hkd_18, hinv⟩ := hinv
      have hl8 := hinv
      refine gc_seq (gc_seq (gc_region (mv rfl rfl (mv rfl rfl (gv (ov_lss_i rfl rfl) rfl (gl_nil (gq_then ?_)))))))
      refine gc_cond rfl (fun hc43 => ?_) (fun hc43 => ?_)
      ·
       refine gc_skip (gq_then (gc_seq (gc_block ?_)))
       refine gc_draw 13 _ [] [(0, .q), (1, .q), (2, .p), (3, .p), (4, .q), (5, .q), (6, .q), (7, .q), (8, .q), (9, .q), (10, .q), (11, .q), (12, .q), (13, .t), (14, .t), (15, .t)] mixed (fun x hx => by cases hx) (chk_of [0, 0, 0, 0, 0, 0, 48, 64, 0, 0, 768, 1024, 2291, 6387, 16383, 32767] [65535, 65535, 65535, 65535, 65535, 65535, 65487, 65471, 65535, 65535, 64767, 64511, 65532, 61311, 65523, 47103] (by kernel_rfl)) (fun x hx => by cases hx) (fun r hr => hr) (w_q rfl (fun h' L' hh hR => ov_move rfl) rfl (w_q rfl (fun h' L' hh hR => ov_move rfl) rfl (w_p (⟨.inl rfl,  rfl⟩) rfl rfl (w_p (⟨.inl rfl,  rfl⟩) rfl rfl (w_q rfl (fun h' L' hh hR => ov_move rfl) rfl (w_q rfl (fun h' L' hh hR => ov_move rfl) rfl (w_q rfl (fun h' L' hh hR => (ov_index_os (l.length - 1 - i) (hR _ (.head _)) Tryz.underlying36 Tryz.sizeOf33 rfl rfl (by omega) (by first | omega | (simp only [List.length_append, List.length_cons, List.length_nil, List.length_replicate, List.length_set]; omega)) (by decide)).cv (show _ = elemPtr 1 s4_14 (((l.length - 1 - i) * 9 + 0)) from congrArg (elemPtr 1 s4_14) (by rfl))) rfl (w_qx (F := fun v_ => (rpT (rpQ 2)).Is ma v_ (l.getD (l.length - 1 - i) (T3.mk (0 : Rat) (0 : Rat) (0 : Rat)))) rfl (ox_load_os ty33 (Pc.arr (Pc.here _) (T3.mk (0 : Rat) (0 : Rat) (0 : Rat)) (l.length - 1 - i) (by first | omega | (simp only [List.length_append, List.length_cons, List.length_nil, List.length_replicate, List.length_set]; omega))) rfl (by decide) rfl rl_16 rfl) (mem1 (.head _)) rfl ?_))))))))
       intro v55 r55
       refine w_q rfl (fun h' L' hh hR => ov_move rfl) rfl (w_q rfl (fun h' L' hh hR => ov_move rfl) rfl (w_q rfl (fun h' L' hh hR => (ov_index_os i (hR _ (.head _)) Tryz.underlying36 Tryz.sizeOf33 rfl rfl rfl (by first | omega | (simp only [List.length_append, List.length_cons, List.length_nil, List.length_replicate, List.length_set]; omega)) (by decide)).cv (show _ = elemPtr 1 s4_14 ((i * 9 + 0)) from congrArg (elemPtr 1 s4_14) (by rfl))) rfl (w_qx (F := fun v_ => (rpT (rpQ 2)).Is ma v_ (l.getD i (T3.mk (0 : Rat) (0 : Rat) (0 : Rat)))) rfl (ox_load_os ty33 (Pc.arr (Pc.here _) (T3.mk (0 : Rat) (0 : Rat) (0 : Rat)) i (by first | omega | (simp only [List.length_append, List.length_cons, List.length_nil, List.length_replicate, List.length_set]; omega))) rfl (by decide) rfl rl_16 rfl) (mem1 (.head _)) rfl ?_)))
       intro v59 r59
       refine w_q rfl (fun h' L' hh hR => (ov_index_os i (hR _ (.head _)) Tryz.underlying36 Tryz.sizeOf33 rfl rfl rfl (by first | omega | (simp only [List.length_append, List.length_cons, List.length_nil, List.length_replicate, List.length_set]; omega)) (by decide)).cv (show _ = elemPtr 1 s4_14 ((i * 9 + 0)) from congrArg (elemPtr 1 s4_14) (by rfl))) rfl (w_t_updos (A := []) (F := fun c_ => RL (rpT (rpQ 2)) ma c_ (l.set i (l.getD (l.length - 1 - i) (T3.mk (0 : Rat) (0 : Rat) (0 : Rat))))) rfl (upd_os Tryz.sizeOf33 (Pc.arr (Pc.here _) (T3.mk (0 : Rat) (0 : Rat) (0 : Rat)) i (by first | omega | (simp only [List.length_append, List.length_cons, List.length_nil, List.length_replicate, List.length_set]; omega))) rfl (by decide) rfl rfl rl_16 r55 rfl) ?_)
       intro cs_19 rl_20
       refine w_t_val rfl ((ov_index_os (l.length - 1 - i) (.head _) Tryz.underlying36 Tryz.sizeOf33 rfl rfl (by omega) (by first | omega | (simp only [List.length_append, List.length_cons, List.length_nil, List.length_replicate, List.length_set]; omega)) (by decide)).cv (show _ = elemPtr 1 s4_14 (((l.length - 1 - i) * 9 + 0)) from congrArg (elemPtr 1 s4_14) (by rfl))) rfl (w_t_updos (A := []) (F := fun c_ => RL (rpT (rpQ 2)) ma c_ ((l.set i (l.getD (l.length - 1 - i) (T3.mk (0 : Rat) (0 : Rat) (0 : Rat)))).set (l.length - 1 - i) (l.getD i (T3.mk (0 : Rat) (0 : Rat) (0 : Rat))))) rfl (upd_os Tryz.sizeOf33 (Pc.arr (Pc.here _) (T3.mk (0 : Rat) (0 : Rat) (0 : Rat)) (l.length - 1 - i) (by first | omega | (simp only [List.length_append, List.length_cons, List.length_nil, List.length_replicate, List.length_set]; omega))) rfl (by decide) rfl rfl rl_20 r59 rfl) ?_)
       intro cs_21 rl_22
       refine w_nil (gq_in (gq_keep (e' := [(3, _), (4, _), (5, _), (6, _)]) ⟨rfl, rfl, rfl, rfl, trivial⟩ (gq_then (gc_region (mv rfl rfl (gv (ov_add_i (q := 1) rfl rfl (by omega) (by omega)) rfl (mv rfl rfl (gv (ov_sub_i (q := 1) rfl rfl (by omega) (by omega)) rfl (asg rfl rfl (asg rfl rfl (gl_nil ?_)))))))))))
       refine gq_round ((i + 1), ((l.set i (l.getD (l.length - 1 - i) (T3.mk (0 : Rat) (0 : Rat) (0 : Rat)))).set (l.length - 1 - i) (l.getD i (T3.mk (0 : Rat) (0 : Rat) (0 : Rat)))), s4_14, cs_21, kd_17, ma) ?_ ?_ ⟨?_, ?_, ?_, ?_, trivial⟩ ?_ rfl
       ·
        refine ⟨hmma, ?_⟩
        refine ⟨rl_22, (by omega), ?_⟩
        exact (by simp only [List.length_set]; omega)
       ·
        dsimp only
        omega
       · exact rfl
       · exact rfl
       · exact rfl
       · exact congrArg (fun z => some (vI z)) (by simp only [List.length_set]; omega)
       · exact rfl
      ·
       refine gc_exit (gx_then (gx_then (gx_here (gq_then (gc_region (mv rfl rfl (mv rfl rfl (gv ((ov_index_os (q := 0) 0 (.tail _ (.head _)) Tryz.underlying27 Tryz.sizeOf36 rfl rfl rfl (by exact hM2.2.1) (by decide)).cv (show _ = elemPtr 1 s3_7 0 from congrArg (elemPtr 1 s3_7) (by rfl))) rfl (gl_freezex (A := []) (ρ := (rpT (rpQ 2))) rl_16 ?_)))))))))
       intro h1 hh1 rs_23
       replace rl_9 := rl_9.mono (hmma.trans hh1)
       refine gl_updos (A := []) (F := fun c_ => RL (rpS (rpT (rpQ 2))) h1 c_ (M2.set 0 l)) (upd_os Tryz.sizeOf36 (Pc.arr (Pc.here _) [] 0 (by exact hM2.2.1)) rfl (by decide) rfl rfl rl_9 rs_23 rfl) ?_
       intro cs_24 rl_25
       refine gl_nil (gq_then (gc_seq (gc_region (mv rfl rfl (asg rfl rfl (gl_nil (gq_keep (e' := [(2, _)]) ⟨rfl, trivial⟩ (gq_then (gc_ret (gq_body1_own rfl rfl ?_))))))))))
       exact ⟨_, _, (.cons_cons _ (.cons_cons _ (List.Sublist.refl _))), ((((((hg8.trans hg12).trans hmm1).trans hmm2).trans hg33).trans hmma).trans hh1), _, _, _, rfl, by omega, rfl, (by first | exact hx10.mono (by omega) | exact hM2.put hl8 | exact hM2), rl_25⟩
    ·
     refine gc_skip (gq_then (gc_seq (gc_region (mv rfl rfl (asg rfl rfl (gl_nil (gq_then (gc_ret (gq_body1_own rfl rfl ?_)))))))))
     replace rl_9 := rl_9.mono hg33
     exact ⟨_, _, (.cons_cons _ (.cons_cons _ (List.Sublist.refl _))), ((((hg8.trans hg12).trans hmm1).trans hmm2).trans hg33), _, _, _, rfl, by omega, rfl, (by first | exact hx10.mono (by omega) | exact hM2.put hl8 | exact hM2), rl_9⟩

end Go.Proofs.YtfpjclgbieppeaaGreat


namespace Go.Proofs.YtfpjclgbieppeaaGreat
open Bk Go
set_option linter.unusedVariables false
set_option linter.unusedSimpArgs false
set_option maxRecDepth 10000

theorem o_r5_flat {w0 : World} {h0 : Mem}  (hs : MLe h0 (mem w0)) {k : Nat} {vp : Value} {p : (T3 Rat)} (rp : (rpT (rpQ k)).Is h0 vp p)  :
    Calls Tryz.prog 43 #[vp] w0 (Ret w0 h0 (fun h r => (rpT (rpQ (k + 1))).Is h r (T3.mk p.x p.y (0 : Rat)))) := by
 refine calls_begin (n := 8) (e := [(0, vp)]) (vs := [vp]) Tryz.func43 rfl rfl (Nat.le_of_ble_eq_true rfl) hs ⟨rfl, trivial⟩ (gc_seq (gc_region (gl_newop (new_boxx (ρ := (rpT (rpQ k))) rfl rp) rfl rfl rfl ?_)))
 intro v1 q1 hq1
 obtain ⟨b1, cs1, rfl, rfl, rb1⟩ := hq1
 refine gl_newop (new_allocx (ρ := (rpT (rpQ (k + 1)))) (X := (T3.mk (0 : Rat) (0 : Rat) (0 : Rat))) info33 rfl rfl (zr_t (zr_q (by omega)))) rfl rfl rfl ?_
 intro v2 q2 hq2
 obtain ⟨b2, cs2, rfl, rfl, rb2⟩ := hq2
 refine gl_nil (gq_then (gc_seq (gc_region (gv ((ov_index_arr (sz := 3) (q := 0) 0 Tryz.underlying33 Tryz.sizeOf31 rfl rfl rfl (by decide)).cv (show _ = vP b1 0 from congrArg (vP b1) (by rfl))) rfl (gl_x (F := fun v_ => (rpQ k).Is h0 v_ p.x) (ox_load_box ty31 (Pc.tx (Pc.here _)) rfl rfl rb1 rfl) (mem1 (.tail _ (.head _))) rfl ?_)))))
 intro v4 r4
 refine gv ((ov_index_arr (sz := 3) (q := 1) 1 Tryz.underlying33 Tryz.sizeOf31 rfl rfl rfl (by decide)).cv (show _ = vP b1 3 from congrArg (vP b1) (by rfl))) rfl (gl_x (F := fun v_ => (rpQ k).Is h0 v_ p.y) (ox_load_box ty31 (Pc.ty (Pc.here _)) rfl rfl rb1 rfl) (mem1 (.tail _ (.head _))) rfl ?_)
 intro v6 r6
 refine gl_x (F := fun v_ => (rpT (rpQ (k + 1))).Is h0 v_ (T3.mk p.x p.y (0 : Rat))) (ox_build_arr (ps' := [(0, _), (1, _)]) Tryz.underlying33 info33 rfl rfl Tryz.sizeOf31 ⟨rfl, rfl, rfl, rfl, trivial⟩ rfl (zr_t (zr_q (by omega))) (fx_one rfl (Pc.tx (Pc.here _)) (r4.le (Le.q (l := k + 1) (by omega))) (fx_one rfl (Pc.ty (Pc.here _)) (r6.le (Le.q (l := k + 1) (by omega))) fx_nil))) mem0 rfl ?_
 intro v7 r7
 refine gl_updx (A := []) (F := fun c_ => (rpT (rpQ (k + 1))).R h0 c_ (T3.mk p.x p.y (0 : Rat))) (upd_box Tryz.sizeOf33 (Pc.here _) rfl rfl rfl rb2 r7 rfl) ?_
 intro cs_1 rb_2
 refine gl_nil (gq_then (gc_ret (gq_exv (rv_o (t := 2) ty33 (.head _) rfl rb_2) ?_)))
 intro w_3 hvw_3 rr_4
 refine gq_res (fun E S => run_res1 rfl hvw_3 E S) ?_
 exact rr_4

theorem o_r5_equal {w0 : World} {h0 : Mem}  (hs : MLe h0 (mem w0)) {k : Nat} {va : Value} {a : (T3 Rat)} (ra : (rpT (rpQ k)).Is h0 va a) {vb : Value} {b : (T3 Rat)} (rb : (rpT (rpQ k)).Is h0 vb b) (hcd0 : k ≤ 2000000000)  :
    Calls Tryz.prog 50 #[va, vb] w0 (Ret w0 h0 (fun _ r => r = vB ((pr a 0 1) = (pr b 0 1)))) := by
 refine calls_begin (n := 17) (e := [(0, va), (1, vb)]) (vs := [va, vb]) Tryz.func50 rfl rfl (Nat.le_of_ble_eq_true rfl) hs ⟨rfl, rfl, trivial⟩ (gc_seq (gc_region (gl_newop (new_boxx (ρ := (rpT (rpQ k))) rfl ra) rfl rfl rfl ?_)))
 intro v2 q2 hq2
 obtain ⟨b2, cs2, rfl, rfl, rb2⟩ := hq2
 refine gl_newop (new_boxx (ρ := (rpT (rpQ k))) rfl rb) rfl rfl rfl ?_
 intro v3 q3 hq3
 obtain ⟨b3, cs3, rfl, rfl, rb3⟩ := hq3
 refine asg rfl rfl (gl_nil (gq_then (gc_seq (gc_region (gv ((ov_index_arr (sz := 3) (q := 0) 0 Tryz.underlying33 Tryz.sizeOf31 rfl rfl rfl (by decide)).cv (show _ = vP b2 0 from congrArg (vP b2) (by rfl))) rfl (gl_x (F := fun v_ => (rpQ k).Is h0 v_ a.x) (ox_load_box ty31 (Pc.tx (Pc.here _)) rfl rfl rb2 rfl) (mem1 (.tail _ (.head _))) rfl ?_))))))
 intro v6 r6
 refine gv ((ov_index_arr (sz := 3) (q := 0) 0 Tryz.underlying33 Tryz.sizeOf31 rfl rfl rfl (by decide)).cv (show _ = vP b3 0 from congrArg (vP b3) (by rfl))) rfl (gl_x (F := fun v_ => (rpQ k).Is h0 v_ b.x) (ox_load_box ty31 (Pc.tx (Pc.here _)) rfl rfl rb3 rfl) (mem1 (.head _)) rfl ?_)
 intro v8 r8
 refine gl_call (vs := [_, _]) rfl rfl rfl rfl Tryz.call23 ⟨rfl, rfl, trivial⟩ (fun w hs => o_rref_same hs r6 r8 (by omega)) ?_
 intro v9 h1 hh1 r9
 obtain rfl : v9 = vB (a.x = b.x) := r9
 refine gl_cut (ι := Mem) 7 (fun m_ => MLe h1 m_) (fun _ => [(16, vB ((a.x = b.x) ∧ (a.y = b.y)))]) (fun _ => [.var b3 33 cs3, .var b2 33 cs2]) (fun m_ => m_) ?_ ?_
 ·
  refine gl_cases (a.x = b.x) (fun hg => ?_) (fun hg => ?_)
  ·
   refine gl_val (ov_move (v := .bool true) (congrArg some (vB_true hg))) rfl rfl rfl (gl_on rfl rfl rfl (gv ((ov_index_arr (sz := 3) (q := 1) 1 Tryz.underlying33 Tryz.sizeOf31 rfl rfl rfl (by decide)).cv (show _ = vP b2 3 from congrArg (vP b2) (by rfl))) rfl (gl_on rfl rfl rfl ?_)))
   replace rb2 := rb2.mono hh1
   refine gl_x (F := fun v_ => (rpQ k).Is h1 v_ a.y) (ox_load_box ty31 (Pc.ty (Pc.here _)) rfl rfl rb2 rfl) (mem1 (.tail _ (.head _))) rfl ?_
   intro v12 r12
   refine gl_on rfl rfl rfl (gv ((ov_index_arr (sz := 3) (q := 1) 1 Tryz.underlying33 Tryz.sizeOf31 rfl rfl rfl (by decide)).cv (show _ = vP b3 3 from congrArg (vP b3) (by rfl))) rfl (gl_on rfl rfl rfl ?_))
   replace rb3 := rb3.mono hh1
   refine gl_x (F := fun v_ => (rpQ k).Is h1 v_ b.y) (ox_load_box ty31 (Pc.ty (Pc.here _)) rfl rfl rb3 rfl) (mem1 (.head _)) rfl ?_
   intro v14 r14
   refine gl_on rfl rfl rfl ?_
   refine gl_call (vs := [_, _]) rfl rfl rfl rfl Tryz.call23 ⟨rfl, rfl, trivial⟩ (fun w hs => o_rref_same hs r12 r14 (by omega)) ?_
   intro v15 h2 hh2 r15
   obtain rfl : v15 = vB (a.y = b.y) := r15
   refine gv (ov_pick_t rfl rfl) rfl (gl_nil ?_)
   refine gq_cut h2 hh2 ⟨?_, trivial⟩ rfl rfl
   exact congrArg some (vB_and_t hg)
  ·
   refine gl_val (ov_move (v := .bool false) (congrArg some (vB_false hg))) rfl rfl rfl (gl_off rfl rfl rfl rfl rfl rfl (gl_off rfl rfl rfl rfl rfl rfl (gl_off rfl rfl rfl rfl rfl rfl (gl_off rfl rfl rfl rfl rfl rfl (gl_off rfl rfl rfl rfl rfl rfl (gv (ov_pick_f rfl rfl) rfl (gl_nil ?_)))))))
   refine gq_cut h1 (MLe.refl _) ⟨?_, trivial⟩ rfl rfl
   exact congrArg some (vB_and_f hg)
 ·
  intro mg1_5 hmmg1_5
  show GL _ _ _ _ _ _ _ [(16, vB ((a.x = b.x) ∧ (a.y = b.y)))] [.var b3 33 cs3, .var b2 33 cs2] mg1_5
  refine asg rfl rfl (gl_nil (gq_then (gc_ret (gq_body1 rfl rfl ?_))))
  first | exact vB_iff (by rw [pr_eq]; exact Iff.rfl) | exact (vB_true (by rw [pr_eq]; exact Iff.rfl)).symm | exact (vB_false (by rw [pr_eq]; exact Iff.rfl)).symm

theorem o_r5_less {w0 : World} {h0 : Mem}  (hs : MLe h0 (mem w0)) {k : Nat} {va : Value} {a : (T3 Rat)} (ra : (rpT (rpQ k)).Is h0 va a) {vb : Value} {b : (T3 Rat)} (rb : (rpT (rpQ k)).Is h0 vb b) (hcd0 : k ≤ 2000000000)  :
    Calls Tryz.prog 70 #[va, vb] w0 (Ret w0 h0 (fun _ r => r = vB (lx (pr a 0 1) (pr b 0 1)))) := by
 refine calls_begin (n := 21) (e := [(0, va), (1, vb)]) (vs := [va, vb]) Tryz.func70 rfl rfl (Nat.le_of_ble_eq_true rfl) hs ⟨rfl, rfl, trivial⟩ (gc_seq (gc_region (gl_newop (new_boxx (ρ := (rpT (rpQ k))) rfl ra) rfl rfl rfl ?_)))
 intro v2 q2 hq2
 obtain ⟨b2, cs2, rfl, rfl, rb2⟩ := hq2
 refine gl_newop (new_boxx (ρ := (rpT (rpQ k))) rfl rb) rfl rfl rfl ?_
 intro v3 q3 hq3
 obtain ⟨b3, cs3, rfl, rfl, rb3⟩ := hq3
 refine asg rfl rfl (gl_nil (gq_then (gc_seq (gc_seq (gc_region (gv ((ov_index_arr (sz := 3) (q := 0) 0 Tryz.underlying33 Tryz.sizeOf31 rfl rfl rfl (by decide)).cv (show _ = vP b2 0 from congrArg (vP b2) (by rfl))) rfl (gl_x (F := fun v_ => (rpQ k).Is h0 v_ a.x) (ox_load_box ty31 (Pc.tx (Pc.here _)) rfl rfl rb2 rfl) (mem1 (.tail _ (.head _))) rfl ?_)))))))
 intro v7 r7
 refine gv ((ov_index_arr (sz := 3) (q := 0) 0 Tryz.underlying33 Tryz.sizeOf31 rfl rfl rfl (by decide)).cv (show _ = vP b3 0 from congrArg (vP b3) (by rfl))) rfl (gl_x (F := fun v_ => (rpQ k).Is h0 v_ b.x) (ox_load_box ty31 (Pc.tx (Pc.here _)) rfl rfl rb3 rfl) (mem1 (.head _)) rfl ?_)
 intro v9 r9
 refine gl_call (vs := [_, _]) rfl rfl rfl rfl Tryz.call44 ⟨rfl, rfl, trivial⟩ (fun w hs => o_rref_cmp hs r7 r9 (by omega)) ?_
 intro v10 h1 hh1 r10
 obtain rfl : v10 = vI (cmpQ a.x b.x) := r10
 have hcr10 := cmpQ_range a.x b.x
 refine asg rfl rfl (gl_nil (gq_then (gc_seq (gc_region (mv rfl rfl (gv (ov_neq_i (q := 0) rfl rfl) rfl (gl_nil (gq_then ?_))))))))
 refine gc_cond rfl (fun hc12 => ?_) (fun hc12 => ?_)
 ·
  refine gc_keep (e' := [(5, _)]) ⟨rfl, trivial⟩ (gc_seq (gc_region (mv rfl rfl (gv (ov_lss_i (q := 0) rfl rfl) rfl (asg rfl rfl (gl_nil (gq_then (gc_ret (gr_then (gq_body1 rfl rfl ?_))))))))))
  exact vB_iff (less_1 hc12)
 ·
  refine gc_keep (e' := [(2, _), (3, _)]) ⟨rfl, rfl, trivial⟩ (gc_skip (gq_then (gc_seq (gc_region (gv ((ov_index_arr (sz := 3) (q := 1) 1 Tryz.underlying33 Tryz.sizeOf31 rfl rfl rfl (by decide)).cv (show _ = vP b2 3 from congrArg (vP b2) (by rfl))) rfl ?_)))))
  replace rb2 := rb2.mono hh1
  refine gl_x (F := fun v_ => (rpQ k).Is h1 v_ a.y) (ox_load_box ty31 (Pc.ty (Pc.here _)) rfl rfl rb2 rfl) (mem1 (.tail _ (.head _))) rfl ?_
  intro v16 r16
  refine gv ((ov_index_arr (sz := 3) (q := 1) 1 Tryz.underlying33 Tryz.sizeOf31 rfl rfl rfl (by decide)).cv (show _ = vP b3 3 from congrArg (vP b3) (by rfl))) rfl ?_
  replace rb3 := rb3.mono hh1
  refine gl_x (F := fun v_ => (rpQ k).Is h1 v_ b.y) (ox_load_box ty31 (Pc.ty (Pc.here _)) rfl rfl rb3 rfl) (mem1 (.head _)) rfl ?_
  intro v18 r18
  refine gl_call (vs := [_, _]) rfl rfl rfl rfl Tryz.call44 ⟨rfl, rfl, trivial⟩ (fun w hs => o_rref_cmp hs r16 r18 (by omega)) ?_
  intro v19 h2 hh2 r19
  obtain rfl : v19 = vI (cmpQ a.y b.y) := r19
  have hcr19 := cmpQ_range a.y b.y
  refine gv (ov_lss_i (q := 0) rfl rfl) rfl (asg rfl rfl (gl_nil (gq_then (gc_ret (gq_body1 rfl rfl ?_)))))
  exact vB_iff (less_2 hc12)

theorem o_r5_area {w0 : World} {h0 : Mem}  (hs : MLe h0 (mem w0)) {k : Nat} {vl : Value} {l : (List (T3 Rat))} (rl : (rpS (rpT (rpQ k))).Is h0 vl l) (hcd0 : k ≤ 100000) (hcd1 : l.length ≤ 1000)  :
    Calls Tryz.prog 25 #[vl] w0 (Ret w0 h0 (fun h r => (rpQ 1000000000).Is h r (areaTo l 0 1 l.length))) := by
 refine calls_begin (n := 40) (e := [(0, vl)]) (vs := [vl]) Tryz.func25 rfl rfl (Nat.le_of_ble_eq_true rfl) hs ⟨rfl, trivial⟩ (gc_seq (gc_region (gl_newop (new_allocx (ρ := (rpQ 1)) (X := (0 : Rat)) info31 rfl rfl (zr_q (by decide))) rfl rfl rfl ?_)))
 intro v2 q2 hq2
 obtain ⟨b2, cs2, rfl, rfl, rb2⟩ := hq2
 refine gl_nil (gq_then (gc_seq (gc_region (gl_x (F := fun v_ => (rpQ 1).Is h0 v_ (0 : Rat)) (ox_build (ps' := []) Tryz.underlying31 info31 rfl rfl (places31 Tryz.underlying31) trivial rfl (zr_q (by decide)) fx_nil) mem0 rfl ?_))))
 intro v7 r7
 refine gl_newop (new_allocx (ρ := (rpQ 1)) (X := (0 : Rat)) info31 rfl rfl (zr_q (by decide))) rfl rfl rfl ?_
 intro v3 q3 hq3
 obtain ⟨b3, cs3, rfl, rfl, rb3⟩ := hq3
 refine gl_updx (A := []) (F := fun c_ => (rpQ 1).R h0 c_ (0 : Rat)) (upd_box Tryz.sizeOf31 (Pc.here _) rfl rfl rfl rb3 r7 rfl) ?_
 intro cs_5 rb_6
 refine gl_nil (gq_then (gc_seq (gc_seq (gc_region (asg (v := vI (0)) rfl rfl (gl_nil (gq_then (gc_block ?_))))))))
 refine gc_loop (ι := Nat × Nat × List Value × Mem) (fun (x_ : (Nat × Nat × List Value × Mem)) => match x_ with | (m, q, cs_7, ma) => MLe h0 ma ∧ ((rpQ q).R ma cs_7 (areaTo l 0 1 m) ∧ m ≤ l.length ∧ q ≤ (4 * k + 9) * m + 1)) (fun (x_ : (Nat × Nat × List Value × Mem)) => match x_ with | (m, q, cs_7, ma) => [(0, vl), (2, vP b2 0), (3, vP b3 0), (4, vI ↑m)]) (fun (x_ : (Nat × Nat × List Value × Mem)) => match x_ with | (m, q, cs_7, ma) => [.var b3 31 cs_7, .var b2 31 cs2]) (fun (x_ : (Nat × Nat × List Value × Mem)) => match x_ with | (m, q, cs_7, ma) => ma) (fun (x_ : (Nat × Nat × List Value × Mem)) => match x_ with | (m, q, cs_7, ma) => l.length - m) (0, 1, cs_5, h0) ?_ ⟨rfl, rfl, rfl, rfl, trivial⟩ rfl rfl ?_
 ·
  refine ⟨MLe.refl _, ?_⟩
  refine ⟨rb_6, ?_⟩
  exact ⟨by omega, by omega⟩
 ·
  intro x hx
  obtain ⟨m, q, cs_7, ma⟩ := x
  obtain ⟨hmma, hinv⟩ := hx
  show GC _ _ _ _ _ _ [(0, vl), (2, vP b2 0), (3, vP b3 0), (4, vI ↑m)] [.var b3 31 cs_7, .var b2 31 cs2] ma
  obtain ⟨rb_8, hinv⟩ := hinv
  obtain ⟨hm1, hq1⟩ := hinv
  have hq2 := Nat.mul_le_mul_left (4 * k + 9) (show m ≤ 1000 by omega)
  refine gc_seq (gc_seq (gc_region (mv rfl rfl (mv rfl rfl ?_))))
  replace rl := rl.mono hmma
  refine gv (ov_len_sr Tryz.underlying36 rfl rl) rfl (gv (ov_lss_i rfl rfl) rfl (gl_nil (gq_then ?_)))
  refine gc_cond rfl (fun hc11 => ?_) (fun hc11 => ?_)
  ·
   refine gc_skip (gq_then (gc_seq (gc_block (gc_seq ?_))))
   refine gc_draw 16 _ [(12, (5, 33, [.bool false, .slice none 0 0, .slice none 0 0, .bool false, .slice none 0 0, .slice none 0 0, .bool false, .slice none 0 0, .slice none 0 0])), (13, (6, 33, [.bool false, .slice none 0 0, .slice none 0 0, .bool false, .slice none 0 0, .slice none 0 0, .bool false, .slice none 0 0, .slice none 0 0]))] [(0, .q), (1, .q), (2, .q), (3, .q), (4, .q), (5, .q), (6, .q), (7, .q), (8, .q), (9, .q), (10, .q), (11, .q), (12, .a), (13, .a), (14, .c), (15, .c)] mixed (AlOk.cons rfl (zero_run info33 rfl rfl) (AlOk.cons rfl (zero_run info33 rfl rfl) AlOk.nil)) (chk_of [0, 0, 3, 4, 0, 0, 32, 0, 128, 320, 528, 1024, 0, 0, 12303, 32767] [65535, 65535, 65532, 65531, 65535, 65535, 65503, 65535, 65407, 65215, 65007, 64511, 65535, 65535, 61431, 55295] (by kernel_rfl)) (hae_cons rfl rfl (hae_cons rfl rfl hae_nil)) (fun r hr => hr) (w_q rfl (fun h' L' hh hR => ov_move rfl) rfl (w_q rfl (fun h' L' hh hR => ov_move rfl) rfl (w_qx (F := fun v_ => AtP (rpT (rpQ k)) ma v_ (l.getD m (T3.mk (0 : Rat) (0 : Rat) (0 : Rat)))) rfl (ox_idx_s (T3.mk (0 : Rat) (0 : Rat) (0 : Rat)) m Tryz.underlying36 ty33 rfl rfl rl rfl (by omega) (show 0 < 9 from by decide)) mem0 rfl ?_)))
   intro v16 r16
   refine w_qx (F := fun v_ => (rpT (rpQ k)).Is ma v_ (l.getD m (T3.mk (0 : Rat) (0 : Rat) (0 : Rat)))) rfl (ox_load_at ty33 rfl r16) mem0 rfl ?_
   intro v17 r17
   refine w_q rfl (fun h' L' hh hR => ov_move rfl) rfl (w_q rfl (fun h' L' hh hR => ov_move rfl) rfl (w_q rfl (fun h' L' hh hR => ov_add_i (q := 1) rfl rfl (by omega) (by omega)) rfl (w_q rfl (fun h' L' hh hR => ov_move rfl) rfl (w_q rfl (fun h' L' hh hR => ov_len_sr Tryz.underlying36 rfl (rl.mono hh)) rfl (w_q rfl (fun h' L' hh hR => ov_rem_i rfl rfl (by omega) (by omega)) rfl (w_qx (F := fun v_ => AtP (rpT (rpQ k)) ma v_ (l.getD ((m + 1) % l.length) (T3.mk (0 : Rat) (0 : Rat) (0 : Rat)))) rfl (ox_idx_s (T3.mk (0 : Rat) (0 : Rat) (0 : Rat)) ((m + 1) % l.length) Tryz.underlying36 ty33 rfl rfl rl (by first | rfl | (push_cast; rfl)) (by exact Nat.mod_lt _ (by omega)) (show 0 < 9 from by decide)) mem0 rfl ?_))))))
   intro v24 r24
   refine w_qx (F := fun v_ => (rpT (rpQ k)).Is ma v_ (l.getD ((m + 1) % l.length) (T3.mk (0 : Rat) (0 : Rat) (0 : Rat)))) rfl (ox_load_at ty33 rfl r24) mem0 rfl ?_
   intro v25 r25
   refine w_a rfl (fun b5 => ?_)
   have rb5 : (rpT (rpQ 1)).R ma [.bool false, .slice none 0 0, .slice none 0 0, .bool false, .slice none 0 0, .slice none 0 0, .bool false, .slice none 0 0, .slice none 0 0] (T3.mk (0 : Rat) (0 : Rat) (0 : Rat)) := (zr_t (zr_q (by decide)))
   refine w_a rfl (fun b6 => ?_)
   have rb6 : (rpT (rpQ 1)).R ma [.bool false, .slice none 0 0, .slice none 0 0, .bool false, .slice none 0 0, .slice none 0 0, .bool false, .slice none 0 0, .slice none 0 0] (T3.mk (0 : Rat) (0 : Rat) (0 : Rat)) := (zr_t (zr_q (by decide)))
   refine w_c rfl ?_
   have rw_9 := (Le.t (Le.q (l := k + 1) (by omega))).R rb5
   refine s_updx (A := [_]) (F := fun c_ => (rpT (rpQ (k + 1))).R ma c_ (l.getD m (T3.mk (0 : Rat) (0 : Rat) (0 : Rat)))) (upd_box Tryz.sizeOf33 (Pc.here _) rfl rfl rfl rw_9 (r17.le (Le.t (Le.q (l := k + 1) (by omega)))) rfl) (mem_kept (by first | (simp; done) | grind)) ?_
   intro cs_10 rb_11
   refine w_c rfl ?_
   have rw_12 := (Le.t (Le.q (l := k + 1) (by omega))).R rb6
   refine s_updx (A := []) (F := fun c_ => (rpT (rpQ (k + 1))).R ma c_ (l.getD ((m + 1) % l.length) (T3.mk (0 : Rat) (0 : Rat) (0 : Rat)))) (upd_box Tryz.sizeOf33 (Pc.here _) rfl rfl rfl rw_12 (r25.le (Le.t (Le.q (l := k + 1) (by omega)))) rfl) (mem_kept (by first | (simp; done) | grind)) ?_
   intro cs_13 rb_14
   refine w_nil (gq_keep (e' := [(0, _), (2, _), (3, _), (4, _), (5, _), (6, _)]) ⟨rfl, rfl, rfl, rfl, rfl, rfl, trivial⟩ (gq_then ?_))
   refine gc_draw 13 _ [] [(0, .q), (1, .q), (2, .q), (3, .q), (4, .q), (6, .q), (7, .q), (8, .q), (9, .q), (5, .c), (10, .c), (11, .c), (12, .c), (13, .t)] mixed (fun x hx => by cases hx) (chk_of [0, 0, 2, 0, 8, 20, 0, 64, 0, 256, 672, 1056, 2049, 8191] [16383, 16383, 16381, 16383, 16375, 16363, 16383, 16319, 16383, 16127, 15743, 15327, 14334, 12287] (by kernel_rfl)) (fun x hx => by cases hx) (fun r hr => hr) (w_qx (F := fun v_ => (rpQ q).Is ma v_ (areaTo l 0 1 m)) rfl (ox_load_box ty31 (Pc.here _) rfl rfl rb_8 rfl) (mem1 (.tail _ (.tail _ (.head _)))) rfl ?_)
   intro v26 r26
   refine w_q rfl (fun h' L' hh hR => (ov_index_arr (sz := 3) (q := 0) 0 Tryz.underlying33 Tryz.sizeOf31 rfl rfl rfl (by decide)).cv (show _ = vP b5 0 from congrArg (vP b5) (by rfl))) rfl (w_qx (F := fun v_ => (rpQ (k + 1)).Is ma v_ ((l.getD m (T3.mk (0 : Rat) (0 : Rat) (0 : Rat))).x)) rfl (ox_load_box ty31 (Pc.tx (Pc.here _)) rfl rfl rb_11 rfl) (mem1 (.tail _ (.head _))) rfl ?_)
   intro v28 r28
   refine w_q rfl (fun h' L' hh hR => (ov_index_arr (sz := 3) (q := 1) 1 Tryz.underlying33 Tryz.sizeOf31 rfl rfl rfl (by decide)).cv (show _ = vP b6 3 from congrArg (vP b6) (by rfl))) rfl (w_qx (F := fun v_ => (rpQ (k + 1)).Is ma v_ ((l.getD ((m + 1) % l.length) (T3.mk (0 : Rat) (0 : Rat) (0 : Rat))).y)) rfl (ox_load_box ty31 (Pc.ty (Pc.here _)) rfl rfl rb_14 rfl) (mem1 (.head _)) rfl ?_)
   intro v30 r30
   refine w_q rfl (fun h' L' hh hR => (ov_index_arr (sz := 3) (q := 0) 0 Tryz.underlying33 Tryz.sizeOf31 rfl rfl rfl (by decide)).cv (show _ = vP b6 0 from congrArg (vP b6) (by rfl))) rfl (w_qx (F := fun v_ => (rpQ (k + 1)).Is ma v_ ((l.getD ((m + 1) % l.length) (T3.mk (0 : Rat) (0 : Rat) (0 : Rat))).x)) rfl (ox_load_box ty31 (Pc.tx (Pc.here _)) rfl rfl rb_14 rfl) (mem1 (.head _)) rfl ?_)
   intro v33 r33
   refine w_q rfl (fun h' L' hh hR => (ov_index_arr (sz := 3) (q := 1) 1 Tryz.underlying33 Tryz.sizeOf31 rfl rfl rfl (by decide)).cv (show _ = vP b5 3 from congrArg (vP b5) (by rfl))) rfl (w_qx (F := fun v_ => (rpQ (k + 1)).Is ma v_ ((l.getD m (T3.mk (0 : Rat) (0 : Rat) (0 : Rat))).y)) rfl (ox_load_box ty31 (Pc.ty (Pc.here _)) rfl rfl rb_11 rfl) (mem1 (.tail _ (.head _))) rfl ?_)
   intro v35 r35
   refine w_c rfl ?_
   refine s_call (vs := [_, _]) Tryz.call37 ⟨rfl, rfl, trivial⟩ (fun w hs => o_rref_mul hs r28 r30 (by omega)) rfl ?_
   intro v31 h1 hh1 r31
   change (rpQ ((k + 1) + (k + 1))).Is h1 v31 (((l.getD m (T3.mk (0 : Rat) (0 : Rat) (0 : Rat))).x) * ((l.getD ((m + 1) % l.length) (T3.mk (0 : Rat) (0 : Rat) (0 : Rat))).y)) at r31
   replace r31 := Rp.Is.le r31 (Le.q (l := 2 * k + 2) (by omega))
   refine w_c rfl ?_
   replace r33 := r33.mono hh1
   replace r35 := r35.mono hh1
   refine s_call (vs := [_, _]) Tryz.call37 ⟨rfl, rfl, trivial⟩ (fun w hs => o_rref_mul hs r33 r35 (by omega)) rfl ?_
   intro v36 h2 hh2 r36
   change (rpQ ((k + 1) + (k + 1))).Is h2 v36 (((l.getD ((m + 1) % l.length) (T3.mk (0 : Rat) (0 : Rat) (0 : Rat))).x) * ((l.getD m (T3.mk (0 : Rat) (0 : Rat) (0 : Rat))).y)) at r36
   replace r36 := Rp.Is.le r36 (Le.q (l := 2 * k + 2) (by omega))
   refine w_c rfl ?_
   replace r31 := r31.mono hh2
   refine s_call (vs := [_, _]) Tryz.call39 ⟨rfl, rfl, trivial⟩ (fun w hs => o_rref_sub hs r31 r36 (by omega)) rfl ?_
   intro v37 h3 hh3 r37
   change (rpQ ((2 * k + 2) + (2 * k + 2) + 1)).Is h3 v37 ((((l.getD m (T3.mk (0 : Rat) (0 : Rat) (0 : Rat))).x) * ((l.getD ((m + 1) % l.length) (T3.mk (0 : Rat) (0 : Rat) (0 : Rat))).y)) - (((l.getD ((m + 1) % l.length) (T3.mk (0 : Rat) (0 : Rat) (0 : Rat))).x) * ((l.getD m (T3.mk (0 : Rat) (0 : Rat) (0 : Rat))).y))) at r37
   replace r37 := Rp.Is.le r37 (Le.q (l := 4 * k + 5) (by omega))
   refine w_c rfl ?_
   replace r26 := r26.mono ((hh1.trans hh2).trans hh3)
   refine s_call (vs := [_, _]) Tryz.call36 ⟨rfl, rfl, trivial⟩ (fun w hs => o_rref_add hs r26 r37 (by omega)) rfl ?_
   intro v38 h4 hh4 r38
   change (rpQ (q + (4 * k + 5) + 1)).Is h4 v38 ((areaTo l 0 1 m) + ((((l.getD m (T3.mk (0 : Rat) (0 : Rat) (0 : Rat))).x) * ((l.getD ((m + 1) % l.length) (T3.mk (0 : Rat) (0 : Rat) (0 : Rat))).y)) - (((l.getD ((m + 1) % l.length) (T3.mk (0 : Rat) (0 : Rat) (0 : Rat))).x) * ((l.getD m (T3.mk (0 : Rat) (0 : Rat) (0 : Rat))).y)))) at r38
   replace r38 := Rp.Is.le r38 (Le.q (l := 4 * k + q + 6) (by omega))
   replace rb_8 := rb_8.mono (((hh1.trans hh2).trans hh3).trans hh4)
   have rw_15 := (Le.q (l := 4 * k + q + 6) (by omega)).R rb_8
   refine w_tx_upd (A := [_, _]) (F := fun c_ => (rpQ (4 * k + q + 6)).R h4 c_ ((areaTo l 0 1 m) + ((((l.getD m (T3.mk (0 : Rat) (0 : Rat) (0 : Rat))).x) * ((l.getD ((m + 1) % l.length) (T3.mk (0 : Rat) (0 : Rat) (0 : Rat))).y)) - (((l.getD ((m + 1) % l.length) (T3.mk (0 : Rat) (0 : Rat) (0 : Rat))).x) * ((l.getD m (T3.mk (0 : Rat) (0 : Rat) (0 : Rat))).y))))) rfl (upd_box Tryz.sizeOf31 (Pc.here _) rfl rfl rfl rw_15 r38 rfl) ?_
   intro cs_16 rb_17
   refine w_nil (gq_in (gq_keep (e' := [(0, _), (2, _), (3, _), (4, _)]) ⟨rfl, rfl, rfl, rfl, trivial⟩ (gq_then (gc_region (mv rfl rfl (gv (ov_add_i (q := 1) rfl rfl (by omega) (by omega)) rfl (asg rfl rfl (gl_nil (gq_drop (A := []) (gq_drop (A := []) ?_))))))))))
   refine gq_round ((m + 1), (q + (4 * k + 9)), cs_16, h4) ?_ ?_ ⟨?_, ?_, ?_, ?_, trivial⟩ ?_ rfl
   ·
    refine ⟨((((hmma.trans hh1).trans hh2).trans hh3).trans hh4), ?_⟩
    refine ⟨(Rp.castR (Le.R (Le.q (l := q + (4 * k + 9)) (by omega)) rb_17) rfl), ?_⟩
    exact ⟨by omega, by rw [Nat.mul_succ]; omega⟩
   ·
    dsimp only
    omega
   · exact rfl
   · exact rfl
   · exact rfl
   · exact rfl
   · exact rfl
  ·
   have em : m = l.length := by omega
   have hq2 := Nat.mul_le_mul_left (4 * k + 9) (show m ≤ 1000 by omega)
   refine gc_exit (gx_then (gx_then (gx_here (gq_then (gc_seq (gc_region (gl_x (F := fun v_ => (rpQ q).Is ma v_ (areaTo l 0 1 m)) (ox_load_box ty31 (Pc.here _) rfl rfl rb_8 rfl) (mem1 (.head _)) rfl ?_)))))))
   intro v39 r39
   replace rb2 := rb2.mono hmma
   have rw_18 := (Le.q (l := q + 1) (by omega)).R rb2
   refine gl_updx (A := [_]) (F := fun c_ => (rpQ (q + 1)).R ma c_ (areaTo l 0 1 m)) (upd_box Tryz.sizeOf31 (Pc.here _) rfl rfl rfl rw_18 (r39.le (Le.q (l := q + 1) (by omega))) rfl) ?_
   intro cs_19 rb_20
   refine gl_nil (gq_then (gc_ret (gq_exv (rv_o (t := 2) ty31 (.tail _ (.head _)) rfl rb_20) ?_)))
   intro w_21 hvw_21 rr_22
   refine gq_res (fun E S => run_res1 rfl hvw_21 E S) ?_
   exact (Rp.Is.cast (Rp.Is.le rr_22 (Le.q (l := 1000000000) (by omega))) (by rw [em]))

theorem o_r5_turn {w0 : World} {h0 : Mem}  (hs : MLe h0 (mem w0)) {k : Nat} {va : Value} {a : (T3 Rat)} (ra : (rpT (rpQ k)).Is h0 va a) {vb : Value} {b : (T3 Rat)} (rb : (rpT (rpQ k)).Is h0 vb b) {vc : Value} {c : (T3 Rat)} (rc : (rpT (rpQ k)).Is h0 vc c) (hcd0 : k ≤ 10000)  :
    Calls Tryz.prog 45 #[va, vb, vc] w0 (Ret w0 h0 (fun _ r => r = vI (orZ (pr a 0 1) (pr b 0 1) (pr c 0 1)))) := by
 refine calls_begin (n := 13) (e := [(0, va), (1, vb), (2, vc)]) (vs := [va, vb, vc]) Tryz.func45 rfl rfl (Nat.le_of_ble_eq_true rfl) hs ⟨rfl, rfl, rfl, trivial⟩ (gc_seq (gc_region (gl_newop (new_boxx (ρ := (rpT (rpQ k))) rfl ra) rfl rfl rfl ?_)))
 intro v3 q3 hq3
 obtain ⟨b3, cs3, rfl, rfl, rb3⟩ := hq3
 refine gl_newop (new_boxx (ρ := (rpT (rpQ k))) rfl rb) rfl rfl rfl ?_
 intro v4 q4 hq4
 obtain ⟨b4, cs4, rfl, rfl, rb4⟩ := hq4
 refine gl_newop (new_boxx (ρ := (rpT (rpQ k))) rfl rc) rfl rfl rfl ?_
 intro v5 q5 hq5
 obtain ⟨b5, cs5, rfl, rfl, rb5⟩ := hq5
 refine asg (v := vI (0)) rfl rfl (gl_nil (gq_then (gc_seq (gc_region (gl_x (F := fun v_ => (rpT (rpQ k)).Is h0 v_ a) (ox_load_box ty33 (Pc.here _) rfl rfl rb3 rfl) (mem1 (.tail _ (.tail _ (.head _)))) rfl ?_)))))
 intro v7 r7
 refine gl_x (F := fun v_ => (rpT (rpQ k)).Is h0 v_ b) (ox_load_box ty33 (Pc.here _) rfl rfl rb4 rfl) (mem1 (.tail _ (.head _))) rfl ?_
 intro v8 r8
 refine gl_x (F := fun v_ => (rpT (rpQ k)).Is h0 v_ c) (ox_load_box ty33 (Pc.here _) rfl rfl rb5 rfl) (mem1 (.head _)) rfl ?_
 intro v9 r9
 refine gl_newop (new_buildx (ρ := (rpT (rpQ (k + 1)))) (m := 3) (xs := [a, b, c]) (ps' := [(0, _), (1, _), (2, _)]) Tryz.underlying36 info33 rfl rfl rfl (zr_t (zr_q (by omega))) ⟨rfl, rfl, rfl, rfl, rfl, rfl, trivial⟩ (fx_one rfl (Pc.arr (Pc.here _) (T3.mk (0 : Rat) (0 : Rat) (0 : Rat)) 0 (by decide)) (r7.le (Le.t (Le.q (l := k + 1) (by omega)))) (fx_one rfl (Pc.arr (Pc.here _) (T3.mk (0 : Rat) (0 : Rat) (0 : Rat)) 1 (by decide)) (r8.le (Le.t (Le.q (l := k + 1) (by omega)))) (fx_one rfl (Pc.arr (Pc.here _) (T3.mk (0 : Rat) (0 : Rat) (0 : Rat)) 2 (by decide)) (r9.le (Le.t (Le.q (l := k + 1) (by omega)))) fx_nil))) (show 3 * 9 ≤ 16777216 from by decide) (show 0 < 9 from by decide)) rfl rfl rfl ?_
 intro v10 q10 hq10
 obtain ⟨cs10, rfl, rl10⟩ := hq10
 refine gl_freezex (A := []) (ρ := (rpT (rpQ (k + 1)))) rl10 ?_
 intro h1 hh1 rs_23
 refine gl_call (vs := [_]) rfl rfl rfl rfl Tryz.call25 ⟨rfl, trivial⟩ (fun w hs => o_r5_area hs rs_23 (by first | omega | exact (by decide : 3 ≤ 1000)) (by first | omega | exact (by decide : 3 ≤ 1000))) ?_
 intro v11 h2 hh2 r11
 change (rpQ 1000000000).Is h2 v11 (areaTo [a, b, c] 0 1 [a, b, c].length) at r11
 refine gl_call (vs := [_]) rfl rfl rfl rfl Tryz.call55 ⟨rfl, trivial⟩ (fun w hs => o_rref_sign hs r11 (by decide)) ?_
 intro v12 h3 hh3 r12
 obtain rfl : v12 = vI (sgnQ (areaTo [a, b, c] 0 1 [a, b, c].length)) := r12
 have hsr12 := sgnQ_range (areaTo [a, b, c] 0 1 [a, b, c].length)
 refine asg rfl rfl (gl_nil (gq_keep (e' := [(6, _)]) ⟨rfl, trivial⟩ (gq_then (gc_ret (gq_body1 rfl rfl ?_)))))
 exact congrArg vI (turn_eq a b c)

theorem o_r5_on {w0 : World} {h0 : Mem}  (hs : MLe h0 (mem w0)) {k : Nat} {va : Value} {a : (T3 Rat)} (ra : (rpT (rpQ k)).Is h0 va a) {vb : Value} {b : (T3 Rat)} (rb : (rpT (rpQ k)).Is h0 vb b) {vp : Value} {p : (T3 Rat)} (rp : (rpT (rpQ k)).Is h0 vp p) (hcd0 : k ≤ 10000)  :
    Calls Tryz.prog 42 #[va, vb, vp] w0 (Ret w0 h0 (fun _ r => r = vB (onS (pr a 0 1) (pr b 0 1) (pr p 0 1)))) := by
 refine calls_begin (n := 29) (e := [(0, va), (1, vb), (2, vp)]) (vs := [va, vb, vp]) Tryz.func42 rfl rfl (Nat.le_of_ble_eq_true rfl) hs ⟨rfl, rfl, rfl, trivial⟩ (gc_seq (gc_region (gl_newop (new_boxx (ρ := (rpT (rpQ k))) rfl ra) rfl rfl rfl ?_)))
 intro v3 q3 hq3
 obtain ⟨b3, cs3, rfl, rfl, rb3⟩ := hq3
 refine gl_newop (new_boxx (ρ := (rpT (rpQ k))) rfl rb) rfl rfl rfl ?_
 intro v4 q4 hq4
 obtain ⟨b4, cs4, rfl, rfl, rb4⟩ := hq4
 refine gl_newop (new_boxx (ρ := (rpT (rpQ k))) rfl rp) rfl rfl rfl ?_
 intro v5 q5 hq5
 obtain ⟨b5, cs5, rfl, rfl, rb5⟩ := hq5
 refine asg rfl rfl (gl_nil (gq_then ?_))
 refine gc_cut (ι := List Value × List Value × Mem) (fun (x_ : (List Value × List Value × Mem)) => match x_ with | (cs_24, cs_26, m1) => MLe h0 m1 ∧ ((rpT (rpQ k)).R m1 cs_24 (loT a b 0 1) ∧ (rpT (rpQ k)).R m1 cs_26 (hiT a b 0 1) ∧ True)) (fun (x_ : (List Value × List Value × Mem)) => match x_ with | (cs_24, cs_26, m1) => [(3, vP b3 0), (4, vP b4 0), (5, vP b5 0)]) (fun (x_ : (List Value × List Value × Mem)) => match x_ with | (cs_24, cs_26, m1) => [.var b5 33 cs5, .var b4 33 cs_26, .var b3 33 cs_24]) (fun (x_ : (List Value × List Value × Mem)) => match x_ with | (cs_24, cs_26, m1) => m1) ?_ ?_
 ·
  refine gc_seq (gc_region (gl_x (F := fun v_ => (rpT (rpQ k)).Is h0 v_ b) (ox_load_box ty33 (Pc.here _) rfl rfl rb4 rfl) (mem1 (.tail _ (.head _))) rfl ?_))
  intro v7 r7
  refine gl_x (F := fun v_ => (rpT (rpQ k)).Is h0 v_ a) (ox_load_box ty33 (Pc.here _) rfl rfl rb3 rfl) (mem1 (.tail _ (.tail _ (.head _)))) rfl ?_
  intro v8 r8
  refine gl_call (vs := [_, _]) rfl rfl rfl rfl Tryz.call70 ⟨rfl, rfl, trivial⟩ (fun w hs => o_r5_less hs r7 r8 (by omega)) ?_
  intro v9 h1 hh1 r9
  obtain rfl : v9 = vB (lx (pr b 0 1) (pr a 0 1)) := r9
  refine gl_nil (gq_then ?_)
  refine gc_cond rfl (fun hc9 => ?_) (fun hc9 => ?_)
  ·
   refine gc_region ?_
   replace rb4 := rb4.mono hh1
   refine gl_x (F := fun v_ => (rpT (rpQ k)).Is h1 v_ b) (ox_load_box ty33 (Pc.here _) rfl rfl rb4 rfl) (mem1 (.tail _ (.head _))) rfl ?_
   intro v10 r10
   replace rb3 := rb3.mono hh1
   refine gl_x (F := fun v_ => (rpT (rpQ k)).Is h1 v_ a) (ox_load_box ty33 (Pc.here _) rfl rfl rb3 rfl) (mem1 (.tail _ (.tail _ (.head _)))) rfl ?_
   intro v11 r11
   refine gl_updx (A := [_, _]) (F := fun c_ => (rpT (rpQ k)).R h1 c_ b) (upd_box Tryz.sizeOf33 (Pc.here _) rfl rfl rfl rb3 r10 rfl) ?_
   intro cs_28 rb_29
   refine gl_updx (A := [_]) (F := fun c_ => (rpT (rpQ k)).R h1 c_ a) (upd_box Tryz.sizeOf33 (Pc.here _) rfl rfl rfl rb4 r11 rfl) ?_
   intro cs_30 rb_31
   refine gl_nil ?_
   refine gq_cut (cs_28, cs_30, h1) ?_ ⟨?_, ?_, ?_, trivial⟩ ?_ rfl
   ·
    refine ⟨hh1, ?_⟩
    refine ⟨(Rp.castR rb_29 (if_pos hc9).symm), (Rp.castR rb_31 (if_pos hc9).symm), ?_⟩
    trivial
   · exact rfl
   · exact rfl
   · exact rfl
   · exact rfl
  ·
   refine gc_skip ?_
   refine gq_cut (cs3, cs4, h1) ?_ ⟨?_, ?_, ?_, trivial⟩ ?_ rfl
   ·
    refine ⟨hh1, ?_⟩
    replace rb3 := rb3.mono hh1
    replace rb4 := rb4.mono hh1
    refine ⟨(Rp.castR rb3 (if_neg hc9).symm), (Rp.castR rb4 (if_neg hc9).symm), ?_⟩
    trivial
   · exact rfl
   · exact rfl
   · exact rfl
   · exact rfl
 ·
  intro x hx
  obtain ⟨cs_24, cs_26, m1⟩ := x
  obtain ⟨hmm1, hcut⟩ := hx
  show GC _ _ _ _ _ _ [(3, vP b3 0), (4, vP b4 0), (5, vP b5 0)] [.var b5 33 cs5, .var b4 33 cs_26, .var b3 33 cs_24] m1
  obtain ⟨rb_25, rb_27, hcut⟩ := hcut
  refine gc_seq (gc_region (gl_x (F := fun v_ => (rpT (rpQ k)).Is m1 v_ (loT a b 0 1)) (ox_load_box ty33 (Pc.here _) rfl rfl rb_25 rfl) (mem1 (.tail _ (.tail _ (.head _)))) rfl ?_))
  intro v12 r12
  refine gl_x (F := fun v_ => (rpT (rpQ k)).Is m1 v_ (hiT a b 0 1)) (ox_load_box ty33 (Pc.here _) rfl rfl rb_27 rfl) (mem1 (.tail _ (.head _))) rfl ?_
  intro v13 r13
  replace rb5 := rb5.mono hmm1
  refine gl_x (F := fun v_ => (rpT (rpQ k)).Is m1 v_ p) (ox_load_box ty33 (Pc.here _) rfl rfl rb5 rfl) (mem1 (.head _)) rfl ?_
  intro v14 r14
  refine gl_call (vs := [_, _, _]) rfl rfl rfl rfl Tryz.call45 ⟨rfl, rfl, rfl, trivial⟩ (fun w hs => o_r5_turn hs r12 r13 r14 (by omega)) ?_
  intro v15 h1 hh1 r15
  obtain rfl : v15 = vI (orZ (pr (loT a b 0 1) 0 1) (pr (hiT a b 0 1) 0 1) (pr p 0 1)) := r15
  have hor15 := or_range (pr (loT a b 0 1) 0 1) (pr (hiT a b 0 1) 0 1) (pr p 0 1)
  refine gv (ov_eql_i (q := 0) rfl rfl) rfl ?_
  refine gl_cut (ι := Mem) 6 (fun m_ => MLe h1 m_) (fun _ => [(22, vB (((orZ (pr (loT a b 0 1) 0 1) (pr (hiT a b 0 1) 0 1) (pr p 0 1)) = (0 : Int)) ∧ (¬ (lx (pr p 0 1) (pr (loT a b 0 1) 0 1))))), (4, vP b4 0), (5, vP b5 0)]) (fun _ => [.var b5 33 cs5, .var b4 33 cs_26, .var b3 33 cs_24]) (fun m_ => m_) ?_ ?_
  ·
   refine gl_cases ((orZ (pr (loT a b 0 1) 0 1) (pr (hiT a b 0 1) 0 1) (pr p 0 1)) = (0 : Int)) (fun hg => ?_) (fun hg => ?_)
   ·
    refine gl_val (ov_move (v := .bool true) (congrArg some (vB_true hg))) rfl rfl rfl (gl_on rfl rfl rfl ?_)
    replace rb5 := rb5.mono hh1
    refine gl_x (F := fun v_ => (rpT (rpQ k)).Is h1 v_ p) (ox_load_box ty33 (Pc.here _) rfl rfl rb5 rfl) (mem1 (.head _)) rfl ?_
    intro v18 r18
    refine gl_on rfl rfl rfl ?_
    replace rb_25 := rb_25.mono hh1
    refine gl_x (F := fun v_ => (rpT (rpQ k)).Is h1 v_ (loT a b 0 1)) (ox_load_box ty33 (Pc.here _) rfl rfl rb_25 rfl) (mem1 (.tail _ (.tail _ (.head _)))) rfl ?_
    intro v19 r19
    refine gl_on rfl rfl rfl ?_
    refine gl_call (vs := [_, _]) rfl rfl rfl rfl Tryz.call70 ⟨rfl, rfl, trivial⟩ (fun w hs => o_r5_less hs r18 r19 (by omega)) ?_
    intro v20 h2 hh2 r20
    obtain rfl : v20 = vB (lx (pr p 0 1) (pr (loT a b 0 1) 0 1)) := r20
    refine gl_on rfl rfl rfl (gv (ov_not rfl) rfl (gv (ov_pick_t rfl rfl) rfl (gl_nil ?_)))
    refine gq_cut h2 hh2 ⟨?_, rfl, rfl, trivial⟩ rfl rfl
    exact congrArg some (vB_and_t hg)
   ·
    refine gl_val (ov_move (v := .bool false) (congrArg some (vB_false hg))) rfl rfl rfl (gl_off rfl rfl rfl rfl rfl rfl (gl_off rfl rfl rfl rfl rfl rfl (gl_off rfl rfl rfl rfl rfl rfl (gl_off rfl rfl rfl rfl rfl rfl (gv (ov_pick_f rfl rfl) rfl (gl_nil ?_))))))
    refine gq_cut h1 (MLe.refl _) ⟨?_, rfl, rfl, trivial⟩ rfl rfl
    exact congrArg some (vB_and_f hg)
  ·
   intro mg3_5 hmmg3_5
   show GL _ _ _ _ _ _ _ [(22, vB (((orZ (pr (loT a b 0 1) 0 1) (pr (hiT a b 0 1) 0 1) (pr p 0 1)) = (0 : Int)) ∧ (¬ (lx (pr p 0 1) (pr (loT a b 0 1) 0 1))))), (4, vP b4 0), (5, vP b5 0)] [.var b5 33 cs5, .var b4 33 cs_26, .var b3 33 cs_24] mg3_5
   refine gl_cut (ι := Mem) 6 (fun m_ => MLe mg3_5 m_) (fun _ => [(28, vB ((((orZ (pr (loT a b 0 1) 0 1) (pr (hiT a b 0 1) 0 1) (pr p 0 1)) = (0 : Int)) ∧ (¬ (lx (pr p 0 1) (pr (loT a b 0 1) 0 1)))) ∧ (¬ (lx (pr (hiT a b 0 1) 0 1) (pr p 0 1)))))]) (fun _ => [.var b5 33 cs5, .var b4 33 cs_26, .var b3 33 cs_24]) (fun m_ => m_) ?_ ?_
   ·
    refine gl_cases (((orZ (pr (loT a b 0 1) 0 1) (pr (hiT a b 0 1) 0 1) (pr p 0 1)) = (0 : Int)) ∧ (¬ (lx (pr p 0 1) (pr (loT a b 0 1) 0 1)))) (fun hg => ?_) (fun hg => ?_)
    ·
     refine gl_val (ov_move (v := .bool true) (congrArg some (vB_true hg))) rfl rfl rfl (gl_on rfl rfl rfl ?_)
     replace rb_27 := rb_27.mono (hh1.trans hmmg3_5)
     refine gl_x (F := fun v_ => (rpT (rpQ k)).Is mg3_5 v_ (hiT a b 0 1)) (ox_load_box ty33 (Pc.here _) rfl rfl rb_27 rfl) (mem1 (.tail _ (.head _))) rfl ?_
     intro v24 r24
     refine gl_on rfl rfl rfl ?_
     replace rb5 := rb5.mono (hh1.trans hmmg3_5)
     refine gl_x (F := fun v_ => (rpT (rpQ k)).Is mg3_5 v_ p) (ox_load_box ty33 (Pc.here _) rfl rfl rb5 rfl) (mem1 (.head _)) rfl ?_
     intro v25 r25
     refine gl_on rfl rfl rfl ?_
     refine gl_call (vs := [_, _]) rfl rfl rfl rfl Tryz.call70 ⟨rfl, rfl, trivial⟩ (fun w hs => o_r5_less hs r24 r25 (by omega)) ?_
     intro v26 h2 hh2 r26
     obtain rfl : v26 = vB (lx (pr (hiT a b 0 1) 0 1) (pr p 0 1)) := r26
     refine gl_on rfl rfl rfl (gv (ov_not rfl) rfl (gv (ov_pick_t rfl rfl) rfl (gl_nil ?_)))
     refine gq_cut h2 hh2 ⟨?_, trivial⟩ rfl rfl
     exact congrArg some (vB_and_t hg)
    ·
     refine gl_val (ov_move (v := .bool false) (congrArg some (vB_false hg))) rfl rfl rfl (gl_off rfl rfl rfl rfl rfl rfl (gl_off rfl rfl rfl rfl rfl rfl (gl_off rfl rfl rfl rfl rfl rfl (gl_off rfl rfl rfl rfl rfl rfl (gv (ov_pick_f rfl rfl) rfl (gl_nil ?_))))))
     refine gq_cut mg3_5 (MLe.refl _) ⟨?_, trivial⟩ rfl rfl
     exact congrArg some (vB_and_f hg)
   ·
    intro mg3_11 hmmg3_11
    show GL _ _ _ _ _ _ _ [(28, vB ((((orZ (pr (loT a b 0 1) 0 1) (pr (hiT a b 0 1) 0 1) (pr p 0 1)) = (0 : Int)) ∧ (¬ (lx (pr p 0 1) (pr (loT a b 0 1) 0 1)))) ∧ (¬ (lx (pr (hiT a b 0 1) 0 1) (pr p 0 1)))))] [.var b5 33 cs5, .var b4 33 cs_26, .var b3 33 cs_24] mg3_11
    refine asg rfl rfl (gl_nil (gq_then (gc_ret (gq_body1 rfl rfl ?_))))
    first | exact vB_iff (by rw [← on_T]; grind) | exact (vB_true (by rw [← on_T]; grind)).symm | exact (vB_false (by rw [← on_T]; grind)).symm

end Go.Proofs.YtfpjclgbieppeaaGreat


namespace Bk
set_option linter.unusedVariables false
set_option linter.unusedSimpArgs false
open Classical
noncomputable def yLoT (a b : Pt) : Pt := if 0 < cmpQ a.y b.y then b else a
noncomputable def yHiT (a b : Pt) : Pt := if 0 < cmpQ a.y b.y then a else b
theorem crossR_iff (a b p : Pt) : ((cmpQ (yLoT a b).y p.y ≤ 0 ∧ cmpQ p.y (yHiT a b).y < 0) ∧ 0 < orZ (pr (yLoT a b) 0 1) (pr (yHiT a b) 0 1) (pr p 0 1)) ↔ crossP (pr a 0 1) (pr b 0 1) (pr p 0 1) := by
  unfold yLoT yHiT crossP
  rw [cmp_le_iff, cmpQ_neg]
  have e1 : (pr a 0 1).2 = a.y := rfl
  have e2 : (pr b 0 1).2 = b.y := rfl
  have e3 : (pr p 0 1).2 = p.y := rfl
  rw [e1, e2, e3]
  by_cases h : 0 < cmpQ a.y b.y
  · have h1 := cmpQ_pos.1 h
    rw [if_pos h, if_pos h, or_swap (pr a 0 1) (pr b 0 1)]
    constructor
    · rintro ⟨⟨h2, h3⟩, h4⟩
      exact ⟨fun e => by grind, .inr ⟨h2, by omega⟩⟩
    · rintro ⟨h2, h3 | h3⟩
      · exact absurd ⟨fun _ => by grind, fun _ => h3.1⟩ h2
      · exact ⟨⟨h3.1, by grind⟩, by omega⟩
  · have h1 : ¬ b.y < a.y := fun e => h (cmpQ_pos.2 e)
    rw [if_neg h, if_neg h]
    constructor
    · rintro ⟨⟨h2, h3⟩, h4⟩
      exact ⟨fun e => by grind, .inl ⟨h2, h4⟩⟩
    · rintro ⟨h2, h3 | h3⟩
      · exact ⟨⟨h3.1, by grind⟩, h3.2⟩
      · exact absurd ⟨fun _ => h3.1, fun _ => by grind⟩ h2
theorem odd_by {l : List Pt} {p : P2} {i j n : Nat} (h : crossP (edgeA l i j n) (edgeB l i j n) p) : (¬ oddTo l p i j n) = oddTo l p i j (n + 1) := by
  show _ = (_ ∨ _)
  simp [h]
theorem odd_not {l : List Pt} {p : P2} {i j n : Nat} (h : ¬ crossP (edgeA l i j n) (edgeB l i j n) p) : oddTo l p i j n = oddTo l p i j (n + 1) := by
  show _ = (_ ∨ _)
  simp [h]
/-- Inside of several loops. -/
noncomputable def whTo (L : List (List Pt)) (p : P2) (i j : Nat) : Nat → Int
  | 0 => -1
  | m + 1 => if insZ (L.getD m []) p i j = 1 then -(whTo L p i j m) else whTo L p i j m
noncomputable def whZ (L : List (List Pt)) (p : P2) (i j : Nat) : Int := if ∃ m, m < L.length ∧ insZ (L.getD m []) p i j = 0 then 0 else whTo L p i j L.length
theorem wh_range (L : List (List Pt)) (p : P2) (i j : Nat) : ∀ m, -1 ≤ whTo L p i j m ∧ whTo L p i j m ≤ 1
  | 0 => by unfold whTo; omega
  | m + 1 => by
    have h := wh_range L p i j m
    unfold whTo
    split <;> omega
theorem wh_end {L : List (List Pt)} {p : P2} {i j m : Nat} (h1 : ¬ m < L.length) (h2 : m ≤ L.length) (h : ∀ q, q < m → ¬ insZ (L.getD q []) p i j = 0) : whTo L p i j m = whZ L p i j := by
  have e : m = L.length := by omega
  subst e
  exact (if_neg fun ⟨q, hq, hz⟩ => h q hq hz).symm
theorem wh_next {L : List (List Pt)} {p : P2} {i j m : Nat} (h : ∀ q, q < m → ¬ insZ (L.getD q []) p i j = 0) (h1 : ¬ insZ (L.getD m []) p i j = 0) : ∀ q, q < m + 1 → ¬ insZ (L.getD q []) p i j = 0 := fun q hq => by
  rcases Nat.lt_succ_iff_lt_or_eq.1 hq with h2 | h2
  · exact h q h2
  · subst h2; exact h1
theorem getD_len {L : List (List Pt)} {n : Nat} (h : ∀ x, x ∈ L → x.length ≤ n) (m : Nat) : (L.getD m []).length ≤ n := by
  rw [List.getD_eq_getElem?_getD]
  rcases Nat.lt_or_ge m L.length with h1 | h1
  · rw [List.getElem?_eq_getElem h1]
    exact h _ (List.getElem_mem h1)
  · rw [List.getElem?_eq_none h1]
    exact Nat.zero_le _
end Bk


namespace Go.Proofs.YtfpjclgbieppeaaGreat
open Bk Go
set_option linter.unusedVariables false
set_option linter.unusedSimpArgs false
set_option maxRecDepth 10000

theorem o_r5_inside {w0 : World} {h0 : Mem}  (hs : MLe h0 (mem w0)) {k : Nat} {vl : Value} {l : (List (T3 Rat))} (rl : (rpS (rpT (rpQ k))).Is h0 vl l) {vp : Value} {p : (T3 Rat)} (rp : (rpT (rpQ k)).Is h0 vp p) (hcd0 : k ≤ 5000) (hcd1 : l.length ≤ 1000)  :
    Calls Tryz.prog 20 #[vl, vp] w0 (Ret w0 h0 (fun _ r => r = vI (insZ l (pr p 0 1) 0 1))) := by
 refine calls_begin (n := 66) (e := [(0, vl), (1, vp)]) (vs := [vl, vp]) Tryz.func20 rfl rfl (Nat.le_of_ble_eq_true rfl) hs ⟨rfl, rfl, trivial⟩ (gc_seq (gc_region (gl_newop (new_boxx (ρ := (rpT (rpQ k))) rfl rp) rfl rfl rfl ?_)))
 intro v3 q3 hq3
 obtain ⟨b3, cs3, rfl, rfl, rb3⟩ := hq3
 refine asg (v := vI (0)) rfl rfl (gl_nil (gq_then (gc_seq (gc_region (asg rfl rfl (gl_nil (gq_then (gc_seq (gc_seq (gc_region (asg (v := vI (0)) rfl rfl (gl_nil (gq_then ?_)))))))))))))
 refine gc_block ?_
 refine gc_loop (ι := Nat × Mem) (fun (x_ : (Nat × Mem)) => match x_ with | (m, ma) => MLe h0 ma ∧ (m ≤ l.length ∧ ∀ q, q < m → ¬ onS (edgeA l 0 1 q) (edgeB l 0 1 q) (pr p 0 1))) (fun (x_ : (Nat × Mem)) => match x_ with | (m, ma) => [(0, vl), (3, vP b3 0), (5, vB (oddTo l (pr p 0 1) 0 1 m)), (6, vI ↑m)]) (fun (x_ : (Nat × Mem)) => match x_ with | (m, ma) => [.var b3 33 cs3]) (fun (x_ : (Nat × Mem)) => match x_ with | (m, ma) => ma) (fun (x_ : (Nat × Mem)) => match x_ with | (m, ma) => l.length - m) (0, h0) ?_ ⟨?_, ?_, ?_, ?_, trivial⟩ rfl rfl ?_
 ·
  refine ⟨MLe.refl _, ?_⟩
  exact ⟨by omega, fun q hq => by omega⟩
 · exact rfl
 · exact rfl
 · exact congrArg some (vB_false id).symm
 · exact rfl
 ·
  intro x hx
  obtain ⟨m, ma⟩ := x
  obtain ⟨hmma, hinv⟩ := hx
  show GC _ _ _ _ _ _ [(0, vl), (3, vP b3 0), (5, vB (oddTo l (pr p 0 1) 0 1 m)), (6, vI ↑m)] [.var b3 33 cs3] ma
  obtain ⟨hm1, hno⟩ := hinv
  refine gc_seq (gc_seq (gc_region (mv rfl rfl (mv rfl rfl ?_))))
  replace rl := rl.mono hmma
  refine gv (ov_len_sr Tryz.underlying36 rfl rl) rfl (gv (ov_lss_i rfl rfl) rfl (gl_nil (gq_then ?_)))
  refine gc_cond rfl (fun hc12 => ?_) (fun hc12 => ?_)
  ·
   refine gc_skip (gq_then (gc_seq (gc_block (gc_seq ?_))))
   refine gc_draw 16 _ [(12, (7, 33, [.bool false, .slice none 0 0, .slice none 0 0, .bool false, .slice none 0 0, .slice none 0 0, .bool false, .slice none 0 0, .slice none 0 0])), (13, (8, 33, [.bool false, .slice none 0 0, .slice none 0 0, .bool false, .slice none 0 0, .slice none 0 0, .bool false, .slice none 0 0, .slice none 0 0]))] [(0, .q), (1, .q), (2, .q), (3, .q), (4, .q), (5, .q), (6, .q), (7, .q), (8, .q), (9, .q), (10, .q), (11, .q), (12, .a), (13, .a), (14, .c), (15, .c)] mixed (AlOk.cons rfl (zero_run info33 rfl rfl) (AlOk.cons rfl (zero_run info33 rfl rfl) AlOk.nil)) (chk_of [0, 0, 3, 4, 0, 0, 32, 0, 128, 320, 528, 1024, 0, 0, 12303, 32767] [65535, 65535, 65532, 65531, 65535, 65535, 65503, 65535, 65407, 65215, 65007, 64511, 65535, 65535, 61431, 55295] (by kernel_rfl)) (hae_cons rfl rfl (hae_cons rfl rfl hae_nil)) (fun r hr => hr) (w_q rfl (fun h' L' hh hR => ov_move rfl) rfl (w_q rfl (fun h' L' hh hR => ov_move rfl) rfl (w_qx (F := fun v_ => AtP (rpT (rpQ k)) ma v_ (l.getD m (T3.mk (0 : Rat) (0 : Rat) (0 : Rat)))) rfl (ox_idx_s (T3.mk (0 : Rat) (0 : Rat) (0 : Rat)) m Tryz.underlying36 ty33 rfl rfl rl rfl (by omega) (show 0 < 9 from by decide)) mem0 rfl ?_)))
   intro v17 r17
   refine w_qx (F := fun v_ => (rpT (rpQ k)).Is ma v_ (l.getD m (T3.mk (0 : Rat) (0 : Rat) (0 : Rat)))) rfl (ox_load_at ty33 rfl r17) mem0 rfl ?_
   intro v18 r18
   refine w_q rfl (fun h' L' hh hR => ov_move rfl) rfl (w_q rfl (fun h' L' hh hR => ov_move rfl) rfl (w_q rfl (fun h' L' hh hR => ov_add_i (q := 1) rfl rfl (by omega) (by omega)) rfl (w_q rfl (fun h' L' hh hR => ov_move rfl) rfl (w_q rfl (fun h' L' hh hR => ov_len_sr Tryz.underlying36 rfl (rl.mono hh)) rfl (w_q rfl (fun h' L' hh hR => ov_rem_i rfl rfl (by omega) (by omega)) rfl (w_qx (F := fun v_ => AtP (rpT (rpQ k)) ma v_ (l.getD ((m + 1) % l.length) (T3.mk (0 : Rat) (0 : Rat) (0 : Rat)))) rfl (ox_idx_s (T3.mk (0 : Rat) (0 : Rat) (0 : Rat)) ((m + 1) % l.length) Tryz.underlying36 ty33 rfl rfl rl (by first | rfl | (push_cast; rfl)) (by exact Nat.mod_lt _ (by omega)) (show 0 < 9 from by decide)) mem0 rfl ?_))))))
   intro v25 r25
   refine w_qx (F := fun v_ => (rpT (rpQ k)).Is ma v_ (l.getD ((m + 1) % l.length) (T3.mk (0 : Rat) (0 : Rat) (0 : Rat)))) rfl (ox_load_at ty33 rfl r25) mem0 rfl ?_
   intro v26 r26
   refine w_a rfl (fun b7 => ?_)
   have rb7 : (rpT (rpQ (k + 1))).R ma [.bool false, .slice none 0 0, .slice none 0 0, .bool false, .slice none 0 0, .slice none 0 0, .bool false, .slice none 0 0, .slice none 0 0] (T3.mk (0 : Rat) (0 : Rat) (0 : Rat)) := (zr_t (zr_q (by omega)))
   refine w_a rfl (fun b8 => ?_)
   have rb8 : (rpT (rpQ (k + 1))).R ma [.bool false, .slice none 0 0, .slice none 0 0, .bool false, .slice none 0 0, .slice none 0 0, .bool false, .slice none 0 0, .slice none 0 0] (T3.mk (0 : Rat) (0 : Rat) (0 : Rat)) := (zr_t (zr_q (by omega)))
   refine w_c rfl (s_updx (A := [_]) (F := fun c_ => (rpT (rpQ (k + 1))).R ma c_ (l.getD m (T3.mk (0 : Rat) (0 : Rat) (0 : Rat)))) (upd_box Tryz.sizeOf33 (Pc.here _) rfl rfl rfl rb7 (r18.le (Le.t (Le.q (l := k + 1) (by omega)))) rfl) (mem_kept (by first | (simp; done) | grind)) ?_)
   intro cs_1 rb_2
   refine w_c rfl (s_updx (A := []) (F := fun c_ => (rpT (rpQ (k + 1))).R ma c_ (l.getD ((m + 1) % l.length) (T3.mk (0 : Rat) (0 : Rat) (0 : Rat)))) (upd_box Tryz.sizeOf33 (Pc.here _) rfl rfl rfl rb8 (r26.le (Le.t (Le.q (l := k + 1) (by omega)))) rfl) (mem_kept (by first | (simp; done) | grind)) ?_)
   intro cs_3 rb_4
   refine w_nil (gq_keep (e' := [(0, _), (3, _), (5, _), (6, _), (7, _), (8, _)]) ⟨rfl, rfl, rfl, rfl, rfl, rfl, trivial⟩ (gq_then (gc_seq (gc_seq ?_))))
   refine gc_draw 7 _ [] [(0, .q), (2, .q), (4, .q), (1, .c), (3, .c), (5, .c), (6, .c)] mixed (fun x hx => by cases hx) (by kernel_rfl) (fun x hx => by cases hx) (fun r hr => hr) (w_qx (F := fun v_ => (rpT (rpQ (k + 1))).Is ma v_ (l.getD m (T3.mk (0 : Rat) (0 : Rat) (0 : Rat)))) rfl (ox_load_box ty33 (Pc.here _) rfl rfl rb_2 rfl) (mem1 (.tail _ (.head _))) rfl ?_)
   intro v27 r27
   refine w_qx (F := fun v_ => (rpT (rpQ (k + 1))).Is ma v_ (l.getD ((m + 1) % l.length) (T3.mk (0 : Rat) (0 : Rat) (0 : Rat)))) rfl (ox_load_box ty33 (Pc.here _) rfl rfl rb_4 rfl) (mem1 (.head _)) rfl ?_
   intro v29 r29
   replace rb3 := rb3.mono hmma
   refine w_qx (F := fun v_ => (rpT (rpQ k)).Is ma v_ p) rfl (ox_load_box ty33 (Pc.here _) rfl rfl rb3 rfl) (mem1 (.tail _ (.tail _ (.head _)))) rfl ?_
   intro v31 r31
   refine w_c rfl ?_
   refine s_call (vs := [_]) Tryz.call43 ⟨rfl, trivial⟩ (fun w hs => o_r5_flat hs r27) rfl ?_
   intro v28 h1 hh1 r28
   change (rpT (rpQ ((k + 1) + 1))).Is h1 v28 (T3.mk ((l.getD m (T3.mk (0 : Rat) (0 : Rat) (0 : Rat))).x) ((l.getD m (T3.mk (0 : Rat) (0 : Rat) (0 : Rat))).y) (0 : Rat)) at r28
   replace r28 := Rp.Is.le r28 (Le.t (Le.q (l := k + 2) (by omega)))
   refine w_c rfl ?_
   replace r29 := r29.mono hh1
   refine s_call (vs := [_]) Tryz.call43 ⟨rfl, trivial⟩ (fun w hs => o_r5_flat hs r29) rfl ?_
   intro v30 h2 hh2 r30
   change (rpT (rpQ ((k + 1) + 1))).Is h2 v30 (T3.mk ((l.getD ((m + 1) % l.length) (T3.mk (0 : Rat) (0 : Rat) (0 : Rat))).x) ((l.getD ((m + 1) % l.length) (T3.mk (0 : Rat) (0 : Rat) (0 : Rat))).y) (0 : Rat)) at r30
   replace r30 := Rp.Is.le r30 (Le.t (Le.q (l := k + 2) (by omega)))
   refine w_c rfl ?_
   replace r31 := r31.mono (hh1.trans hh2)
   refine s_call (vs := [_]) Tryz.call43 ⟨rfl, trivial⟩ (fun w hs => o_r5_flat hs r31) rfl ?_
   intro v32 h3 hh3 r32
   change (rpT (rpQ (k + 1))).Is h3 v32 (T3.mk p.x p.y (0 : Rat)) at r32
   refine w_c rfl ?_
   replace r28 := r28.mono (hh2.trans hh3)
   replace r30 := r30.mono hh3
   refine s_call (vs := [_, _, _]) Tryz.call42 ⟨rfl, rfl, rfl, trivial⟩ (fun w hs => o_r5_on hs r28 r30 (r32.le (Le.t (Le.q (l := k + 2) (by omega)))) (by omega)) rfl ?_
   intro v33 h4 hh4 r33
   obtain rfl : v33 = vB (onS (pr (T3.mk ((l.getD m (T3.mk (0 : Rat) (0 : Rat) (0 : Rat))).x) ((l.getD m (T3.mk (0 : Rat) (0 : Rat) (0 : Rat))).y) (0 : Rat)) 0 1) (pr (T3.mk ((l.getD ((m + 1) % l.length) (T3.mk (0 : Rat) (0 : Rat) (0 : Rat))).x) ((l.getD ((m + 1) % l.length) (T3.mk (0 : Rat) (0 : Rat) (0 : Rat))).y) (0 : Rat)) 0 1) (pr (T3.mk p.x p.y (0 : Rat)) 0 1)) := r33
   refine w_nil (gq_then ?_)
   refine gc_cond rfl (fun hc33 => ?_) (fun hc33 => ?_)
   ·
    refine gc_keep (e' := []) trivial (gc_seq (gc_region (asg (v := vI (0)) rfl rfl (gl_nil (gq_then (gc_ret (gr_then (gr_in (gr_then (gr_then (gr_in (gr_then (gq_body1 rfl rfl ?_)))))))))))))
    exact congrArg vI (ins_on (by omega) hc33)
   ·
    refine gc_skip (gq_then ?_)
    refine gc_cut (ι := List Value × List Value × Mem) (fun (x_ : (List Value × List Value × Mem)) => match x_ with | (cs_5, cs_7, mc) => MLe h4 mc ∧ ((rpT (rpQ (k + 1))).R mc cs_5 (yLoT (l.getD m (T3.mk (0 : Rat) (0 : Rat) (0 : Rat))) (l.getD ((m + 1) % l.length) (T3.mk (0 : Rat) (0 : Rat) (0 : Rat)))) ∧ (rpT (rpQ (k + 1))).R mc cs_7 (yHiT (l.getD m (T3.mk (0 : Rat) (0 : Rat) (0 : Rat))) (l.getD ((m + 1) % l.length) (T3.mk (0 : Rat) (0 : Rat) (0 : Rat)))) ∧ True)) (fun (x_ : (List Value × List Value × Mem)) => match x_ with | (cs_5, cs_7, mc) => [(0, vl), (3, vP b3 0), (5, vB (oddTo l (pr p 0 1) 0 1 m)), (6, vI ↑m), (7, vP b7 0), (8, vP b8 0)]) (fun (x_ : (List Value × List Value × Mem)) => match x_ with | (cs_5, cs_7, mc) => [.var b8 33 cs_7, .var b7 33 cs_5, .var b3 33 cs3]) (fun (x_ : (List Value × List Value × Mem)) => match x_ with | (cs_5, cs_7, mc) => mc) ?_ ?_
    ·
     refine gc_seq (gc_region (gv ((ov_index_arr (sz := 3) (q := 1) 1 Tryz.underlying33 Tryz.sizeOf31 rfl rfl rfl (by decide)).cv (show _ = vP b7 3 from congrArg (vP b7) (by rfl))) rfl ?_))
     replace rb_2 := rb_2.mono (((hh1.trans hh2).trans hh3).trans hh4)
     refine gl_x (F := fun v_ => (rpQ (k + 1)).Is h4 v_ ((l.getD m (T3.mk (0 : Rat) (0 : Rat) (0 : Rat))).y)) (ox_load_box ty31 (Pc.ty (Pc.here _)) rfl rfl rb_2 rfl) (mem1 (.tail _ (.head _))) rfl ?_
     intro v35 r35
     refine gv ((ov_index_arr (sz := 3) (q := 1) 1 Tryz.underlying33 Tryz.sizeOf31 rfl rfl rfl (by decide)).cv (show _ = vP b8 3 from congrArg (vP b8) (by rfl))) rfl ?_
     replace rb_4 := rb_4.mono (((hh1.trans hh2).trans hh3).trans hh4)
     refine gl_x (F := fun v_ => (rpQ (k + 1)).Is h4 v_ ((l.getD ((m + 1) % l.length) (T3.mk (0 : Rat) (0 : Rat) (0 : Rat))).y)) (ox_load_box ty31 (Pc.ty (Pc.here _)) rfl rfl rb_4 rfl) (mem1 (.head _)) rfl ?_
     intro v37 r37
     refine gl_call (vs := [_, _]) rfl rfl rfl rfl Tryz.call44 ⟨rfl, rfl, trivial⟩ (fun w hs => o_rref_cmp hs r35 r37 (by omega)) ?_
     intro v38 h5 hh5 r38
     obtain rfl : v38 = vI (cmpQ ((l.getD m (T3.mk (0 : Rat) (0 : Rat) (0 : Rat))).y) ((l.getD ((m + 1) % l.length) (T3.mk (0 : Rat) (0 : Rat) (0 : Rat))).y)) := r38
     have hcr38 := cmpQ_range ((l.getD m (T3.mk (0 : Rat) (0 : Rat) (0 : Rat))).y) ((l.getD ((m + 1) % l.length) (T3.mk (0 : Rat) (0 : Rat) (0 : Rat))).y)
     refine gv (ov_gtr_i (q := 0) rfl rfl) rfl (gl_nil (gq_keep (e' := [(0, _), (3, _), (5, _), (6, _), (7, _), (8, _), (39, _)]) ⟨rfl, rfl, rfl, rfl, rfl, rfl, rfl, trivial⟩ (gq_then ?_)))
     refine gc_cond rfl (fun hc39 => ?_) (fun hc39 => ?_)
     ·
      refine gc_region ?_
      replace rb_4 := rb_4.mono hh5
      refine gl_x (F := fun v_ => (rpT (rpQ (k + 1))).Is h5 v_ (l.getD ((m + 1) % l.length) (T3.mk (0 : Rat) (0 : Rat) (0 : Rat)))) (ox_load_box ty33 (Pc.here _) rfl rfl rb_4 rfl) (mem1 (.head _)) rfl ?_
      intro v40 r40
      replace rb_2 := rb_2.mono hh5
      refine gl_x (F := fun v_ => (rpT (rpQ (k + 1))).Is h5 v_ (l.getD m (T3.mk (0 : Rat) (0 : Rat) (0 : Rat)))) (ox_load_box ty33 (Pc.here _) rfl rfl rb_2 rfl) (mem1 (.tail _ (.head _))) rfl ?_
      intro v41 r41
      refine gl_updx (A := [_]) (F := fun c_ => (rpT (rpQ (k + 1))).R h5 c_ (l.getD ((m + 1) % l.length) (T3.mk (0 : Rat) (0 : Rat) (0 : Rat)))) (upd_box Tryz.sizeOf33 (Pc.here _) rfl rfl rfl rb_2 r40 rfl) ?_
      intro cs_9 rb_10
      refine gl_updx (A := []) (F := fun c_ => (rpT (rpQ (k + 1))).R h5 c_ (l.getD m (T3.mk (0 : Rat) (0 : Rat) (0 : Rat)))) (upd_box Tryz.sizeOf33 (Pc.here _) rfl rfl rfl rb_4 r41 rfl) ?_
      intro cs_11 rb_12
      refine gl_nil ?_
      refine gq_cut (cs_9, cs_11, h5) ?_ ⟨?_, ?_, ?_, ?_, ?_, ?_, trivial⟩ ?_ rfl
      ·
       refine ⟨hh5, ?_⟩
       refine ⟨(Rp.castR rb_10 (if_pos hc39).symm), (Rp.castR rb_12 (if_pos hc39).symm), ?_⟩
       trivial
      · exact rfl
      · exact rfl
      · exact rfl
      · exact rfl
      · exact rfl
      · exact rfl
      · exact rfl
     ·
      refine gc_skip ?_
      refine gq_cut (cs_1, cs_3, h5) ?_ ⟨?_, ?_, ?_, ?_, ?_, ?_, trivial⟩ ?_ rfl
      ·
       refine ⟨hh5, ?_⟩
       replace rb_2 := rb_2.mono hh5
       replace rb_4 := rb_4.mono hh5
       refine ⟨(Rp.castR rb_2 (if_neg hc39).symm), (Rp.castR rb_4 (if_neg hc39).symm), ?_⟩
       trivial
      · exact rfl
      · exact rfl
      · exact rfl
      · exact rfl
      · exact rfl
      · exact rfl
      · exact rfl
    ·
     intro x hx
     obtain ⟨cs_5, cs_7, mc⟩ := x
     obtain ⟨hmmc, hcut⟩ := hx
     show GC _ _ _ _ _ _ [(0, vl), (3, vP b3 0), (5, vB (oddTo l (pr p 0 1) 0 1 m)), (6, vI ↑m), (7, vP b7 0), (8, vP b8 0)] [.var b8 33 cs_7, .var b7 33 cs_5, .var b3 33 cs3] mc
     obtain ⟨rb_6, rb_8, hcut⟩ := hcut
     refine gc_seq (gc_region (gv ((ov_index_arr (sz := 3) (q := 1) 1 Tryz.underlying33 Tryz.sizeOf31 rfl rfl rfl (by decide)).cv (show _ = vP b7 3 from congrArg (vP b7) (by rfl))) rfl (gl_x (F := fun v_ => (rpQ (k + 1)).Is mc v_ ((yLoT (l.getD m (T3.mk (0 : Rat) (0 : Rat) (0 : Rat))) (l.getD ((m + 1) % l.length) (T3.mk (0 : Rat) (0 : Rat) (0 : Rat)))).y)) (ox_load_box ty31 (Pc.ty (Pc.here _)) rfl rfl rb_6 rfl) (mem1 (.tail _ (.head _))) rfl ?_)))
     intro v43 r43
     refine gv ((ov_index_arr (sz := 3) (q := 1) 1 Tryz.underlying33 Tryz.sizeOf31 rfl rfl rfl (by decide)).cv (show _ = vP b3 3 from congrArg (vP b3) (by rfl))) rfl ?_
     replace rb3 := rb3.mono ((((hh1.trans hh2).trans hh3).trans hh4).trans hmmc)
     refine gl_x (F := fun v_ => (rpQ k).Is mc v_ p.y) (ox_load_box ty31 (Pc.ty (Pc.here _)) rfl rfl rb3 rfl) (mem1 (.tail _ (.tail _ (.head _)))) rfl ?_
     intro v45 r45
     refine gl_call (vs := [_, _]) rfl rfl rfl rfl Tryz.call44 ⟨rfl, rfl, trivial⟩ (fun w hs => o_rref_cmp hs r43 r45 (by omega)) ?_
     intro v46 h5 hh5 r46
     obtain rfl : v46 = vI (cmpQ ((yLoT (l.getD m (T3.mk (0 : Rat) (0 : Rat) (0 : Rat))) (l.getD ((m + 1) % l.length) (T3.mk (0 : Rat) (0 : Rat) (0 : Rat)))).y) p.y) := r46
     have hcr46 := cmpQ_range ((yLoT (l.getD m (T3.mk (0 : Rat) (0 : Rat) (0 : Rat))) (l.getD ((m + 1) % l.length) (T3.mk (0 : Rat) (0 : Rat) (0 : Rat)))).y) p.y
     refine gv (ov_leq_i (q := 0) rfl rfl) rfl ?_
     refine gl_cut (ι := Mem) 8 (fun m_ => MLe h5 m_) (fun _ => [(55, vB (((cmpQ ((yLoT (l.getD m (T3.mk (0 : Rat) (0 : Rat) (0 : Rat))) (l.getD ((m + 1) % l.length) (T3.mk (0 : Rat) (0 : Rat) (0 : Rat)))).y) p.y) ≤ (0 : Int)) ∧ ((cmpQ p.y ((yHiT (l.getD m (T3.mk (0 : Rat) (0 : Rat) (0 : Rat))) (l.getD ((m + 1) % l.length) (T3.mk (0 : Rat) (0 : Rat) (0 : Rat)))).y)) < (0 : Int)))), (0, vl), (3, vP b3 0), (5, vB (oddTo l (pr p 0 1) 0 1 m)), (6, vI ↑m), (7, vP b7 0), (8, vP b8 0)]) (fun _ => [.var b8 33 cs_7, .var b7 33 cs_5, .var b3 33 cs3]) (fun m_ => m_) ?_ ?_
     ·
      refine gl_cases ((cmpQ ((yLoT (l.getD m (T3.mk (0 : Rat) (0 : Rat) (0 : Rat))) (l.getD ((m + 1) % l.length) (T3.mk (0 : Rat) (0 : Rat) (0 : Rat)))).y) p.y) ≤ (0 : Int)) (fun hg => ?_) (fun hg => ?_)
      ·
       refine gl_val (ov_move (v := .bool true) (congrArg some (vB_true hg))) rfl rfl rfl (gl_on rfl rfl rfl (gv ((ov_index_arr (sz := 3) (q := 1) 1 Tryz.underlying33 Tryz.sizeOf31 rfl rfl rfl (by decide)).cv (show _ = vP b3 3 from congrArg (vP b3) (by rfl))) rfl (gl_on rfl rfl rfl ?_)))
       replace rb3 := rb3.mono hh5
       refine gl_x (F := fun v_ => (rpQ k).Is h5 v_ p.y) (ox_load_box ty31 (Pc.ty (Pc.here _)) rfl rfl rb3 rfl) (mem1 (.tail _ (.tail _ (.head _)))) rfl ?_
       intro v50 r50
       refine gl_on rfl rfl rfl (gv ((ov_index_arr (sz := 3) (q := 1) 1 Tryz.underlying33 Tryz.sizeOf31 rfl rfl rfl (by decide)).cv (show _ = vP b8 3 from congrArg (vP b8) (by rfl))) rfl (gl_on rfl rfl rfl ?_))
       replace rb_8 := rb_8.mono hh5
       refine gl_x (F := fun v_ => (rpQ (k + 1)).Is h5 v_ ((yHiT (l.getD m (T3.mk (0 : Rat) (0 : Rat) (0 : Rat))) (l.getD ((m + 1) % l.length) (T3.mk (0 : Rat) (0 : Rat) (0 : Rat)))).y)) (ox_load_box ty31 (Pc.ty (Pc.here _)) rfl rfl rb_8 rfl) (mem1 (.head _)) rfl ?_
       intro v52 r52
       refine gl_on rfl rfl rfl ?_
       refine gl_call (vs := [_, _]) rfl rfl rfl rfl Tryz.call44 ⟨rfl, rfl, trivial⟩ (fun w hs => o_rref_cmp hs r50 r52 (by omega)) ?_
       intro v53 h6 hh6 r53
       obtain rfl : v53 = vI (cmpQ p.y ((yHiT (l.getD m (T3.mk (0 : Rat) (0 : Rat) (0 : Rat))) (l.getD ((m + 1) % l.length) (T3.mk (0 : Rat) (0 : Rat) (0 : Rat)))).y)) := r53
       have hcr53 := cmpQ_range p.y ((yHiT (l.getD m (T3.mk (0 : Rat) (0 : Rat) (0 : Rat))) (l.getD ((m + 1) % l.length) (T3.mk (0 : Rat) (0 : Rat) (0 : Rat)))).y)
       refine gl_on rfl rfl rfl (gv (ov_lss_i (q := 0) rfl rfl) rfl (gv (ov_pick_t rfl rfl) rfl (gl_nil ?_)))
       refine gq_cut h6 hh6 ⟨?_, rfl, rfl, rfl, rfl, rfl, rfl, trivial⟩ rfl rfl
       exact congrArg some (vB_and_t hg)
      ·
       refine gl_val (ov_move (v := .bool false) (congrArg some (vB_false hg))) rfl rfl rfl (gl_off rfl rfl rfl rfl rfl rfl (gl_off rfl rfl rfl rfl rfl rfl (gl_off rfl rfl rfl rfl rfl rfl (gl_off rfl rfl rfl rfl rfl rfl (gl_off rfl rfl rfl rfl rfl rfl (gl_off rfl rfl rfl rfl rfl rfl (gv (ov_pick_f rfl rfl) rfl (gl_nil ?_))))))))
       refine gq_cut h5 (MLe.refl _) ⟨?_, rfl, rfl, rfl, rfl, rfl, rfl, trivial⟩ rfl rfl
       exact congrArg some (vB_and_f hg)
     ·
      intro mg10_6 hmmg10_6
      show GL _ _ _ _ _ _ _ [(55, vB (((cmpQ ((yLoT (l.getD m (T3.mk (0 : Rat) (0 : Rat) (0 : Rat))) (l.getD ((m + 1) % l.length) (T3.mk (0 : Rat) (0 : Rat) (0 : Rat)))).y) p.y) ≤ (0 : Int)) ∧ ((cmpQ p.y ((yHiT (l.getD m (T3.mk (0 : Rat) (0 : Rat) (0 : Rat))) (l.getD ((m + 1) % l.length) (T3.mk (0 : Rat) (0 : Rat) (0 : Rat)))).y)) < (0 : Int)))), (0, vl), (3, vP b3 0), (5, vB (oddTo l (pr p 0 1) 0 1 m)), (6, vI ↑m), (7, vP b7 0), (8, vP b8 0)] [.var b8 33 cs_7, .var b7 33 cs_5, .var b3 33 cs3] mg10_6
      refine gl_cut (ι := Mem) 7 (fun m_ => MLe mg10_6 m_) (fun _ => [(62, vB ((((cmpQ ((yLoT (l.getD m (T3.mk (0 : Rat) (0 : Rat) (0 : Rat))) (l.getD ((m + 1) % l.length) (T3.mk (0 : Rat) (0 : Rat) (0 : Rat)))).y) p.y) ≤ (0 : Int)) ∧ ((cmpQ p.y ((yHiT (l.getD m (T3.mk (0 : Rat) (0 : Rat) (0 : Rat))) (l.getD ((m + 1) % l.length) (T3.mk (0 : Rat) (0 : Rat) (0 : Rat)))).y)) < (0 : Int))) ∧ ((0 : Int) < (orZ (pr (yLoT (l.getD m (T3.mk (0 : Rat) (0 : Rat) (0 : Rat))) (l.getD ((m + 1) % l.length) (T3.mk (0 : Rat) (0 : Rat) (0 : Rat)))) 0 1) (pr (yHiT (l.getD m (T3.mk (0 : Rat) (0 : Rat) (0 : Rat))) (l.getD ((m + 1) % l.length) (T3.mk (0 : Rat) (0 : Rat) (0 : Rat)))) 0 1) (pr p 0 1))))), (0, vl), (3, vP b3 0), (5, vB (oddTo l (pr p 0 1) 0 1 m)), (6, vI ↑m)]) (fun _ => [.var b8 33 cs_7, .var b7 33 cs_5, .var b3 33 cs3]) (fun m_ => m_) ?_ ?_
      ·
       refine gl_cases (((cmpQ ((yLoT (l.getD m (T3.mk (0 : Rat) (0 : Rat) (0 : Rat))) (l.getD ((m + 1) % l.length) (T3.mk (0 : Rat) (0 : Rat) (0 : Rat)))).y) p.y) ≤ (0 : Int)) ∧ ((cmpQ p.y ((yHiT (l.getD m (T3.mk (0 : Rat) (0 : Rat) (0 : Rat))) (l.getD ((m + 1) % l.length) (T3.mk (0 : Rat) (0 : Rat) (0 : Rat)))).y)) < (0 : Int))) (fun hg => ?_) (fun hg => ?_)
       ·
        refine gl_val (ov_move (v := .bool true) (congrArg some (vB_true hg))) rfl rfl rfl (gl_on rfl rfl rfl ?_)
        replace rb_6 := rb_6.mono (hh5.trans hmmg10_6)
        refine gl_x (F := fun v_ => (rpT (rpQ (k + 1))).Is mg10_6 v_ (yLoT (l.getD m (T3.mk (0 : Rat) (0 : Rat) (0 : Rat))) (l.getD ((m + 1) % l.length) (T3.mk (0 : Rat) (0 : Rat) (0 : Rat))))) (ox_load_box ty33 (Pc.here _) rfl rfl rb_6 rfl) (mem1 (.tail _ (.head _))) rfl ?_
        intro v57 r57
        refine gl_on rfl rfl rfl ?_
        replace rb_8 := rb_8.mono (hh5.trans hmmg10_6)
        refine gl_x (F := fun v_ => (rpT (rpQ (k + 1))).Is mg10_6 v_ (yHiT (l.getD m (T3.mk (0 : Rat) (0 : Rat) (0 : Rat))) (l.getD ((m + 1) % l.length) (T3.mk (0 : Rat) (0 : Rat) (0 : Rat))))) (ox_load_box ty33 (Pc.here _) rfl rfl rb_8 rfl) (mem1 (.head _)) rfl ?_
        intro v58 r58
        refine gl_on rfl rfl rfl ?_
        replace rb3 := rb3.mono (hh5.trans hmmg10_6)
        refine gl_x (F := fun v_ => (rpT (rpQ k)).Is mg10_6 v_ p) (ox_load_box ty33 (Pc.here _) rfl rfl rb3 rfl) (mem1 (.tail _ (.tail _ (.head _)))) rfl ?_
        intro v59 r59
        refine gl_on rfl rfl rfl ?_
        refine gl_call (vs := [_, _, _]) rfl rfl rfl rfl Tryz.call45 ⟨rfl, rfl, rfl, trivial⟩ (fun w hs => o_r5_turn hs r57 r58 (r59.le (Le.t (Le.q (l := k + 1) (by omega)))) (by omega)) ?_
        intro v60 h6 hh6 r60
        obtain rfl : v60 = vI (orZ (pr (yLoT (l.getD m (T3.mk (0 : Rat) (0 : Rat) (0 : Rat))) (l.getD ((m + 1) % l.length) (T3.mk (0 : Rat) (0 : Rat) (0 : Rat)))) 0 1) (pr (yHiT (l.getD m (T3.mk (0 : Rat) (0 : Rat) (0 : Rat))) (l.getD ((m + 1) % l.length) (T3.mk (0 : Rat) (0 : Rat) (0 : Rat)))) 0 1) (pr p 0 1)) := r60
        have hor60 := or_range (pr (yLoT (l.getD m (T3.mk (0 : Rat) (0 : Rat) (0 : Rat))) (l.getD ((m + 1) % l.length) (T3.mk (0 : Rat) (0 : Rat) (0 : Rat)))) 0 1) (pr (yHiT (l.getD m (T3.mk (0 : Rat) (0 : Rat) (0 : Rat))) (l.getD ((m + 1) % l.length) (T3.mk (0 : Rat) (0 : Rat) (0 : Rat)))) 0 1) (pr p 0 1)
        refine gl_on rfl rfl rfl (gv (ov_gtr_i (q := 0) rfl rfl) rfl (gv (ov_pick_t rfl rfl) rfl (gl_nil ?_)))
        refine gq_cut h6 hh6 ⟨?_, rfl, rfl, rfl, rfl, trivial⟩ rfl rfl
        exact congrArg some (vB_and_t hg)
       ·
        refine gl_val (ov_move (v := .bool false) (congrArg some (vB_false hg))) rfl rfl rfl (gl_off rfl rfl rfl rfl rfl rfl (gl_off rfl rfl rfl rfl rfl rfl (gl_off rfl rfl rfl rfl rfl rfl (gl_off rfl rfl rfl rfl rfl rfl (gl_off rfl rfl rfl rfl rfl rfl (gv (ov_pick_f rfl rfl) rfl (gl_nil ?_)))))))
        refine gq_cut mg10_6 (MLe.refl _) ⟨?_, rfl, rfl, rfl, rfl, trivial⟩ rfl rfl
        exact congrArg some (vB_and_f hg)
      ·
       intro mg10_14 hmmg10_14
       show GL _ _ _ _ _ _ _ [(62, vB ((((cmpQ ((yLoT (l.getD m (T3.mk (0 : Rat) (0 : Rat) (0 : Rat))) (l.getD ((m + 1) % l.length) (T3.mk (0 : Rat) (0 : Rat) (0 : Rat)))).y) p.y) ≤ (0 : Int)) ∧ ((cmpQ p.y ((yHiT (l.getD m (T3.mk (0 : Rat) (0 : Rat) (0 : Rat))) (l.getD ((m + 1) % l.length) (T3.mk (0 : Rat) (0 : Rat) (0 : Rat)))).y)) < (0 : Int))) ∧ ((0 : Int) < (orZ (pr (yLoT (l.getD m (T3.mk (0 : Rat) (0 : Rat) (0 : Rat))) (l.getD ((m + 1) % l.length) (T3.mk (0 : Rat) (0 : Rat) (0 : Rat)))) 0 1) (pr (yHiT (l.getD m (T3.mk (0 : Rat) (0 : Rat) (0 : Rat))) (l.getD ((m + 1) % l.length) (T3.mk (0 : Rat) (0 : Rat) (0 : Rat)))) 0 1) (pr p 0 1))))), (0, vl), (3, vP b3 0), (5, vB (oddTo l (pr p 0 1) 0 1 m)), (6, vI ↑m)] [.var b8 33 cs_7, .var b7 33 cs_5, .var b3 33 cs3] mg10_14
       refine gl_nil (gq_then ?_)
       refine gc_cond rfl (fun hc62 => ?_) (fun hc62 => ?_)
       ·
        refine gc_region (mv rfl rfl (gv (ov_not rfl) rfl (asg rfl rfl (gl_nil (gq_in (gq_then (gc_region (mv rfl rfl (gv (ov_add_i (q := 1) rfl rfl (by omega) (by omega)) rfl (asg rfl rfl (gl_nil (gq_drop (A := []) (gq_drop (A := []) ?_)))))))))))))
        refine gq_round ((m + 1), mg10_14) ?_ ?_ ⟨?_, ?_, ?_, ?_, trivial⟩ ?_ rfl
        ·
         refine ⟨((((((((hmma.trans hh1).trans hh2).trans hh3).trans hh4).trans hmmc).trans hh5).trans hmmg10_6).trans hmmg10_14), ?_⟩
         exact ⟨by omega, on_next hno hc33⟩
        ·
         dsimp only
         omega
        · exact rfl
        · exact rfl
        · exact congrArg (fun z => some (vB z)) (odd_by ((crossR_iff _ _ _).1 hc62))
        · exact rfl
        · exact rfl
       ·
        refine gc_skip (gq_in (gq_then (gc_region (mv rfl rfl (gv (ov_add_i (q := 1) rfl rfl (by omega) (by omega)) rfl (asg rfl rfl (gl_nil (gq_drop (A := []) (gq_drop (A := []) ?_)))))))))
        refine gq_round ((m + 1), mg10_14) ?_ ?_ ⟨?_, ?_, ?_, ?_, trivial⟩ ?_ rfl
        ·
         refine ⟨((((((((hmma.trans hh1).trans hh2).trans hh3).trans hh4).trans hmmc).trans hh5).trans hmmg10_6).trans hmmg10_14), ?_⟩
         exact ⟨by omega, on_next hno hc33⟩
        ·
         dsimp only
         omega
        · exact rfl
        · exact rfl
        · exact congrArg (fun z => some (vB z)) (odd_not fun e => hc62 ((crossR_iff _ _ _).2 e))
        · exact rfl
        · exact rfl
  ·
   refine gc_exit (gx_then (gx_then (gx_here (gq_then (gc_seq (gc_seq (gc_region (mv rfl rfl (gl_nil (gq_then ?_))))))))))
   refine gc_cond rfl (fun hc65 => ?_) (fun hc65 => ?_)
   ·
    refine gc_seq (gc_region (asg (v := vI (1)) rfl rfl (gl_nil (gq_then (gc_ret (gr_then (gq_body1 rfl rfl ?_)))))))
    exact congrArg vI (ins_in (by omega) hm1 hno hc65)
   ·
    refine gc_skip (gq_then (gc_seq (gc_region (asg (v := vI (-1)) rfl rfl (gl_nil (gq_then (gc_ret (gq_body1 rfl rfl ?_))))))))
    exact congrArg vI (ins_out (by omega) hm1 hno hc65)

theorem o_pl_where {w0 : World} {h0 : Mem}  (hs : MLe h0 (mem w0)) {k : Nat} {vL : Value} {L : (List (List (T3 Rat)))} (rL : (rpS (rpS (rpT (rpQ k)))).Is h0 vL L) {vp : Value} {p : (T3 Rat)} (rp : (rpT (rpQ k)).Is h0 vp p) {i : Nat} {j : Nat} (hcd0 : i < 3) (hcd1 : j < 3) (hcd2 : k ≤ 100000) (hcd3 : ∀ x, x ∈ L → x.length ≤ 1000) (hcd4 : L.length ≤ 1000)  :
    Calls Tryz.prog 40 #[vL, vp, vI ↑i, vI ↑j] w0 (Ret w0 h0 (fun _ r => r = vI (whZ L (pr p i j) i j))) := by
 refine calls_begin (n := 31) (e := [(0, vL), (1, vp), (2, vI ↑i), (3, vI ↑j)]) (vs := [vL, vp, vI ↑i, vI ↑j]) Tryz.func40 rfl rfl (Nat.le_of_ble_eq_true rfl) hs ⟨rfl, rfl, rfl, rfl, trivial⟩ (gc_seq (gc_region (gl_newop (new_boxx (ρ := (rpT (rpQ k))) rfl rp) rfl rfl rfl ?_)))
 intro v5 q5 hq5
 obtain ⟨b5, cs5, rfl, rfl, rb5⟩ := hq5
 refine asg (v := vI (0)) rfl rfl (gl_nil (gq_then (gc_seq (gc_region (asg (v := vI (-1)) rfl rfl (gl_nil (gq_then (gc_seq (gc_seq (gc_region (mv rfl rfl (gv (ov_len_sr Tryz.underlying27 rfl rL) rfl (mv (v := vI (0)) rfl rfl ?_)))))))))))))
 refine gl_nil (gq_then (gc_block ?_))
 refine gc_loop (ι := Nat × Mem) (fun (x_ : (Nat × Mem)) => match x_ with | (m, ma) => MLe h0 ma ∧ (m ≤ L.length ∧ ∀ q, q < m → ¬ insZ (L.getD q []) (pr p i j) i j = 0)) (fun (x_ : (Nat × Mem)) => match x_ with | (m, ma) => [(2, vI ↑i), (3, vI ↑j), (5, vP b5 0), (9, vI (whTo L (pr p i j) i j m)), (12, vL), (13, vI (↑(L).length : Int)), (14, vI ↑m)]) (fun (x_ : (Nat × Mem)) => match x_ with | (m, ma) => [.var b5 33 cs5]) (fun (x_ : (Nat × Mem)) => match x_ with | (m, ma) => ma) (fun (x_ : (Nat × Mem)) => match x_ with | (m, ma) => L.length - m) (0, h0) ?_ ⟨rfl, rfl, rfl, rfl, rfl, rfl, rfl, trivial⟩ rfl rfl ?_
 ·
  refine ⟨MLe.refl _, ?_⟩
  exact ⟨by omega, fun q hq => by omega⟩
 ·
  intro x hx
  obtain ⟨m, ma⟩ := x
  obtain ⟨hmma, hinv⟩ := hx
  show GC _ _ _ _ _ _ [(2, vI ↑i), (3, vI ↑j), (5, vP b5 0), (9, vI (whTo L (pr p i j) i j m)), (12, vL), (13, vI (↑(L).length : Int)), (14, vI ↑m)] [.var b5 33 cs5] ma
  obtain ⟨hm1, hno⟩ := hinv
  have hwr := wh_range L (pr p i j) i j m
  refine gc_seq (gc_region (gv (ov_lss_i rfl rfl) rfl (gl_nil (gq_then (gc_seq ?_)))))
  refine gc_cond rfl (fun hc15 => ?_) (fun hc15 => ?_)
  ·
   refine gc_skip (gq_then (gc_seq (gc_block (gc_seq (gc_region ?_)))))
   replace rL := rL.mono hmma
   refine gl_x (F := fun v_ => AtP (rpS (rpT (rpQ k))) ma v_ (L.getD m [])) (ox_idx_s [] m Tryz.underlying27 ty36 rfl rfl rL rfl (by omega) (show 0 < 1 from by decide)) mem0 rfl ?_
   intro v16 r16
   refine gl_x (F := fun v_ => (rpS (rpT (rpQ k))).Is ma v_ (L.getD m [])) (ox_load_at ty36 rfl r16) mem0 rfl ?_
   intro v17 r17
   refine asg rfl rfl (gl_nil (gq_then (gc_seq (gc_region (mv rfl rfl ?_)))))
   replace rb5 := rb5.mono hmma
   refine gl_x (F := fun v_ => (rpT (rpQ k)).Is ma v_ p) (ox_load_box ty33 (Pc.here _) rfl rfl rb5 rfl) (mem1 (.head _)) rfl ?_
   intro v19 r19
   refine mv rfl rfl (mv rfl rfl ?_)
   refine gl_call (vs := [_, _, _, _]) rfl rfl rfl rfl Tryz.call41 ⟨rfl, rfl, rfl, rfl, trivial⟩ (fun w hs => o_pl_inside (i := i) (j := j) hs r17 r19 (by first | omega | exact getD_len (by assumption) _) (by first | omega | exact getD_len (by assumption) _) (by first | omega | exact getD_len (by assumption) _) (by first | omega | exact getD_len (by assumption) _)) ?_
   intro v22 h1 hh1 r22
   obtain rfl : v22 = vI (insZ (L.getD m []) (pr p i j) i j) := r22
   refine gl_nil (gq_then (gc_block (gc_seq (gc_region (gv (ov_eql_i (q := 0) rfl rfl) rfl (asg rfl rfl (gl_nil (gq_then ?_))))))))
   refine gc_cond rfl (fun hc23 => ?_) (fun hc23 => ?_)
   ·
    refine gc_keep (e' := []) trivial (gc_seq (gc_region (asg (v := vI (0)) rfl rfl (gl_nil (gq_then (gc_ret (gr_in (gr_in (gr_then (gr_then (gr_in (gr_then (gq_body1 rfl rfl ?_)))))))))))))
    exact congrArg vI (if_pos ⟨m, by omega, hc23⟩).symm
   ·
    refine gc_keep (e' := [(2, _), (3, _), (5, _), (9, _), (12, _), (13, _), (14, _), (22, _)]) ⟨rfl, rfl, rfl, rfl, rfl, rfl, rfl, rfl, trivial⟩ (gc_seq (gc_region (gv (ov_eql_i (q := 1) rfl rfl) rfl (asg rfl rfl (gl_nil (gq_then ?_))))))
    refine gc_cond rfl (fun hc25 => ?_) (fun hc25 => ?_)
    ·
     refine gc_region (mv rfl rfl (gv (ov_neg_i rfl (by omega) (by omega)) rfl (asg rfl rfl (gl_nil (gq_in (gq_in (gq_then (gc_region (gv (ov_add_i (q := 1) rfl rfl (by omega) (by omega)) rfl (mv rfl rfl (gl_nil ?_)))))))))))
     refine gq_round ((m + 1), h1) ?_ ?_ ⟨?_, ?_, ?_, ?_, ?_, ?_, ?_, trivial⟩ ?_ rfl
     ·
      refine ⟨(hmma.trans hh1), ?_⟩
      exact ⟨by omega, wh_next hno hc23⟩
     ·
      dsimp only
      omega
     · exact rfl
     · exact rfl
     · exact rfl
     · exact congrArg (fun z => some (vI z)) (if_pos hc25).symm
     · exact rfl
     · exact rfl
     · exact rfl
     · exact rfl
    ·
     refine gc_skip (gq_in (gq_in (gq_then (gc_region (gv (ov_add_i (q := 1) rfl rfl (by omega) (by omega)) rfl (mv rfl rfl (gl_nil ?_)))))))
     refine gq_round ((m + 1), h1) ?_ ?_ ⟨?_, ?_, ?_, ?_, ?_, ?_, ?_, trivial⟩ ?_ rfl
     ·
      refine ⟨(hmma.trans hh1), ?_⟩
      exact ⟨by omega, wh_next hno hc23⟩
     ·
      dsimp only
      omega
     · exact rfl
     · exact rfl
     · exact rfl
     · exact congrArg (fun z => some (vI z)) (if_neg hc25).symm
     · exact rfl
     · exact rfl
     · exact rfl
     · exact rfl
  ·
   refine gc_exit (gx_then (gx_then (gx_here (gq_then (gc_seq (gc_region (mv rfl rfl (asg rfl rfl (gl_nil (gq_then (gc_ret (gq_body1 rfl rfl ?_))))))))))))
   exact congrArg vI (wh_end (by omega) hm1 hno)

theorem o_pg_where {w0 : World} {h0 : Mem}  (hs : MLe h0 (mem w0)) {k : Nat} {vL : Value} {L : (List (List (T3 Rat)))} (rL : (rpS (rpS (rpT (rpQ k)))).Is h0 vL L) {vp : Value} {p : (T3 Rat)} (rp : (rpT (rpQ k)).Is h0 vp p) (hcd0 : k ≤ 100000) (hcd1 : ∀ x, x ∈ L → x.length ≤ 1000) (hcd2 : L.length ≤ 1000)  :
    Calls Tryz.prog 17 #[vL, vp] w0 (Ret w0 h0 (fun _ r => r = vI (whZ L (pr p 0 1) 0 1))) := by
 refine calls_begin (n := 8) (e := [(0, vL), (1, vp)]) (vs := [vL, vp]) Tryz.func17 rfl rfl (Nat.le_of_ble_eq_true rfl) hs ⟨rfl, rfl, trivial⟩ (gc_seq (gc_region (gl_newop (new_boxx (ρ := (rpT (rpQ k))) rfl rp) rfl rfl rfl ?_)))
 intro v3 q3 hq3
 obtain ⟨b3, cs3, rfl, rfl, rb3⟩ := hq3
 refine asg (v := vI (0)) rfl rfl (gl_nil (gq_then (gc_seq (gc_region (mv rfl rfl (gl_x (F := fun v_ => (rpT (rpQ k)).Is h0 v_ p) (ox_load_box ty33 (Pc.here _) rfl rfl rb3 rfl) (mem1 (.head _)) rfl ?_))))))
 intro v6 r6
 refine gl_call (vs := [_, _, vI (0), vI (1)]) rfl rfl rfl rfl Tryz.call40 ⟨rfl, rfl, rfl, rfl, trivial⟩ (fun w hs => o_pl_where (i := 0) (j := 1) hs rL r6 (by decide) (by decide) (by first | omega | assumption) (by first | omega | assumption) (by first | omega | assumption)) ?_
 intro v7 h1 hh1 r7
 obtain rfl : v7 = vI (whZ L (pr p 0 1) 0 1) := r7
 refine asg rfl rfl (gl_nil (gq_then (gc_ret (gq_body1 rfl rfl ?_))))
 rfl

theorem o_r5_where {w0 : World} {h0 : Mem}  (hs : MLe h0 (mem w0)) {k : Nat} {vL : Value} {L : (List (List (T3 Rat)))} (rL : (rpS (rpS (rpT (rpQ k)))).Is h0 vL L) {vp : Value} {p : (T3 Rat)} (rp : (rpT (rpQ k)).Is h0 vp p) (hcd0 : k ≤ 5000) (hcd1 : ∀ x, x ∈ L → x.length ≤ 1000) (hcd2 : L.length ≤ 1000)  :
    Calls Tryz.prog 18 #[vL, vp] w0 (Ret w0 h0 (fun _ r => r = vI (whZ L (pr p 0 1) 0 1))) := by
 refine calls_begin (n := 26) (e := [(0, vL), (1, vp)]) (vs := [vL, vp]) Tryz.func18 rfl rfl (Nat.le_of_ble_eq_true rfl) hs ⟨rfl, rfl, trivial⟩ (gc_seq (gc_region (gl_newop (new_boxx (ρ := (rpT (rpQ k))) rfl rp) rfl rfl rfl ?_)))
 intro v3 q3 hq3
 obtain ⟨b3, cs3, rfl, rfl, rb3⟩ := hq3
 refine asg (v := vI (0)) rfl rfl (gl_nil (gq_then (gc_seq (gc_region (asg (v := vI (-1)) rfl rfl (gl_nil (gq_then (gc_seq (gc_seq (gc_region (asg (v := vI (0)) rfl rfl (gl_nil (gq_then ?_)))))))))))))
 refine gc_block ?_
 refine gc_loop (ι := Nat × Mem) (fun (x_ : (Nat × Mem)) => match x_ with | (m, ma) => MLe h0 ma ∧ (m ≤ L.length ∧ ∀ q, q < m → ¬ insZ (L.getD q []) (pr p 0 1) 0 1 = 0)) (fun (x_ : (Nat × Mem)) => match x_ with | (m, ma) => [(0, vL), (3, vP b3 0), (5, vI (whTo L (pr p 0 1) 0 1 m)), (6, vI ↑m)]) (fun (x_ : (Nat × Mem)) => match x_ with | (m, ma) => [.var b3 33 cs3]) (fun (x_ : (Nat × Mem)) => match x_ with | (m, ma) => ma) (fun (x_ : (Nat × Mem)) => match x_ with | (m, ma) => L.length - m) (0, h0) ?_ ⟨rfl, rfl, rfl, rfl, trivial⟩ rfl rfl ?_
 ·
  refine ⟨MLe.refl _, ?_⟩
  exact ⟨by omega, fun q hq => by omega⟩
 ·
  intro x hx
  obtain ⟨m, ma⟩ := x
  obtain ⟨hmma, hinv⟩ := hx
  show GC _ _ _ _ _ _ [(0, vL), (3, vP b3 0), (5, vI (whTo L (pr p 0 1) 0 1 m)), (6, vI ↑m)] [.var b3 33 cs3] ma
  obtain ⟨hm1, hno⟩ := hinv
  have hwr := wh_range L (pr p 0 1) 0 1 m
  refine gc_seq (gc_seq (gc_region (mv rfl rfl (mv rfl rfl ?_))))
  replace rL := rL.mono hmma
  refine gv (ov_len_sr Tryz.underlying27 rfl rL) rfl (gv (ov_lss_i rfl rfl) rfl (gl_nil (gq_then ?_)))
  refine gc_cond rfl (fun hc10 => ?_) (fun hc10 => ?_)
  ·
   refine gc_skip (gq_then (gc_seq (gc_block (gc_seq ?_))))
   refine gc_draw 6 _ [] [(0, .q), (1, .q), (2, .q), (3, .q), (4, .q), (5, .c)] mixed (fun x hx => by cases hx) (by kernel_rfl) (fun x hx => by cases hx) (fun r hr => hr) (w_q rfl (fun h' L' hh hR => ov_move rfl) rfl (w_q rfl (fun h' L' hh hR => ov_move rfl) rfl (w_qx (F := fun v_ => AtP (rpS (rpT (rpQ k))) ma v_ (L.getD m [])) rfl (ox_idx_s [] m Tryz.underlying27 ty36 rfl rfl rL rfl (by omega) (show 0 < 1 from by decide)) mem0 rfl ?_)))
   intro v15 r15
   refine w_qx (F := fun v_ => (rpS (rpT (rpQ k))).Is ma v_ (L.getD m [])) rfl (ox_load_at ty36 rfl r15) mem0 rfl ?_
   intro v16 r16
   replace rb3 := rb3.mono hmma
   refine w_qx (F := fun v_ => (rpT (rpQ k)).Is ma v_ p) rfl (ox_load_box ty33 (Pc.here _) rfl rfl rb3 rfl) (mem1 (.head _)) rfl ?_
   intro v17 r17
   refine w_c rfl ?_
   refine s_call (vs := [_, _]) Tryz.call20 ⟨rfl, rfl, trivial⟩ (fun w hs => o_r5_inside hs r16 r17 (by first | omega | exact getD_len (by assumption) _) (by first | omega | exact getD_len (by assumption) _)) rfl ?_
   intro v18 h1 hh1 r18
   obtain rfl : v18 = vI (insZ (L.getD m []) (pr p 0 1) 0 1) := r18
   refine w_nil (gq_then (gc_block (gc_seq (gc_region (gv (ov_eql_i (q := 0) rfl rfl) rfl (asg rfl rfl (gl_nil (gq_keep (e' := [(0, _), (3, _), (5, _), (6, _), (18, _), (19, _)]) ⟨rfl, rfl, rfl, rfl, rfl, rfl, trivial⟩ (gq_then ?_)))))))))
   refine gc_cond rfl (fun hc19 => ?_) (fun hc19 => ?_)
   ·
    refine gc_seq (gc_region (asg (v := vI (0)) rfl rfl (gl_nil (gq_then (gc_ret (gr_in (gr_in (gr_then (gr_then (gr_in (gr_then (gq_body1 rfl rfl ?_))))))))))))
    exact congrArg vI (if_pos ⟨m, by omega, hc19⟩).symm
   ·
    refine gc_seq (gc_region (gv (ov_eql_i (q := 1) rfl rfl) rfl (asg rfl rfl (gl_nil (gq_then ?_)))))
    refine gc_cond rfl (fun hc21 => ?_) (fun hc21 => ?_)
    ·
     refine gc_region (mv rfl rfl (gv (ov_neg_i rfl (by omega) (by omega)) rfl (asg rfl rfl (gl_nil (gq_in (gq_in (gq_then (gc_region (mv rfl rfl (gv (ov_add_i (q := 1) rfl rfl (by omega) (by omega)) rfl (asg rfl rfl (gl_nil ?_))))))))))))
     refine gq_round ((m + 1), h1) ?_ ?_ ⟨?_, ?_, ?_, ?_, trivial⟩ ?_ rfl
     ·
      refine ⟨(hmma.trans hh1), ?_⟩
      exact ⟨by omega, wh_next hno hc19⟩
     ·
      dsimp only
      omega
     · exact rfl
     · exact rfl
     · exact congrArg (fun z => some (vI z)) (if_pos hc21).symm
     · exact rfl
     · exact rfl
    ·
     refine gc_skip (gq_in (gq_in (gq_then (gc_region (mv rfl rfl (gv (ov_add_i (q := 1) rfl rfl (by omega) (by omega)) rfl (asg rfl rfl (gl_nil ?_))))))))
     refine gq_round ((m + 1), h1) ?_ ?_ ⟨?_, ?_, ?_, ?_, trivial⟩ ?_ rfl
     ·
      refine ⟨(hmma.trans hh1), ?_⟩
      exact ⟨by omega, wh_next hno hc19⟩
     ·
      dsimp only
      omega
     · exact rfl
     · exact rfl
     · exact congrArg (fun z => some (vI z)) (if_neg hc21).symm
     · exact rfl
     · exact rfl
  ·
   refine gc_exit (gx_then (gx_then (gx_here (gq_then (gc_seq (gc_region (mv rfl rfl (asg rfl rfl (gl_nil (gq_then (gc_ret (gq_body1 rfl rfl ?_))))))))))))
   exact congrArg vI (wh_end (by omega) hm1 hno)

end Go.Proofs.YtfpjclgbieppeaaGreat


namespace Go.Proofs.YtfpjclgbieppeaaGreat
open Bk Go
set_option linter.unusedVariables false
set_option linter.unusedSimpArgs false
set_option maxRecDepth 10000

theorem o_dice_spot {w0 w : World} {h0 h : Mem} {b k : Nat} {vl : Value} {xs : List Int} (hl : Is h vl xs) (hk : k ≤ xs.length) {L : List Res} (hs : St w0 h0 (.var b 57 [vl, vI ↑k] :: L) h w) :
    Calls Tryz.prog 10 #[vP b 0] w (RetMut w0 h0 h L (fun g r q' => ∃ k' : Nat, ∃ m : T3 Rat, q' = .var b 57 [vl, vI ↑k'] ∧ k' ≤ xs.length ∧ (rpT (rpQ 2)).Is g r m)) := by
 have hlen := hl.lt63
 refine calls_begin_st (n := 22) (e := [(0, vP b 0)]) (vs := [vP b 0]) Tryz.func10 rfl rfl (Nat.le_of_ble_eq_true rfl) hs ⟨rfl, trivial⟩ (gc_seq (gc_region (gl_newop (new_allocx (ρ := (rpT (rpQ 2))) (X := (T3.mk (0 : Rat) (0 : Rat) (0 : Rat))) info33 rfl rfl (zr_t (zr_q (by decide)))) rfl rfl rfl ?_)))
 intro v2 q2 hq2
 obtain ⟨b2, cs2, rfl, rfl, rb2⟩ := hq2
 refine gl_nil (gq_then (gc_seq (gc_region (gl_newop (new_allocx (ρ := (rpT (rpQ 2))) (X := (T3.mk (0 : Rat) (0 : Rat) (0 : Rat))) info33 rfl rfl (zr_t (zr_q (by decide)))) rfl rfl rfl ?_))))
 intro v3 q3 hq3
 obtain ⟨b3, cs3, rfl, rfl, rb3⟩ := hq3
 refine gl_nil (gq_then (gc_seq (gc_seq (gc_region (asg (v := vI (0)) rfl rfl (gl_nil (gq_then (gc_block (gc_loop1 (gc_seq (gc_seq (gc_region (mv rfl rfl ?_)))))))))))))
 refine gv (OpV.tr (by decide) (ov_lss_i (q := 3) rfl rfl)) rfl (gl_nil (gq_then (gc_cond_t rfl (gc_skip (gq_then (gc_seq (gc_block (gc_seq (gc_region (mv rfl rfl (mv rfl rfl ?_)))))))))))
 refine gl_call_mut2 (A := [_, _]) (vs := [_, vI (5)]) Tryz.call15 ⟨rfl, rfl, trivial⟩ (fun X w hs => dice_next hl (by first | omega | exact Nat.zero_le _) (by omega) (by omega) hs) rfl ?_
 intro v11u1 g11u1 q11u1 hg11u1 hr11u1
 obtain ⟨k11u1, z11u1, rfl, hk11u1, rfl, hz11u1, hy11u1⟩ := hr11u1
 refine gl_call (vs := [_]) rfl rfl rfl rfl Tryz.call32 ⟨rfl, trivial⟩ (fun w hs => o_rref_int hs (by omega) (by omega)) ?_
 intro v12u1 h1 hh1 r12u1
 change (rpQ 2).Is h1 v12u1 ((z11u1 : Int) : Rat) at r12u1
 refine gv ((ov_index_arr (sz := 3) 0 Tryz.underlying33 Tryz.sizeOf31 rfl rfl rfl (by decide)).cv (show _ = vP b3 0 from congrArg (vP b3) (by rfl))) rfl ?_
 replace rb3 := rb3.mono (hg11u1.trans hh1)
 refine gl_updx (A := []) (F := fun c_ => (rpT (rpQ 2)).R h1 c_ (T3.mk ((z11u1 : Int) : Rat) (0 : Rat) (0 : Rat))) (upd_box Tryz.sizeOf31 (Pc.tx (Pc.here _)) rfl rfl rfl rb3 r12u1 rfl) ?_
 intro cs_1 rb_2
 refine gl_nil (gq_then (gc_seq (gc_region (mv rfl rfl ?_))))
 replace hl := hl.mono (hg11u1.trans hh1)
 refine gl_call_mut2 (A := [_, _]) (vs := [_, vI (4)]) Tryz.call11 ⟨rfl, rfl, trivial⟩ (fun X w hs => o_dice_bool hl (by first | omega | exact Nat.zero_le _) (by omega) (by omega) hs) rfl ?_
 intro v15u1 g15u1 q15u1 hg15u1 hr15u1
 obtain ⟨k15u1, P15u1, rfl, hk15u1, rfl⟩ := hr15u1
 refine gl_nil (gq_then ?_)
 refine gc_cond rfl (fun hc15 => ?_) (fun hc15 => ?_)
 ·
  refine gc_region (mv rfl rfl (mv rfl rfl ?_))
  replace hl := hl.mono hg15u1
  refine gl_call_mut2 (A := [_, _]) (vs := [_, vI (9)]) Tryz.call15 ⟨rfl, rfl, trivial⟩ (fun X w hs => dice_next hl (by first | omega | exact Nat.zero_le _) (by omega) (by omega) hs) rfl ?_
  intro v18u1 g18u1 q18u1 hg18u1 hr18u1
  obtain ⟨k18u1, z18u1, rfl, hk18u1, rfl, hz18u1, hy18u1⟩ := hr18u1
  refine gl_call (vs := [_, vI (2)]) rfl rfl rfl rfl Tryz.call35 ⟨rfl, rfl, trivial⟩ (fun w hs => o_rref_frac hs (by omega) (by omega) (by decide) (by decide)) ?_
  intro v19u1 h2 hh2 r19u1
  change (rpQ 2).Is h2 v19u1 (makeQ z18u1 (2 : Int)) at r19u1
  refine gv ((ov_index_arr (sz := 3) 0 Tryz.underlying33 Tryz.sizeOf31 rfl rfl rfl (by decide)).cv (show _ = vP b3 0 from congrArg (vP b3) (by rfl))) rfl ?_
  replace rb_2 := rb_2.mono ((hg15u1.trans hg18u1).trans hh2)
  refine gl_updx (A := []) (F := fun c_ => (rpT (rpQ 2)).R h2 c_ (T3.mk (makeQ z18u1 (2 : Int)) (0 : Rat) (0 : Rat))) (upd_box Tryz.sizeOf31 (Pc.tx (Pc.here _)) rfl rfl rfl rb_2 r19u1 rfl) ?_
  intro cs_3 rb_4
  refine gl_nil (gq_in (gq_keep (e' := [(0, _), (2, _), (3, _), (4, _)]) ⟨rfl, rfl, rfl, rfl, trivial⟩ (gq_then (gc_region (mv rfl rfl (gv ((ov_add_i (q := 1) rfl rfl (by omega) (by omega)).cv (show _ = vI (1) from rfl)) rfl (asg rfl rfl (gl_nil (gq_loop1 (gc_seq (gc_seq (gc_region (mv rfl rfl ?_)))))))))))))
  refine gv (OpV.tr (by decide) (ov_lss_i (q := 3) rfl rfl)) rfl (gl_nil (gq_then (gc_cond_t rfl (gc_skip (gq_then (gc_seq (gc_block (gc_seq (gc_region (mv rfl rfl (mv rfl rfl ?_)))))))))))
  replace hl := hl.mono (hg18u1.trans hh2)
  refine gl_call_mut2 (A := [_, _]) (vs := [_, vI (5)]) Tryz.call15 ⟨rfl, rfl, trivial⟩ (fun X w hs => dice_next hl (by first | omega | exact Nat.zero_le _) (by omega) (by omega) hs) rfl ?_
  intro v11u2 g11u2 q11u2 hg11u2 hr11u2
  obtain ⟨k11u2, z11u2, rfl, hk11u2, rfl, hz11u2, hy11u2⟩ := hr11u2
  refine gl_call (vs := [_]) rfl rfl rfl rfl Tryz.call32 ⟨rfl, trivial⟩ (fun w hs => o_rref_int hs (by omega) (by omega)) ?_
  intro v12u2 h3 hh3 r12u2
  change (rpQ 2).Is h3 v12u2 ((z11u2 : Int) : Rat) at r12u2
  refine gv ((ov_index_arr (sz := 3) 1 Tryz.underlying33 Tryz.sizeOf31 rfl rfl rfl (by decide)).cv (show _ = vP b3 3 from congrArg (vP b3) (by rfl))) rfl ?_
  replace rb_4 := rb_4.mono (hg11u2.trans hh3)
  refine gl_updx (A := []) (F := fun c_ => (rpT (rpQ 2)).R h3 c_ (T3.mk (makeQ z18u1 (2 : Int)) ((z11u2 : Int) : Rat) (0 : Rat))) (upd_box Tryz.sizeOf31 (Pc.ty (Pc.here _)) rfl rfl rfl rb_4 r12u2 rfl) ?_
  intro cs_5 rb_6
  refine gl_nil (gq_then (gc_seq (gc_region (mv rfl rfl ?_))))
  replace hl := hl.mono (hg11u2.trans hh3)
  refine gl_call_mut2 (A := [_, _]) (vs := [_, vI (4)]) Tryz.call11 ⟨rfl, rfl, trivial⟩ (fun X w hs => o_dice_bool hl (by first | omega | exact Nat.zero_le _) (by omega) (by omega) hs) rfl ?_
  intro v15u2 g15u2 q15u2 hg15u2 hr15u2
  obtain ⟨k15u2, P15u2, rfl, hk15u2, rfl⟩ := hr15u2
  refine gl_nil (gq_keep (e' := [(0, _), (2, _), (3, _), (4, _), (15, _)]) ⟨rfl, rfl, rfl, rfl, rfl, trivial⟩ (gq_then ?_))
  refine gc_cond rfl (fun hc15 => ?_) (fun hc15 => ?_)
  ·
   refine gc_region (mv rfl rfl (mv rfl rfl ?_))
   replace hl := hl.mono hg15u2
   refine gl_call_mut2 (A := [_, _]) (vs := [_, vI (9)]) Tryz.call15 ⟨rfl, rfl, trivial⟩ (fun X w hs => dice_next hl (by first | omega | exact Nat.zero_le _) (by omega) (by omega) hs) rfl ?_
   intro v18u2 g18u2 q18u2 hg18u2 hr18u2
   obtain ⟨k18u2, z18u2, rfl, hk18u2, rfl, hz18u2, hy18u2⟩ := hr18u2
   refine gl_call (vs := [_, vI (2)]) rfl rfl rfl rfl Tryz.call35 ⟨rfl, rfl, trivial⟩ (fun w hs => o_rref_frac hs (by omega) (by omega) (by decide) (by decide)) ?_
   intro v19u2 h4 hh4 r19u2
   change (rpQ 2).Is h4 v19u2 (makeQ z18u2 (2 : Int)) at r19u2
   refine gv ((ov_index_arr (sz := 3) 1 Tryz.underlying33 Tryz.sizeOf31 rfl rfl rfl (by decide)).cv (show _ = vP b3 3 from congrArg (vP b3) (by rfl))) rfl ?_
   replace rb_6 := rb_6.mono ((hg15u2.trans hg18u2).trans hh4)
   refine gl_updx (A := []) (F := fun c_ => (rpT (rpQ 2)).R h4 c_ (T3.mk (makeQ z18u1 (2 : Int)) (makeQ z18u2 (2 : Int)) (0 : Rat))) (upd_box Tryz.sizeOf31 (Pc.ty (Pc.here _)) rfl rfl rfl rb_6 r19u2 rfl) ?_
   intro cs_7 rb_8
   refine gl_nil (gq_in (gq_then (gc_region (mv rfl rfl (gv ((ov_add_i (q := 1) rfl rfl (by omega) (by omega)).cv (show _ = vI (2) from rfl)) rfl (asg rfl rfl (gl_nil (gq_loop1 (gc_seq (gc_seq (gc_region (mv rfl rfl (gv (OpV.tr (by decide) (ov_lss_i (q := 3) rfl rfl)) rfl ?_)))))))))))))
   refine gl_nil (gq_then (gc_cond_t rfl (gc_skip (gq_keep (e' := [(0, _), (2, _), (3, _), (4, _)]) ⟨rfl, rfl, rfl, rfl, trivial⟩ (gq_then (gc_seq (gc_block (gc_seq (gc_region (mv rfl rfl (mv rfl rfl ?_)))))))))))
   replace hl := hl.mono (hg18u2.trans hh4)
   refine gl_call_mut2 (A := [_, _]) (vs := [_, vI (5)]) Tryz.call15 ⟨rfl, rfl, trivial⟩ (fun X w hs => dice_next hl (by first | omega | exact Nat.zero_le _) (by omega) (by omega) hs) rfl ?_
   intro v11u3 g11u3 q11u3 hg11u3 hr11u3
   obtain ⟨k11u3, z11u3, rfl, hk11u3, rfl, hz11u3, hy11u3⟩ := hr11u3
   refine gl_call (vs := [_]) rfl rfl rfl rfl Tryz.call32 ⟨rfl, trivial⟩ (fun w hs => o_rref_int hs (by omega) (by omega)) ?_
   intro v12u3 h5 hh5 r12u3
   change (rpQ 2).Is h5 v12u3 ((z11u3 : Int) : Rat) at r12u3
   refine gv ((ov_index_arr (sz := 3) 2 Tryz.underlying33 Tryz.sizeOf31 rfl rfl rfl (by decide)).cv (show _ = vP b3 6 from congrArg (vP b3) (by rfl))) rfl ?_
   replace rb_8 := rb_8.mono (hg11u3.trans hh5)
   refine gl_updx (A := []) (F := fun c_ => (rpT (rpQ 2)).R h5 c_ (T3.mk (makeQ z18u1 (2 : Int)) (makeQ z18u2 (2 : Int)) ((z11u3 : Int) : Rat))) (upd_box Tryz.sizeOf31 (Pc.tz (Pc.here _)) rfl rfl rfl rb_8 r12u3 rfl) ?_
   intro cs_9 rb_10
   refine gl_nil (gq_then (gc_seq (gc_region (mv rfl rfl ?_))))
   replace hl := hl.mono (hg11u3.trans hh5)
   refine gl_call_mut2 (A := [_, _]) (vs := [_, vI (4)]) Tryz.call11 ⟨rfl, rfl, trivial⟩ (fun X w hs => o_dice_bool hl (by first | omega | exact Nat.zero_le _) (by omega) (by omega) hs) rfl ?_
   intro v15u3 g15u3 q15u3 hg15u3 hr15u3
   obtain ⟨k15u3, P15u3, rfl, hk15u3, rfl⟩ := hr15u3
   refine gl_nil (gq_then ?_)
   refine gc_cond rfl (fun hc15 => ?_) (fun hc15 => ?_)
   ·
    refine gc_region (mv rfl rfl (mv rfl rfl ?_))
    replace hl := hl.mono hg15u3
    refine gl_call_mut2 (A := [_, _]) (vs := [_, vI (9)]) Tryz.call15 ⟨rfl, rfl, trivial⟩ (fun X w hs => dice_next hl (by first | omega | exact Nat.zero_le _) (by omega) (by omega) hs) rfl ?_
    intro v18u3 g18u3 q18u3 hg18u3 hr18u3
    obtain ⟨k18u3, z18u3, rfl, hk18u3, rfl, hz18u3, hy18u3⟩ := hr18u3
    refine gl_call (vs := [_, vI (2)]) rfl rfl rfl rfl Tryz.call35 ⟨rfl, rfl, trivial⟩ (fun w hs => o_rref_frac hs (by omega) (by omega) (by decide) (by decide)) ?_
    intro v19u3 h6 hh6 r19u3
    change (rpQ 2).Is h6 v19u3 (makeQ z18u3 (2 : Int)) at r19u3
    refine gv ((ov_index_arr (sz := 3) 2 Tryz.underlying33 Tryz.sizeOf31 rfl rfl rfl (by decide)).cv (show _ = vP b3 6 from congrArg (vP b3) (by rfl))) rfl ?_
    replace rb_10 := rb_10.mono ((hg15u3.trans hg18u3).trans hh6)
    refine gl_updx (A := []) (F := fun c_ => (rpT (rpQ 2)).R h6 c_ (T3.mk (makeQ z18u1 (2 : Int)) (makeQ z18u2 (2 : Int)) (makeQ z18u3 (2 : Int)))) (upd_box Tryz.sizeOf31 (Pc.tz (Pc.here _)) rfl rfl rfl rb_10 r19u3 rfl) ?_
    intro cs_11 rb_12
    refine gl_nil (gq_in (gq_keep (e' := [(0, _), (2, _), (3, _), (4, _)]) ⟨rfl, rfl, rfl, rfl, trivial⟩ (gq_then (gc_region (mv rfl rfl (gv ((ov_add_i (q := 1) rfl rfl (by omega) (by omega)).cv (show _ = vI (3) from rfl)) rfl (asg rfl rfl (gl_nil (gq_loop1 (gc_seq (gc_seq (gc_region (mv rfl rfl ?_)))))))))))))
    refine gv (OpV.fa (by decide) (ov_lss_i (q := 3) rfl rfl)) rfl (gl_nil (gq_then (gc_cond_f rfl (gc_exit (gx_then (gx_then (gx_here (gq_then (gc_seq (gc_region (gl_x (F := fun v_ => (rpT (rpQ 2)).Is h6 v_ (T3.mk (makeQ z18u1 (2 : Int)) (makeQ z18u2 (2 : Int)) (makeQ z18u3 (2 : Int)))) (ox_load_box ty33 (Pc.here _) rfl rfl rb_12 rfl) (mem1 (.head _)) rfl ?_)))))))))))
    intro v21u4 r21u4
    replace rb2 := rb2.mono ((((((((((((((hg11u1.trans hh1).trans hg15u1).trans hg18u1).trans hh2).trans hg11u2).trans hh3).trans hg15u2).trans hg18u2).trans hh4).trans hg11u3).trans hh5).trans hg15u3).trans hg18u3).trans hh6)
    refine gl_updx (A := [_]) (F := fun c_ => (rpT (rpQ 2)).R h6 c_ (T3.mk (makeQ z18u1 (2 : Int)) (makeQ z18u2 (2 : Int)) (makeQ z18u3 (2 : Int)))) (upd_box Tryz.sizeOf33 (Pc.here _) rfl rfl rfl rb2 r21u4 rfl) ?_
    intro cs_13 rb_14
    refine gl_nil (gq_then (gc_ret (gq_exv (rv_o (t := 2) ty33 (.tail _ (.head _)) rfl rb_14) ?_)))
    intro w_15 hvw_15 rr_16
    refine gq_res_own (fun E S => run_res1 rfl hvw_15 E S) ?_
    exact ⟨_, (.cons _ (.cons _ (List.Sublist.refl _))), ((((((((((((((hg11u1.trans hh1).trans hg15u1).trans hg18u1).trans hh2).trans hg11u2).trans hh3).trans hg15u2).trans hg18u2).trans hh4).trans hg11u3).trans hh5).trans hg15u3).trans hg18u3).trans hh6), _, _, rfl, by omega, rr_16⟩
   ·
    refine gc_skip (gq_in (gq_then (gc_region (mv rfl rfl (gv ((ov_add_i (q := 1) rfl rfl (by omega) (by omega)).cv (show _ = vI (3) from rfl)) rfl (asg rfl rfl (gl_nil (gq_loop1 (gc_seq (gc_seq (gc_region (mv rfl rfl (gv (OpV.fa (by decide) (ov_lss_i (q := 3) rfl rfl)) rfl ?_)))))))))))))
    refine gl_nil (gq_keep (e' := [(0, _), (2, _), (3, _), (4, _), (6, _)]) ⟨rfl, rfl, rfl, rfl, rfl, trivial⟩ (gq_then (gc_cond_f rfl (gc_exit (gx_then (gx_then (gx_here (gq_then (gc_seq (gc_region ?_))))))))))
    replace rb_10 := rb_10.mono hg15u3
    refine gl_x (F := fun v_ => (rpT (rpQ 2)).Is g15u3 v_ (T3.mk (makeQ z18u1 (2 : Int)) (makeQ z18u2 (2 : Int)) ((z11u3 : Int) : Rat))) (ox_load_box ty33 (Pc.here _) rfl rfl rb_10 rfl) (mem1 (.head _)) rfl ?_
    intro v21u5 r21u5
    replace rb2 := rb2.mono ((((((((((((hg11u1.trans hh1).trans hg15u1).trans hg18u1).trans hh2).trans hg11u2).trans hh3).trans hg15u2).trans hg18u2).trans hh4).trans hg11u3).trans hh5).trans hg15u3)
    refine gl_updx (A := [_]) (F := fun c_ => (rpT (rpQ 2)).R g15u3 c_ (T3.mk (makeQ z18u1 (2 : Int)) (makeQ z18u2 (2 : Int)) ((z11u3 : Int) : Rat))) (upd_box Tryz.sizeOf33 (Pc.here _) rfl rfl rfl rb2 r21u5 rfl) ?_
    intro cs_17 rb_18
    refine gl_nil (gq_then (gc_ret (gq_exv (rv_o (t := 2) ty33 (.tail _ (.head _)) rfl rb_18) ?_)))
    intro w_19 hvw_19 rr_20
    refine gq_res_own (fun E S => run_res1 rfl hvw_19 E S) ?_
    exact ⟨_, (.cons _ (.cons _ (List.Sublist.refl _))), ((((((((((((hg11u1.trans hh1).trans hg15u1).trans hg18u1).trans hh2).trans hg11u2).trans hh3).trans hg15u2).trans hg18u2).trans hh4).trans hg11u3).trans hh5).trans hg15u3), _, _, rfl, by omega, rr_20⟩
  ·
   refine gc_skip (gq_in (gq_then (gc_region (mv rfl rfl (gv ((ov_add_i (q := 1) rfl rfl (by omega) (by omega)).cv (show _ = vI (2) from rfl)) rfl (asg rfl rfl (gl_nil (gq_loop1 (gc_seq (gc_seq (gc_region (mv rfl rfl (gv (OpV.tr (by decide) (ov_lss_i (q := 3) rfl rfl)) rfl ?_)))))))))))))
   refine gl_nil (gq_then (gc_cond_t rfl (gc_skip (gq_then (gc_seq (gc_block (gc_seq (gc_region (mv rfl rfl (mv rfl rfl ?_))))))))))
   replace hl := hl.mono hg15u2
   refine gl_call_mut2 (A := [_, _]) (vs := [_, vI (5)]) Tryz.call15 ⟨rfl, rfl, trivial⟩ (fun X w hs => dice_next hl (by first | omega | exact Nat.zero_le _) (by omega) (by omega) hs) rfl ?_
   intro v11u6 g11u6 q11u6 hg11u6 hr11u6
   obtain ⟨k11u6, z11u6, rfl, hk11u6, rfl, hz11u6, hy11u6⟩ := hr11u6
   refine gl_call (vs := [_]) rfl rfl rfl rfl Tryz.call32 ⟨rfl, trivial⟩ (fun w hs => o_rref_int hs (by omega) (by omega)) ?_
   intro v12u6 h4 hh4 r12u6
   change (rpQ 2).Is h4 v12u6 ((z11u6 : Int) : Rat) at r12u6
   refine gv ((ov_index_arr (sz := 3) 2 Tryz.underlying33 Tryz.sizeOf31 rfl rfl rfl (by decide)).cv (show _ = vP b3 6 from congrArg (vP b3) (by rfl))) rfl ?_
   replace rb_6 := rb_6.mono ((hg15u2.trans hg11u6).trans hh4)
   refine gl_updx (A := []) (F := fun c_ => (rpT (rpQ 2)).R h4 c_ (T3.mk (makeQ z18u1 (2 : Int)) ((z11u2 : Int) : Rat) ((z11u6 : Int) : Rat))) (upd_box Tryz.sizeOf31 (Pc.tz (Pc.here _)) rfl rfl rfl rb_6 r12u6 rfl) ?_
   intro cs_21 rb_22
   refine gl_nil (gq_keep (e' := [(0, _), (2, _), (3, _), (4, _)]) ⟨rfl, rfl, rfl, rfl, trivial⟩ (gq_then (gc_seq (gc_region (mv rfl rfl ?_)))))
   replace hl := hl.mono (hg11u6.trans hh4)
   refine gl_call_mut2 (A := [_, _]) (vs := [_, vI (4)]) Tryz.call11 ⟨rfl, rfl, trivial⟩ (fun X w hs => o_dice_bool hl (by first | omega | exact Nat.zero_le _) (by omega) (by omega) hs) rfl ?_
   intro v15u6 g15u6 q15u6 hg15u6 hr15u6
   obtain ⟨k15u6, P15u6, rfl, hk15u6, rfl⟩ := hr15u6
   refine gl_nil (gq_then ?_)
   refine gc_cond rfl (fun hc15 => ?_) (fun hc15 => ?_)
   ·
    refine gc_region (mv rfl rfl (mv rfl rfl ?_))
    replace hl := hl.mono hg15u6
    refine gl_call_mut2 (A := [_, _]) (vs := [_, vI (9)]) Tryz.call15 ⟨rfl, rfl, trivial⟩ (fun X w hs => dice_next hl (by first | omega | exact Nat.zero_le _) (by omega) (by omega) hs) rfl ?_
    intro v18u6 g18u6 q18u6 hg18u6 hr18u6
    obtain ⟨k18u6, z18u6, rfl, hk18u6, rfl, hz18u6, hy18u6⟩ := hr18u6
    refine gl_call (vs := [_, vI (2)]) rfl rfl rfl rfl Tryz.call35 ⟨rfl, rfl, trivial⟩ (fun w hs => o_rref_frac hs (by omega) (by omega) (by decide) (by decide)) ?_
    intro v19u6 h5 hh5 r19u6
    change (rpQ 2).Is h5 v19u6 (makeQ z18u6 (2 : Int)) at r19u6
    refine gv ((ov_index_arr (sz := 3) 2 Tryz.underlying33 Tryz.sizeOf31 rfl rfl rfl (by decide)).cv (show _ = vP b3 6 from congrArg (vP b3) (by rfl))) rfl ?_
    replace rb_22 := rb_22.mono ((hg15u6.trans hg18u6).trans hh5)
    refine gl_updx (A := []) (F := fun c_ => (rpT (rpQ 2)).R h5 c_ (T3.mk (makeQ z18u1 (2 : Int)) ((z11u2 : Int) : Rat) (makeQ z18u6 (2 : Int)))) (upd_box Tryz.sizeOf31 (Pc.tz (Pc.here _)) rfl rfl rfl rb_22 r19u6 rfl) ?_
    intro cs_23 rb_24
    refine gl_nil (gq_in (gq_then (gc_region (mv rfl rfl (gv ((ov_add_i (q := 1) rfl rfl (by omega) (by omega)).cv (show _ = vI (3) from rfl)) rfl (asg rfl rfl (gl_nil (gq_loop1 (gc_seq (gc_seq (gc_region (mv rfl rfl (gv (OpV.fa (by decide) (ov_lss_i (q := 3) rfl rfl)) rfl ?_)))))))))))))
    refine gl_nil (gq_keep (e' := [(0, _), (2, _), (3, _), (4, _), (6, _)]) ⟨rfl, rfl, rfl, rfl, rfl, trivial⟩ (gq_then (gc_cond_f rfl (gc_exit (gx_then (gx_then (gx_here (gq_then (gc_seq (gc_region (gl_x (F := fun v_ => (rpT (rpQ 2)).Is h5 v_ (T3.mk (makeQ z18u1 (2 : Int)) ((z11u2 : Int) : Rat) (makeQ z18u6 (2 : Int)))) (ox_load_box ty33 (Pc.here _) rfl rfl rb_24 rfl) (mem1 (.head _)) rfl ?_)))))))))))
    intro v21u7 r21u7
    replace rb2 := rb2.mono ((((((((((((hg11u1.trans hh1).trans hg15u1).trans hg18u1).trans hh2).trans hg11u2).trans hh3).trans hg15u2).trans hg11u6).trans hh4).trans hg15u6).trans hg18u6).trans hh5)
    refine gl_updx (A := [_]) (F := fun c_ => (rpT (rpQ 2)).R h5 c_ (T3.mk (makeQ z18u1 (2 : Int)) ((z11u2 : Int) : Rat) (makeQ z18u6 (2 : Int)))) (upd_box Tryz.sizeOf33 (Pc.here _) rfl rfl rfl rb2 r21u7 rfl) ?_
    intro cs_25 rb_26
    refine gl_nil (gq_then (gc_ret (gq_exv (rv_o (t := 2) ty33 (.tail _ (.head _)) rfl rb_26) ?_)))
    intro w_27 hvw_27 rr_28
    refine gq_res_own (fun E S => run_res1 rfl hvw_27 E S) ?_
    exact ⟨_, (.cons _ (.cons _ (List.Sublist.refl _))), ((((((((((((hg11u1.trans hh1).trans hg15u1).trans hg18u1).trans hh2).trans hg11u2).trans hh3).trans hg15u2).trans hg11u6).trans hh4).trans hg15u6).trans hg18u6).trans hh5), _, _, rfl, by omega, rr_28⟩
   ·
    refine gc_skip (gq_in (gq_then (gc_region (mv rfl rfl (gv ((ov_add_i (q := 1) rfl rfl (by omega) (by omega)).cv (show _ = vI (3) from rfl)) rfl (asg rfl rfl (gl_nil (gq_loop1 (gc_seq (gc_seq (gc_region (mv rfl rfl (gv (OpV.fa (by decide) (ov_lss_i (q := 3) rfl rfl)) rfl ?_)))))))))))))
    refine gl_nil (gq_then (gc_cond_f rfl (gc_exit (gx_then (gx_then (gx_here (gq_then (gc_seq (gc_region ?_)))))))))
    replace rb_22 := rb_22.mono hg15u6
    refine gl_x (F := fun v_ => (rpT (rpQ 2)).Is g15u6 v_ (T3.mk (makeQ z18u1 (2 : Int)) ((z11u2 : Int) : Rat) ((z11u6 : Int) : Rat))) (ox_load_box ty33 (Pc.here _) rfl rfl rb_22 rfl) (mem1 (.head _)) rfl ?_
    intro v21u8 r21u8
    replace rb2 := rb2.mono ((((((((((hg11u1.trans hh1).trans hg15u1).trans hg18u1).trans hh2).trans hg11u2).trans hh3).trans hg15u2).trans hg11u6).trans hh4).trans hg15u6)
    refine gl_updx (A := [_]) (F := fun c_ => (rpT (rpQ 2)).R g15u6 c_ (T3.mk (makeQ z18u1 (2 : Int)) ((z11u2 : Int) : Rat) ((z11u6 : Int) : Rat))) (upd_box Tryz.sizeOf33 (Pc.here _) rfl rfl rfl rb2 r21u8 rfl) ?_
    intro cs_29 rb_30
    refine gl_nil (gq_keep (e' := [(2, _)]) ⟨rfl, trivial⟩ (gq_then (gc_ret (gq_exv (rv_o (t := 2) ty33 (.tail _ (.head _)) rfl rb_30) ?_))))
    intro w_31 hvw_31 rr_32
    refine gq_res_own (fun E S => run_res1 rfl hvw_31 E S) ?_
    exact ⟨_, (.cons _ (.cons _ (List.Sublist.refl _))), ((((((((((hg11u1.trans hh1).trans hg15u1).trans hg18u1).trans hh2).trans hg11u2).trans hh3).trans hg15u2).trans hg11u6).trans hh4).trans hg15u6), _, _, rfl, by omega, rr_32⟩
 ·
  refine gc_skip (gq_in (gq_then (gc_region (mv rfl rfl (gv ((ov_add_i (q := 1) rfl rfl (by omega) (by omega)).cv (show _ = vI (1) from rfl)) rfl (asg rfl rfl (gl_nil (gq_keep (e' := [(0, _), (2, _), (3, _), (4, _)]) ⟨rfl, rfl, rfl, rfl, trivial⟩ (gq_loop1 (gc_seq (gc_seq (gc_region (mv rfl rfl ?_)))))))))))))
  refine gv (OpV.tr (by decide) (ov_lss_i (q := 3) rfl rfl)) rfl (gl_nil (gq_then (gc_cond_t rfl (gc_skip (gq_then (gc_seq (gc_block (gc_seq (gc_region (mv rfl rfl (mv rfl rfl ?_)))))))))))
  replace hl := hl.mono hg15u1
  refine gl_call_mut2 (A := [_, _]) (vs := [_, vI (5)]) Tryz.call15 ⟨rfl, rfl, trivial⟩ (fun X w hs => dice_next hl (by first | omega | exact Nat.zero_le _) (by omega) (by omega) hs) rfl ?_
  intro v11u9 g11u9 q11u9 hg11u9 hr11u9
  obtain ⟨k11u9, z11u9, rfl, hk11u9, rfl, hz11u9, hy11u9⟩ := hr11u9
  refine gl_call (vs := [_]) rfl rfl rfl rfl Tryz.call32 ⟨rfl, trivial⟩ (fun w hs => o_rref_int hs (by omega) (by omega)) ?_
  intro v12u9 h2 hh2 r12u9
  change (rpQ 2).Is h2 v12u9 ((z11u9 : Int) : Rat) at r12u9
  refine gv ((ov_index_arr (sz := 3) 1 Tryz.underlying33 Tryz.sizeOf31 rfl rfl rfl (by decide)).cv (show _ = vP b3 3 from congrArg (vP b3) (by rfl))) rfl ?_
  replace rb_2 := rb_2.mono ((hg15u1.trans hg11u9).trans hh2)
  refine gl_updx (A := []) (F := fun c_ => (rpT (rpQ 2)).R h2 c_ (T3.mk ((z11u1 : Int) : Rat) ((z11u9 : Int) : Rat) (0 : Rat))) (upd_box Tryz.sizeOf31 (Pc.ty (Pc.here _)) rfl rfl rfl rb_2 r12u9 rfl) ?_
  intro cs_33 rb_34
  refine gl_nil (gq_then (gc_seq (gc_region (mv rfl rfl ?_))))
  replace hl := hl.mono (hg11u9.trans hh2)
  refine gl_call_mut2 (A := [_, _]) (vs := [_, vI (4)]) Tryz.call11 ⟨rfl, rfl, trivial⟩ (fun X w hs => o_dice_bool hl (by first | omega | exact Nat.zero_le _) (by omega) (by omega) hs) rfl ?_
  intro v15u9 g15u9 q15u9 hg15u9 hr15u9
  obtain ⟨k15u9, P15u9, rfl, hk15u9, rfl⟩ := hr15u9
  refine gl_nil (gq_then ?_)
  refine gc_cond rfl (fun hc15 => ?_) (fun hc15 => ?_)
  ·
   refine gc_region (mv rfl rfl (mv rfl rfl ?_))
   replace hl := hl.mono hg15u9
   refine gl_call_mut2 (A := [_, _]) (vs := [_, vI (9)]) Tryz.call15 ⟨rfl, rfl, trivial⟩ (fun X w hs => dice_next hl (by first | omega | exact Nat.zero_le _) (by omega) (by omega) hs) rfl ?_
   intro v18u9 g18u9 q18u9 hg18u9 hr18u9
   obtain ⟨k18u9, z18u9, rfl, hk18u9, rfl, hz18u9, hy18u9⟩ := hr18u9
   refine gl_call (vs := [_, vI (2)]) rfl rfl rfl rfl Tryz.call35 ⟨rfl, rfl, trivial⟩ (fun w hs => o_rref_frac hs (by omega) (by omega) (by decide) (by decide)) ?_
   intro v19u9 h3 hh3 r19u9
   change (rpQ 2).Is h3 v19u9 (makeQ z18u9 (2 : Int)) at r19u9
   refine gv ((ov_index_arr (sz := 3) 1 Tryz.underlying33 Tryz.sizeOf31 rfl rfl rfl (by decide)).cv (show _ = vP b3 3 from congrArg (vP b3) (by rfl))) rfl ?_
   replace rb_34 := rb_34.mono ((hg15u9.trans hg18u9).trans hh3)
   refine gl_updx (A := []) (F := fun c_ => (rpT (rpQ 2)).R h3 c_ (T3.mk ((z11u1 : Int) : Rat) (makeQ z18u9 (2 : Int)) (0 : Rat))) (upd_box Tryz.sizeOf31 (Pc.ty (Pc.here _)) rfl rfl rfl rb_34 r19u9 rfl) ?_
   intro cs_35 rb_36
   refine gl_nil (gq_in (gq_keep (e' := [(0, _), (2, _), (3, _), (4, _)]) ⟨rfl, rfl, rfl, rfl, trivial⟩ (gq_then (gc_region (mv rfl rfl (gv ((ov_add_i (q := 1) rfl rfl (by omega) (by omega)).cv (show _ = vI (2) from rfl)) rfl (asg rfl rfl (gl_nil (gq_loop1 (gc_seq (gc_seq (gc_region (mv rfl rfl ?_)))))))))))))
   refine gv (OpV.tr (by decide) (ov_lss_i (q := 3) rfl rfl)) rfl (gl_nil (gq_then (gc_cond_t rfl (gc_skip (gq_then (gc_seq (gc_block (gc_seq (gc_region (mv rfl rfl (mv rfl rfl ?_)))))))))))
   replace hl := hl.mono (hg18u9.trans hh3)
   refine gl_call_mut2 (A := [_, _]) (vs := [_, vI (5)]) Tryz.call15 ⟨rfl, rfl, trivial⟩ (fun X w hs => dice_next hl (by first | omega | exact Nat.zero_le _) (by omega) (by omega) hs) rfl ?_
   intro v11u10 g11u10 q11u10 hg11u10 hr11u10
   obtain ⟨k11u10, z11u10, rfl, hk11u10, rfl, hz11u10, hy11u10⟩ := hr11u10
   refine gl_call (vs := [_]) rfl rfl rfl rfl Tryz.call32 ⟨rfl, trivial⟩ (fun w hs => o_rref_int hs (by omega) (by omega)) ?_
   intro v12u10 h4 hh4 r12u10
   change (rpQ 2).Is h4 v12u10 ((z11u10 : Int) : Rat) at r12u10
   refine gv ((ov_index_arr (sz := 3) 2 Tryz.underlying33 Tryz.sizeOf31 rfl rfl rfl (by decide)).cv (show _ = vP b3 6 from congrArg (vP b3) (by rfl))) rfl ?_
   replace rb_36 := rb_36.mono (hg11u10.trans hh4)
   refine gl_updx (A := []) (F := fun c_ => (rpT (rpQ 2)).R h4 c_ (T3.mk ((z11u1 : Int) : Rat) (makeQ z18u9 (2 : Int)) ((z11u10 : Int) : Rat))) (upd_box Tryz.sizeOf31 (Pc.tz (Pc.here _)) rfl rfl rfl rb_36 r12u10 rfl) ?_
   intro cs_37 rb_38
   refine gl_nil (gq_then (gc_seq (gc_region (mv rfl rfl ?_))))
   replace hl := hl.mono (hg11u10.trans hh4)
   refine gl_call_mut2 (A := [_, _]) (vs := [_, vI (4)]) Tryz.call11 ⟨rfl, rfl, trivial⟩ (fun X w hs => o_dice_bool hl (by first | omega | exact Nat.zero_le _) (by omega) (by omega) hs) rfl ?_
   intro v15u10 g15u10 q15u10 hg15u10 hr15u10
   obtain ⟨k15u10, P15u10, rfl, hk15u10, rfl⟩ := hr15u10
   refine gl_nil (gq_keep (e' := [(0, _), (2, _), (3, _), (4, _), (15, _)]) ⟨rfl, rfl, rfl, rfl, rfl, trivial⟩ (gq_then ?_))
   refine gc_cond rfl (fun hc15 => ?_) (fun hc15 => ?_)
   ·
    refine gc_region (mv rfl rfl (mv rfl rfl ?_))
    replace hl := hl.mono hg15u10
    refine gl_call_mut2 (A := [_, _]) (vs := [_, vI (9)]) Tryz.call15 ⟨rfl, rfl, trivial⟩ (fun X w hs => dice_next hl (by first | omega | exact Nat.zero_le _) (by omega) (by omega) hs) rfl ?_
    intro v18u10 g18u10 q18u10 hg18u10 hr18u10
    obtain ⟨k18u10, z18u10, rfl, hk18u10, rfl, hz18u10, hy18u10⟩ := hr18u10
    refine gl_call (vs := [_, vI (2)]) rfl rfl rfl rfl Tryz.call35 ⟨rfl, rfl, trivial⟩ (fun w hs => o_rref_frac hs (by omega) (by omega) (by decide) (by decide)) ?_
    intro v19u10 h5 hh5 r19u10
    change (rpQ 2).Is h5 v19u10 (makeQ z18u10 (2 : Int)) at r19u10
    refine gv ((ov_index_arr (sz := 3) 2 Tryz.underlying33 Tryz.sizeOf31 rfl rfl rfl (by decide)).cv (show _ = vP b3 6 from congrArg (vP b3) (by rfl))) rfl ?_
    replace rb_38 := rb_38.mono ((hg15u10.trans hg18u10).trans hh5)
    refine gl_updx (A := []) (F := fun c_ => (rpT (rpQ 2)).R h5 c_ (T3.mk ((z11u1 : Int) : Rat) (makeQ z18u9 (2 : Int)) (makeQ z18u10 (2 : Int)))) (upd_box Tryz.sizeOf31 (Pc.tz (Pc.here _)) rfl rfl rfl rb_38 r19u10 rfl) ?_
    intro cs_39 rb_40
    refine gl_nil (gq_in (gq_then (gc_region (mv rfl rfl (gv ((ov_add_i (q := 1) rfl rfl (by omega) (by omega)).cv (show _ = vI (3) from rfl)) rfl (asg rfl rfl (gl_nil (gq_loop1 (gc_seq (gc_seq (gc_region (mv rfl rfl (gv (OpV.fa (by decide) (ov_lss_i (q := 3) rfl rfl)) rfl ?_)))))))))))))
    refine gl_nil (gq_then (gc_cond_f rfl (gc_exit (gx_then (gx_then (gx_here (gq_keep (e' := [(2, _), (3, _)]) ⟨rfl, rfl, trivial⟩ (gq_then (gc_seq (gc_region (gl_x (F := fun v_ => (rpT (rpQ 2)).Is h5 v_ (T3.mk ((z11u1 : Int) : Rat) (makeQ z18u9 (2 : Int)) (makeQ z18u10 (2 : Int)))) (ox_load_box ty33 (Pc.here _) rfl rfl rb_40 rfl) (mem1 (.head _)) rfl ?_)))))))))))
    intro v21u11 r21u11
    replace rb2 := rb2.mono ((((((((((((hg11u1.trans hh1).trans hg15u1).trans hg11u9).trans hh2).trans hg15u9).trans hg18u9).trans hh3).trans hg11u10).trans hh4).trans hg15u10).trans hg18u10).trans hh5)
    refine gl_updx (A := [_]) (F := fun c_ => (rpT (rpQ 2)).R h5 c_ (T3.mk ((z11u1 : Int) : Rat) (makeQ z18u9 (2 : Int)) (makeQ z18u10 (2 : Int)))) (upd_box Tryz.sizeOf33 (Pc.here _) rfl rfl rfl rb2 r21u11 rfl) ?_
    intro cs_41 rb_42
    refine gl_nil (gq_then (gc_ret (gq_exv (rv_o (t := 2) ty33 (.tail _ (.head _)) rfl rb_42) ?_)))
    intro w_43 hvw_43 rr_44
    refine gq_res_own (fun E S => run_res1 rfl hvw_43 E S) ?_
    exact ⟨_, (.cons _ (.cons _ (List.Sublist.refl _))), ((((((((((((hg11u1.trans hh1).trans hg15u1).trans hg11u9).trans hh2).trans hg15u9).trans hg18u9).trans hh3).trans hg11u10).trans hh4).trans hg15u10).trans hg18u10).trans hh5), _, _, rfl, by omega, rr_44⟩
   ·
    refine gc_skip (gq_in (gq_then (gc_region (mv rfl rfl (gv ((ov_add_i (q := 1) rfl rfl (by omega) (by omega)).cv (show _ = vI (3) from rfl)) rfl (asg rfl rfl (gl_nil (gq_loop1 (gc_seq (gc_seq (gc_region (mv rfl rfl (gv (OpV.fa (by decide) (ov_lss_i (q := 3) rfl rfl)) rfl ?_)))))))))))))
    refine gl_nil (gq_then (gc_cond_f rfl (gc_exit (gx_then (gx_then (gx_here (gq_then (gc_seq (gc_region ?_)))))))))
    replace rb_38 := rb_38.mono hg15u10
    refine gl_x (F := fun v_ => (rpT (rpQ 2)).Is g15u10 v_ (T3.mk ((z11u1 : Int) : Rat) (makeQ z18u9 (2 : Int)) ((z11u10 : Int) : Rat))) (ox_load_box ty33 (Pc.here _) rfl rfl rb_38 rfl) (mem1 (.head _)) rfl ?_
    intro v21u12 r21u12
    replace rb2 := rb2.mono ((((((((((hg11u1.trans hh1).trans hg15u1).trans hg11u9).trans hh2).trans hg15u9).trans hg18u9).trans hh3).trans hg11u10).trans hh4).trans hg15u10)
    refine gl_updx (A := [_]) (F := fun c_ => (rpT (rpQ 2)).R g15u10 c_ (T3.mk ((z11u1 : Int) : Rat) (makeQ z18u9 (2 : Int)) ((z11u10 : Int) : Rat))) (upd_box Tryz.sizeOf33 (Pc.here _) rfl rfl rfl rb2 r21u12 rfl) ?_
    intro cs_45 rb_46
    refine gl_nil (gq_then (gc_ret (gq_exv (rv_o (t := 2) ty33 (.tail _ (.head _)) rfl rb_46) ?_)))
    intro w_47 hvw_47 rr_48
    refine gq_res_own (fun E S => run_res1 rfl hvw_47 E S) ?_
    exact ⟨_, (.cons _ (.cons _ (List.Sublist.refl _))), ((((((((((hg11u1.trans hh1).trans hg15u1).trans hg11u9).trans hh2).trans hg15u9).trans hg18u9).trans hh3).trans hg11u10).trans hh4).trans hg15u10), _, _, rfl, by omega, rr_48⟩
  ·
   refine gc_skip (gq_in (gq_then (gc_region (mv rfl rfl (gv ((ov_add_i (q := 1) rfl rfl (by omega) (by omega)).cv (show _ = vI (2) from rfl)) rfl (asg rfl rfl (gl_nil (gq_keep (e' := [(0, _), (2, _), (3, _), (4, _)]) ⟨rfl, rfl, rfl, rfl, trivial⟩ (gq_loop1 (gc_seq (gc_seq (gc_region (mv rfl rfl ?_)))))))))))))
   refine gv (OpV.tr (by decide) (ov_lss_i (q := 3) rfl rfl)) rfl (gl_nil (gq_then (gc_cond_t rfl (gc_skip (gq_then (gc_seq (gc_block (gc_seq (gc_region (mv rfl rfl (mv rfl rfl ?_)))))))))))
   replace hl := hl.mono hg15u9
   refine gl_call_mut2 (A := [_, _]) (vs := [_, vI (5)]) Tryz.call15 ⟨rfl, rfl, trivial⟩ (fun X w hs => dice_next hl (by first | omega | exact Nat.zero_le _) (by omega) (by omega) hs) rfl ?_
   intro v11u13 g11u13 q11u13 hg11u13 hr11u13
   obtain ⟨k11u13, z11u13, rfl, hk11u13, rfl, hz11u13, hy11u13⟩ := hr11u13
   refine gl_call (vs := [_]) rfl rfl rfl rfl Tryz.call32 ⟨rfl, trivial⟩ (fun w hs => o_rref_int hs (by omega) (by omega)) ?_
   intro v12u13 h3 hh3 r12u13
   change (rpQ 2).Is h3 v12u13 ((z11u13 : Int) : Rat) at r12u13
   refine gv ((ov_index_arr (sz := 3) 2 Tryz.underlying33 Tryz.sizeOf31 rfl rfl rfl (by decide)).cv (show _ = vP b3 6 from congrArg (vP b3) (by rfl))) rfl ?_
   replace rb_34 := rb_34.mono ((hg15u9.trans hg11u13).trans hh3)
   refine gl_updx (A := []) (F := fun c_ => (rpT (rpQ 2)).R h3 c_ (T3.mk ((z11u1 : Int) : Rat) ((z11u9 : Int) : Rat) ((z11u13 : Int) : Rat))) (upd_box Tryz.sizeOf31 (Pc.tz (Pc.here _)) rfl rfl rfl rb_34 r12u13 rfl) ?_
   intro cs_49 rb_50
   refine gl_nil (gq_then (gc_seq (gc_region (mv rfl rfl ?_))))
   replace hl := hl.mono (hg11u13.trans hh3)
   refine gl_call_mut2 (A := [_, _]) (vs := [_, vI (4)]) Tryz.call11 ⟨rfl, rfl, trivial⟩ (fun X w hs => o_dice_bool hl (by first | omega | exact Nat.zero_le _) (by omega) (by omega) hs) rfl ?_
   intro v15u13 g15u13 q15u13 hg15u13 hr15u13
   obtain ⟨k15u13, P15u13, rfl, hk15u13, rfl⟩ := hr15u13
   refine gl_nil (gq_then ?_)
   refine gc_cond rfl (fun hc15 => ?_) (fun hc15 => ?_)
   ·
    refine gc_region (mv rfl rfl (mv rfl rfl ?_))
    replace hl := hl.mono hg15u13
    refine gl_call_mut2 (A := [_, _]) (vs := [_, vI (9)]) Tryz.call15 ⟨rfl, rfl, trivial⟩ (fun X w hs => dice_next hl (by first | omega | exact Nat.zero_le _) (by omega) (by omega) hs) rfl ?_
    intro v18u13 g18u13 q18u13 hg18u13 hr18u13
    obtain ⟨k18u13, z18u13, rfl, hk18u13, rfl, hz18u13, hy18u13⟩ := hr18u13
    refine gl_call (vs := [_, vI (2)]) rfl rfl rfl rfl Tryz.call35 ⟨rfl, rfl, trivial⟩ (fun w hs => o_rref_frac hs (by omega) (by omega) (by decide) (by decide)) ?_
    intro v19u13 h4 hh4 r19u13
    change (rpQ 2).Is h4 v19u13 (makeQ z18u13 (2 : Int)) at r19u13
    refine gv ((ov_index_arr (sz := 3) 2 Tryz.underlying33 Tryz.sizeOf31 rfl rfl rfl (by decide)).cv (show _ = vP b3 6 from congrArg (vP b3) (by rfl))) rfl ?_
    replace rb_50 := rb_50.mono ((hg15u13.trans hg18u13).trans hh4)
    refine gl_updx (A := []) (F := fun c_ => (rpT (rpQ 2)).R h4 c_ (T3.mk ((z11u1 : Int) : Rat) ((z11u9 : Int) : Rat) (makeQ z18u13 (2 : Int)))) (upd_box Tryz.sizeOf31 (Pc.tz (Pc.here _)) rfl rfl rfl rb_50 r19u13 rfl) ?_
    intro cs_51 rb_52
    refine gl_nil (gq_in (gq_keep (e' := [(0, _), (2, _), (3, _), (4, _)]) ⟨rfl, rfl, rfl, rfl, trivial⟩ (gq_then (gc_region (mv rfl rfl (gv ((ov_add_i (q := 1) rfl rfl (by omega) (by omega)).cv (show _ = vI (3) from rfl)) rfl (asg rfl rfl (gl_nil (gq_loop1 (gc_seq (gc_seq (gc_region (mv rfl rfl ?_)))))))))))))
    refine gv (OpV.fa (by decide) (ov_lss_i (q := 3) rfl rfl)) rfl (gl_nil (gq_then (gc_cond_f rfl (gc_exit (gx_then (gx_then (gx_here (gq_then (gc_seq (gc_region (gl_x (F := fun v_ => (rpT (rpQ 2)).Is h4 v_ (T3.mk ((z11u1 : Int) : Rat) ((z11u9 : Int) : Rat) (makeQ z18u13 (2 : Int)))) (ox_load_box ty33 (Pc.here _) rfl rfl rb_52 rfl) (mem1 (.head _)) rfl ?_)))))))))))
    intro v21u14 r21u14
    replace rb2 := rb2.mono ((((((((((hg11u1.trans hh1).trans hg15u1).trans hg11u9).trans hh2).trans hg15u9).trans hg11u13).trans hh3).trans hg15u13).trans hg18u13).trans hh4)
    refine gl_updx (A := [_]) (F := fun c_ => (rpT (rpQ 2)).R h4 c_ (T3.mk ((z11u1 : Int) : Rat) ((z11u9 : Int) : Rat) (makeQ z18u13 (2 : Int)))) (upd_box Tryz.sizeOf33 (Pc.here _) rfl rfl rfl rb2 r21u14 rfl) ?_
    intro cs_53 rb_54
    refine gl_nil (gq_then (gc_ret (gq_exv (rv_o (t := 2) ty33 (.tail _ (.head _)) rfl rb_54) ?_)))
    intro w_55 hvw_55 rr_56
    refine gq_res_own (fun E S => run_res1 rfl hvw_55 E S) ?_
    exact ⟨_, (.cons _ (.cons _ (List.Sublist.refl _))), ((((((((((hg11u1.trans hh1).trans hg15u1).trans hg11u9).trans hh2).trans hg15u9).trans hg11u13).trans hh3).trans hg15u13).trans hg18u13).trans hh4), _, _, rfl, by omega, rr_56⟩
   ·
    refine gc_skip (gq_in (gq_then (gc_region (mv rfl rfl (gv ((ov_add_i (q := 1) rfl rfl (by omega) (by omega)).cv (show _ = vI (3) from rfl)) rfl (asg rfl rfl (gl_nil (gq_keep (e' := [(0, _), (2, _), (3, _), (4, _)]) ⟨rfl, rfl, rfl, rfl, trivial⟩ (gq_loop1 (gc_seq (gc_seq (gc_region (mv rfl rfl ?_)))))))))))))
    refine gv (OpV.fa (by decide) (ov_lss_i (q := 3) rfl rfl)) rfl (gl_nil (gq_then (gc_cond_f rfl (gc_exit (gx_then (gx_then (gx_here (gq_then (gc_seq (gc_region ?_))))))))))
    replace rb_50 := rb_50.mono hg15u13
    refine gl_x (F := fun v_ => (rpT (rpQ 2)).Is g15u13 v_ (T3.mk ((z11u1 : Int) : Rat) ((z11u9 : Int) : Rat) ((z11u13 : Int) : Rat))) (ox_load_box ty33 (Pc.here _) rfl rfl rb_50 rfl) (mem1 (.head _)) rfl ?_
    intro v21u15 r21u15
    replace rb2 := rb2.mono ((((((((hg11u1.trans hh1).trans hg15u1).trans hg11u9).trans hh2).trans hg15u9).trans hg11u13).trans hh3).trans hg15u13)
    refine gl_updx (A := [_]) (F := fun c_ => (rpT (rpQ 2)).R g15u13 c_ (T3.mk ((z11u1 : Int) : Rat) ((z11u9 : Int) : Rat) ((z11u13 : Int) : Rat))) (upd_box Tryz.sizeOf33 (Pc.here _) rfl rfl rfl rb2 r21u15 rfl) ?_
    intro cs_57 rb_58
    refine gl_nil (gq_then (gc_ret (gq_exv (rv_o (t := 2) ty33 (.tail _ (.head _)) rfl rb_58) ?_)))
    intro w_59 hvw_59 rr_60
    refine gq_res_own (fun E S => run_res1 rfl hvw_59 E S) ?_
    exact ⟨_, (.cons _ (.cons _ (List.Sublist.refl _))), ((((((((hg11u1.trans hh1).trans hg15u1).trans hg11u9).trans hh2).trans hg15u9).trans hg11u13).trans hh3).trans hg15u13), _, _, rfl, by omega, rr_60⟩

end Go.Proofs.YtfpjclgbieppeaaGreat


namespace Go.Proofs.YtfpjclgbieppeaaGreat
open Bk Go
set_option linter.unusedVariables false
set_option linter.unusedSimpArgs false
set_option maxRecDepth 10000

theorem o_made_part {w0 : World} {h0 : Mem} (hs : MLe h0 (mem w0)) {n : Int} (hn1 : -9223372036854775808 ≤ n) (hn2 : n < 9223372036854775808) : Calls Tryz.prog 14 #[vI n] w0 (Ret w0 h0 (fun h r => (rpQ 2).Is h r (partQ n))) :=
  (made_part hs hn1 hn2).mono (ret_imp fun h r x => is_q x.2 x.1)

theorem law25_polygoninside {w0 : World} {h0 : Mem}  (hs : MLe h0 (mem w0)) {vl : Value} {xsl : List Int} (hl : Is h0 vl xsl)  :
    Calls Tryz.prog 3 #[vl] w0 (Ret w0 h0 (fun _ r => r = .bool true)) := by
 have hlenl := hl.lt63
 refine calls_begin (n := 79) (e := [(0, vl)]) (vs := [vl]) Tryz.func3 rfl rfl (Nat.le_of_ble_eq_true rfl) hs ⟨rfl, trivial⟩ (gc_seq (gc_region (asg rfl rfl (gl_nil (gq_then (gc_seq (gc_seq (gc_region (mv rfl rfl ?_)))))))))
 refine gl_call (vs := [_]) rfl rfl rfl rfl Tryz.call6 ⟨rfl, trivial⟩ (fun w hs => made_light hs hl) ?_
 intro v9 h1 hh1 hr9
 subst hr9
 refine gv (ov_not rfl) rfl (gl_nil (gq_then ?_))
 refine gc_cond rfl (fun hc10 => ?_) (fun hc10 => ?_)
 ·
  refine gc_seq (gc_region ?_)
  refine gl_call (vs := []) rfl rfl rfl rfl Tryz.call7 trivial (fun w hs => law25_sane hs) ?_
  intro v11 h2 hh2 hr11
  subst hr11
  refine asg rfl rfl (gl_nil (gq_then (gc_ret (gr_then (gq_body1 rfl rfl ?_)))))
  rfl
 ·
  refine gc_skip (gq_then (gc_seq (gc_region (mv rfl rfl ?_))))
  replace hl := hl.mono hh1
  refine gl_call_own (vs := [_]) rfl rfl rfl rfl Tryz.call8 ⟨rfl, trivial⟩ (fun w hs => made_roll hs hl) ?_
  intro v13 h2 L13 hh2 hr13
  obtain ⟨b13, rfl, rfl⟩ := hr13
  refine asg rfl rfl (gl_nil (gq_then (gc_seq (gc_region (mv rfl rfl ?_)))))
  replace hl := hl.mono hh2
  refine gl_call_mutO (A := []) (vs := [_]) Tryz.call9 ⟨rfl, trivial⟩ (fun X w hs => o_law_loops hl (by first | omega | exact Nat.zero_le _) hs) rfl ?_
  intro v15 g15 q15 o15 hg15 hr15
  obtain ⟨k15, p15, cs15, rfl, hk15, rfl, hx15, rl15⟩ := hr15
  refine asg rfl rfl (gl_nil (gq_then (gc_seq (gc_seq (gc_region (gl_freezex (A := []) (ρ := (rpS (rpT (rpQ 2)))) rl15 ?_))))))
  intro h3 hh3 rs_1
  refine asg (v := vI (0)) rfl rfl (gl_nil (gq_then (gc_block ?_)))
  refine gc_loop (ι := Nat × Nat × Mem) (fun (x_ : (Nat × Nat × Mem)) => match x_ with | (i, kd_2, ma) => MLe h3 ma ∧ (kd_2 ≤ xsl.length ∧ i ≤ 4)) (fun (x_ : (Nat × Nat × Mem)) => match x_ with | (i, kd_2, ma) => [(3, vP b13 0), (4, v15), (5, vI ↑i)]) (fun (x_ : (Nat × Nat × Mem)) => match x_ with | (i, kd_2, ma) => [.var b13 57 [vl, vI ↑kd_2]]) (fun (x_ : (Nat × Nat × Mem)) => match x_ with | (i, kd_2, ma) => ma) (fun (x_ : (Nat × Nat × Mem)) => match x_ with | (i, kd_2, ma) => 4 - i) (0, k15, h3) ?_ ⟨rfl, rfl, rfl, trivial⟩ rfl rfl ?_
  ·
   refine ⟨MLe.refl _, ?_⟩
   refine ⟨(by omega), ?_⟩
   exact (by omega)
  ·
   intro x hx
   obtain ⟨i, kd_2, ma⟩ := x
   obtain ⟨hmma, hinv⟩ := hx
   show GC _ _ _ _ _ _ [(3, vP b13 0), (4, v15), (5, vI ↑i)] [.var b13 57 [vl, vI ↑kd_2]] ma
   obtain ⟨hkd_3, hinv⟩ := hinv
   have hi4 := hinv
   have hln := hx15.1
   have hlp := hx15.2.1
   refine gc_seq (gc_seq (gc_region (mv rfl rfl (gv (ov_lss_i (q := 4) rfl rfl) rfl (gl_nil (gq_then ?_))))))
   refine gc_cond rfl (fun hc17 => ?_) (fun hc17 => ?_)
   ·
    refine gc_skip (gq_then (gc_seq (gc_block (gc_seq (gc_region (mv rfl rfl ?_))))))
    replace hl := hl.mono ((hg15.trans hh3).trans hmma)
    refine gl_call_mut2 (A := []) (vs := [_]) Tryz.call10 ⟨rfl, trivial⟩ (fun X w hs => o_dice_spot hl (by first | omega | exact Nat.zero_le _) hs) rfl ?_
    intro v21 g21 q21 hg21 hr21
    obtain ⟨k21, p21, rfl, hk21, hr21⟩ := hr21
    refine gl_newop (new_allocx (ρ := (rpT (rpQ 1))) (X := (T3.mk (0 : Rat) (0 : Rat) (0 : Rat))) info33 rfl rfl (zr_t (zr_q (by decide)))) rfl rfl rfl ?_
    intro v6 q6 hq6
    obtain ⟨b6, cs6, rfl, rfl, rb6⟩ := hq6
    have rw_4 := (Le.t (Le.q (l := 2) (by decide))).R rb6
    refine gl_updx (A := []) (F := fun c_ => (rpT (rpQ 2)).R g21 c_ p21) (upd_box Tryz.sizeOf33 (Pc.here _) rfl rfl rfl rw_4 hr21 rfl) ?_
    intro cs_5 rb_6
    refine gl_nil (gq_then (gc_seq (gc_seq (gc_region (mv rfl rfl ?_)))))
    replace hl := hl.mono hg21
    refine gl_call_mut2 (A := [_]) (vs := [_, vI (3)]) Tryz.call11 ⟨rfl, rfl, trivial⟩ (fun X w hs => o_dice_bool hl (by first | omega | exact Nat.zero_le _) (by omega) (by omega) hs) rfl ?_
    intro v23 g23 q23 hg23 hr23
    obtain ⟨k23, P23, rfl, hk23, rfl⟩ := hr23
    refine gl_cut (ι := Unit) 7 (fun _ => True) (fun _ => [(30, vB ((P23) ∧ ((1 : Int) < (↑((p15.getD 0 [])).length : Int)))), (3, vP b13 0), (4, v15), (5, vI ↑i), (6, vP b6 0)]) (fun _ => [.var b6 33 cs_5, .var b13 57 [vl, vI ↑k23]]) (fun _ => g23) ?_ ?_
    ·
     refine gl_cases (P23) (fun hg => ?_) (fun hg => ?_)
     ·
      refine gl_val (ov_move (v := .bool true) (congrArg some (vB_true hg))) rfl rfl rfl (gl_on rfl rfl rfl (mv rfl rfl (gl_on rfl rfl rfl ?_)))
      replace rs_1 := rs_1.mono ((hmma.trans hg21).trans hg23)
      refine gl_x (F := fun v_ => AtP (rpS (rpT (rpQ 2))) g23 v_ (p15.getD 0 [])) (ox_idx_s (q := 0) [] 0 Tryz.underlying27 ty36 rfl rfl rs_1 rfl (by omega) (show 0 < 1 from by decide)) mem0 rfl ?_
      intro v26 r26
      refine gl_on rfl rfl rfl (gl_x (F := fun v_ => (rpS (rpT (rpQ 2))).Is g23 v_ (p15.getD 0 [])) (ox_load_at ty36 rfl r26) mem0 rfl ?_)
      intro v27 r27
      refine gl_on rfl rfl rfl (gv (ov_len_sr Tryz.underlying36 rfl r27) rfl (gl_on rfl rfl rfl (gv (ov_gtr_i (q := 1) rfl rfl) rfl (gv (ov_pick_t rfl rfl) rfl (gl_nil ?_)))))
      refine gq_cut () trivial ⟨?_, rfl, rfl, rfl, rfl, trivial⟩ rfl rfl
      exact congrArg some (vB_and_t hg)
     ·
      refine gl_val (ov_move (v := .bool false) (congrArg some (vB_false hg))) rfl rfl rfl (gl_off rfl rfl rfl rfl rfl rfl (gl_off rfl rfl rfl rfl rfl rfl (gl_off rfl rfl rfl rfl rfl rfl (gl_off rfl rfl rfl rfl rfl rfl (gl_off rfl rfl rfl rfl rfl rfl (gv (ov_pick_f rfl rfl) rfl (gl_nil ?_)))))))
      refine gq_cut () trivial ⟨?_, rfl, rfl, rfl, rfl, trivial⟩ rfl rfl
      exact congrArg some (vB_and_f hg)
    ·
     intro _ _
     show GL _ _ _ _ _ _ _ [(30, vB ((P23) ∧ ((1 : Int) < (↑((p15.getD 0 [])).length : Int)))), (3, vP b13 0), (4, v15), (5, vI ↑i), (6, vP b6 0)] [.var b6 33 cs_5, .var b13 57 [vl, vI ↑k23]] g23
     refine gl_nil (gq_then ?_)
     refine gc_cond rfl (fun hc30 => ?_) (fun hc30 => ?_)
     ·
      refine gc_draw 22 [] [] [(0, .q), (1, .q), (2, .q), (3, .q), (4, .q), (5, .q), (8, .q), (9, .q), (10, .q), (11, .q), (12, .q), (13, .q), (14, .q), (15, .q), (16, .q), (17, .q), (6, .c), (7, .c), (18, .c), (19, .c), (20, .c), (21, .c)] mixed (fun x hx => by cases hx) (chk_of [0, 1, 2, 4, 8, 0, 32, 64, 0, 256, 512, 1024, 2048, 0, 8192, 16384, 32768, 65536, 135296, 262272, 524304, 2097151] [4194303, 4194302, 4194301, 4194299, 4194295, 4194303, 4194271, 4194239, 4194303, 4194047, 4193791, 4193279, 4192255, 4194303, 4186111, 4177919, 4161535, 4128767, 4059135, 3932031, 3669999, 3145727] (by kernel_rfl)) (fun x hx => by cases hx) (by intro r hr; simp only [List.mem_cons, List.mem_append, List.not_mem_nil, or_false] at hr ⊢ <;> grind) (w_q rfl (fun h' L' hh hR => ov_move rfl) rfl ?_)
      replace rs_1 := rs_1.mono ((hmma.trans hg21).trans hg23)
      refine w_qx (F := fun v_ => AtP (rpS (rpT (rpQ 2))) g23 v_ (p15.getD 0 [])) rfl (ox_idx_s (q := 0) [] 0 Tryz.underlying27 ty36 rfl rfl rs_1 rfl (by omega) (show 0 < 1 from by decide)) mem0 rfl ?_
      intro v32 r32
      refine w_qx (F := fun v_ => (rpS (rpT (rpQ 2))).Is g23 v_ (p15.getD 0 [])) rfl (ox_load_at ty36 rfl r32) mem0 rfl ?_
      intro v33 r33
      refine w_qx (F := fun v_ => AtP (rpT (rpQ 2)) g23 v_ ((p15.getD 0 []).getD 0 (T3.mk (0 : Rat) (0 : Rat) (0 : Rat)))) rfl (ox_idx_s (q := 0) (T3.mk (0 : Rat) (0 : Rat) (0 : Rat)) 0 Tryz.underlying36 ty33 rfl rfl r33 rfl (by omega) (show 0 < 9 from by decide)) mem0 rfl ?_
      intro v34 r34
      refine w_qx (F := fun v_ => (rpT (rpQ 2)).Is g23 v_ ((p15.getD 0 []).getD 0 (T3.mk (0 : Rat) (0 : Rat) (0 : Rat)))) rfl (ox_load_at ty33 rfl r34) mem0 rfl ?_
      intro v35 r35
      refine w_q rfl (fun h' L' hh hR => ov_move rfl) rfl (w_q rfl (fun h' L' hh hR => ov_move rfl) rfl (w_qx (F := fun v_ => AtP (rpS (rpT (rpQ 2))) g23 v_ (p15.getD 0 [])) rfl (ox_idx_s (q := 0) [] 0 Tryz.underlying27 ty36 rfl rfl rs_1 rfl (by omega) (show 0 < 1 from by decide)) mem0 rfl ?_))
      intro v40 r40
      refine w_qx (F := fun v_ => (rpS (rpT (rpQ 2))).Is g23 v_ (p15.getD 0 [])) rfl (ox_load_at ty36 rfl r40) mem0 rfl ?_
      intro v41 r41
      refine w_qx (F := fun v_ => AtP (rpT (rpQ 2)) g23 v_ ((p15.getD 0 []).getD 1 (T3.mk (0 : Rat) (0 : Rat) (0 : Rat)))) rfl (ox_idx_s (q := 1) (T3.mk (0 : Rat) (0 : Rat) (0 : Rat)) 1 Tryz.underlying36 ty33 rfl rfl r41 rfl (by omega) (show 0 < 9 from by decide)) mem0 rfl ?_
      intro v42 r42
      refine w_qx (F := fun v_ => (rpT (rpQ 2)).Is g23 v_ ((p15.getD 0 []).getD 1 (T3.mk (0 : Rat) (0 : Rat) (0 : Rat)))) rfl (ox_load_at ty33 rfl r42) mem0 rfl ?_
      intro v43 r43
      refine w_q rfl (fun h' L' hh hR => ov_move rfl) rfl (w_qx (F := fun v_ => AtP (rpS (rpT (rpQ 2))) g23 v_ (p15.getD 0 [])) rfl (ox_idx_s (q := 0) [] 0 Tryz.underlying27 ty36 rfl rfl rs_1 rfl (by omega) (show 0 < 1 from by decide)) mem0 rfl ?_)
      intro v45 r45
      refine w_qx (F := fun v_ => (rpS (rpT (rpQ 2))).Is g23 v_ (p15.getD 0 [])) rfl (ox_load_at ty36 rfl r45) mem0 rfl ?_
      intro v46 r46
      refine w_qx (F := fun v_ => AtP (rpT (rpQ 2)) g23 v_ ((p15.getD 0 []).getD 0 (T3.mk (0 : Rat) (0 : Rat) (0 : Rat)))) rfl (ox_idx_s (q := 0) (T3.mk (0 : Rat) (0 : Rat) (0 : Rat)) 0 Tryz.underlying36 ty33 rfl rfl r46 rfl (by omega) (show 0 < 9 from by decide)) mem0 rfl ?_
      intro v47 r47
      refine w_qx (F := fun v_ => (rpT (rpQ 2)).Is g23 v_ ((p15.getD 0 []).getD 0 (T3.mk (0 : Rat) (0 : Rat) (0 : Rat)))) rfl (ox_load_at ty33 rfl r47) mem0 rfl ?_
      intro v48 r48
      refine w_c rfl ?_
      replace hl := hl.mono hg23
      refine s_call_mut (A := [_]) (vs := [_, vI (99)]) Tryz.call15 ⟨rfl, rfl, trivial⟩ (fun X w hs => dice_next hl (by first | omega | exact Nat.zero_le _) (by omega) (by omega) hs) rfl (mem_kept (by first | (simp; done) | grind)) ?_
      intro v37 g37 q37 hg37 hr37
      obtain ⟨k37, z37, rfl, hk37, rfl, hz37, hy37⟩ := hr37
      refine w_c rfl ?_
      refine s_call (vs := [_]) Tryz.call14 ⟨rfl, trivial⟩ (fun w hs => o_made_part hs (by omega) (by omega)) rfl ?_
      intro v38 h4 hh4 r38
      change (rpQ 2).Is h4 v38 (partQ z37) at r38
      refine w_c rfl ?_
      replace r43 := r43.mono (hg37.trans hh4)
      replace r48 := r48.mono (hg37.trans hh4)
      refine s_call (vs := [_, _]) Tryz.call16 ⟨rfl, rfl, trivial⟩ (fun w hs => o_r4_sub hs r43 r48 (by decide)) rfl ?_
      intro v49 h5 hh5 r49
      change (rpT (rpQ (2 + 3 * 2 + 3))).Is h5 v49 (T3.mk (((p15.getD 0 []).getD 1 (T3.mk (0 : Rat) (0 : Rat) (0 : Rat))).x - ((p15.getD 0 []).getD 0 (T3.mk (0 : Rat) (0 : Rat) (0 : Rat))).x) (((p15.getD 0 []).getD 1 (T3.mk (0 : Rat) (0 : Rat) (0 : Rat))).y - ((p15.getD 0 []).getD 0 (T3.mk (0 : Rat) (0 : Rat) (0 : Rat))).y) (((p15.getD 0 []).getD 1 (T3.mk (0 : Rat) (0 : Rat) (0 : Rat))).z - ((p15.getD 0 []).getD 0 (T3.mk (0 : Rat) (0 : Rat) (0 : Rat))).z)) at r49
      replace r49 := Rp.Is.le r49 (Le.t (Le.q (l := 11) (by omega)))
      refine w_c rfl ?_
      replace r38 := r38.mono hh5
      refine s_call (vs := [_, _]) Tryz.call13 ⟨rfl, rfl, trivial⟩ (fun w hs => o_r4_scale hs r38 r49 (by decide)) rfl ?_
      intro v50 h6 hh6 r50
      change (rpT (rpQ (11 + 3 * 2 + 1))).Is h6 v50 (T3.mk ((partQ z37) * (((p15.getD 0 []).getD 1 (T3.mk (0 : Rat) (0 : Rat) (0 : Rat))).x - ((p15.getD 0 []).getD 0 (T3.mk (0 : Rat) (0 : Rat) (0 : Rat))).x)) ((partQ z37) * (((p15.getD 0 []).getD 1 (T3.mk (0 : Rat) (0 : Rat) (0 : Rat))).y - ((p15.getD 0 []).getD 0 (T3.mk (0 : Rat) (0 : Rat) (0 : Rat))).y)) ((partQ z37) * (((p15.getD 0 []).getD 1 (T3.mk (0 : Rat) (0 : Rat) (0 : Rat))).z - ((p15.getD 0 []).getD 0 (T3.mk (0 : Rat) (0 : Rat) (0 : Rat))).z))) at r50
      replace r50 := Rp.Is.le r50 (Le.t (Le.q (l := 18) (by omega)))
      refine w_c rfl ?_
      replace r35 := r35.mono (((hg37.trans hh4).trans hh5).trans hh6)
      refine s_call (vs := [_, _]) Tryz.call12 ⟨rfl, rfl, trivial⟩ (fun w hs => o_r4_add hs r35 r50 (by decide)) rfl ?_
      intro v51 h7 hh7 r51
      change (rpT (rpQ (2 + 3 * 18 + 3))).Is h7 v51 (T3.mk (((p15.getD 0 []).getD 0 (T3.mk (0 : Rat) (0 : Rat) (0 : Rat))).x + ((partQ z37) * (((p15.getD 0 []).getD 1 (T3.mk (0 : Rat) (0 : Rat) (0 : Rat))).x - ((p15.getD 0 []).getD 0 (T3.mk (0 : Rat) (0 : Rat) (0 : Rat))).x))) (((p15.getD 0 []).getD 0 (T3.mk (0 : Rat) (0 : Rat) (0 : Rat))).y + ((partQ z37) * (((p15.getD 0 []).getD 1 (T3.mk (0 : Rat) (0 : Rat) (0 : Rat))).y - ((p15.getD 0 []).getD 0 (T3.mk (0 : Rat) (0 : Rat) (0 : Rat))).y))) (((p15.getD 0 []).getD 0 (T3.mk (0 : Rat) (0 : Rat) (0 : Rat))).z + ((partQ z37) * (((p15.getD 0 []).getD 1 (T3.mk (0 : Rat) (0 : Rat) (0 : Rat))).z - ((p15.getD 0 []).getD 0 (T3.mk (0 : Rat) (0 : Rat) (0 : Rat))).z)))) at r51
      replace r51 := Rp.Is.le r51 (Le.t (Le.q (l := 59) (by omega)))
      refine w_c rfl ?_
      replace rb_6 := rb_6.mono (((((hg23.trans hg37).trans hh4).trans hh5).trans hh6).trans hh7)
      have rw_7 := (Le.t (Le.q (l := 59) (by decide))).R rb_6
      refine s_updx (A := []) (F := fun c_ => (rpT (rpQ 59)).R h7 c_ (T3.mk (((p15.getD 0 []).getD 0 (T3.mk (0 : Rat) (0 : Rat) (0 : Rat))).x + ((partQ z37) * (((p15.getD 0 []).getD 1 (T3.mk (0 : Rat) (0 : Rat) (0 : Rat))).x - ((p15.getD 0 []).getD 0 (T3.mk (0 : Rat) (0 : Rat) (0 : Rat))).x))) (((p15.getD 0 []).getD 0 (T3.mk (0 : Rat) (0 : Rat) (0 : Rat))).y + ((partQ z37) * (((p15.getD 0 []).getD 1 (T3.mk (0 : Rat) (0 : Rat) (0 : Rat))).y - ((p15.getD 0 []).getD 0 (T3.mk (0 : Rat) (0 : Rat) (0 : Rat))).y))) (((p15.getD 0 []).getD 0 (T3.mk (0 : Rat) (0 : Rat) (0 : Rat))).z + ((partQ z37) * (((p15.getD 0 []).getD 1 (T3.mk (0 : Rat) (0 : Rat) (0 : Rat))).z - ((p15.getD 0 []).getD 0 (T3.mk (0 : Rat) (0 : Rat) (0 : Rat))).z))))) (upd_box Tryz.sizeOf33 (Pc.here _) rfl rfl rfl rw_7 r51 rfl) (mem_kept (by first | (simp; done) | grind)) ?_
      intro cs_8 rb_9
      refine w_nil (gq_keep (e' := [(3, _), (4, _), (5, _), (6, _)]) ⟨rfl, rfl, rfl, rfl, trivial⟩ (gq_then (gc_seq (gc_seq ?_))))
      refine gc_draw 7 _ [] [(0, .q), (1, .q), (3, .q), (4, .q), (2, .c), (5, .c), (6, .q)] mixed (fun x hx => by cases hx) (by kernel_rfl) (fun x hx => by cases hx) (fun r hr => hr) (w_q rfl (fun h' L' hh hR => ov_move rfl) rfl (w_qx (F := fun v_ => (rpT (rpQ 59)).Is h7 v_ (T3.mk (((p15.getD 0 []).getD 0 (T3.mk (0 : Rat) (0 : Rat) (0 : Rat))).x + ((partQ z37) * (((p15.getD 0 []).getD 1 (T3.mk (0 : Rat) (0 : Rat) (0 : Rat))).x - ((p15.getD 0 []).getD 0 (T3.mk (0 : Rat) (0 : Rat) (0 : Rat))).x))) (((p15.getD 0 []).getD 0 (T3.mk (0 : Rat) (0 : Rat) (0 : Rat))).y + ((partQ z37) * (((p15.getD 0 []).getD 1 (T3.mk (0 : Rat) (0 : Rat) (0 : Rat))).y - ((p15.getD 0 []).getD 0 (T3.mk (0 : Rat) (0 : Rat) (0 : Rat))).y))) (((p15.getD 0 []).getD 0 (T3.mk (0 : Rat) (0 : Rat) (0 : Rat))).z + ((partQ z37) * (((p15.getD 0 []).getD 1 (T3.mk (0 : Rat) (0 : Rat) (0 : Rat))).z - ((p15.getD 0 []).getD 0 (T3.mk (0 : Rat) (0 : Rat) (0 : Rat))).z))))) rfl (ox_load_box ty33 (Pc.here _) rfl rfl rb_9 rfl) (mem1 (.head _)) rfl ?_))
      intro v53 r53
      refine w_q rfl (fun h' L' hh hR => ov_move rfl) rfl (w_qx (F := fun v_ => (rpT (rpQ 59)).Is h7 v_ (T3.mk (((p15.getD 0 []).getD 0 (T3.mk (0 : Rat) (0 : Rat) (0 : Rat))).x + ((partQ z37) * (((p15.getD 0 []).getD 1 (T3.mk (0 : Rat) (0 : Rat) (0 : Rat))).x - ((p15.getD 0 []).getD 0 (T3.mk (0 : Rat) (0 : Rat) (0 : Rat))).x))) (((p15.getD 0 []).getD 0 (T3.mk (0 : Rat) (0 : Rat) (0 : Rat))).y + ((partQ z37) * (((p15.getD 0 []).getD 1 (T3.mk (0 : Rat) (0 : Rat) (0 : Rat))).y - ((p15.getD 0 []).getD 0 (T3.mk (0 : Rat) (0 : Rat) (0 : Rat))).y))) (((p15.getD 0 []).getD 0 (T3.mk (0 : Rat) (0 : Rat) (0 : Rat))).z + ((partQ z37) * (((p15.getD 0 []).getD 1 (T3.mk (0 : Rat) (0 : Rat) (0 : Rat))).z - ((p15.getD 0 []).getD 0 (T3.mk (0 : Rat) (0 : Rat) (0 : Rat))).z))))) rfl (ox_load_box ty33 (Pc.here _) rfl rfl rb_9 rfl) (mem1 (.head _)) rfl ?_)
      intro v56 r56
      refine w_c rfl ?_
      replace rs_1 := rs_1.mono ((((hg37.trans hh4).trans hh5).trans hh6).trans hh7)
      refine s_call (vs := [_, _]) Tryz.call17 ⟨rfl, rfl, trivial⟩ (fun w hs => o_pg_where hs (rs_1.le (Le.s (Le.s (Le.t (Le.q (l := 59) (by decide)))))) r53 (by decide) (by first | omega | exact (okL_all hx15 (by omega)) | exact Nat.le_trans (okL.get hx15 _) (by omega)) (by first | omega | exact (okL_all hx15 (by omega)) | exact Nat.le_trans (okL.get hx15 _) (by omega))) rfl ?_
      intro v54 h8 hh8 r54
      obtain rfl : v54 = vI (whZ p15 (pr (T3.mk (((p15.getD 0 []).getD 0 (T3.mk (0 : Rat) (0 : Rat) (0 : Rat))).x + ((partQ z37) * (((p15.getD 0 []).getD 1 (T3.mk (0 : Rat) (0 : Rat) (0 : Rat))).x - ((p15.getD 0 []).getD 0 (T3.mk (0 : Rat) (0 : Rat) (0 : Rat))).x))) (((p15.getD 0 []).getD 0 (T3.mk (0 : Rat) (0 : Rat) (0 : Rat))).y + ((partQ z37) * (((p15.getD 0 []).getD 1 (T3.mk (0 : Rat) (0 : Rat) (0 : Rat))).y - ((p15.getD 0 []).getD 0 (T3.mk (0 : Rat) (0 : Rat) (0 : Rat))).y))) (((p15.getD 0 []).getD 0 (T3.mk (0 : Rat) (0 : Rat) (0 : Rat))).z + ((partQ z37) * (((p15.getD 0 []).getD 1 (T3.mk (0 : Rat) (0 : Rat) (0 : Rat))).z - ((p15.getD 0 []).getD 0 (T3.mk (0 : Rat) (0 : Rat) (0 : Rat))).z)))) 0 1) 0 1) := r54
      refine w_c rfl ?_
      replace rs_1 := rs_1.mono hh8
      replace r56 := r56.mono hh8
      refine s_call (vs := [_, _]) Tryz.call18 ⟨rfl, rfl, trivial⟩ (fun w hs => o_r5_where hs (rs_1.le (Le.s (Le.s (Le.t (Le.q (l := 59) (by decide)))))) r56 (by decide) (by first | omega | exact (okL_all hx15 (by omega)) | exact Nat.le_trans (okL.get hx15 _) (by omega)) (by first | omega | exact (okL_all hx15 (by omega)) | exact Nat.le_trans (okL.get hx15 _) (by omega))) rfl ?_
      intro v57 h9 hh9 r57
      obtain rfl : v57 = vI (whZ p15 (pr (T3.mk (((p15.getD 0 []).getD 0 (T3.mk (0 : Rat) (0 : Rat) (0 : Rat))).x + ((partQ z37) * (((p15.getD 0 []).getD 1 (T3.mk (0 : Rat) (0 : Rat) (0 : Rat))).x - ((p15.getD 0 []).getD 0 (T3.mk (0 : Rat) (0 : Rat) (0 : Rat))).x))) (((p15.getD 0 []).getD 0 (T3.mk (0 : Rat) (0 : Rat) (0 : Rat))).y + ((partQ z37) * (((p15.getD 0 []).getD 1 (T3.mk (0 : Rat) (0 : Rat) (0 : Rat))).y - ((p15.getD 0 []).getD 0 (T3.mk (0 : Rat) (0 : Rat) (0 : Rat))).y))) (((p15.getD 0 []).getD 0 (T3.mk (0 : Rat) (0 : Rat) (0 : Rat))).z + ((partQ z37) * (((p15.getD 0 []).getD 1 (T3.mk (0 : Rat) (0 : Rat) (0 : Rat))).z - ((p15.getD 0 []).getD 0 (T3.mk (0 : Rat) (0 : Rat) (0 : Rat))).z)))) 0 1) 0 1) := r57
      refine w_q rfl (fun h' L' hh hR => OpV.fa (by exact fun e => e rfl) (ov_neq_i rfl rfl)) rfl (w_nil (gq_then (gc_cond_f rfl (gc_skip (gq_then (gc_seq (gc_region (mv rfl rfl ?_))))))))
      replace rs_1 := rs_1.mono hh9
      refine gv (ov_len_sr Tryz.underlying27 rfl rs_1) rfl (mv (v := vI (0)) rfl rfl (gl_nil (gq_then (gc_block ?_))))
      refine gc_loop (ι := Nat × Nat × Mem) (fun (x_ : (Nat × Nat × Mem)) => match x_ with | (j, kd_10, mb) => MLe h9 mb ∧ (kd_10 ≤ xsl.length ∧ j ≤ p15.length)) (fun (x_ : (Nat × Nat × Mem)) => match x_ with | (j, kd_10, mb) => [(3, vP b13 0), (4, v15), (5, vI ↑i), (6, vP b6 0), (60, vI (↑(p15).length : Int)), (61, vI ↑j)]) (fun (x_ : (Nat × Nat × Mem)) => match x_ with | (j, kd_10, mb) => [.var b6 33 cs_8, .var b13 57 [vl, vI ↑kd_10]]) (fun (x_ : (Nat × Nat × Mem)) => match x_ with | (j, kd_10, mb) => mb) (fun (x_ : (Nat × Nat × Mem)) => match x_ with | (j, kd_10, mb) => p15.length - j) (0, k37, h9) ?_ ⟨rfl, rfl, rfl, rfl, rfl, rfl, trivial⟩ rfl rfl ?_
      ·
       refine ⟨MLe.refl _, ?_⟩
       refine ⟨(by omega), ?_⟩
       exact (by omega)
      ·
       intro x hx
       obtain ⟨j, kd_10, mb⟩ := x
       obtain ⟨hmmb, hinv⟩ := hx
       show GC _ _ _ _ _ _ [(3, vP b13 0), (4, v15), (5, vI ↑i), (6, vP b6 0), (60, vI (↑(p15).length : Int)), (61, vI ↑j)] [.var b6 33 cs_8, .var b13 57 [vl, vI ↑kd_10]] mb
       obtain ⟨hkd_11, hinv⟩ := hinv
       have hj1 := hinv
       refine gc_seq (gc_region (gv (ov_lss_i rfl rfl) rfl (gl_nil (gq_then (gc_seq ?_)))))
       refine gc_cond rfl (fun hc62 => ?_) (fun hc62 => ?_)
       ·
        refine gc_skip (gq_then (gc_seq (gc_block (gc_seq (gc_region (mv rfl rfl (asg rfl rfl (gl_nil (gq_then (gc_seq ?_))))))))))
        refine gc_draw 13 _ [] [(0, .q), (1, .q), (2, .q), (3, .q), (4, .q), (6, .q), (7, .q), (8, .q), (9, .q), (10, .q), (5, .c), (11, .c), (12, .q)] mixed (fun x hx => by cases hx) (chk_of [0, 0, 3, 4, 0, 24, 0, 0, 192, 256, 0, 1568, 2080] [8191, 8191, 8188, 8187, 8191, 8167, 8191, 8191, 7999, 7935, 8191, 6655, 6111] (by kernel_rfl)) (fun x hx => by cases hx) (fun r hr => hr) (w_q rfl (fun h' L' hh hR => ov_move rfl) rfl (w_q rfl (fun h' L' hh hR => ov_move rfl) rfl ?_))
        replace rs_1 := rs_1.mono hmmb
        refine w_qx (F := fun v_ => AtP (rpS (rpT (rpQ 2))) mb v_ (p15.getD j [])) rfl (ox_idx_s [] j Tryz.underlying27 ty36 rfl rfl rs_1 rfl (by omega) (show 0 < 1 from by decide)) mem0 rfl ?_
        intro v66 r66
        refine w_qx (F := fun v_ => (rpS (rpT (rpQ 2))).Is mb v_ (p15.getD j [])) rfl (ox_load_at ty36 rfl r66) mem0 rfl ?_
        intro v67 r67
        replace rb_9 := rb_9.mono ((hh8.trans hh9).trans hmmb)
        refine w_qx (F := fun v_ => (rpT (rpQ 59)).Is mb v_ (T3.mk (((p15.getD 0 []).getD 0 (T3.mk (0 : Rat) (0 : Rat) (0 : Rat))).x + ((partQ z37) * (((p15.getD 0 []).getD 1 (T3.mk (0 : Rat) (0 : Rat) (0 : Rat))).x - ((p15.getD 0 []).getD 0 (T3.mk (0 : Rat) (0 : Rat) (0 : Rat))).x))) (((p15.getD 0 []).getD 0 (T3.mk (0 : Rat) (0 : Rat) (0 : Rat))).y + ((partQ z37) * (((p15.getD 0 []).getD 1 (T3.mk (0 : Rat) (0 : Rat) (0 : Rat))).y - ((p15.getD 0 []).getD 0 (T3.mk (0 : Rat) (0 : Rat) (0 : Rat))).y))) (((p15.getD 0 []).getD 0 (T3.mk (0 : Rat) (0 : Rat) (0 : Rat))).z + ((partQ z37) * (((p15.getD 0 []).getD 1 (T3.mk (0 : Rat) (0 : Rat) (0 : Rat))).z - ((p15.getD 0 []).getD 0 (T3.mk (0 : Rat) (0 : Rat) (0 : Rat))).z))))) rfl (ox_load_box ty33 (Pc.here _) rfl rfl rb_9 rfl) (mem1 (.head _)) rfl ?_
        intro v68 r68
        refine w_q rfl (fun h' L' hh hR => ov_move rfl) rfl (w_q rfl (fun h' L' hh hR => ov_move rfl) rfl (w_qx (F := fun v_ => AtP (rpS (rpT (rpQ 2))) mb v_ (p15.getD j [])) rfl (ox_idx_s [] j Tryz.underlying27 ty36 rfl rfl rs_1 rfl (by omega) (show 0 < 1 from by decide)) mem0 rfl ?_))
        intro v72 r72
        refine w_qx (F := fun v_ => (rpS (rpT (rpQ 2))).Is mb v_ (p15.getD j [])) rfl (ox_load_at ty36 rfl r72) mem0 rfl ?_
        intro v73 r73
        refine w_qx (F := fun v_ => (rpT (rpQ 59)).Is mb v_ (T3.mk (((p15.getD 0 []).getD 0 (T3.mk (0 : Rat) (0 : Rat) (0 : Rat))).x + ((partQ z37) * (((p15.getD 0 []).getD 1 (T3.mk (0 : Rat) (0 : Rat) (0 : Rat))).x - ((p15.getD 0 []).getD 0 (T3.mk (0 : Rat) (0 : Rat) (0 : Rat))).x))) (((p15.getD 0 []).getD 0 (T3.mk (0 : Rat) (0 : Rat) (0 : Rat))).y + ((partQ z37) * (((p15.getD 0 []).getD 1 (T3.mk (0 : Rat) (0 : Rat) (0 : Rat))).y - ((p15.getD 0 []).getD 0 (T3.mk (0 : Rat) (0 : Rat) (0 : Rat))).y))) (((p15.getD 0 []).getD 0 (T3.mk (0 : Rat) (0 : Rat) (0 : Rat))).z + ((partQ z37) * (((p15.getD 0 []).getD 1 (T3.mk (0 : Rat) (0 : Rat) (0 : Rat))).z - ((p15.getD 0 []).getD 0 (T3.mk (0 : Rat) (0 : Rat) (0 : Rat))).z))))) rfl (ox_load_box ty33 (Pc.here _) rfl rfl rb_9 rfl) (mem1 (.head _)) rfl ?_
        intro v74 r74
        refine w_c rfl ?_
        refine s_call (vs := [_, _]) Tryz.call19 ⟨rfl, rfl, trivial⟩ (fun w hs => o_pg_inside hs (r67.le (Le.s (Le.t (Le.q (l := 59) (by decide))))) r68 (by decide) (by first | omega | exact (okL_all hx15 (by omega)) | exact Nat.le_trans (okL.get hx15 _) (by omega))) rfl ?_
        intro v69 h10 hh10 r69
        obtain rfl : v69 = vI (insZ (p15.getD j []) (pr (T3.mk (((p15.getD 0 []).getD 0 (T3.mk (0 : Rat) (0 : Rat) (0 : Rat))).x + ((partQ z37) * (((p15.getD 0 []).getD 1 (T3.mk (0 : Rat) (0 : Rat) (0 : Rat))).x - ((p15.getD 0 []).getD 0 (T3.mk (0 : Rat) (0 : Rat) (0 : Rat))).x))) (((p15.getD 0 []).getD 0 (T3.mk (0 : Rat) (0 : Rat) (0 : Rat))).y + ((partQ z37) * (((p15.getD 0 []).getD 1 (T3.mk (0 : Rat) (0 : Rat) (0 : Rat))).y - ((p15.getD 0 []).getD 0 (T3.mk (0 : Rat) (0 : Rat) (0 : Rat))).y))) (((p15.getD 0 []).getD 0 (T3.mk (0 : Rat) (0 : Rat) (0 : Rat))).z + ((partQ z37) * (((p15.getD 0 []).getD 1 (T3.mk (0 : Rat) (0 : Rat) (0 : Rat))).z - ((p15.getD 0 []).getD 0 (T3.mk (0 : Rat) (0 : Rat) (0 : Rat))).z)))) 0 1) 0 1) := r69
        refine w_c rfl ?_
        replace r73 := r73.mono hh10
        replace r74 := r74.mono hh10
        refine s_call (vs := [_, _]) Tryz.call20 ⟨rfl, rfl, trivial⟩ (fun w hs => o_r5_inside hs (r73.le (Le.s (Le.t (Le.q (l := 59) (by decide))))) r74 (by decide) (by first | omega | exact (okL_all hx15 (by omega)) | exact Nat.le_trans (okL.get hx15 _) (by omega))) rfl ?_
        intro v75 h11 hh11 r75
        obtain rfl : v75 = vI (insZ (p15.getD j []) (pr (T3.mk (((p15.getD 0 []).getD 0 (T3.mk (0 : Rat) (0 : Rat) (0 : Rat))).x + ((partQ z37) * (((p15.getD 0 []).getD 1 (T3.mk (0 : Rat) (0 : Rat) (0 : Rat))).x - ((p15.getD 0 []).getD 0 (T3.mk (0 : Rat) (0 : Rat) (0 : Rat))).x))) (((p15.getD 0 []).getD 0 (T3.mk (0 : Rat) (0 : Rat) (0 : Rat))).y + ((partQ z37) * (((p15.getD 0 []).getD 1 (T3.mk (0 : Rat) (0 : Rat) (0 : Rat))).y - ((p15.getD 0 []).getD 0 (T3.mk (0 : Rat) (0 : Rat) (0 : Rat))).y))) (((p15.getD 0 []).getD 0 (T3.mk (0 : Rat) (0 : Rat) (0 : Rat))).z + ((partQ z37) * (((p15.getD 0 []).getD 1 (T3.mk (0 : Rat) (0 : Rat) (0 : Rat))).z - ((p15.getD 0 []).getD 0 (T3.mk (0 : Rat) (0 : Rat) (0 : Rat))).z)))) 0 1) 0 1) := r75
        refine w_q rfl (fun h' L' hh hR => OpV.fa (by exact fun e => e rfl) (ov_neq_i rfl rfl)) rfl (w_nil (gq_keep (e' := [(3, _), (4, _), (5, _), (6, _), (60, _), (61, _), (76, _)]) ⟨rfl, rfl, rfl, rfl, rfl, rfl, rfl, trivial⟩ (gq_then (gc_cond_f rfl (gc_skip (gq_in (gq_then (gc_region (gv (ov_add_i (q := 1) rfl rfl (by omega) (by omega)) rfl (mv rfl rfl (gl_nil ?_)))))))))))
        refine gq_round ((j + 1), kd_10, h11) ?_ ?_ ⟨?_, ?_, ?_, ?_, ?_, ?_, trivial⟩ ?_ rfl
        ·
         refine ⟨((hmmb.trans hh10).trans hh11), ?_⟩
         refine ⟨(by omega), ?_⟩
         exact (by omega)
        ·
         dsimp only
         omega
        · exact rfl
        · exact rfl
        · exact rfl
        · exact rfl
        · exact rfl
        · exact rfl
        · exact rfl
       ·
        refine gc_exit (gx_then (gx_then (gx_here (gq_in (gq_then (gc_region (mv rfl rfl (gv (ov_add_i (q := 1) rfl rfl (by omega) (by omega)) rfl (asg rfl rfl (gl_nil (gq_drop (A := []) ?_)))))))))))
        refine gq_round ((i + 1), kd_10, mb) ?_ ?_ ⟨?_, ?_, ?_, trivial⟩ ?_ rfl
        ·
         refine ⟨((((((((((hmma.trans hg21).trans hg23).trans hg37).trans hh4).trans hh5).trans hh6).trans hh7).trans hh8).trans hh9).trans hmmb), ?_⟩
         refine ⟨(by omega), ?_⟩
         exact (by omega)
        ·
         dsimp only
         omega
        · exact rfl
        · exact rfl
        · exact rfl
        · exact rfl
     ·
      refine gc_skip (gq_then (gc_seq (gc_seq ?_)))
      refine gc_draw 7 _ [] [(0, .q), (1, .q), (3, .q), (4, .q), (2, .c), (5, .c), (6, .q)] mixed (fun x hx => by cases hx) (by kernel_rfl) (fun x hx => by cases hx) (fun r hr => hr) (w_q rfl (fun h' L' hh hR => ov_move rfl) rfl ?_)
      replace rb_6 := rb_6.mono hg23
      refine w_qx (F := fun v_ => (rpT (rpQ 2)).Is g23 v_ p21) rfl (ox_load_box ty33 (Pc.here _) rfl rfl rb_6 rfl) (mem1 (.head _)) rfl ?_
      intro v53 r53
      refine w_q rfl (fun h' L' hh hR => ov_move rfl) rfl (w_qx (F := fun v_ => (rpT (rpQ 2)).Is g23 v_ p21) rfl (ox_load_box ty33 (Pc.here _) rfl rfl rb_6 rfl) (mem1 (.head _)) rfl ?_)
      intro v56 r56
      refine w_c rfl ?_
      replace rs_1 := rs_1.mono ((hmma.trans hg21).trans hg23)
      refine s_call (vs := [_, _]) Tryz.call17 ⟨rfl, rfl, trivial⟩ (fun w hs => o_pg_where hs rs_1 r53 (by decide) (by first | omega | exact (okL_all hx15 (by omega)) | exact Nat.le_trans (okL.get hx15 _) (by omega)) (by first | omega | exact (okL_all hx15 (by omega)) | exact Nat.le_trans (okL.get hx15 _) (by omega))) rfl ?_
      intro v54 h4 hh4 r54
      obtain rfl : v54 = vI (whZ p15 (pr p21 0 1) 0 1) := r54
      refine w_c rfl ?_
      replace rs_1 := rs_1.mono hh4
      replace r56 := r56.mono hh4
      refine s_call (vs := [_, _]) Tryz.call18 ⟨rfl, rfl, trivial⟩ (fun w hs => o_r5_where hs rs_1 r56 (by decide) (by first | omega | exact (okL_all hx15 (by omega)) | exact Nat.le_trans (okL.get hx15 _) (by omega)) (by first | omega | exact (okL_all hx15 (by omega)) | exact Nat.le_trans (okL.get hx15 _) (by omega))) rfl ?_
      intro v57 h5 hh5 r57
      obtain rfl : v57 = vI (whZ p15 (pr p21 0 1) 0 1) := r57
      refine w_q rfl (fun h' L' hh hR => OpV.fa (by exact fun e => e rfl) (ov_neq_i rfl rfl)) rfl (w_nil (gq_then (gc_cond_f rfl (gc_skip (gq_then (gc_seq (gc_region (mv rfl rfl ?_))))))))
      replace rs_1 := rs_1.mono hh5
      refine gv (ov_len_sr Tryz.underlying27 rfl rs_1) rfl (mv (v := vI (0)) rfl rfl (gl_nil (gq_then (gc_block ?_))))
      refine gc_loop (ι := Nat × Nat × Mem) (fun (x_ : (Nat × Nat × Mem)) => match x_ with | (j, kd_12, mb) => MLe h5 mb ∧ (kd_12 ≤ xsl.length ∧ j ≤ p15.length)) (fun (x_ : (Nat × Nat × Mem)) => match x_ with | (j, kd_12, mb) => [(3, vP b13 0), (4, v15), (5, vI ↑i), (6, vP b6 0), (60, vI (↑(p15).length : Int)), (61, vI ↑j)]) (fun (x_ : (Nat × Nat × Mem)) => match x_ with | (j, kd_12, mb) => [.var b6 33 cs_5, .var b13 57 [vl, vI ↑kd_12]]) (fun (x_ : (Nat × Nat × Mem)) => match x_ with | (j, kd_12, mb) => mb) (fun (x_ : (Nat × Nat × Mem)) => match x_ with | (j, kd_12, mb) => p15.length - j) (0, k23, h5) ?_ ⟨rfl, rfl, rfl, rfl, rfl, rfl, trivial⟩ rfl rfl ?_
      ·
       refine ⟨MLe.refl _, ?_⟩
       refine ⟨(by omega), ?_⟩
       exact (by omega)
      ·
       intro x hx
       obtain ⟨j, kd_12, mb⟩ := x
       obtain ⟨hmmb, hinv⟩ := hx
       show GC _ _ _ _ _ _ [(3, vP b13 0), (4, v15), (5, vI ↑i), (6, vP b6 0), (60, vI (↑(p15).length : Int)), (61, vI ↑j)] [.var b6 33 cs_5, .var b13 57 [vl, vI ↑kd_12]] mb
       obtain ⟨hkd_13, hinv⟩ := hinv
       have hj1 := hinv
       refine gc_seq (gc_region (gv (ov_lss_i rfl rfl) rfl (gl_nil (gq_then (gc_seq ?_)))))
       refine gc_cond rfl (fun hc62 => ?_) (fun hc62 => ?_)
       ·
        refine gc_skip (gq_then (gc_seq (gc_block (gc_seq (gc_region (mv rfl rfl (asg rfl rfl (gl_nil (gq_then (gc_seq ?_))))))))))
        refine gc_draw 13 _ [] [(0, .q), (1, .q), (2, .q), (3, .q), (4, .q), (6, .q), (7, .q), (8, .q), (9, .q), (10, .q), (5, .c), (11, .c), (12, .q)] mixed (fun x hx => by cases hx) (chk_of [0, 0, 3, 4, 0, 24, 0, 0, 192, 256, 0, 1568, 2080] [8191, 8191, 8188, 8187, 8191, 8167, 8191, 8191, 7999, 7935, 8191, 6655, 6111] (by kernel_rfl)) (fun x hx => by cases hx) (fun r hr => hr) (w_q rfl (fun h' L' hh hR => ov_move rfl) rfl (w_q rfl (fun h' L' hh hR => ov_move rfl) rfl ?_))
        replace rs_1 := rs_1.mono hmmb
        refine w_qx (F := fun v_ => AtP (rpS (rpT (rpQ 2))) mb v_ (p15.getD j [])) rfl (ox_idx_s [] j Tryz.underlying27 ty36 rfl rfl rs_1 rfl (by omega) (show 0 < 1 from by decide)) mem0 rfl ?_
        intro v66 r66
        refine w_qx (F := fun v_ => (rpS (rpT (rpQ 2))).Is mb v_ (p15.getD j [])) rfl (ox_load_at ty36 rfl r66) mem0 rfl ?_
        intro v67 r67
        replace rb_6 := rb_6.mono ((hh4.trans hh5).trans hmmb)
        refine w_qx (F := fun v_ => (rpT (rpQ 2)).Is mb v_ p21) rfl (ox_load_box ty33 (Pc.here _) rfl rfl rb_6 rfl) (mem1 (.head _)) rfl ?_
        intro v68 r68
        refine w_q rfl (fun h' L' hh hR => ov_move rfl) rfl (w_q rfl (fun h' L' hh hR => ov_move rfl) rfl (w_qx (F := fun v_ => AtP (rpS (rpT (rpQ 2))) mb v_ (p15.getD j [])) rfl (ox_idx_s [] j Tryz.underlying27 ty36 rfl rfl rs_1 rfl (by omega) (show 0 < 1 from by decide)) mem0 rfl ?_))
        intro v72 r72
        refine w_qx (F := fun v_ => (rpS (rpT (rpQ 2))).Is mb v_ (p15.getD j [])) rfl (ox_load_at ty36 rfl r72) mem0 rfl ?_
        intro v73 r73
        refine w_qx (F := fun v_ => (rpT (rpQ 2)).Is mb v_ p21) rfl (ox_load_box ty33 (Pc.here _) rfl rfl rb_6 rfl) (mem1 (.head _)) rfl ?_
        intro v74 r74
        refine w_c rfl ?_
        refine s_call (vs := [_, _]) Tryz.call19 ⟨rfl, rfl, trivial⟩ (fun w hs => o_pg_inside hs r67 r68 (by decide) (by first | omega | exact (okL_all hx15 (by omega)) | exact Nat.le_trans (okL.get hx15 _) (by omega))) rfl ?_
        intro v69 h6 hh6 r69
        obtain rfl : v69 = vI (insZ (p15.getD j []) (pr p21 0 1) 0 1) := r69
        refine w_c rfl ?_
        replace r73 := r73.mono hh6
        replace r74 := r74.mono hh6
        refine s_call (vs := [_, _]) Tryz.call20 ⟨rfl, rfl, trivial⟩ (fun w hs => o_r5_inside hs r73 r74 (by decide) (by first | omega | exact (okL_all hx15 (by omega)) | exact Nat.le_trans (okL.get hx15 _) (by omega))) rfl ?_
        intro v75 h7 hh7 r75
        obtain rfl : v75 = vI (insZ (p15.getD j []) (pr p21 0 1) 0 1) := r75
        refine w_q rfl (fun h' L' hh hR => OpV.fa (by exact fun e => e rfl) (ov_neq_i rfl rfl)) rfl (w_nil (gq_keep (e' := [(3, _), (4, _), (5, _), (6, _), (60, _), (61, _), (76, _)]) ⟨rfl, rfl, rfl, rfl, rfl, rfl, rfl, trivial⟩ (gq_then (gc_cond_f rfl (gc_skip (gq_in (gq_then (gc_region (gv (ov_add_i (q := 1) rfl rfl (by omega) (by omega)) rfl (mv rfl rfl (gl_nil ?_)))))))))))
        refine gq_round ((j + 1), kd_12, h7) ?_ ?_ ⟨?_, ?_, ?_, ?_, ?_, ?_, trivial⟩ ?_ rfl
        ·
         refine ⟨((hmmb.trans hh6).trans hh7), ?_⟩
         refine ⟨(by omega), ?_⟩
         exact (by omega)
        ·
         dsimp only
         omega
        · exact rfl
        · exact rfl
        · exact rfl
        · exact rfl
        · exact rfl
        · exact rfl
        · exact rfl
       ·
        refine gc_exit (gx_then (gx_then (gx_here (gq_in (gq_then (gc_region (mv rfl rfl (gv (ov_add_i (q := 1) rfl rfl (by omega) (by omega)) rfl (asg rfl rfl (gl_nil (gq_drop (A := []) ?_)))))))))))
        refine gq_round ((i + 1), kd_12, mb) ?_ ?_ ⟨?_, ?_, ?_, trivial⟩ ?_ rfl
        ·
         refine ⟨(((((hmma.trans hg21).trans hg23).trans hh4).trans hh5).trans hmmb), ?_⟩
         refine ⟨(by omega), ?_⟩
         exact (by omega)
        ·
         dsimp only
         omega
        · exact rfl
        · exact rfl
        · exact rfl
        · exact rfl
   ·
    refine gc_exit (gx_then (gx_then (gx_here (gq_then (gc_seq (gc_region ?_))))))
    refine gl_call (vs := []) rfl rfl rfl rfl Tryz.call7 trivial (fun w hs => law25_sane hs) ?_
    intro v78 h4 hh4 hr78
    subst hr78
    refine asg rfl rfl (gl_nil (gq_then (gc_ret (gq_body1 rfl rfl ?_))))
    rfl

end Go.Proofs.YtfpjclgbieppeaaGreat
