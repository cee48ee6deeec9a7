/- Texts that the proof needs, part 5. -/
import Derived.Test.YtfpjclgbieppeaaK4


namespace Go.Proofs.Ytfpjclgbieppeaa
open Bk Go
set_option linter.unusedVariables false
set_option linter.unusedSimpArgs false
set_option maxRecDepth 10000

theorem law25_polygonmoves {w0 : World} {h0 : Mem}  (hs : MLe h0 (mem w0)) {vl : Value} {xsl : List Int} (hl : Is h0 vl xsl)  :
    Calls Try.prog 4 #[vl] w0 (Ret w0 h0 (fun _ r => r = .bool true)) := by
 have hlenl := hl.lt63
 refine calls_begin (n := 97) (e := [(0, vl)]) (vs := [vl]) Try.func4 rfl rfl (Nat.le_of_ble_eq_true rfl) hs ⟨rfl, trivial⟩ (gc_seq (gc_region (asg rfl rfl (gl_nil (gq_then (gc_seq (gc_seq (gc_region (mv rfl rfl ?_)))))))))
 refine gl_call (vs := [_]) rfl rfl rfl rfl Try.call7 ⟨rfl, trivial⟩ (fun w hs => made_light hs hl) ?_
 intro v11 h1 hh1 hr11
 subst hr11
 refine gv (ov_not rfl) rfl (gl_nil (gq_then ?_))
 refine gc_cond rfl (fun hc12 => ?_) (fun hc12 => ?_)
 ·
  refine gc_seq (gc_region ?_)
  refine gl_call (vs := []) rfl rfl rfl rfl Try.call8 trivial (fun w hs => law25_sane hs) ?_
  intro v13 h2 hh2 hr13
  subst hr13
  refine asg rfl rfl (gl_nil (gq_then (gc_ret (gr_then (gq_body1 rfl rfl ?_)))))
  rfl
 ·
  refine gc_skip (gq_then (gc_seq (gc_region (mv rfl rfl ?_))))
  replace hl := hl.mono hh1
  refine gl_call_own (vs := [_]) rfl rfl rfl rfl Try.call9 ⟨rfl, trivial⟩ (fun w hs => made_roll hs hl) ?_
  intro v15 h2 L15 hh2 hr15
  obtain ⟨b15, rfl, rfl⟩ := hr15
  refine asg rfl rfl (gl_nil (gq_then (gc_seq (gc_region (mv rfl rfl ?_)))))
  replace hl := hl.mono hh2
  refine gl_call_mut2 (A := []) (vs := [_]) Try.call18 ⟨rfl, trivial⟩ (fun X w hs => o_dice_loop hl (by first | omega | exact Nat.zero_le _) hs) rfl ?_
  intro v17 g17 q17 hg17 hr17
  obtain ⟨k17, p17, rfl, hk17, hx17, hr17⟩ := hr17
  refine mv rfl rfl ?_
  replace hl := hl.mono hg17
  refine gl_call_mut2 (A := []) (vs := [_]) Try.call10 ⟨rfl, trivial⟩ (fun X w hs => o_dice_flat hl (by first | omega | exact Nat.zero_le _) hs) rfl ?_
  intro v19 g19 q19 hg19 hr19
  obtain ⟨k19, p19, rfl, hk19, hr19⟩ := hr19
  refine mv rfl rfl ?_
  replace hl := hl.mono hg19
  refine gl_call_mut2 (A := []) (vs := [_]) Try.call10 ⟨rfl, trivial⟩ (fun X w hs => o_dice_flat hl (by first | omega | exact Nat.zero_le _) hs) rfl ?_
  intro v21 g21 q21 hg21 hr21
  obtain ⟨k21, p21, rfl, hk21, hr21⟩ := hr21
  refine gl_newop (new_allocx (ρ := (rpT (rpQ 1))) (X := (T3.mk (0 : Rat) (0 : Rat) (0 : Rat))) info31 rfl rfl (zr_t (zr_q (by decide)))) rfl rfl rfl ?_
  intro v5 q5 hq5
  obtain ⟨b5, cs5, rfl, rfl, rb5⟩ := hq5
  refine gl_newop (new_allocx (ρ := (rpT (rpQ 1))) (X := (T3.mk (0 : Rat) (0 : Rat) (0 : Rat))) info31 rfl rfl (zr_t (zr_q (by decide)))) rfl rfl rfl ?_
  intro v6 q6 hq6
  obtain ⟨b6, cs6, rfl, rfl, rb6⟩ := hq6
  refine asg rfl rfl ?_
  have rw_1 := (Le.t (Le.q (l := 2) (by decide))).R rb5
  replace hr19 := hr19.mono hg21
  refine gl_updx (A := [_]) (F := fun c_ => (rpT (rpQ 2)).R g21 c_ p19) (upd_box Try.sizeOf31 (Pc.here _) rfl rfl rfl rw_1 hr19 rfl) ?_
  intro cs_2 rb_3
  have rw_4 := (Le.t (Le.q (l := 2) (by decide))).R rb6
  refine gl_updx (A := []) (F := fun c_ => (rpT (rpQ 2)).R g21 c_ p21) (upd_box Try.sizeOf31 (Pc.here _) rfl rfl rfl rw_4 hr21 rfl) ?_
  intro cs_5 rb_6
  refine gl_nil (gq_keep (e' := [(5, _), (6, _), (4, _)]) ⟨rfl, rfl, rfl, trivial⟩ (gq_then (gc_seq (gc_region (asg rfl rfl (asg rfl rfl (gl_nil (gq_then (gc_seq (gc_seq (gc_region (mv rfl rfl ?_))))))))))))
  replace hr17 := hr17.mono (hg19.trans hg21)
  refine gv (ov_len_sr Try.underlying38 rfl hr17) rfl (mv (v := vI (0)) rfl rfl (gl_nil (gq_then (gc_block (gc_nilown 31 9 ?_)))))
  have rl_7 : RL (rpT (rpQ 11)) g21 [] ([] : List (T3 Rat)) := RL.nil
  refine gc_nilown 31 9 ?_
  have rl_8 : RL (rpT (rpQ 2)) g21 [] ([] : List (T3 Rat)) := RL.nil
  refine gc_loop (ι := Nat × List (T3 Rat) × List (T3 Rat) × Value × List Value × Value × List Value × Nat × Mem) (fun (x_ : (Nat × List (T3 Rat) × List (T3 Rat) × Value × List Value × Value × List Value × Nat × Mem)) => match x_ with | (i, y, z, s7_9, cs_10, s8_12, cs_13, kd_15, ma) => MLe g21 ma ∧ (RL (rpT (rpQ 11)) ma cs_10 y ∧ RL (rpT (rpQ 2)) ma cs_13 z ∧ kd_15 ≤ xsl.length ∧ i ≤ p17.length ∧ movTo p17 y p21 i ∧ revTo p17 z i)) (fun (x_ : (Nat × List (T3 Rat) × List (T3 Rat) × Value × List Value × Value × List Value × Nat × Mem)) => match x_ with | (i, y, z, s7_9, cs_10, s8_12, cs_13, kd_15, ma) => [(4, v17), (5, vP b5 0), (6, vP b6 0), (7, s7_9), (8, s8_12), (23, vI (↑(p17).length : Int)), (24, vI ↑i)]) (fun (x_ : (Nat × List (T3 Rat) × List (T3 Rat) × Value × List Value × Value × List Value × Nat × Mem)) => match x_ with | (i, y, z, s7_9, cs_10, s8_12, cs_13, kd_15, ma) => [.gs 31 9 s8_12 z.length cs_13, .gs 31 9 s7_9 y.length cs_10, .var b6 31 cs_5, .var b5 31 cs_2, .var b15 59 [vl, vI ↑kd_15]]) (fun (x_ : (Nat × List (T3 Rat) × List (T3 Rat) × Value × List Value × Value × List Value × Nat × Mem)) => match x_ with | (i, y, z, s7_9, cs_10, s8_12, cs_13, kd_15, ma) => ma) (fun (x_ : (Nat × List (T3 Rat) × List (T3 Rat) × Value × List Value × Value × List Value × Nat × Mem)) => match x_ with | (i, y, z, s7_9, cs_10, s8_12, cs_13, kd_15, ma) => p17.length - i) (0, [], [], (.slice none 0 0), [], (.slice none 0 0), [], k21, g21) ?_ ⟨rfl, rfl, rfl, rfl, rfl, rfl, rfl, trivial⟩ rfl rfl ?_
  ·
   refine ⟨MLe.refl _, ?_⟩
   refine ⟨rl_7, rl_8, (by omega), ?_⟩
   exact ⟨by omega, mov_zero, rev_zero⟩
  ·
   intro x hx
   obtain ⟨i, y, z, s7_9, cs_10, s8_12, cs_13, kd_15, ma⟩ := x
   obtain ⟨hmma, hinv⟩ := hx
   show GC _ _ _ _ _ _ [(4, v17), (5, vP b5 0), (6, vP b6 0), (7, s7_9), (8, s8_12), (23, vI (↑(p17).length : Int)), (24, vI ↑i)] [.gs 31 9 s8_12 z.length cs_13, .gs 31 9 s7_9 y.length cs_10, .var b6 31 cs_5, .var b5 31 cs_2, .var b15 59 [vl, vI ↑kd_15]] ma
   obtain ⟨rl_11, rl_14, hkd_16, hinv⟩ := hinv
   obtain ⟨hi1, hy, hz⟩ := hinv
   have hly := hy.1
   have hlz := hz.1
   have hx8 := hx17
   refine gc_seq (gc_region (gv (ov_lss_i rfl rfl) rfl (gl_nil (gq_then (gc_seq ?_)))))
   refine gc_cond rfl (fun hc25 => ?_) (fun hc25 => ?_)
   ·
    refine gc_skip (gq_then (gc_seq (gc_block (gc_seq (gc_region (mv rfl rfl (asg rfl rfl (gl_nil (gq_then (gc_seq ?_))))))))))
    refine gc_draw1 (A := [_]) 10 [] [(0, .q), (1, .q), (2, .q), (3, .q), (4, .q), (5, .q), (6, .c), (7, .c), (8, .c), (9, .q)] mixed (fun x hx => by cases hx) (by kernel_rfl) (fun x hx => by cases hx) (w_q rfl (fun h' L' hh hR => ov_move rfl) rfl (w_q rfl (fun h' L' hh hR => ov_move rfl) rfl (w_q rfl (fun h' L' hh hR => ov_move rfl) rfl ?_)))
    replace hr17 := hr17.mono hmma
    refine w_qx (F := fun v_ => AtP (rpT (rpQ 2)) ma v_ (p17.getD i (T3.mk (0 : Rat) (0 : Rat) (0 : Rat)))) rfl (ox_idx_s (T3.mk (0 : Rat) (0 : Rat) (0 : Rat)) i Try.underlying38 ty31 rfl rfl hr17 rfl (by omega) (show 0 < 9 from by decide)) mem0 rfl ?_
    intro v30 r30
    refine w_qx (F := fun v_ => (rpT (rpQ 2)).Is ma v_ (p17.getD i (T3.mk (0 : Rat) (0 : Rat) (0 : Rat)))) rfl (ox_load_at ty31 rfl r30) mem0 rfl ?_
    intro v31 r31
    replace rb_6 := rb_6.mono hmma
    refine w_qx (F := fun v_ => (rpT (rpQ 2)).Is ma v_ p21) rfl (ox_load_box ty31 (Pc.here _) rfl rfl rb_6 rfl) (mem1 (.tail _ (.head _))) rfl ?_
    intro v32 r32
    refine w_c rfl ?_
    refine s_call (vs := [_, _]) Try.call12 ⟨rfl, rfl, trivial⟩ (fun w hs => o_r4_add hs r31 r32 (by decide)) rfl ?_
    intro v33 h3 hh3 r33
    change (rpT (rpQ (2 + 3 * 2 + 3))).Is h3 v33 (T3.mk ((p17.getD i (T3.mk (0 : Rat) (0 : Rat) (0 : Rat))).x + p21.x) ((p17.getD i (T3.mk (0 : Rat) (0 : Rat) (0 : Rat))).y + p21.y) ((p17.getD i (T3.mk (0 : Rat) (0 : Rat) (0 : Rat))).z + p21.z)) at r33
    replace r33 := Rp.Is.le r33 (Le.t (Le.q (l := 11) (by omega)))
    refine w_c rfl (s_new (fun X => new_buildx (ρ := (rpT (rpQ 11))) (m := 1) (xs := [(T3.mk ((p17.getD i (T3.mk (0 : Rat) (0 : Rat) (0 : Rat))).x + p21.x) ((p17.getD i (T3.mk (0 : Rat) (0 : Rat) (0 : Rat))).y + p21.y) ((p17.getD i (T3.mk (0 : Rat) (0 : Rat) (0 : Rat))).z + p21.z))]) (ps' := [(0, _)]) Try.underlying38 info31 rfl rfl rfl (zr_t (zr_q (by decide))) ⟨rfl, rfl, trivial⟩ (fx_one rfl (Pc.arr (Pc.here _) (T3.mk (0 : Rat) (0 : Rat) (0 : Rat)) 0 (by decide)) r33 fx_nil) (show 1 * 9 ≤ 16777216 from by decide) (show 0 < 9 from by decide)) rfl ?_)
    intro v34 q34 hq34
    obtain ⟨cs34, rfl, rl34⟩ := hq34
    refine w_c rfl (s_freezex (A := []) (ρ := (rpT (rpQ 11))) rl34 (drop_kept (by first | (simp; done) | grind)) ?_)
    intro h4 hh4 rs_17
    replace rl_11 := rl_11.mono (hh3.trans hh4)
    refine s_rep (A := [_]) (fun X => rep_appendx (ρ := (rpT (rpQ 11))) (bytes := 168) Try.underlying38 info31 rfl rfl rfl rfl (by decide) rfl rfl rl_11 rs_17 (by first | omega | (simp only [List.length_append, List.length_cons, List.length_nil, List.length_replicate, List.length_set]; omega)) (by first | omega | (simp only [List.length_append, List.length_cons, List.length_nil, List.length_replicate, List.length_set]; omega))) rfl (mem_kept (by first | (simp; done) | grind)) ?_
    intro v35 q35 hq35
    obtain ⟨cs35, rfl, rl35⟩ := hq35
    refine w_q rfl (fun h' L' hh hR => ov_assign rfl) rfl (w_nil (gq_keep (e' := [(4, _), (5, _), (6, _), (8, _), (23, _), (24, _), (9, _), (7, _)]) ⟨rfl, rfl, rfl, rfl, rfl, rfl, rfl, rfl, trivial⟩ (gq_then (gc_region (mv rfl rfl (mv rfl rfl (mv rfl rfl ?_)))))))
    replace hr17 := hr17.mono (hh3.trans hh4)
    refine gv (ov_len_sr Try.underlying38 rfl hr17) rfl (gv (ov_sub_i (q := 1) rfl rfl (by omega) (by omega)) rfl (mv rfl rfl (gv (ov_sub_i rfl rfl (by omega) (by omega)) rfl (gl_x (F := fun v_ => AtP (rpT (rpQ 2)) h4 v_ (p17.getD (p17.length - 1 - i) (T3.mk (0 : Rat) (0 : Rat) (0 : Rat)))) (ox_idx_s (T3.mk (0 : Rat) (0 : Rat) (0 : Rat)) (p17.length - 1 - i) Try.underlying38 ty31 rfl rfl hr17 (by omega) (by omega) (show 0 < 9 from by decide)) mem0 rfl ?_))))
    intro v43 r43
    refine gl_x (F := fun v_ => (rpT (rpQ 2)).Is h4 v_ (p17.getD (p17.length - 1 - i) (T3.mk (0 : Rat) (0 : Rat) (0 : Rat)))) (ox_load_at ty31 rfl r43) mem0 rfl ?_
    intro v44 r44
    refine gl_newop (new_buildx (ρ := (rpT (rpQ 2))) (m := 1) (xs := [(p17.getD (p17.length - 1 - i) (T3.mk (0 : Rat) (0 : Rat) (0 : Rat)))]) (ps' := [(0, _)]) Try.underlying38 info31 rfl rfl rfl (zr_t (zr_q (by decide))) ⟨rfl, rfl, trivial⟩ (fx_one rfl (Pc.arr (Pc.here _) (T3.mk (0 : Rat) (0 : Rat) (0 : Rat)) 0 (by decide)) r44 fx_nil) (show 1 * 9 ≤ 16777216 from by decide) (show 0 < 9 from by decide)) rfl rfl rfl ?_
    intro v45 q45 hq45
    obtain ⟨cs45, rfl, rl45⟩ := hq45
    refine gl_freezex (A := []) (ρ := (rpT (rpQ 2))) rl45 ?_
    intro h5 hh5 rs_18
    replace rl_14 := rl_14.mono ((hh3.trans hh4).trans hh5)
    refine gl_repop (A := []) (rep_appendx (ρ := (rpT (rpQ 2))) (bytes := 168) Try.underlying38 info31 rfl rfl rfl rfl (by decide) rfl rfl rl_14 rs_18 (by first | omega | (simp only [List.length_append, List.length_cons, List.length_nil, List.length_replicate, List.length_set]; omega)) (by first | omega | (simp only [List.length_append, List.length_cons, List.length_nil, List.length_replicate, List.length_set]; omega))) rfl rfl rfl ?_
    intro v46 q46 hq46
    obtain ⟨cs46, rfl, rl46⟩ := hq46
    refine asg rfl rfl (gl_nil (gq_in (gq_keep (e' := [(4, _), (5, _), (6, _), (23, _), (24, _), (7, _), (8, _)]) ⟨rfl, rfl, rfl, rfl, rfl, rfl, rfl, trivial⟩ (gq_then (gc_region (gv (ov_add_i (q := 1) rfl rfl (by omega) (by omega)) rfl (mv rfl rfl (gl_nil ?_))))))))
    refine gq_round ((i + 1), (y ++ [(T3.mk ((p17.getD i (T3.mk (0 : Rat) (0 : Rat) (0 : Rat))).x + p21.x) ((p17.getD i (T3.mk (0 : Rat) (0 : Rat) (0 : Rat))).y + p21.y) ((p17.getD i (T3.mk (0 : Rat) (0 : Rat) (0 : Rat))).z + p21.z))]), (z ++ [(p17.getD (p17.length - 1 - i) (T3.mk (0 : Rat) (0 : Rat) (0 : Rat)))]), v35, cs35, v46, cs46, kd_15, h5) ?_ ?_ ⟨?_, ?_, ?_, ?_, ?_, ?_, ?_, trivial⟩ ?_ rfl
    ·
     refine ⟨(((hmma.trans hh3).trans hh4).trans hh5), ?_⟩
     replace rl35 := rl35.mono hh5
     refine ⟨rl35, rl46, (by omega), ?_⟩
     exact ⟨by omega, mov_next hy rfl, rev_next hz rfl⟩
    ·
     dsimp only
     omega
    · exact rfl
    · exact rfl
    · exact rfl
    · exact rfl
    · exact rfl
    · exact rfl
    · exact rfl
    · exact rfl
   ·
    have hmv := mov_all hy hi1 (by omega)
    have hrv := rev_all hz hi1 (by omega)
    have hl1 := hmv.1
    have hl2 := hrv.1
    refine gc_exit (gx_then (gx_then (gx_here (gq_then (gc_seq (gc_seq (gc_freezex (A := [_]) (ρ := (rpT (rpQ 11))) rl_11 ?_)))))))
    intro h3 hh3 rs_19
    refine gc_draw 24 _ [] [(0, .q), (2, .q), (1, .c), (3, .c), (4, .c), (5, .q), (6, .q), (7, .q), (9, .q), (8, .c), (10, .c), (11, .q), (12, .q), (13, .q), (14, .q), (15, .q), (17, .q), (18, .q), (19, .q), (16, .c), (20, .c), (21, .c), (22, .q), (23, .q)] mixed (fun x hx => by cases hx) (chk_of [0, 1, 0, 6, 10, 16, 48, 64, 192, 64, 832, 1344, 2112, 5120, 8192, 8192, 57344, 8192, 8192, 8192, 860160, 1187840, 2170880, 4202496] [16777215, 16777214, 16777215, 16777211, 16777205, 16777199, 16777183, 16777151, 16777023, 16777151, 16776639, 16775871, 16775103, 16773119, 16769023, 16769023, 16719871, 16769023, 16769023, 16769023, 15982591, 15589375, 14606335, 12574719] (by kernel_rfl)) (fun x hx => by cases hx) (fun r hr => hr) (w_q rfl (fun h' L' hh hR => ov_move rfl) rfl (w_q rfl (fun h' L' hh hR => ov_move rfl) rfl ?_))
    refine w_c rfl ?_
    replace hr17 := hr17.mono (hmma.trans hh3)
    refine s_call (vs := [_]) Try.call20 ⟨rfl, trivial⟩ (fun w hs => o_pg_area hs hr17 (by decide) (by omega)) rfl ?_
    intro v49 h4 hh4 r49
    change (rpQ 1000000000).Is h4 v49 (areaTo p17 0 1 p17.length) at r49
    refine w_c rfl ?_
    replace rs_19 := rs_19.mono hh4
    refine s_call (vs := [_]) Try.call20 ⟨rfl, trivial⟩ (fun w hs => o_pg_area hs rs_19 (by decide) (by omega)) rfl ?_
    intro v51 h5 hh5 r51
    change (rpQ 1000000000).Is h5 v51 (areaTo y 0 1 y.length) at r51
    refine w_c rfl ?_
    replace r49 := r49.mono hh5
    refine s_call (vs := [_, _]) Try.call19 ⟨rfl, rfl, trivial⟩ (fun w hs => o_rref_same hs r49 r51 (by decide)) rfl ?_
    intro v52 h6 hh6 r52
    obtain rfl : v52 = .bool true := by rw [show v52 = vB ((areaTo p17 0 1 p17.length) = (areaTo y 0 1 y.length)) from r52, vB_true (by exact (area_moved hmv).symm)]
    refine w_q rfl (fun h' L' hh hR => ov_not_b rfl) rfl (w_q rfl (fun h' L' hh hR => ov_move rfl) rfl (w_q_on rfl rfl rfl (fun h' L' hh hR => ov_move rfl) rfl (w_q_on rfl rfl rfl (fun h' L' hh hR => ov_move rfl) rfl ?_)))
    refine w_c rfl (s_on rfl rfl ?_)
    replace hr17 := hr17.mono ((hh4.trans hh5).trans hh6)
    refine s_call (vs := [_]) Try.call21 ⟨rfl, trivial⟩ (fun w hs => o_pg_simple hs hr17 (by decide) (by omega)) rfl ?_
    intro v56 h7 hh7 r56
    obtain rfl : v56 = vB (simP p17 0 1) := r56
    refine w_c rfl (s_on rfl rfl ?_)
    replace rs_19 := rs_19.mono ((hh5.trans hh6).trans hh7)
    refine s_call (vs := [_]) Try.call21 ⟨rfl, trivial⟩ (fun w hs => o_pg_simple hs rs_19 (by decide) (by omega)) rfl ?_
    intro v58 h8 hh8 r58
    obtain rfl : v58 = vB (simP y 0 1) := r58
    refine w_q_on rfl rfl rfl (fun h' L' hh hR => OpV.fa (by exact fun e => e (sim_moved hmv)) (ov_neq_b Try.underlying4 rfl rfl)) rfl (w_q rfl (fun h' L' hh hR => ov_pick_f rfl rfl) rfl (w_q rfl (fun h' L' hh hR => ov_move rfl) rfl (w_q_on rfl rfl rfl (fun h' L' hh hR => ov_move rfl) rfl ?_)))
    replace rb_3 := rb_3.mono ((((((hmma.trans hh3).trans hh4).trans hh5).trans hh6).trans hh7).trans hh8)
    refine w_qx_on (F := fun v_ => (rpT (rpQ 2)).Is h8 v_ p19) rfl rfl rfl (ox_load_box ty31 (Pc.here _) rfl rfl rb_3 rfl) (mem1 (.tail _ (.tail _ (.head _)))) rfl ?_
    intro v63 r63
    refine w_q_on rfl rfl rfl (fun h' L' hh hR => ov_move rfl) rfl (w_qx_on (F := fun v_ => (rpT (rpQ 2)).Is h8 v_ p19) rfl rfl rfl (ox_load_box ty31 (Pc.here _) rfl rfl rb_3 rfl) (mem1 (.tail _ (.tail _ (.head _)))) rfl ?_)
    intro v66 r66
    replace rb_6 := rb_6.mono ((((((hmma.trans hh3).trans hh4).trans hh5).trans hh6).trans hh7).trans hh8)
    refine w_qx_on (F := fun v_ => (rpT (rpQ 2)).Is h8 v_ p21) rfl rfl rfl (ox_load_box ty31 (Pc.here _) rfl rfl rb_6 rfl) (mem1 (.tail _ (.head _))) rfl ?_
    intro v67 r67
    refine w_c rfl (s_on rfl rfl ?_)
    replace hr17 := hr17.mono (hh7.trans hh8)
    refine s_call (vs := [_, _]) Try.call22 ⟨rfl, rfl, trivial⟩ (fun w hs => o_pg_inside hs hr17 r63 (by decide) (by omega)) rfl ?_
    intro v64 h9 hh9 r64
    obtain rfl : v64 = vI (insZ p17 (pr p19 0 1) 0 1) := r64
    refine w_c rfl (s_on rfl rfl ?_)
    replace r66 := r66.mono hh9
    replace r67 := r67.mono hh9
    refine s_call (vs := [_, _]) Try.call12 ⟨rfl, rfl, trivial⟩ (fun w hs => o_r4_add hs r66 r67 (by decide)) rfl ?_
    intro v68 h10 hh10 r68
    change (rpT (rpQ (2 + 3 * 2 + 3))).Is h10 v68 (T3.mk (p19.x + p21.x) (p19.y + p21.y) (p19.z + p21.z)) at r68
    replace r68 := Rp.Is.le r68 (Le.t (Le.q (l := 11) (by omega)))
    refine w_c rfl (s_on rfl rfl ?_)
    replace rs_19 := rs_19.mono ((hh8.trans hh9).trans hh10)
    refine s_call (vs := [_, _]) Try.call22 ⟨rfl, rfl, trivial⟩ (fun w hs => o_pg_inside hs rs_19 r68 (by decide) (by omega)) rfl ?_
    intro v69 h11 hh11 r69
    obtain rfl : v69 = vI (insZ y (pr (T3.mk (p19.x + p21.x) (p19.y + p21.y) (p19.z + p21.z)) 0 1) 0 1) := r69
    refine w_q_on rfl rfl rfl (fun h' L' hh hR => OpV.fa (by exact fun e => e (ins_moved hmv)) (ov_neq_i rfl rfl)) rfl (w_q rfl (fun h' L' hh hR => ov_pick_f rfl rfl) rfl (w_nil (gq_keep (e' := [(4, _), (5, _), (8, _), (71, _)]) ⟨rfl, rfl, rfl, rfl, trivial⟩ (gq_then (gc_cond_f rfl (gc_skip (gq_then (gc_seq ?_))))))))
    replace rl_14 := rl_14.mono ((((((((hh3.trans hh4).trans hh5).trans hh6).trans hh7).trans hh8).trans hh9).trans hh10).trans hh11)
    refine gc_freezex (A := []) (ρ := (rpT (rpQ 2))) rl_14 ?_
    intro h12 hh12 rs_20
    refine gc_draw 26 _ [] [(0, .q), (2, .q), (1, .c), (3, .c), (4, .c), (5, .c), (6, .q), (7, .q), (9, .q), (8, .c), (10, .c), (11, .q), (12, .q), (13, .q), (14, .q), (15, .q), (17, .q), (18, .q), (16, .c), (19, .c), (20, .q), (21, .q), (22, .q), (23, .c), (24, .q), (25, .q)] mixed (fun x hx => by cases hx) (chk_of [0, 1, 0, 6, 8, 18, 32, 64, 192, 64, 832, 1344, 2112, 5120, 8192, 8192, 57344, 8192, 8192, 466944, 598016, 1056768, 2621440, 4194304, 12582912, 33554431] [67108863, 67108862, 67108863, 67108859, 67108855, 67108845, 67108831, 67108799, 67108671, 67108799, 67108287, 67107519, 67106751, 67104767, 67100671, 67100671, 67051519, 67100671, 67100671, 66707455, 66510847, 66052095, 65011711, 62914559, 54525951, 50331647] (by kernel_rfl)) (fun x hx => by cases hx) (fun r hr => hr) (w_q rfl (fun h' L' hh hR => ov_move rfl) rfl (w_q rfl (fun h' L' hh hR => ov_move rfl) rfl ?_))
    refine w_c rfl ?_
    refine s_call (vs := [_]) Try.call20 ⟨rfl, trivial⟩ (fun w hs => o_pg_area hs rs_20 (by decide) (by omega)) rfl ?_
    intro v73 h13 hh13 r73
    change (rpQ 1000000000).Is h13 v73 (areaTo z 0 1 z.length) at r73
    refine w_c rfl ?_
    replace hr17 := hr17.mono ((((hh9.trans hh10).trans hh11).trans hh12).trans hh13)
    refine s_call (vs := [_]) Try.call20 ⟨rfl, trivial⟩ (fun w hs => o_pg_area hs hr17 (by decide) (by omega)) rfl ?_
    intro v75 h14 hh14 r75
    change (rpQ 1000000000).Is h14 v75 (areaTo p17 0 1 p17.length) at r75
    refine w_c rfl ?_
    refine s_call (vs := [_]) Try.call23 ⟨rfl, trivial⟩ (fun w hs => o_rref_neg hs r75 (by decide)) rfl ?_
    intro v76 h15 hh15 r76
    change (rpQ 1000000000).Is h15 v76 (-(areaTo p17 0 1 p17.length)) at r76
    refine w_c rfl ?_
    replace r73 := r73.mono (hh14.trans hh15)
    refine s_call (vs := [_, _]) Try.call19 ⟨rfl, rfl, trivial⟩ (fun w hs => o_rref_same hs r73 r76 (by decide)) rfl ?_
    intro v77 h16 hh16 r77
    obtain rfl : v77 = .bool true := by rw [show v77 = vB ((areaTo z 0 1 z.length) = (-(areaTo p17 0 1 p17.length))) from r77, vB_true (by exact area_rev hrv)]
    refine w_q rfl (fun h' L' hh hR => ov_move rfl) rfl (w_q_on rfl rfl rfl (fun h' L' hh hR => ov_move rfl) rfl (w_q_on rfl rfl rfl (fun h' L' hh hR => ov_move rfl) rfl ?_))
    refine w_c rfl (s_on rfl rfl ?_)
    replace rs_20 := rs_20.mono (((hh13.trans hh14).trans hh15).trans hh16)
    refine s_call (vs := [_]) Try.call21 ⟨rfl, trivial⟩ (fun w hs => o_pg_simple hs rs_20 (by decide) (by omega)) rfl ?_
    intro v80 h17 hh17 r80
    obtain rfl : v80 = vB (simP z 0 1) := r80
    refine w_c rfl (s_on rfl rfl ?_)
    replace hr17 := hr17.mono (((hh14.trans hh15).trans hh16).trans hh17)
    refine s_call (vs := [_]) Try.call21 ⟨rfl, trivial⟩ (fun w hs => o_pg_simple hs hr17 (by decide) (by omega)) rfl ?_
    intro v82 h18 hh18 r82
    obtain rfl : v82 = vB (simP p17 0 1) := r82
    refine w_q_on rfl rfl rfl (fun h' L' hh hR => OpV.tr (by exact sim_rev hrv) (ov_eql_b Try.underlying4 rfl rfl)) rfl (w_q rfl (fun h' L' hh hR => ov_pick_t rfl rfl) rfl (w_q rfl (fun h' L' hh hR => ov_move rfl) rfl (w_q_on rfl rfl rfl (fun h' L' hh hR => ov_move rfl) rfl ?_)))
    replace rb_3 := rb_3.mono (((((((((hh9.trans hh10).trans hh11).trans hh12).trans hh13).trans hh14).trans hh15).trans hh16).trans hh17).trans hh18)
    refine w_qx_on (F := fun v_ => (rpT (rpQ 2)).Is h18 v_ p19) rfl rfl rfl (ox_load_box ty31 (Pc.here _) rfl rfl rb_3 rfl) (mem1 (.tail _ (.head _))) rfl ?_
    intro v87 r87
    refine w_q_on rfl rfl rfl (fun h' L' hh hR => ov_move rfl) rfl (w_qx_on (F := fun v_ => (rpT (rpQ 2)).Is h18 v_ p19) rfl rfl rfl (ox_load_box ty31 (Pc.here _) rfl rfl rb_3 rfl) (mem1 (.tail _ (.head _))) rfl ?_)
    intro v90 r90
    refine w_c rfl (s_on rfl rfl ?_)
    replace rs_20 := rs_20.mono (hh17.trans hh18)
    refine s_call (vs := [_, _]) Try.call22 ⟨rfl, rfl, trivial⟩ (fun w hs => o_pg_inside hs rs_20 r87 (by decide) (by omega)) rfl ?_
    intro v88 h19 hh19 r88
    obtain rfl : v88 = vI (insZ z (pr p19 0 1) 0 1) := r88
    refine w_c rfl (s_on rfl rfl ?_)
    replace hr17 := hr17.mono (hh18.trans hh19)
    replace r90 := r90.mono hh19
    refine s_call (vs := [_, _]) Try.call22 ⟨rfl, rfl, trivial⟩ (fun w hs => o_pg_inside hs hr17 r90 (by decide) (by omega)) rfl ?_
    intro v91 h20 hh20 r91
    obtain rfl : v91 = vI (insZ p17 (pr p19 0 1) 0 1) := r91
    refine w_q_on rfl rfl rfl (fun h' L' hh hR => OpV.tr (by exact ins_rev hrv _) (ov_eql_i rfl rfl)) rfl (w_q rfl (fun h' L' hh hR => ov_pick_t rfl rfl) rfl (w_q rfl (fun h' L' hh hR => ov_move rfl) rfl ?_))
    refine w_c rfl (s_on rfl rfl ?_)
    refine s_call (vs := []) Try.call8 trivial (fun w hs => law25_sane hs) rfl ?_
    intro v95 h21 hh21 hr95
    subst hr95
    refine w_q rfl (fun h' L' hh hR => ov_pick_t rfl rfl) rfl (w_q rfl (fun h' L' hh hR => ov_assign rfl) rfl (w_nil (gq_keep (e' := [(2, _)]) ⟨rfl, trivial⟩ (gq_then (gc_ret (gq_body1 rfl rfl ?_))))))
    rfl

end Go.Proofs.Ytfpjclgbieppeaa
