/- Texts that the proof needs, part 5. -/
import Derived.Test.YtfpjclgbieppeaaGreatK4


namespace Go.Proofs.YtfpjclgbieppeaaGreat
open Bk Go
set_option linter.unusedVariables false
set_option linter.unusedSimpArgs false
set_option maxRecDepth 10000

theorem o_made_corners {w0 : World} {h0 : Mem}  (hs : MLe h0 (mem w0)) {x : Int} (hx1 : -9223372036854775808 ≤ x) (hx2 : x < 9223372036854775808) {y : Int} (hy1 : -9223372036854775808 ≤ y) (hy2 : y < 9223372036854775808) {vl : Value} {l : (List Int)} (rl : (rpS rpI).Is h0 vl l) (hcd0 : -9 ≤ x ∧ x ≤ 9) (hcd1 : -9 ≤ y ∧ y ≤ 9) (hcd2 : l.length ≤ 100) (hcd3 : ∀ v, v ∈ l → -9 ≤ v ∧ v ≤ 9)  :
    Calls Tryz.prog 52 #[vI x, vI y, vl] w0 (Ret w0 h0 (fun h r => (rpS (rpT (rpQ 2))).Is h r (corn x y l (l.length / 2)))) := by
 refine zR (n := 36) (e := [(0, vI x), (1, vI y), (2, vl)]) (vs := [vI x, vI y, vl]) Tryz.func52 rfl rfl (Nat.le_of_ble_eq_true rfl) hs ⟨rfl, rfl, rfl, trivial⟩ (zC (zA (asg rfl rfl (zD (zB (zC (zA (asg rfl rfl (zD (zB (zC (zC (zA ?_)))))))))))))
 refine asg (v := vI (0)) rfl rfl (zD (zB (zQ (gc_nilown 33 9 ?_))))
 have rl_1 : RL (rpT (rpQ 2)) h0 [] ([] : List (T3 Rat)) := RL.nil
 refine gc_loop (ι := Nat × Value × List Value × Mem) (fun (m, s7_2, cs_3, ma) => MLe h0 ma ∧ (RL (rpT (rpQ 2)) ma cs_3 (corn x y l m) ∧ 2 * m ≤ l.length)) (fun (m, s7_2, cs_3, ma) => [(0, vI x), (1, vI y), (2, vl), (7, s7_2), (8, vI ↑(2 * m))]) (fun (m, s7_2, cs_3, ma) => [.gs 33 9 s7_2 (corn x y l m).length cs_3]) (fun (m, s7_2, cs_3, ma) => ma) (fun (m, s7_2, cs_3, ma) => l.length - m) (0, (.slice none 0 0), [], h0) ?_ ⟨rfl, rfl, rfl, rfl, rfl, trivial⟩ rfl rfl ?_
 ·
  refine ⟨MLe.refl _, ?_⟩
  refine ⟨rl_1, ?_⟩
  exact (by omega)
 intro x hx
 obtain ⟨m, s7_2, cs_3, ma⟩ := x
 obtain ⟨hmma, hinv⟩ := hx
 show GC _ _ _ _ _ _ [(0, vI x), (1, vI y), (2, vl), (7, s7_2), (8, vI ↑(2 * m))] [.gs 33 9 s7_2 (corn x y l m).length cs_3] ma
 obtain ⟨rl_4, hinv⟩ := hinv
 have hm1 := hinv
 have hcl := corn_len x y l m
 refine zC (zC (zA (mv rfl rfl (gv (zV (q := 1) rfl rfl (by omega) (by omega)) rfl (mv rfl rfl ?_)))))
 replace rl := rl.mono hmma
 refine gv (ov_len_sr Tryz.underlying22 rfl rl) rfl (gv (yH rfl rfl) rfl (zD (zB ?_)))
 refine zH rfl (fun hc13 => ?_) (fun hc13 => ?_)
 ·
  refine zI (zB (zC (zQ ?_)))
  refine gc_draw1 (A := []) 20 [] [(0, .q), (1, .q), (2, .q), (3, .q), (4, .q), (5, .q), (6, .q), (8, .q), (9, .q), (10, .q), (11, .q), (12, .q), (13, .q), (14, .q), (7, .c), (15, .c), (16, .q), (17, .c), (18, .c), (19, .q)] mixed (fun x hx => by cases hx) (chk_of [0, 0, 0, 0, 12, 16, 34, 64, 0, 0, 0, 1024, 2560, 4096, 8448, 16512, 32896, 65536, 163841, 524287] [1048575, 1048575, 1048575, 1048575, 1048563, 1048559, 1048541, 1048511, 1048575, 1048575, 1048575, 1047551, 1046015, 1044479, 1040127, 1032191, 1015679, 983039, 917502, 786430] (by kernel_rfl)) (fun x hx => by cases hx) (w_q rfl (fun h' L' hh hR => zF rfl) rfl (w_q rfl (fun h' L' hh hR => zF rfl) rfl (w_q rfl (fun h' L' hh hR => zF rfl) rfl (w_q rfl (fun h' L' hh hR => zF rfl) rfl (w_qx (F := fun v_ => AtP rpI ma v_ (l.getD (2 * m) (0 : Int))) rfl (ox_idx_s (0 : Int) (2 * m) Tryz.underlying22 ty3 rfl rfl rl (by rfl) (by omega) (show 0 < 1 from by decide)) mem0 rfl ?_)))))
  intro v20 r20
  refine w_qx (F := fun v_ => rpI.Is ma v_ (l.getD (2 * m) (0 : Int))) rfl (yK ty3 rfl r20) mem0 rfl ?_
  intro v21 r21
  obtain ⟨rfl, hl21, hu21⟩ := of_i r21
  refine w_q rfl (fun h' L' hh hR => zV rfl rfl (by have := getD_b (by assumption) (2 * m); omega) (by have := getD_b (by assumption) (2 * m); omega)) rfl (w_q rfl (fun h' L' hh hR => zF rfl) rfl (w_q rfl (fun h' L' hh hR => zF rfl) rfl (w_q rfl (fun h' L' hh hR => zF rfl) rfl (w_q rfl (fun h' L' hh hR => zV (q := 1) rfl rfl (by omega) (by omega)) rfl (w_qx (F := fun v_ => AtP rpI ma v_ (l.getD (2 * m + 1) (0 : Int))) rfl (ox_idx_s (0 : Int) (2 * m + 1) Tryz.underlying22 ty3 rfl rfl rl (by omega) (by omega) (show 0 < 1 from by decide)) mem0 rfl ?_)))))
  intro v28 r28
  refine w_qx (F := fun v_ => rpI.Is ma v_ (l.getD (2 * m + 1) (0 : Int))) rfl (yK ty3 rfl r28) mem0 rfl ?_
  intro v29 r29
  obtain ⟨rfl, hl29, hu29⟩ := of_i r29
  refine w_q rfl (fun h' L' hh hR => zV rfl rfl (by have := getD_b (by assumption) (2 * m + 1); omega) (by have := getD_b (by assumption) (2 * m + 1); omega)) rfl ?_
  refine w_c rfl ?_
  refine yO (vs := [_]) Tryz.call32 ⟨rfl, trivial⟩ (fun w hs => o_rref_int hs (by have := getD_b (by assumption) (2 * m); omega) (by have := getD_b (by assumption) (2 * m); omega)) rfl ?_
  intro v23 h1 hh1 r23
  change (rpQ 2).Is h1 v23 (((x + (l.getD (2 * m) (0 : Int))) : Int) : Rat) at r23
  refine w_c rfl ?_
  refine yO (vs := [_]) Tryz.call32 ⟨rfl, trivial⟩ (fun w hs => o_rref_int hs (by have := getD_b (by assumption) (2 * m + 1); omega) (by have := getD_b (by assumption) (2 * m + 1); omega)) rfl ?_
  intro v31 h2 hh2 r31
  change (rpQ 2).Is h2 v31 (((y + (l.getD (2 * m + 1) (0 : Int))) : Int) : Rat) at r31
  replace r23 := r23.mono hh2
  refine w_qx (F := fun v_ => (rpT (rpQ 2)).Is h2 v_ (T3.mk (((x + (l.getD (2 * m) (0 : Int))) : Int) : Rat) (((y + (l.getD (2 * m + 1) (0 : Int))) : Int) : Rat) (0 : Rat))) rfl (ox_build_arr (ps' := [(0, _), (1, _)]) Tryz.underlying33 info33 rfl rfl Tryz.sizeOf31 ⟨rfl, rfl, rfl, rfl, trivial⟩ rfl (zr_t (zr_q (by decide))) (fx_one rfl (Pc.tx (Pc.here _)) r23 (fx_one rfl (Pc.ty (Pc.here _)) r31 fx_nil))) mem0 rfl ?_
  intro v32 r32
  refine w_c rfl (s_new (fun X => new_buildx (ρ := (rpT (rpQ 2))) (m := 1) (xs := [(T3.mk (((x + (l.getD (2 * m) (0 : Int))) : Int) : Rat) (((y + (l.getD (2 * m + 1) (0 : Int))) : Int) : Rat) (0 : Rat))]) (ps' := [(0, _)]) Tryz.underlying36 info33 rfl rfl rfl (zr_t (zr_q (by decide))) ⟨rfl, rfl, trivial⟩ (fx_one rfl (Pc.arr (Pc.here _) (T3.mk (0 : Rat) (0 : Rat) (0 : Rat)) 0 (by decide)) r32 fx_nil) (show 1 * 9 ≤ 16777216 from by decide) (show 0 < 9 from by decide)) rfl ?_)
  intro v33 q33 hq33
  obtain ⟨cs33, rfl, rl33⟩ := hq33
  refine w_c rfl (s_freezex (A := []) (ρ := (rpT (rpQ 2))) rl33 (drop_kept (by first | (simp; done) | grind)) ?_)
  intro h3 hh3 rs_5
  replace rl_4 := rl_4.mono ((hh1.trans hh2).trans hh3)
  refine s_rep (A := []) (fun X => rep_appendx (ρ := (rpT (rpQ 2))) (bytes := 168) Tryz.underlying36 info33 rfl rfl rfl rfl (by decide) rfl rfl rl_4 rs_5 (by first | omega | (simp only [List.length_append, List.length_cons, List.length_nil, List.length_replicate, List.length_set]; omega)) (by first | omega | (simp only [List.length_append, List.length_cons, List.length_nil, List.length_replicate, List.length_set]; omega))) rfl (mem_kept (by first | (simp; done) | grind)) ?_
  intro v34 q34 hq34
  obtain ⟨cs34, rfl, rl34⟩ := hq34
  refine w_q rfl (fun h' L' hh hR => ov_assign rfl) rfl (w_nil (gq_in (zL (e' := [(0, _), (1, _), (2, _), (8, _), (7, _)]) ⟨rfl, rfl, rfl, rfl, rfl, trivial⟩ (zB (zA (mv rfl rfl (gv (zV (q := 2) rfl rfl (by omega) (by omega)) rfl (asg rfl rfl (zD ?_)))))))))
  refine yJ ((m + 1), v34, cs34, h3) ?_ ?_ ⟨rfl, rfl, rfl, rfl, ?_, trivial⟩ rfl rfl
  ·
   refine ⟨(((hmma.trans hh1).trans hh2).trans hh3), ?_⟩
   refine ⟨rl34, ?_⟩
   exact (by omega)
  ·
   dsimp only
   omega
  · exact congrArg (fun z => some (vI z)) (by omega)
 have em : m = l.length / 2 := by omega
 refine gc_exit (zZ (zZ (gx_here (zB (zC (zA (mv rfl rfl (asg rfl rfl (zD (zL (e' := [(6, _)]) ⟨rfl, trivial⟩ (zB (zN (gq_freezex (A := []) (ρ := (rpT (rpQ 2))) rl_4 ?_)))))))))))))
 intro h1 hh1 rs_6
 refine zW rfl rfl ?_
 exact (Rp.Is.cast rs_6 (by rw [em]))

theorem o_dice_base {w0 w : World} {h0 h : Mem} {b k : Nat} {vl : Value} {xs : List Int} (hl : Is h vl xs) (hk : k ≤ xs.length) {L : List Res} (hs : St w0 h0 (.var b 57 [vl, vI ↑k] :: L) h w) :
    Calls Tryz.prog 28 #[vP b 0] w (RetMutO w0 h0 h L (fun g r q' o => ∃ k' : Nat, ∃ m : List (List (T3 Rat)), ∃ cs : List Value, q' = .var b 57 [vl, vI ↑k'] ∧ k' ≤ xs.length ∧ o = .gs 36 1 r m.length cs ∧ (okL 4 m) ∧ RL (rpS (rpT (rpQ 2))) g cs m)) := by
 have hlen := hl.lt63
 refine calls_begin_st (n := 60) (e := [(0, vP b 0)]) (vs := [vP b 0]) Tryz.func28 rfl rfl (Nat.le_of_ble_eq_true rfl) hs ⟨rfl, trivial⟩ (zC (zA (asg rfl rfl (zD (zB (zC (zA (mv rfl rfl ?_))))))))
 refine gl_call_mut2 (A := []) (vs := [_, vI (2)]) Tryz.call15 ⟨rfl, rfl, trivial⟩ (fun X w hs => dice_next hl (by first | omega | exact Nat.zero_le _) (by omega) (by omega) hs) rfl ?_
 intro v6 g6 q6 hg6 hr6
 obtain ⟨k6, z6, rfl, hk6, rfl, hz6, hy6⟩ := hr6
 refine mv rfl rfl ?_
 replace hl := hl.mono hg6
 refine gl_call_mut2 (A := []) (vs := [_, vI (2)]) Tryz.call15 ⟨rfl, rfl, trivial⟩ (fun X w hs => dice_next hl (by first | omega | exact Nat.zero_le _) (by omega) (by omega) hs) rfl ?_
 intro v8 g8 q8 hg8 hr8
 obtain ⟨k8, z8, rfl, hk8, rfl, hz8, hy8⟩ := hr8
 refine asg rfl rfl (asg rfl rfl (zD (zB (zC (zC (zA (mv rfl rfl ?_)))))))
 replace hl := hl.mono hg8
 refine gl_call_mut2 (A := []) (vs := [_, vI (6)]) Tryz.call15 ⟨rfl, rfl, trivial⟩ (fun X w hs => dice_next hl (by first | omega | exact Nat.zero_le _) (by omega) (by omega) hs) rfl ?_
 intro v10 g10 q10 hg10 hr10
 obtain ⟨k10, z10, rfl, hk10, rfl, hz10, hy10⟩ := hr10
 refine zD (zB (zQ (zC (zA (gv (ov_eql_i (q := 1) rfl rfl) rfl (asg rfl rfl (zD (zB ?_))))))))
 refine zH rfl (fun hc11 => ?_) (fun hc11 => ?_)
 ·
  refine gc_keep (e' := [(3, _), (4, _)]) ⟨rfl, rfl, trivial⟩ (zC (zA (mv rfl rfl (mv rfl rfl (zP (new_buildx (ρ := rpI) (m := 12) (xs := [(0 : Int), (0 : Int), (2 : Int), (0 : Int), (2 : Int), (1 : Int), (1 : Int), (1 : Int), (1 : Int), (2 : Int), (0 : Int), (2 : Int)]) (ps' := [(0, _), (1, _), (2, _), (3, _), (4, _), (5, _), (6, _), (7, _), (8, _), (9, _), (10, _), (11, _)]) Tryz.underlying22 info3 rfl rfl rfl zr_i ⟨rfl, rfl, rfl, rfl, rfl, rfl, rfl, rfl, rfl, rfl, rfl, rfl, rfl, rfl, rfl, rfl, rfl, rfl, rfl, rfl, rfl, rfl, rfl, rfl, trivial⟩ (fx_one rfl (Pc.arr (Pc.here _) (0 : Int) 0 (by decide)) (is_i (by decide) (by decide)) (fx_one rfl (Pc.arr (Pc.here _) (0 : Int) 1 (by decide)) (is_i (by decide) (by decide)) (fx_one rfl (Pc.arr (Pc.here _) (0 : Int) 2 (by decide)) (is_i (by decide) (by decide)) (fx_one rfl (Pc.arr (Pc.here _) (0 : Int) 3 (by decide)) (is_i (by decide) (by decide)) (fx_one rfl (Pc.arr (Pc.here _) (0 : Int) 4 (by decide)) (is_i (by decide) (by decide)) (fx_one rfl (Pc.arr (Pc.here _) (0 : Int) 5 (by decide)) (is_i (by decide) (by decide)) (fx_one rfl (Pc.arr (Pc.here _) (0 : Int) 6 (by decide)) (is_i (by decide) (by decide)) (fx_one rfl (Pc.arr (Pc.here _) (0 : Int) 7 (by decide)) (is_i (by decide) (by decide)) (fx_one rfl (Pc.arr (Pc.here _) (0 : Int) 8 (by decide)) (is_i (by decide) (by decide)) (fx_one rfl (Pc.arr (Pc.here _) (0 : Int) 9 (by decide)) (is_i (by decide) (by decide)) (fx_one rfl (Pc.arr (Pc.here _) (0 : Int) 10 (by decide)) (is_i (by decide) (by decide)) (fx_one rfl (Pc.arr (Pc.here _) (0 : Int) 11 (by decide)) (is_i (by decide) (by decide)) fx_nil)))))))))))) (show 12 * 1 ≤ 16777216 from by decide) (show 0 < 1 from by decide)) rfl rfl rfl ?_)))))
  intro v15 q15 hq15
  obtain ⟨cs15, rfl, rl15⟩ := hq15
  refine gl_freezex (A := []) (ρ := rpI) rl15 ?_
  intro h1 hh1 rs_7
  refine zJ (vs := [_, _, _]) rfl rfl rfl rfl Tryz.call52 ⟨rfl, rfl, rfl, trivial⟩ (fun w hs => o_made_corners hs (by omega) (by omega) (by omega) (by omega) rs_7 (by first | omega | decide | exact (by decide : 6 ≤ 100) | (intro v hv; simp only [List.mem_cons, List.not_mem_nil, or_false] at hv; omega)) (by first | omega | decide | exact (by decide : 6 ≤ 100) | (intro v hv; simp only [List.mem_cons, List.not_mem_nil, or_false] at hv; omega)) (by first | omega | decide | exact (by decide : 6 ≤ 100) | (intro v hv; simp only [List.mem_cons, List.not_mem_nil, or_false] at hv; omega)) (by first | omega | decide | exact (by decide : 6 ≤ 100) | (intro v hv; simp only [List.mem_cons, List.not_mem_nil, or_false] at hv; omega))) ?_
  intro v16 h2 hh2 r16
  change (rpS (rpT (rpQ 2))).Is h2 v16 (corn z6 z8 [(0 : Int), (0 : Int), (2 : Int), (0 : Int), (2 : Int), (1 : Int), (1 : Int), (1 : Int), (1 : Int), (2 : Int), (0 : Int), (2 : Int)] ([(0 : Int), (0 : Int), (2 : Int), (0 : Int), (2 : Int), (1 : Int), (1 : Int), (1 : Int), (1 : Int), (2 : Int), (0 : Int), (2 : Int)].length / 2)) at r16
  refine zP (new_buildx (ρ := (rpS (rpT (rpQ 2)))) (m := 1) (xs := [corn z6 z8 [(0 : Int), (0 : Int), (2 : Int), (0 : Int), (2 : Int), (1 : Int), (1 : Int), (1 : Int), (1 : Int), (2 : Int), (0 : Int), (2 : Int)] ([(0 : Int), (0 : Int), (2 : Int), (0 : Int), (2 : Int), (1 : Int), (1 : Int), (1 : Int), (1 : Int), (2 : Int), (0 : Int), (2 : Int)].length / 2)]) (ps' := [(0, _)]) Tryz.underlying27 info36 rfl rfl rfl zr_s ⟨rfl, rfl, trivial⟩ (fx_one rfl (Pc.arr (Pc.here _) [] 0 (by decide)) r16 fx_nil) (show 1 * 1 ≤ 16777216 from by decide) (show 0 < 1 from by decide)) rfl rfl rfl ?_
  intro v17 q17 hq17
  obtain ⟨cs17, rfl, rl17⟩ := hq17
  refine asg rfl rfl (zD (zB (zN (gr_in (zO (gq_body1_own rfl rfl ?_))))))
  exact ⟨_, _, (.cons_cons _ (.cons_cons _ (List.Sublist.refl _))), ((((hg6.trans hg8).trans hg10).trans hh1).trans hh2), _, _, _, rfl, by omega, rfl, (by refine ⟨by simp, by simp, fun x hx => ?_⟩; simp only [List.mem_cons, List.not_mem_nil, or_false] at hx; first | (subst hx; exact ⟨by rw [corn_len]; simp, corn_fine (by decide +kernel)⟩) | (subst hx; exact ⟨by rw [corn_len]; simp, tri_fine (by omega) (by omega) (by omega) (by omega) (by omega) (by omega) (by simp)⟩) | (rcases hx with rfl | rfl <;> exact ⟨by rw [corn_len]; simp, corn_fine (by decide +kernel)⟩)), rl17⟩
 refine zC (zA (gv (ov_eql_i (q := 2) rfl rfl) rfl (asg rfl rfl (zD (zB ?_)))))
 refine zH rfl (fun hc18 => ?_) (fun hc18 => ?_)
 ·
  refine gc_keep (e' := [(3, _), (4, _)]) ⟨rfl, rfl, trivial⟩ (zC (zA (mv rfl rfl (mv rfl rfl (zP (new_buildx (ρ := rpI) (m := 8) (xs := [(0 : Int), (0 : Int), (3 : Int), (0 : Int), (3 : Int), (3 : Int), (0 : Int), (3 : Int)]) (ps' := [(0, _), (1, _), (2, _), (3, _), (4, _), (5, _), (6, _), (7, _)]) Tryz.underlying22 info3 rfl rfl rfl zr_i ⟨rfl, rfl, rfl, rfl, rfl, rfl, rfl, rfl, rfl, rfl, rfl, rfl, rfl, rfl, rfl, rfl, trivial⟩ (fx_one rfl (Pc.arr (Pc.here _) (0 : Int) 0 (by decide)) (is_i (by decide) (by decide)) (fx_one rfl (Pc.arr (Pc.here _) (0 : Int) 1 (by decide)) (is_i (by decide) (by decide)) (fx_one rfl (Pc.arr (Pc.here _) (0 : Int) 2 (by decide)) (is_i (by decide) (by decide)) (fx_one rfl (Pc.arr (Pc.here _) (0 : Int) 3 (by decide)) (is_i (by decide) (by decide)) (fx_one rfl (Pc.arr (Pc.here _) (0 : Int) 4 (by decide)) (is_i (by decide) (by decide)) (fx_one rfl (Pc.arr (Pc.here _) (0 : Int) 5 (by decide)) (is_i (by decide) (by decide)) (fx_one rfl (Pc.arr (Pc.here _) (0 : Int) 6 (by decide)) (is_i (by decide) (by decide)) (fx_one rfl (Pc.arr (Pc.here _) (0 : Int) 7 (by decide)) (is_i (by decide) (by decide)) fx_nil)))))))) (show 8 * 1 ≤ 16777216 from by decide) (show 0 < 1 from by decide)) rfl rfl rfl ?_)))))
  intro v22 q22 hq22
  obtain ⟨cs22, rfl, rl22⟩ := hq22
  refine gl_freezex (A := []) (ρ := rpI) rl22 ?_
  intro h1 hh1 rs_8
  refine zJ (vs := [_, _, _]) rfl rfl rfl rfl Tryz.call52 ⟨rfl, rfl, rfl, trivial⟩ (fun w hs => o_made_corners hs (by omega) (by omega) (by omega) (by omega) rs_8 (by first | omega | decide | exact (by decide : 6 ≤ 100) | (intro v hv; simp only [List.mem_cons, List.not_mem_nil, or_false] at hv; omega)) (by first | omega | decide | exact (by decide : 6 ≤ 100) | (intro v hv; simp only [List.mem_cons, List.not_mem_nil, or_false] at hv; omega)) (by first | omega | decide | exact (by decide : 6 ≤ 100) | (intro v hv; simp only [List.mem_cons, List.not_mem_nil, or_false] at hv; omega)) (by first | omega | decide | exact (by decide : 6 ≤ 100) | (intro v hv; simp only [List.mem_cons, List.not_mem_nil, or_false] at hv; omega))) ?_
  intro v23 h2 hh2 r23
  change (rpS (rpT (rpQ 2))).Is h2 v23 (corn z6 z8 [(0 : Int), (0 : Int), (3 : Int), (0 : Int), (3 : Int), (3 : Int), (0 : Int), (3 : Int)] ([(0 : Int), (0 : Int), (3 : Int), (0 : Int), (3 : Int), (3 : Int), (0 : Int), (3 : Int)].length / 2)) at r23
  refine mv rfl rfl (mv rfl rfl (zP (new_buildx (ρ := rpI) (m := 8) (xs := [(1 : Int), (1 : Int), (1 : Int), (2 : Int), (2 : Int), (2 : Int), (2 : Int), (1 : Int)]) (ps' := [(0, _), (1, _), (2, _), (3, _), (4, _), (5, _), (6, _), (7, _)]) Tryz.underlying22 info3 rfl rfl rfl zr_i ⟨rfl, rfl, rfl, rfl, rfl, rfl, rfl, rfl, rfl, rfl, rfl, rfl, rfl, rfl, rfl, rfl, trivial⟩ (fx_one rfl (Pc.arr (Pc.here _) (0 : Int) 0 (by decide)) (is_i (by decide) (by decide)) (fx_one rfl (Pc.arr (Pc.here _) (0 : Int) 1 (by decide)) (is_i (by decide) (by decide)) (fx_one rfl (Pc.arr (Pc.here _) (0 : Int) 2 (by decide)) (is_i (by decide) (by decide)) (fx_one rfl (Pc.arr (Pc.here _) (0 : Int) 3 (by decide)) (is_i (by decide) (by decide)) (fx_one rfl (Pc.arr (Pc.here _) (0 : Int) 4 (by decide)) (is_i (by decide) (by decide)) (fx_one rfl (Pc.arr (Pc.here _) (0 : Int) 5 (by decide)) (is_i (by decide) (by decide)) (fx_one rfl (Pc.arr (Pc.here _) (0 : Int) 6 (by decide)) (is_i (by decide) (by decide)) (fx_one rfl (Pc.arr (Pc.here _) (0 : Int) 7 (by decide)) (is_i (by decide) (by decide)) fx_nil)))))))) (show 8 * 1 ≤ 16777216 from by decide) (show 0 < 1 from by decide)) rfl rfl rfl ?_))
  intro v26 q26 hq26
  obtain ⟨cs26, rfl, rl26⟩ := hq26
  refine gl_freezex (A := []) (ρ := rpI) rl26 ?_
  intro h3 hh3 rs_9
  refine zJ (vs := [_, _, _]) rfl rfl rfl rfl Tryz.call52 ⟨rfl, rfl, rfl, trivial⟩ (fun w hs => o_made_corners hs (by omega) (by omega) (by omega) (by omega) rs_9 (by first | omega | decide | exact (by decide : 6 ≤ 100) | (intro v hv; simp only [List.mem_cons, List.not_mem_nil, or_false] at hv; omega)) (by first | omega | decide | exact (by decide : 6 ≤ 100) | (intro v hv; simp only [List.mem_cons, List.not_mem_nil, or_false] at hv; omega)) (by first | omega | decide | exact (by decide : 6 ≤ 100) | (intro v hv; simp only [List.mem_cons, List.not_mem_nil, or_false] at hv; omega)) (by first | omega | decide | exact (by decide : 6 ≤ 100) | (intro v hv; simp only [List.mem_cons, List.not_mem_nil, or_false] at hv; omega))) ?_
  intro v27 h4 hh4 r27
  change (rpS (rpT (rpQ 2))).Is h4 v27 (corn z6 z8 [(1 : Int), (1 : Int), (1 : Int), (2 : Int), (2 : Int), (2 : Int), (2 : Int), (1 : Int)] ([(1 : Int), (1 : Int), (1 : Int), (2 : Int), (2 : Int), (2 : Int), (2 : Int), (1 : Int)].length / 2)) at r27
  replace r23 := r23.mono (hh3.trans hh4)
  refine zP (new_buildx (ρ := (rpS (rpT (rpQ 2)))) (m := 2) (xs := [corn z6 z8 [(0 : Int), (0 : Int), (3 : Int), (0 : Int), (3 : Int), (3 : Int), (0 : Int), (3 : Int)] ([(0 : Int), (0 : Int), (3 : Int), (0 : Int), (3 : Int), (3 : Int), (0 : Int), (3 : Int)].length / 2), corn z6 z8 [(1 : Int), (1 : Int), (1 : Int), (2 : Int), (2 : Int), (2 : Int), (2 : Int), (1 : Int)] ([(1 : Int), (1 : Int), (1 : Int), (2 : Int), (2 : Int), (2 : Int), (2 : Int), (1 : Int)].length / 2)]) (ps' := [(0, _), (1, _)]) Tryz.underlying27 info36 rfl rfl rfl zr_s ⟨rfl, rfl, rfl, rfl, trivial⟩ (fx_one rfl (Pc.arr (Pc.here _) [] 0 (by decide)) r23 (fx_one rfl (Pc.arr (Pc.here _) [] 1 (by decide)) r27 fx_nil)) (show 2 * 1 ≤ 16777216 from by decide) (show 0 < 1 from by decide)) rfl rfl rfl ?_
  intro v28 q28 hq28
  obtain ⟨cs28, rfl, rl28⟩ := hq28
  refine asg rfl rfl (zD (zL (e' := [(2, _)]) ⟨rfl, trivial⟩ (zB (zN (gr_in (zO (gq_body1_own rfl rfl ?_)))))))
  exact ⟨_, _, (.cons_cons _ (.cons_cons _ (List.Sublist.refl _))), ((((((hg6.trans hg8).trans hg10).trans hh1).trans hh2).trans hh3).trans hh4), _, _, _, rfl, by omega, rfl, (by refine ⟨by simp, by simp, fun x hx => ?_⟩; simp only [List.mem_cons, List.not_mem_nil, or_false] at hx; first | (subst hx; exact ⟨by rw [corn_len]; simp, corn_fine (by decide +kernel)⟩) | (subst hx; exact ⟨by rw [corn_len]; simp, tri_fine (by omega) (by omega) (by omega) (by omega) (by omega) (by omega) (by simp)⟩) | (rcases hx with rfl | rfl <;> exact ⟨by rw [corn_len]; simp, corn_fine (by decide +kernel)⟩)), rl28⟩
 refine gc_keep (e' := [(0, _), (3, _), (4, _), (10, _)]) ⟨rfl, rfl, rfl, rfl, trivial⟩ (zC (zA (gv (ov_eql_i (q := 3) rfl rfl) rfl (asg rfl rfl (zD (zB ?_))))))
 refine zH rfl (fun hc29 => ?_) (fun hc29 => ?_)
 ·
  refine zC (zA (mv rfl rfl (mv rfl rfl (zP (new_buildx (ρ := rpI) (m := 8) (xs := [(0 : Int), (0 : Int), (3 : Int), (0 : Int), (3 : Int), (3 : Int), (0 : Int), (3 : Int)]) (ps' := [(0, _), (1, _), (2, _), (3, _), (4, _), (5, _), (6, _), (7, _)]) Tryz.underlying22 info3 rfl rfl rfl zr_i ⟨rfl, rfl, rfl, rfl, rfl, rfl, rfl, rfl, rfl, rfl, rfl, rfl, rfl, rfl, rfl, rfl, trivial⟩ (fx_one rfl (Pc.arr (Pc.here _) (0 : Int) 0 (by decide)) (is_i (by decide) (by decide)) (fx_one rfl (Pc.arr (Pc.here _) (0 : Int) 1 (by decide)) (is_i (by decide) (by decide)) (fx_one rfl (Pc.arr (Pc.here _) (0 : Int) 2 (by decide)) (is_i (by decide) (by decide)) (fx_one rfl (Pc.arr (Pc.here _) (0 : Int) 3 (by decide)) (is_i (by decide) (by decide)) (fx_one rfl (Pc.arr (Pc.here _) (0 : Int) 4 (by decide)) (is_i (by decide) (by decide)) (fx_one rfl (Pc.arr (Pc.here _) (0 : Int) 5 (by decide)) (is_i (by decide) (by decide)) (fx_one rfl (Pc.arr (Pc.here _) (0 : Int) 6 (by decide)) (is_i (by decide) (by decide)) (fx_one rfl (Pc.arr (Pc.here _) (0 : Int) 7 (by decide)) (is_i (by decide) (by decide)) fx_nil)))))))) (show 8 * 1 ≤ 16777216 from by decide) (show 0 < 1 from by decide)) rfl rfl rfl ?_))))
  intro v33 q33 hq33
  obtain ⟨cs33, rfl, rl33⟩ := hq33
  refine gl_freezex (A := []) (ρ := rpI) rl33 ?_
  intro h1 hh1 rs_10
  refine zJ (vs := [_, _, _]) rfl rfl rfl rfl Tryz.call52 ⟨rfl, rfl, rfl, trivial⟩ (fun w hs => o_made_corners hs (by omega) (by omega) (by omega) (by omega) rs_10 (by first | omega | decide | exact (by decide : 6 ≤ 100) | (intro v hv; simp only [List.mem_cons, List.not_mem_nil, or_false] at hv; omega)) (by first | omega | decide | exact (by decide : 6 ≤ 100) | (intro v hv; simp only [List.mem_cons, List.not_mem_nil, or_false] at hv; omega)) (by first | omega | decide | exact (by decide : 6 ≤ 100) | (intro v hv; simp only [List.mem_cons, List.not_mem_nil, or_false] at hv; omega)) (by first | omega | decide | exact (by decide : 6 ≤ 100) | (intro v hv; simp only [List.mem_cons, List.not_mem_nil, or_false] at hv; omega))) ?_
  intro v34 h2 hh2 r34
  change (rpS (rpT (rpQ 2))).Is h2 v34 (corn z6 z8 [(0 : Int), (0 : Int), (3 : Int), (0 : Int), (3 : Int), (3 : Int), (0 : Int), (3 : Int)] ([(0 : Int), (0 : Int), (3 : Int), (0 : Int), (3 : Int), (3 : Int), (0 : Int), (3 : Int)].length / 2)) at r34
  refine mv rfl rfl (mv rfl rfl (zP (new_buildx (ρ := rpI) (m := 6) (xs := [(1 : Int), (1 : Int), (0 : Int), (0 : Int), (1 : Int), (2 : Int)]) (ps' := [(0, _), (1, _), (2, _), (3, _), (4, _), (5, _)]) Tryz.underlying22 info3 rfl rfl rfl zr_i ⟨rfl, rfl, rfl, rfl, rfl, rfl, rfl, rfl, rfl, rfl, rfl, rfl, trivial⟩ (fx_one rfl (Pc.arr (Pc.here _) (0 : Int) 0 (by decide)) (is_i (by decide) (by decide)) (fx_one rfl (Pc.arr (Pc.here _) (0 : Int) 1 (by decide)) (is_i (by decide) (by decide)) (fx_one rfl (Pc.arr (Pc.here _) (0 : Int) 2 (by decide)) (is_i (by decide) (by decide)) (fx_one rfl (Pc.arr (Pc.here _) (0 : Int) 3 (by decide)) (is_i (by decide) (by decide)) (fx_one rfl (Pc.arr (Pc.here _) (0 : Int) 4 (by decide)) (is_i (by decide) (by decide)) (fx_one rfl (Pc.arr (Pc.here _) (0 : Int) 5 (by decide)) (is_i (by decide) (by decide)) fx_nil)))))) (show 6 * 1 ≤ 16777216 from by decide) (show 0 < 1 from by decide)) rfl rfl rfl ?_))
  intro v37 q37 hq37
  obtain ⟨cs37, rfl, rl37⟩ := hq37
  refine gl_freezex (A := []) (ρ := rpI) rl37 ?_
  intro h3 hh3 rs_11
  refine zJ (vs := [_, _, _]) rfl rfl rfl rfl Tryz.call52 ⟨rfl, rfl, rfl, trivial⟩ (fun w hs => o_made_corners hs (by omega) (by omega) (by omega) (by omega) rs_11 (by first | omega | decide | exact (by decide : 6 ≤ 100) | (intro v hv; simp only [List.mem_cons, List.not_mem_nil, or_false] at hv; omega)) (by first | omega | decide | exact (by decide : 6 ≤ 100) | (intro v hv; simp only [List.mem_cons, List.not_mem_nil, or_false] at hv; omega)) (by first | omega | decide | exact (by decide : 6 ≤ 100) | (intro v hv; simp only [List.mem_cons, List.not_mem_nil, or_false] at hv; omega)) (by first | omega | decide | exact (by decide : 6 ≤ 100) | (intro v hv; simp only [List.mem_cons, List.not_mem_nil, or_false] at hv; omega))) ?_
  intro v38 h4 hh4 r38
  change (rpS (rpT (rpQ 2))).Is h4 v38 (corn z6 z8 [(1 : Int), (1 : Int), (0 : Int), (0 : Int), (1 : Int), (2 : Int)] ([(1 : Int), (1 : Int), (0 : Int), (0 : Int), (1 : Int), (2 : Int)].length / 2)) at r38
  replace r34 := r34.mono (hh3.trans hh4)
  refine zP (new_buildx (ρ := (rpS (rpT (rpQ 2)))) (m := 2) (xs := [corn z6 z8 [(0 : Int), (0 : Int), (3 : Int), (0 : Int), (3 : Int), (3 : Int), (0 : Int), (3 : Int)] ([(0 : Int), (0 : Int), (3 : Int), (0 : Int), (3 : Int), (3 : Int), (0 : Int), (3 : Int)].length / 2), corn z6 z8 [(1 : Int), (1 : Int), (0 : Int), (0 : Int), (1 : Int), (2 : Int)] ([(1 : Int), (1 : Int), (0 : Int), (0 : Int), (1 : Int), (2 : Int)].length / 2)]) (ps' := [(0, _), (1, _)]) Tryz.underlying27 info36 rfl rfl rfl zr_s ⟨rfl, rfl, rfl, rfl, trivial⟩ (fx_one rfl (Pc.arr (Pc.here _) [] 0 (by decide)) r34 (fx_one rfl (Pc.arr (Pc.here _) [] 1 (by decide)) r38 fx_nil)) (show 2 * 1 ≤ 16777216 from by decide) (show 0 < 1 from by decide)) rfl rfl rfl ?_
  intro v39 q39 hq39
  obtain ⟨cs39, rfl, rl39⟩ := hq39
  refine asg rfl rfl (zD (zL (e' := [(2, _)]) ⟨rfl, trivial⟩ (zB (zN (gr_in (zO (gq_body1_own rfl rfl ?_)))))))
  exact ⟨_, _, (.cons_cons _ (.cons_cons _ (List.Sublist.refl _))), ((((((hg6.trans hg8).trans hg10).trans hh1).trans hh2).trans hh3).trans hh4), _, _, _, rfl, by omega, rfl, (by refine ⟨by simp, by simp, fun x hx => ?_⟩; simp only [List.mem_cons, List.not_mem_nil, or_false] at hx; first | (subst hx; exact ⟨by rw [corn_len]; simp, corn_fine (by decide +kernel)⟩) | (subst hx; exact ⟨by rw [corn_len]; simp, tri_fine (by omega) (by omega) (by omega) (by omega) (by omega) (by omega) (by simp)⟩) | (rcases hx with rfl | rfl <;> exact ⟨by rw [corn_len]; simp, corn_fine (by decide +kernel)⟩)), rl39⟩
 refine zC (zA (gv (ov_eql_i (q := 4) rfl rfl) rfl (asg rfl rfl (zD (zB ?_)))))
 refine zH rfl (fun hc40 => ?_) (fun hc40 => ?_)
 ·
  refine zC (zA (mv rfl rfl (mv rfl rfl (zP (new_buildx (ρ := rpI) (m := 10) (xs := [(0 : Int), (0 : Int), (1 : Int), (0 : Int), (2 : Int), (0 : Int), (2 : Int), (2 : Int), (0 : Int), (1 : Int)]) (ps' := [(0, _), (1, _), (2, _), (3, _), (4, _), (5, _), (6, _), (7, _), (8, _), (9, _)]) Tryz.underlying22 info3 rfl rfl rfl zr_i ⟨rfl, rfl, rfl, rfl, rfl, rfl, rfl, rfl, rfl, rfl, rfl, rfl, rfl, rfl, rfl, rfl, rfl, rfl, rfl, rfl, trivial⟩ (fx_one rfl (Pc.arr (Pc.here _) (0 : Int) 0 (by decide)) (is_i (by decide) (by decide)) (fx_one rfl (Pc.arr (Pc.here _) (0 : Int) 1 (by decide)) (is_i (by decide) (by decide)) (fx_one rfl (Pc.arr (Pc.here _) (0 : Int) 2 (by decide)) (is_i (by decide) (by decide)) (fx_one rfl (Pc.arr (Pc.here _) (0 : Int) 3 (by decide)) (is_i (by decide) (by decide)) (fx_one rfl (Pc.arr (Pc.here _) (0 : Int) 4 (by decide)) (is_i (by decide) (by decide)) (fx_one rfl (Pc.arr (Pc.here _) (0 : Int) 5 (by decide)) (is_i (by decide) (by decide)) (fx_one rfl (Pc.arr (Pc.here _) (0 : Int) 6 (by decide)) (is_i (by decide) (by decide)) (fx_one rfl (Pc.arr (Pc.here _) (0 : Int) 7 (by decide)) (is_i (by decide) (by decide)) (fx_one rfl (Pc.arr (Pc.here _) (0 : Int) 8 (by decide)) (is_i (by decide) (by decide)) (fx_one rfl (Pc.arr (Pc.here _) (0 : Int) 9 (by decide)) (is_i (by decide) (by decide)) fx_nil)))))))))) (show 10 * 1 ≤ 16777216 from by decide) (show 0 < 1 from by decide)) rfl rfl rfl ?_))))
  intro v44 q44 hq44
  obtain ⟨cs44, rfl, rl44⟩ := hq44
  refine gl_freezex (A := []) (ρ := rpI) rl44 ?_
  intro h1 hh1 rs_12
  refine zJ (vs := [_, _, _]) rfl rfl rfl rfl Tryz.call52 ⟨rfl, rfl, rfl, trivial⟩ (fun w hs => o_made_corners hs (by omega) (by omega) (by omega) (by omega) rs_12 (by first | omega | decide | exact (by decide : 6 ≤ 100) | (intro v hv; simp only [List.mem_cons, List.not_mem_nil, or_false] at hv; omega)) (by first | omega | decide | exact (by decide : 6 ≤ 100) | (intro v hv; simp only [List.mem_cons, List.not_mem_nil, or_false] at hv; omega)) (by first | omega | decide | exact (by decide : 6 ≤ 100) | (intro v hv; simp only [List.mem_cons, List.not_mem_nil, or_false] at hv; omega)) (by first | omega | decide | exact (by decide : 6 ≤ 100) | (intro v hv; simp only [List.mem_cons, List.not_mem_nil, or_false] at hv; omega))) ?_
  intro v45 h2 hh2 r45
  change (rpS (rpT (rpQ 2))).Is h2 v45 (corn z6 z8 [(0 : Int), (0 : Int), (1 : Int), (0 : Int), (2 : Int), (0 : Int), (2 : Int), (2 : Int), (0 : Int), (1 : Int)] ([(0 : Int), (0 : Int), (1 : Int), (0 : Int), (2 : Int), (0 : Int), (2 : Int), (2 : Int), (0 : Int), (1 : Int)].length / 2)) at r45
  refine zP (new_buildx (ρ := (rpS (rpT (rpQ 2)))) (m := 1) (xs := [corn z6 z8 [(0 : Int), (0 : Int), (1 : Int), (0 : Int), (2 : Int), (0 : Int), (2 : Int), (2 : Int), (0 : Int), (1 : Int)] ([(0 : Int), (0 : Int), (1 : Int), (0 : Int), (2 : Int), (0 : Int), (2 : Int), (2 : Int), (0 : Int), (1 : Int)].length / 2)]) (ps' := [(0, _)]) Tryz.underlying27 info36 rfl rfl rfl zr_s ⟨rfl, rfl, trivial⟩ (fx_one rfl (Pc.arr (Pc.here _) [] 0 (by decide)) r45 fx_nil) (show 1 * 1 ≤ 16777216 from by decide) (show 0 < 1 from by decide)) rfl rfl rfl ?_
  intro v46 q46 hq46
  obtain ⟨cs46, rfl, rl46⟩ := hq46
  refine asg rfl rfl (zD (zL (e' := [(2, _)]) ⟨rfl, trivial⟩ (zB (zN (gr_in (zO (gq_body1_own rfl rfl ?_)))))))
  exact ⟨_, _, (.cons_cons _ (.cons_cons _ (List.Sublist.refl _))), ((((hg6.trans hg8).trans hg10).trans hh1).trans hh2), _, _, _, rfl, by omega, rfl, (by refine ⟨by simp, by simp, fun x hx => ?_⟩; simp only [List.mem_cons, List.not_mem_nil, or_false] at hx; first | (subst hx; exact ⟨by rw [corn_len]; simp, corn_fine (by decide +kernel)⟩) | (subst hx; exact ⟨by rw [corn_len]; simp, tri_fine (by omega) (by omega) (by omega) (by omega) (by omega) (by omega) (by simp)⟩) | (rcases hx with rfl | rfl <;> exact ⟨by rw [corn_len]; simp, corn_fine (by decide +kernel)⟩)), rl46⟩
 refine zI (gq_in (zB (zC (zA (mv rfl rfl (mv rfl rfl (mv rfl rfl ?_)))))))
 replace hl := hl.mono hg10
 refine gl_call_mut2 (A := []) (vs := [_, vI (3)]) Tryz.call15 ⟨rfl, rfl, trivial⟩ (fun X w hs => dice_next hl (by first | omega | exact Nat.zero_le _) (by omega) (by omega) hs) rfl ?_
 intro v50 g50 q50 hg50 hr50
 obtain ⟨k50, z50, rfl, hk50, rfl, hz50, hy50⟩ := hr50
 refine gv (zV (p := 1) rfl rfl (by omega) (by omega)) rfl (mv rfl rfl ?_)
 replace hl := hl.mono hg50
 refine gl_call_mut2 (A := []) (vs := [_, vI (2)]) Tryz.call15 ⟨rfl, rfl, trivial⟩ (fun X w hs => dice_next hl (by first | omega | exact Nat.zero_le _) (by omega) (by omega) hs) rfl ?_
 intro v53 g53 q53 hg53 hr53
 obtain ⟨k53, z53, rfl, hk53, rfl, hz53, hy53⟩ := hr53
 refine mv rfl rfl ?_
 replace hl := hl.mono hg53
 refine gl_call_mut2 (A := []) (vs := [_, vI (2)]) Tryz.call15 ⟨rfl, rfl, trivial⟩ (fun X w hs => dice_next hl (by first | omega | exact Nat.zero_le _) (by omega) (by omega) hs) rfl ?_
 intro v55 g55 q55 hg55 hr55
 obtain ⟨k55, z55, rfl, hk55, rfl, hz55, hy55⟩ := hr55
 refine gv (zV (p := 1) rfl rfl (by omega) (by omega)) rfl (zP (new_buildx (ρ := rpI) (m := 6) (xs := [(0 : Int), (0 : Int), ((1 : Int) + z50), (0 : Int), z53, ((1 : Int) + z55)]) (ps' := [(0, _), (1, _), (2, _), (3, _), (4, _), (5, _)]) Tryz.underlying22 info3 rfl rfl rfl zr_i ⟨rfl, rfl, rfl, rfl, rfl, rfl, rfl, rfl, rfl, rfl, rfl, rfl, trivial⟩ (fx_one rfl (Pc.arr (Pc.here _) (0 : Int) 0 (by decide)) (is_i (by decide) (by decide)) (fx_one rfl (Pc.arr (Pc.here _) (0 : Int) 1 (by decide)) (is_i (by decide) (by decide)) (fx_one rfl (Pc.arr (Pc.here _) (0 : Int) 2 (by decide)) (is_i (by omega) (by omega)) (fx_one rfl (Pc.arr (Pc.here _) (0 : Int) 3 (by decide)) (is_i (by decide) (by decide)) (fx_one rfl (Pc.arr (Pc.here _) (0 : Int) 4 (by decide)) (is_i (by omega) (by omega)) (fx_one rfl (Pc.arr (Pc.here _) (0 : Int) 5 (by decide)) (is_i (by omega) (by omega)) fx_nil)))))) (show 6 * 1 ≤ 16777216 from by decide) (show 0 < 1 from by decide)) rfl rfl rfl ?_)
 intro v57 q57 hq57
 obtain ⟨cs57, rfl, rl57⟩ := hq57
 refine gl_freezex (A := []) (ρ := rpI) rl57 ?_
 intro h1 hh1 rs_13
 refine zJ (vs := [_, _, _]) rfl rfl rfl rfl Tryz.call52 ⟨rfl, rfl, rfl, trivial⟩ (fun w hs => o_made_corners hs (by omega) (by omega) (by omega) (by omega) rs_13 (by first | omega | decide | exact (by decide : 6 ≤ 100) | (intro v hv; simp only [List.mem_cons, List.not_mem_nil, or_false] at hv; omega)) (by first | omega | decide | exact (by decide : 6 ≤ 100) | (intro v hv; simp only [List.mem_cons, List.not_mem_nil, or_false] at hv; omega)) (by first | omega | decide | exact (by decide : 6 ≤ 100) | (intro v hv; simp only [List.mem_cons, List.not_mem_nil, or_false] at hv; omega)) (by first | omega | decide | exact (by decide : 6 ≤ 100) | (intro v hv; simp only [List.mem_cons, List.not_mem_nil, or_false] at hv; omega))) ?_
 intro v58 h2 hh2 r58
 change (rpS (rpT (rpQ 2))).Is h2 v58 (corn z6 z8 [(0 : Int), (0 : Int), ((1 : Int) + z50), (0 : Int), z53, ((1 : Int) + z55)] ([(0 : Int), (0 : Int), ((1 : Int) + z50), (0 : Int), z53, ((1 : Int) + z55)].length / 2)) at r58
 refine zP (new_buildx (ρ := (rpS (rpT (rpQ 2)))) (m := 1) (xs := [corn z6 z8 [(0 : Int), (0 : Int), ((1 : Int) + z50), (0 : Int), z53, ((1 : Int) + z55)] ([(0 : Int), (0 : Int), ((1 : Int) + z50), (0 : Int), z53, ((1 : Int) + z55)].length / 2)]) (ps' := [(0, _)]) Tryz.underlying27 info36 rfl rfl rfl zr_s ⟨rfl, rfl, trivial⟩ (fx_one rfl (Pc.arr (Pc.here _) [] 0 (by decide)) r58 fx_nil) (show 1 * 1 ≤ 16777216 from by decide) (show 0 < 1 from by decide)) rfl rfl rfl ?_
 intro v59 q59 hq59
 obtain ⟨cs59, rfl, rl59⟩ := hq59
 refine asg rfl rfl (zD (zL (e' := [(2, _)]) ⟨rfl, trivial⟩ (zB (zN (gq_body1_own rfl rfl ?_)))))
 exact ⟨_, _, (.cons_cons _ (.cons_cons _ (List.Sublist.refl _))), (((((((hg6.trans hg8).trans hg10).trans hg50).trans hg53).trans hg55).trans hh1).trans hh2), _, _, _, rfl, by omega, rfl, (by refine ⟨by simp, by simp, fun x hx => ?_⟩; simp only [List.mem_cons, List.not_mem_nil, or_false] at hx; first | (subst hx; exact ⟨by rw [corn_len]; simp, corn_fine (by decide +kernel)⟩) | (subst hx; exact ⟨by rw [corn_len]; simp, tri_fine (by omega) (by omega) (by omega) (by omega) (by omega) (by omega) (by simp)⟩) | (rcases hx with rfl | rfl <;> exact ⟨by rw [corn_len]; simp, corn_fine (by decide +kernel)⟩)), rl59⟩

theorem o_dice_loops {w0 w : World} {h0 h : Mem} {b k : Nat} {vl : Value} {xs : List Int} (hl : Is h vl xs) (hk : k ≤ xs.length) {L : List Res} (hs : St w0 h0 (.var b 57 [vl, vI ↑k] :: L) h w) :
    Calls Tryz.prog 34 #[vP b 0] w (RetMutO w0 h0 h L (fun g r q' o => ∃ k' : Nat, ∃ m : List (List (T3 Rat)), ∃ cs : List Value, q' = .var b 57 [vl, vI ↑k'] ∧ k' ≤ xs.length ∧ o = .gs 36 1 r m.length cs ∧ (okL 4 m) ∧ RL (rpS (rpT (rpQ 2))) g cs m)) := by
 have hlen := hl.lt63
 refine calls_begin_st (n := 18) (e := [(0, vP b 0)]) (vs := [vP b 0]) Tryz.func34 rfl rfl (Nat.le_of_ble_eq_true rfl) hs ⟨rfl, trivial⟩ (zC (zA (asg rfl rfl (zD (zB (zC (zA (asg rfl rfl (zD (zB (zC (zC (zA ?_)))))))))))))
 refine mv rfl rfl ?_
 refine gl_call_mut2 (A := []) (vs := [_, vI (3)]) Tryz.call15 ⟨rfl, rfl, trivial⟩ (fun X w hs => dice_next hl (by first | omega | exact Nat.zero_le _) (by omega) (by omega) hs) rfl ?_
 intro v6 g6 q6 hg6 hr6
 obtain ⟨k6, z6, rfl, hk6, rfl, hz6, hy6⟩ := hr6
 refine gv (zV (p := 1) rfl rfl (by omega) (by omega)) rfl (asg rfl rfl (zD (zB (zQ (gc_nilown 36 1 ?_)))))
 have rl_14 : RL (rpS (rpT (rpQ 2))) g6 [] ([] : List (List (T3 Rat))) := RL.nil
 refine gc_loop (ι := Nat × List (List (T3 Rat)) × Value × List Value × Nat × Mem) (fun (n, M, s3_15, cs_16, kd_18, ma) => MLe g6 ma ∧ (RL (rpS (rpT (rpQ 2))) ma cs_16 M ∧ kd_18 ≤ xs.length ∧ n + M.length ≤ 4 ∧ 0 < n + M.length ∧ ∀ x, x ∈ M → x.length ≤ 8 ∧ fineL x)) (fun (n, M, s3_15, cs_16, kd_18, ma) => [(0, vP b 0), (3, s3_15), (4, vI ↑n)]) (fun (n, M, s3_15, cs_16, kd_18, ma) => (.gs 36 1 s3_15 M.length cs_16 :: .var b 57 [vl, vI ↑kd_18] :: L)) (fun (n, M, s3_15, cs_16, kd_18, ma) => ma) (fun (n, M, s3_15, cs_16, kd_18, ma) => n) ((1 + z6.toNat), [], (.slice none 0 0), [], k6, g6) ?_ ⟨?_, ?_, ?_, trivial⟩ rfl rfl ?_
 ·
  refine ⟨MLe.refl _, ?_⟩
  refine ⟨rl_14, (by omega), ?_⟩
  exact ⟨by simp only [List.length_nil]; omega, by omega, fun x hx => absurd hx (List.not_mem_nil)⟩
 · exact rfl
 · exact rfl
 · exact congrArg (fun z => some (vI z)) (by omega)
 intro x hx
 obtain ⟨n, M, s3_15, cs_16, kd_18, ma⟩ := x
 obtain ⟨hmma, hinv⟩ := hx
 show GC _ _ _ _ _ _ [(0, vP b 0), (3, s3_15), (4, vI ↑n)] (.gs 36 1 s3_15 M.length cs_16 :: .var b 57 [vl, vI ↑kd_18] :: L) ma
 obtain ⟨rl_17, hkd_19, hinv⟩ := hinv
 obtain ⟨hn1, hn2, hn3⟩ := hinv
 refine zC (zC (zA (mv rfl rfl (gv (ov_gtr_i (q := 0) rfl rfl) rfl (zD (zB ?_))))))
 refine zH rfl (fun hc9 => ?_) (fun hc9 => ?_)
 ·
  refine zI (zB (zC (zQ (zA (mv rfl rfl (mv rfl rfl ?_))))))
  replace hl := hl.mono (hg6.trans hmma)
  refine gl_call_mut2 (A := [_]) (vs := [_]) Tryz.call21 ⟨rfl, trivial⟩ (fun X w hs => o_dice_loop hl (by first | omega | exact Nat.zero_le _) hs) rfl ?_
  intro v14 g14 q14 hg14 hr14
  obtain ⟨k14, p14, rfl, hk14, hx14, hr14⟩ := hr14
  refine zP (new_buildx (ρ := (rpS (rpT (rpQ 2)))) (m := 1) (xs := [p14]) (ps' := [(0, _)]) Tryz.underlying27 info36 rfl rfl rfl zr_s ⟨rfl, rfl, trivial⟩ (fx_one rfl (Pc.arr (Pc.here _) [] 0 (by decide)) hr14 fx_nil) (show 1 * 1 ≤ 16777216 from by decide) (show 0 < 1 from by decide)) rfl rfl rfl ?_
  intro v15 q15 hq15
  obtain ⟨cs15, rfl, rl15⟩ := hq15
  refine gl_freezex (A := []) (ρ := (rpS (rpT (rpQ 2)))) rl15 ?_
  intro h1 hh1 rs_20
  replace rl_17 := rl_17.mono (hg14.trans hh1)
  refine gl_repop (A := []) (rep_appendx (ρ := (rpS (rpT (rpQ 2)))) (bytes := 24) Tryz.underlying27 info36 rfl rfl rfl rfl (by decide) rfl rfl rl_17 rs_20 (by first | omega | (simp only [List.length_append, List.length_cons, List.length_nil, List.length_replicate, List.length_set]; omega)) (by first | omega | (simp only [List.length_append, List.length_cons, List.length_nil, List.length_replicate, List.length_set]; omega))) rfl rfl rfl ?_
  intro v16 q16 hq16
  obtain ⟨cs16, rfl, rl16⟩ := hq16
  refine asg rfl rfl (zD (gq_in (zB (zA (mv rfl rfl (gv (ov_sub_i (q := 1) rfl rfl (by omega) (by omega)) rfl (asg rfl rfl (zD ?_))))))))
  refine yJ ((n - 1), (M ++ [p14]), v16, cs16, k14, h1) ?_ ?_ ⟨rfl, rfl, ?_, trivial⟩ rfl rfl
  ·
   refine ⟨((hmma.trans hg14).trans hh1), ?_⟩
   refine ⟨rl16, (by omega), ?_⟩
   exact ⟨by simp only [List.length_append, List.length_cons, List.length_nil]; omega, by simp only [List.length_append, List.length_cons, List.length_nil]; omega, fun x hx => by rcases List.mem_append.1 hx with hx | hx; exact hn3 x hx; simp only [List.mem_cons, List.not_mem_nil, or_false] at hx; subst hx; exact hx14⟩
  ·
   dsimp only
   omega
  · exact congrArg (fun z => some (vI z)) (by omega)
 refine gc_exit (zZ (zZ (gx_here (zB (zC (zA (mv rfl rfl (asg rfl rfl (zD (zB (zN (gq_body1_own rfl rfl ?_))))))))))))
 exact ⟨_, _, (.cons_cons _ (.cons_cons _ (List.Sublist.refl _))), (hg6.trans hmma), _, _, _, rfl, by omega, rfl, ⟨by omega, by omega, hn3⟩, rl_17⟩

end Go.Proofs.YtfpjclgbieppeaaGreat


namespace Bk
set_option linter.unusedVariables false
set_option linter.unusedSimpArgs false
open Go Go.RowKit
open Classical

abbrev Pl := Pt × Rat
noncomputable def axI (n : Pt) : Nat := if 0 < n.z then 0 else if n.z < 0 then 1 else if 0 < n.y then 2 else if n.y < 0 then 0 else if 0 < n.x then 1 else if n.x < 0 then 2 else 1
noncomputable def axJ (n : Pt) : Nat := if 0 < n.z then 1 else if n.z < 0 then 0 else if 0 < n.y then 0 else if n.y < 0 then 2 else if 0 < n.x then 2 else if n.x < 0 then 1 else 2
noncomputable def axK (n : Pt) : Nat := if n.z ≠ 0 then 2 else if n.y ≠ 0 then 1 else 0
noncomputable def flatZ (pl : Pl) (p : Pt) : Pt := T3.mk (p.at (axI pl.1)) (p.at (axJ pl.1)) (0 : Rat)
noncomputable def liftQ (pl : Pl) (q : Pt) : Rat := if pl.1.at (axK pl.1) = 0 then 0 else (pl.2 - (pl.1.at (axI pl.1) * q.x + pl.1.at (axJ pl.1) * q.y)) / pl.1.at (axK pl.1)
noncomputable def liftZ (pl : Pl) (q : Pt) : Pt := if pl.1.at (axK pl.1) = 0 then T3.mk (0 : Rat) (0 : Rat) (0 : Rat) else (((T3.mk (0 : Rat) (0 : Rat) (0 : Rat)).set (axI pl.1) q.x).set (axJ pl.1) q.y).set (axK pl.1) (liftQ pl q)
def dotT (a b : Pt) : Rat := a.x * b.x + a.y * b.y + a.z * b.z
def crossT (a b : Pt) : Pt := T3.mk (a.y * b.z - a.z * b.y) (a.z * b.x - a.x * b.z) (a.x * b.y - a.y * b.x)
def subT (a b : Pt) : Pt := T3.mk (a.x - b.x) (a.y - b.y) (a.z - b.z)
end Bk


namespace Go.Proofs.YtfpjclgbieppeaaGreat
open Bk Go
set_option linter.unusedVariables false
set_option linter.unusedSimpArgs false
set_option maxRecDepth 10000

theorem o_dice_bool {w0 w : World} {h0 h : Mem} {b k : Nat} {vl : Value} {xs : List Int} (hl : Is h vl xs) (hk : k ≤ xs.length) {n : Int} (hn : 0 < n) (hn2 : n < 4611686018427387904) {L : List Res} (hs : St w0 h0 (.var b 57 [vl, vI ↑k] :: L) h w) :
    Calls Tryz.prog 11 #[vP b 0, vI n] w (RetMut w0 h0 h L (fun g r q' => ∃ k' : Nat, ∃ p : Prop, q' = .var b 57 [vl, vI ↑k'] ∧ k' ≤ xs.length ∧ r = vB p)) := by
 have hlen := hl.lt63
 refine calls_begin_st (n := 11) (e := [(0, vP b 0), (1, vI n)]) (vs := [vP b 0, vI n]) Tryz.func11 rfl rfl (Nat.le_of_ble_eq_true rfl) hs ⟨rfl, rfl, trivial⟩ (zC (zA (asg rfl rfl (zD (zB (zC (zA (mv rfl rfl (mv rfl rfl ?_)))))))))
 refine gl_call_mut2 (A := []) (vs := [_, _]) Tryz.call15 ⟨rfl, rfl, trivial⟩ (fun X w hs => dice_next hl (by first | omega | exact Nat.zero_le _) (by omega) (by omega) hs) rfl ?_
 intro v7 g7 q7 hg7 hr7
 obtain ⟨k7, z7, rfl, hk7, rfl, hz7, hy7⟩ := hr7
 refine mv rfl rfl (gv (ov_sub_i (q := 1) rfl rfl (by omega) (by omega)) rfl (gv (ov_eql_i rfl rfl) rfl (asg rfl rfl (zD (zB (zN (gq_body1_own rfl rfl ?_)))))))
 exact ⟨_, (List.Sublist.refl _), hg7, _, _, rfl, by omega, rfl⟩

end Go.Proofs.YtfpjclgbieppeaaGreat


namespace Go.Proofs.YtfpjclgbieppeaaGreat
open Bk Go
set_option linter.unusedVariables false
set_option linter.unusedSimpArgs false
set_option maxRecDepth 10000

theorem o_law_loops {w0 w : World} {h0 h : Mem} {b k : Nat} {vl : Value} {xs : List Int} (hl : Is h vl xs) (hk : k ≤ xs.length) {L : List Res} (hs : St w0 h0 (.var b 57 [vl, vI ↑k] :: L) h w) :
    Calls Tryz.prog 9 #[vP b 0] w (RetMutO w0 h0 h L (fun g r q' o => ∃ k' : Nat, ∃ m : List (List (T3 Rat)), ∃ cs : List Value, q' = .var b 57 [vl, vI ↑k'] ∧ k' ≤ xs.length ∧ o = .gs 36 1 r m.length cs ∧ (okL 6 m) ∧ RL (rpS (rpT (rpQ 2))) g cs m)) := by
 have hlen := hl.lt63
 refine calls_begin_st (n := 66) (e := [(0, vP b 0)]) (vs := [vP b 0]) Tryz.func9 rfl rfl (Nat.le_of_ble_eq_true rfl) hs ⟨rfl, trivial⟩ (zC (zA (asg rfl rfl (zD (zB (zC (zC (zA (mv rfl rfl ?_)))))))))
 refine gl_call_mut2 (A := []) (vs := [_, vI (2)]) Tryz.call11 ⟨rfl, rfl, trivial⟩ (fun X w hs => o_dice_bool hl (by first | omega | exact Nat.zero_le _) (by omega) (by omega) hs) rfl ?_
 intro v8 g8 q8 hg8 hr8
 obtain ⟨k8, P8, rfl, hk8, rfl⟩ := hr8
 refine zD (zB ?_)
 refine zH rfl (fun hc8 => ?_) (fun hc8 => ?_)
 ·
  refine zC (zA (mv rfl rfl ?_))
  replace hl := hl.mono hg8
  refine gl_call_mutO (A := []) (vs := [_]) Tryz.call34 ⟨rfl, trivial⟩ (fun X w hs => o_dice_loops hl (by first | omega | exact Nat.zero_le _) hs) rfl ?_
  intro v10 g10 q10 o10 hg10 hr10
  obtain ⟨k10, p10, cs10, rfl, hk10, rfl, hx10, rl10⟩ := hr10
  refine asg rfl rfl (zD (zB (zN (zO (gq_body1_own rfl rfl ?_)))))
  exact ⟨_, _, (.cons_cons _ (.cons_cons _ (List.Sublist.refl _))), (hg8.trans hg10), _, _, _, rfl, by omega, rfl, (by first | exact hx10.mono (by omega) | exact hM2.put ⟨hl8, fine_rev (rv_all hrv (by omega)) (okL.fit hM2 0).2⟩ | exact hM2), rl10⟩
 refine zI (zB (zC (zA (mv rfl rfl ?_))))
 replace hl := hl.mono hg8
 refine gl_call_mutO (A := []) (vs := [_]) Tryz.call28 ⟨rfl, trivial⟩ (fun X w hs => o_dice_base hl (by first | omega | exact Nat.zero_le _) hs) rfl ?_
 intro v12 g12 q12 o12 hg12 hr12
 obtain ⟨k12, p12, cs12, rfl, hk12, rfl, hx12, rl12⟩ := hr12
 refine asg rfl rfl (zD (zB ?_))
 refine gc_cut (ι := List (List (T3 Rat)) × Value × List Value × Nat × Mem) (fun (M1, s3_1, cs_2, kd_4, m1) => MLe g12 m1 ∧ (RL (rpS (rpT (rpQ 2))) m1 cs_2 M1 ∧ kd_4 ≤ xs.length ∧ okL 5 M1)) (fun (M1, s3_1, cs_2, kd_4, m1) => [(0, vP b 0), (3, s3_1)]) (fun (M1, s3_1, cs_2, kd_4, m1) => (.gs 36 1 s3_1 M1.length cs_2 :: .var b 57 [vl, vI ↑kd_4] :: L)) (fun (M1, s3_1, cs_2, kd_4, m1) => m1) ?_ ?_
 ·
  refine zC (zA (mv rfl rfl ?_))
  replace hl := hl.mono hg12
  refine gl_call_mut2 (A := [_]) (vs := [_, vI (4)]) Tryz.call11 ⟨rfl, rfl, trivial⟩ (fun X w hs => o_dice_bool hl (by first | omega | exact Nat.zero_le _) (by omega) (by omega) hs) rfl ?_
  intro v14 g14 q14 hg14 hr14
  obtain ⟨k14, P14, rfl, hk14, rfl⟩ := hr14
  refine zD (zB ?_)
  refine zH rfl (fun hc14 => ?_) (fun hc14 => ?_)
  ·
   refine zA (mv rfl rfl (mv rfl rfl (mv rfl rfl (mv rfl rfl (gv (ov_len_os (.head _) Tryz.underlying27 rfl) rfl ?_)))))
   have hx12p := hx12.2.1
   have hx12q := hx12.1
   replace hl := hl.mono hg14
   refine gl_call_mut2 (A := [_]) (vs := [_, _]) Tryz.call15 ⟨rfl, rfl, trivial⟩ (fun X w hs => dice_next hl (by first | omega | exact Nat.zero_le _) (by omega) (by omega) hs) rfl ?_
   intro v20 g20 q20 hg20 hr20
   obtain ⟨k20, z20, rfl, hk20, rfl, hz20, hy20⟩ := hr20
   refine gv ((ov_index_os z20.toNat (.head _) Tryz.underlying27 Tryz.sizeOf36 rfl rfl (by omega) (by have := hx12.2.1; omega) (by decide)).cv (show _ = elemPtr 1 v12 ((z20.toNat * 1 + 0)) from congrArg (elemPtr 1 v12) (by rfl))) rfl ?_
   replace rl12 := rl12.mono (hg14.trans hg20)
   refine gl_x (F := fun v_ => (rpS (rpT (rpQ 2))).Is g20 v_ (p12.getD z20.toNat [])) (ox_load_os ty36 (Pc.arr (Pc.here _) [] z20.toNat (by have := hx12.2.1; omega)) rfl (by decide) rfl rl12 rfl) (mem1 (.head _)) rfl ?_
   intro v22 r22
   refine zP (new_buildx (ρ := (rpS (rpT (rpQ 2)))) (m := 1) (xs := [(p12.getD z20.toNat [])]) (ps' := [(0, _)]) Tryz.underlying27 info36 rfl rfl rfl zr_s ⟨rfl, rfl, trivial⟩ (fx_one rfl (Pc.arr (Pc.here _) [] 0 (by decide)) r22 fx_nil) (show 1 * 1 ≤ 16777216 from by decide) (show 0 < 1 from by decide)) rfl rfl rfl ?_
   intro v23 q23 hq23
   obtain ⟨cs23, rfl, rl23⟩ := hq23
   refine gl_freezex (A := []) (ρ := (rpS (rpT (rpQ 2)))) rl23 ?_
   intro h1 hh1 rs_6
   replace rl12 := rl12.mono hh1
   refine gl_repop (A := []) (rep_appendx (ρ := (rpS (rpT (rpQ 2)))) (bytes := 24) Tryz.underlying27 info36 rfl rfl rfl rfl (by decide) rfl rfl rl12 rs_6 (by first | omega | (simp only [List.length_append, List.length_cons, List.length_nil, List.length_replicate, List.length_set]; omega)) (by first | omega | (simp only [List.length_append, List.length_cons, List.length_nil, List.length_replicate, List.length_set]; omega))) rfl rfl rfl ?_
   intro v24 q24 hq24
   obtain ⟨cs24, rfl, rl24⟩ := hq24
   refine asg rfl rfl (zD ?_)
   refine zU ((p12 ++ [(p12.getD z20.toNat [])]), v24, cs24, k20, h1) ?_ ⟨rfl, rfl, trivial⟩ rfl rfl
   refine ⟨((hg14.trans hg20).trans hh1), ?_⟩
   refine ⟨rl24, (by omega), ?_⟩
   exact hx12.app (okL.fit hx12 _)
  refine zI ?_
  refine zU (p12, v12, cs12, k14, g14) ?_ ⟨rfl, rfl, trivial⟩ rfl rfl
  refine ⟨hg14, ?_⟩
  replace rl12 := rl12.mono hg14
  refine ⟨rl12, (by omega), ?_⟩
  exact hx12.mono (by omega)
 intro x hx
 obtain ⟨M1, s3_1, cs_2, kd_4, m1⟩ := x
 obtain ⟨hmm1, hM1⟩ := hx
 show GC _ _ _ _ _ _ [(0, vP b 0), (3, s3_1)] (.gs 36 1 s3_1 M1.length cs_2 :: .var b 57 [vl, vI ↑kd_4] :: L) m1
 obtain ⟨rl_3, hkd_5, hM1⟩ := hM1
 refine gc_cut (ι := List (List (T3 Rat)) × Value × List Value × Nat × Mem) (fun (M2, s3_7, cs_8, kd_10, m2) => MLe m1 m2 ∧ (RL (rpS (rpT (rpQ 2))) m2 cs_8 M2 ∧ kd_10 ≤ xs.length ∧ okL 6 M2)) (fun (M2, s3_7, cs_8, kd_10, m2) => [(0, vP b 0), (3, s3_7)]) (fun (M2, s3_7, cs_8, kd_10, m2) => (.gs 36 1 s3_7 M2.length cs_8 :: .var b 57 [vl, vI ↑kd_10] :: L)) (fun (M2, s3_7, cs_8, kd_10, m2) => m2) ?_ ?_
 ·
  refine zC (zA (mv rfl rfl ?_))
  replace hl := hl.mono (hg12.trans hmm1)
  refine gl_call_mut2 (A := [_]) (vs := [_, vI (4)]) Tryz.call11 ⟨rfl, rfl, trivial⟩ (fun X w hs => o_dice_bool hl (by first | omega | exact Nat.zero_le _) (by omega) (by omega) hs) rfl ?_
  intro v26 g26 q26 hg26 hr26
  obtain ⟨k26, P26, rfl, hk26, rfl⟩ := hr26
  refine zD (zB ?_)
  refine zH rfl (fun hc26 => ?_) (fun hc26 => ?_)
  ·
   refine zA (mv rfl rfl (mv rfl rfl ?_))
   replace hl := hl.mono hg26
   refine gl_call_mut2 (A := [_]) (vs := [_]) Tryz.call21 ⟨rfl, trivial⟩ (fun X w hs => o_dice_loop hl (by first | omega | exact Nat.zero_le _) hs) rfl ?_
   intro v29 g29 q29 hg29 hr29
   obtain ⟨k29, p29, rfl, hk29, hx29, hr29⟩ := hr29
   refine zP (new_buildx (ρ := (rpS (rpT (rpQ 2)))) (m := 1) (xs := [p29]) (ps' := [(0, _)]) Tryz.underlying27 info36 rfl rfl rfl zr_s ⟨rfl, rfl, trivial⟩ (fx_one rfl (Pc.arr (Pc.here _) [] 0 (by decide)) hr29 fx_nil) (show 1 * 1 ≤ 16777216 from by decide) (show 0 < 1 from by decide)) rfl rfl rfl ?_
   intro v30 q30 hq30
   obtain ⟨cs30, rfl, rl30⟩ := hq30
   have hM1p := hM1.1
   have hM1q := hM1.2.1
   refine gl_freezex (A := []) (ρ := (rpS (rpT (rpQ 2)))) rl30 ?_
   intro h1 hh1 rs_12
   replace rl_3 := rl_3.mono ((hg26.trans hg29).trans hh1)
   refine gl_repop (A := []) (rep_appendx (ρ := (rpS (rpT (rpQ 2)))) (bytes := 24) Tryz.underlying27 info36 rfl rfl rfl rfl (by decide) rfl rfl rl_3 rs_12 (by first | omega | (simp only [List.length_append, List.length_cons, List.length_nil, List.length_replicate, List.length_set]; omega)) (by first | omega | (simp only [List.length_append, List.length_cons, List.length_nil, List.length_replicate, List.length_set]; omega))) rfl rfl rfl ?_
   intro v31 q31 hq31
   obtain ⟨cs31, rfl, rl31⟩ := hq31
   refine asg rfl rfl (zD ?_)
   refine zU ((M1 ++ [p29]), v31, cs31, k29, h1) ?_ ⟨rfl, rfl, trivial⟩ rfl rfl
   refine ⟨((hg26.trans hg29).trans hh1), ?_⟩
   refine ⟨rl31, (by omega), ?_⟩
   exact hM1.app hx29
  refine zI ?_
  refine zU (M1, s3_1, cs_2, k26, g26) ?_ ⟨rfl, rfl, trivial⟩ rfl rfl
  refine ⟨hg26, ?_⟩
  replace rl_3 := rl_3.mono hg26
  refine ⟨rl_3, (by omega), ?_⟩
  exact hM1.mono (by omega)
 intro x hx
 obtain ⟨M2, s3_7, cs_8, kd_10, m2⟩ := x
 obtain ⟨hmm2, hM2⟩ := hx
 show GC _ _ _ _ _ _ [(0, vP b 0), (3, s3_7)] (.gs 36 1 s3_7 M2.length cs_8 :: .var b 57 [vl, vI ↑kd_10] :: L) m2
 obtain ⟨rl_9, hkd_11, hM2⟩ := hM2
 refine zC (zC (zA (mv rfl rfl ?_)))
 replace hl := hl.mono ((hg12.trans hmm1).trans hmm2)
 refine gl_call_mut2 (A := [_]) (vs := [_, vI (5)]) Tryz.call11 ⟨rfl, rfl, trivial⟩ (fun X w hs => o_dice_bool hl (by first | omega | exact Nat.zero_le _) (by omega) (by omega) hs) rfl ?_
 intro v33 g33 q33 hg33 hr33
 obtain ⟨k33, P33, rfl, hk33, rfl⟩ := hr33
 refine zD (zB ?_)
 refine zH rfl (fun hc33 => ?_) (fun hc33 => ?_)
 ·
  refine zC (zA (mv rfl rfl (gv ((ov_index_os (q := 0) 0 (.head _) Tryz.underlying27 Tryz.sizeOf36 rfl rfl rfl (by exact hM2.2.1) (by decide)).cv (show _ = elemPtr 1 s3_7 0 from congrArg (elemPtr 1 s3_7) (by rfl))) rfl ?_)))
  replace rl_9 := rl_9.mono hg33
  refine gl_x (F := fun v_ => (rpS (rpT (rpQ 2))).Is g33 v_ (M2.getD 0 [])) (ox_load_os ty36 (Pc.arr (Pc.here _) [] 0 (by exact hM2.2.1)) rfl (by decide) rfl rl_9 rfl) (mem1 (.head _)) rfl ?_
  intro v36 r36
  have hlg8 := okL.get hM2 0
  refine gl_nilown 33 9 ?_
  have rl_13 : RL (rpT (rpQ 2)) g33 [] ([] : List (T3 Rat)) := RL.nil
  refine gl_repop (A := []) (rep_appendx (ρ := (rpT (rpQ 2))) (bytes := 168) Tryz.underlying36 info33 rfl rfl rfl rfl (by decide) rfl rfl rl_13 r36 (by first | omega | (simp only [List.length_append, List.length_cons, List.length_nil, List.length_replicate, List.length_set]; omega)) (by first | omega | (simp only [List.length_append, List.length_cons, List.length_nil, List.length_replicate, List.length_set]; omega))) rfl rfl rfl ?_
  intro v37 q37 hq37
  obtain ⟨cs37, rfl, rl37⟩ := hq37
  refine asg rfl rfl (zD (zB (zC (zC (zA (mv rfl rfl ?_))))))
  have hlg9 : ([] ++ M2.getD 0 []).length ≤ 8 := by rw [List.nil_append]; exact okL.get hM2 0
  refine gv (ov_len_os (.head _) Tryz.underlying36 rfl) rfl (gv (ov_sub_i (q := 1) rfl rfl (by omega) (by omega)) rfl (asg (v := vI (0)) rfl rfl (asg rfl rfl (zD (zL (e' := [(3, _), (4, _), (5, _), (6, _)]) ⟨rfl, rfl, rfl, rfl, trivial⟩ (zB (zQ ?_)))))))
  refine gc_loop (ι := Nat × List (T3 Rat) × Value × List Value × Nat × Mem) (fun (i, l, s4_14, cs_15, kd_17, ma) => MLe g33 ma ∧ (RL (rpT (rpQ 2)) ma cs_15 l ∧ kd_17 ≤ xs.length ∧ l.length ≤ 8 ∧ rvP (M2.getD 0 []) l i)) (fun (i, l, s4_14, cs_15, kd_17, ma) => [(3, s3_7), (4, s4_14), (5, vI ↑i), (6, vI (↑l.length - 1 - ↑i))]) (fun (i, l, s4_14, cs_15, kd_17, ma) => (.gs 33 9 s4_14 l.length cs_15 :: .gs 36 1 s3_7 M2.length cs_8 :: .var b 57 [vl, vI ↑kd_17] :: L)) (fun (i, l, s4_14, cs_15, kd_17, ma) => ma) (fun (i, l, s4_14, cs_15, kd_17, ma) => 8 - i) (0, ([] ++ (M2.getD 0 [])), v37, cs37, k33, g33) ?_ ⟨?_, ?_, ?_, ?_, trivial⟩ rfl rfl ?_
  ·
   refine ⟨MLe.refl _, ?_⟩
   refine ⟨rl37, (by omega), ?_⟩
   exact (by rw [List.nil_append]; exact ⟨okL.get hM2 0, rv_zero⟩)
  · exact rfl
  · exact rfl
  · exact rfl
  · exact congrArg (fun z => some (vI z)) (by omega)
  intro x hx
  obtain ⟨i, l, s4_14, cs_15, kd_17, ma⟩ := x
  obtain ⟨hmma, hinv⟩ := hx
  show GC _ _ _ _ _ _ [(3, s3_7), (4, s4_14), (5, vI ↑i), (6, vI (↑l.length - 1 - ↑i))] (.gs 33 9 s4_14 l.length cs_15 :: .gs 36 1 s3_7 M2.length cs_8 :: .var b 57 [vl, vI ↑kd_17] :: L) ma
  obtain ⟨rl_16, hkd_18, hinv⟩ := hinv
  obtain ⟨hl8, hrv⟩ := hinv
  refine zC (zC (zA (mv rfl rfl (mv rfl rfl (gv (yH rfl rfl) rfl (zD (zB ?_)))))))
  refine zH rfl (fun hc43 => ?_) (fun hc43 => ?_)
  ·
   refine zI (zB (zC (zQ ?_)))
   refine gc_draw 13 _ [] [(0, .q), (1, .q), (2, .p), (3, .p), (4, .q), (5, .q), (6, .q), (7, .q), (8, .q), (9, .q), (10, .q), (11, .q), (12, .q), (13, .t), (14, .t), (15, .t)] mixed (fun x hx => by cases hx) (chk_of [0, 0, 0, 0, 0, 0, 48, 64, 0, 0, 768, 1024, 2291, 6387, 16383, 32767] [65535, 65535, 65535, 65535, 65535, 65535, 65487, 65471, 65535, 65535, 64767, 64511, 65532, 61311, 65523, 47103] (by kernel_rfl)) (fun x hx => by cases hx) (fun r hr => hr) (w_q rfl (fun h' L' hh hR => zF rfl) rfl (w_q rfl (fun h' L' hh hR => zF rfl) rfl (w_p (⟨.inl rfl,  rfl⟩) rfl rfl (w_p (⟨.inl rfl,  rfl⟩) rfl rfl (w_q rfl (fun h' L' hh hR => zF rfl) rfl (w_q rfl (fun h' L' hh hR => zF rfl) rfl (w_q rfl (fun h' L' hh hR => (ov_index_os (l.length - 1 - i) (hR _ (.head _)) Tryz.underlying36 Tryz.sizeOf33 rfl rfl (by omega) (by first | omega | (simp only [List.length_append, List.length_cons, List.length_nil, List.length_replicate, List.length_set]; omega)) (by decide)).cv (show _ = elemPtr 1 s4_14 (((l.length - 1 - i) * 9 + 0)) from congrArg (elemPtr 1 s4_14) (by rfl))) rfl (w_qx (F := fun v_ => (rpT (rpQ 2)).Is ma v_ (l.getD (l.length - 1 - i) (T3.mk (0 : Rat) (0 : Rat) (0 : Rat)))) rfl (ox_load_os ty33 (Pc.arr (Pc.here _) (T3.mk (0 : Rat) (0 : Rat) (0 : Rat)) (l.length - 1 - i) (by first | omega | (simp only [List.length_append, List.length_cons, List.length_nil, List.length_replicate, List.length_set]; omega))) rfl (by decide) rfl rl_16 rfl) (mem1 (.head _)) rfl ?_))))))))
   intro v55 r55
   refine w_q rfl (fun h' L' hh hR => zF rfl) rfl (w_q rfl (fun h' L' hh hR => zF rfl) rfl (w_q rfl (fun h' L' hh hR => (ov_index_os i (hR _ (.head _)) Tryz.underlying36 Tryz.sizeOf33 rfl rfl rfl (by first | omega | (simp only [List.length_append, List.length_cons, List.length_nil, List.length_replicate, List.length_set]; omega)) (by decide)).cv (show _ = elemPtr 1 s4_14 ((i * 9 + 0)) from congrArg (elemPtr 1 s4_14) (by rfl))) rfl (w_qx (F := fun v_ => (rpT (rpQ 2)).Is ma v_ (l.getD i (T3.mk (0 : Rat) (0 : Rat) (0 : Rat)))) rfl (ox_load_os ty33 (Pc.arr (Pc.here _) (T3.mk (0 : Rat) (0 : Rat) (0 : Rat)) i (by first | omega | (simp only [List.length_append, List.length_cons, List.length_nil, List.length_replicate, List.length_set]; omega))) rfl (by decide) rfl rl_16 rfl) (mem1 (.head _)) rfl ?_)))
   intro v59 r59
   refine w_q rfl (fun h' L' hh hR => (ov_index_os i (hR _ (.head _)) Tryz.underlying36 Tryz.sizeOf33 rfl rfl rfl (by first | omega | (simp only [List.length_append, List.length_cons, List.length_nil, List.length_replicate, List.length_set]; omega)) (by decide)).cv (show _ = elemPtr 1 s4_14 ((i * 9 + 0)) from congrArg (elemPtr 1 s4_14) (by rfl))) rfl (w_t_updos (A := []) (F := fun c_ => RL (rpT (rpQ 2)) ma c_ (l.set i (l.getD (l.length - 1 - i) (T3.mk (0 : Rat) (0 : Rat) (0 : Rat))))) rfl (upd_os Tryz.sizeOf33 (Pc.arr (Pc.here _) (T3.mk (0 : Rat) (0 : Rat) (0 : Rat)) i (by first | omega | (simp only [List.length_append, List.length_cons, List.length_nil, List.length_replicate, List.length_set]; omega))) rfl (by decide) rfl rfl rl_16 r55 rfl) ?_)
   intro cs_19 rl_20
   refine w_t_val rfl ((ov_index_os (l.length - 1 - i) (.head _) Tryz.underlying36 Tryz.sizeOf33 rfl rfl (by omega) (by first | omega | (simp only [List.length_append, List.length_cons, List.length_nil, List.length_replicate, List.length_set]; omega)) (by decide)).cv (show _ = elemPtr 1 s4_14 (((l.length - 1 - i) * 9 + 0)) from congrArg (elemPtr 1 s4_14) (by rfl))) rfl (w_t_updos (A := []) (F := fun c_ => RL (rpT (rpQ 2)) ma c_ ((l.set i (l.getD (l.length - 1 - i) (T3.mk (0 : Rat) (0 : Rat) (0 : Rat)))).set (l.length - 1 - i) (l.getD i (T3.mk (0 : Rat) (0 : Rat) (0 : Rat))))) rfl (upd_os Tryz.sizeOf33 (Pc.arr (Pc.here _) (T3.mk (0 : Rat) (0 : Rat) (0 : Rat)) (l.length - 1 - i) (by first | omega | (simp only [List.length_append, List.length_cons, List.length_nil, List.length_replicate, List.length_set]; omega))) rfl (by decide) rfl rfl rl_20 r59 rfl) ?_)
   intro cs_21 rl_22
   refine w_nil (gq_in (zL (e' := [(3, _), (4, _), (5, _), (6, _)]) ⟨rfl, rfl, rfl, rfl, trivial⟩ (zB (zA (mv rfl rfl (gv (zV (q := 1) rfl rfl (by omega) (by omega)) rfl (mv rfl rfl (gv (ov_sub_i (q := 1) rfl rfl (by omega) (by omega)) rfl (asg rfl rfl (asg rfl rfl (zD ?_)))))))))))
   refine yJ ((i + 1), ((l.set i (l.getD (l.length - 1 - i) (T3.mk (0 : Rat) (0 : Rat) (0 : Rat)))).set (l.length - 1 - i) (l.getD i (T3.mk (0 : Rat) (0 : Rat) (0 : Rat)))), s4_14, cs_21, kd_17, ma) ?_ ?_ ⟨rfl, rfl, rfl, ?_, trivial⟩ rfl rfl
   ·
    refine ⟨hmma, ?_⟩
    refine ⟨rl_22, (by omega), ?_⟩
    exact ⟨by simp only [List.length_set]; omega, rv_next hrv rfl (by omega) rfl rfl⟩
   ·
    dsimp only
    omega
   · exact congrArg (fun z => some (vI z)) (by simp only [List.length_set]; omega)
  refine gc_exit (zZ (zZ (gx_here (zB (zA (mv rfl rfl (mv rfl rfl (gv ((ov_index_os (q := 0) 0 (.tail _ (.head _)) Tryz.underlying27 Tryz.sizeOf36 rfl rfl rfl (by exact hM2.2.1) (by decide)).cv (show _ = elemPtr 1 s3_7 0 from congrArg (elemPtr 1 s3_7) (by rfl))) rfl (gl_freezex (A := []) (ρ := (rpT (rpQ 2))) rl_16 ?_)))))))))
  intro h1 hh1 rs_23
  replace rl_9 := rl_9.mono (hmma.trans hh1)
  refine gl_updos (A := []) (F := fun c_ => RL (rpS (rpT (rpQ 2))) h1 c_ (M2.set 0 l)) (upd_os Tryz.sizeOf36 (Pc.arr (Pc.here _) [] 0 (by exact hM2.2.1)) rfl (by decide) rfl rfl rl_9 rs_23 rfl) ?_
  intro cs_24 rl_25
  refine zD (zB (zC (zA (mv rfl rfl (asg rfl rfl (zD (zL (e' := [(2, _)]) ⟨rfl, trivial⟩ (zB (zN (gq_body1_own rfl rfl ?_))))))))))
  exact ⟨_, _, (.cons_cons _ (.cons_cons _ (List.Sublist.refl _))), ((((((hg8.trans hg12).trans hmm1).trans hmm2).trans hg33).trans hmma).trans hh1), _, _, _, rfl, by omega, rfl, (by first | exact hx10.mono (by omega) | exact hM2.put ⟨hl8, fine_rev (rv_all hrv (by omega)) (okL.fit hM2 0).2⟩ | exact hM2), rl_25⟩
 refine zI (zB (zC (zA (mv rfl rfl (asg rfl rfl (zD (zB (zN (gq_body1_own rfl rfl ?_)))))))))
 replace rl_9 := rl_9.mono hg33
 exact ⟨_, _, (.cons_cons _ (.cons_cons _ (List.Sublist.refl _))), ((((hg8.trans hg12).trans hmm1).trans hmm2).trans hg33), _, _, _, rfl, by omega, rfl, (by first | exact hx10.mono (by omega) | exact hM2.put ⟨hl8, fine_rev (rv_all hrv (by omega)) (okL.fit hM2 0).2⟩ | exact hM2), rl_9⟩

end Go.Proofs.YtfpjclgbieppeaaGreat


namespace Go.Proofs.YtfpjclgbieppeaaGreat
open Bk Go
set_option linter.unusedVariables false
set_option linter.unusedSimpArgs false
set_option maxRecDepth 10000

theorem o_pl_simple {w0 : World} {h0 : Mem}  (hs : MLe h0 (mem w0)) {k : Nat} {vl : Value} {l : (List (T3 Rat))} (rl : (rpS (rpT (rpQ k))).Is h0 vl l) {i : Nat} {j : Nat} (hcd0 : i < 3) (hcd1 : j < 3) (hcd2 : k ≤ 100000) (hcd3 : l.length ≤ 1000)  :
    Calls Tryz.prog 49 #[vl, vI ↑i, vI ↑j] w0 (Ret w0 h0 (fun _ r => r = vB (simP l i j))) := by
 refine zR (n := 93) (e := [(0, vl), (1, vI ↑i), (2, vI ↑j)]) (vs := [vl, vI ↑i, vI ↑j]) Tryz.func49 rfl rfl (Nat.le_of_ble_eq_true rfl) hs ⟨rfl, rfl, rfl, trivial⟩ (zC (zA (asg rfl rfl (zD (zB (zC (zA (mv rfl rfl (gv (ov_len_sr Tryz.underlying36 rfl rl) rfl (asg rfl rfl (zD (zB (zC ?_)))))))))))))
 refine zC (zA (mv rfl rfl (gv (yH (q := 3) rfl rfl) rfl (zD (zB ?_)))))
 refine zH rfl (fun hc16 => ?_) (fun hc16 => ?_)
 ·
  refine zC (zA (asg rfl rfl (zD (zB (zN (zO (zW rfl rfl ?_)))))))
  exact (yA (fun e => by have := e.1; omega)).symm
 refine zI (zB (zC (zC (zA (mv rfl rfl (mv (v := vI (0)) rfl rfl (zD (zB (zQ ?_)))))))))
 refine gc_loop (ι := Nat × Mem) (fun (a, ma) => MLe h0 ma ∧ (a ≤ l.length ∧ pairsTo (difR l i j) l.length a)) (fun (a, ma) => [(0, vl), (1, vI ↑i), (2, vI ↑j), (7, vI (↑(l).length : Int)), (17, vI (↑(l).length : Int)), (18, vI ↑a)]) (fun (a, ma) => []) (fun (a, ma) => ma) (fun (a, ma) => l.length - a) (0, h0) ?_ ⟨rfl, rfl, rfl, rfl, rfl, rfl, trivial⟩ rfl rfl ?_
 ·
  refine ⟨MLe.refl _, ?_⟩
  exact ⟨by omega, pairs_zero⟩
 intro x hx
 obtain ⟨a, ma⟩ := x
 obtain ⟨hmma, hinv⟩ := hx
 show GC _ _ _ _ _ _ [(0, vl), (1, vI ↑i), (2, vI ↑j), (7, vI (↑(l).length : Int)), (17, vI (↑(l).length : Int)), (18, vI ↑a)] [] ma
 obtain ⟨ha1, ha2⟩ := hinv
 refine zC (zA (gv (yH rfl rfl) rfl (zD (zB (zC ?_)))))
 refine zH rfl (fun hc19 => ?_) (fun hc19 => ?_)
 ·
  refine zI (zB (zC (zQ (zC (zA (mv rfl rfl (asg rfl rfl (zD (zB (zC (zA (mv rfl rfl (gv (zV (q := 1) rfl rfl (by omega) (by omega)) rfl ?_)))))))))))))
  refine asg rfl rfl (zD (zB (zQ ?_)))
  refine gc_loop (ι := Nat × Mem) (fun (b, mb) => MLe ma mb ∧ (a < b ∧ b ≤ l.length ∧ rowTo (difR l i j) a b)) (fun (b, mb) => [(0, vl), (1, vI ↑i), (2, vI ↑j), (7, vI (↑(l).length : Int)), (8, vI ↑a), (9, vI ↑b), (17, vI (↑(l).length : Int)), (18, vI ↑a)]) (fun (b, mb) => []) (fun (b, mb) => mb) (fun (b, mb) => l.length - b) ((a + 1), ma) ?_ ⟨rfl, rfl, rfl, rfl, rfl, rfl, rfl, rfl, trivial⟩ rfl rfl ?_
  ·
   refine ⟨MLe.refl _, ?_⟩
   exact ⟨by omega, by omega, row_start⟩
  intro x hx
  obtain ⟨b, mb⟩ := x
  obtain ⟨hmmb, hinv⟩ := hx
  show GC _ _ _ _ _ _ [(0, vl), (1, vI ↑i), (2, vI ↑j), (7, vI (↑(l).length : Int)), (8, vI ↑a), (9, vI ↑b), (17, vI (↑(l).length : Int)), (18, vI ↑a)] [] mb
  obtain ⟨hb0, hb1, hb2⟩ := hinv
  refine zC (zC (zA (mv rfl rfl (mv rfl rfl (gv (yH rfl rfl) rfl (zD (zB ?_)))))))
  refine zH rfl (fun hc25 => ?_) (fun hc25 => ?_)
  ·
   refine zI (zB (zC (zQ (zC ?_))))
   refine gc_draw 11 _ [] [(0, .q), (1, .q), (2, .q), (3, .q), (4, .q), (5, .q), (6, .q), (7, .q), (8, .q), (9, .q), (10, .c)] mixed (fun x hx => by cases hx) (by kernel_rfl) (fun x hx => by cases hx) (fun r hr => hr) (w_q rfl (fun h' L' hh hR => zF rfl) rfl (w_q rfl (fun h' L' hh hR => zF rfl) rfl ?_))
   replace rl := rl.mono (hmma.trans hmmb)
   refine w_qx (F := fun v_ => AtP (rpT (rpQ k)) mb v_ (l.getD a (T3.mk (0 : Rat) (0 : Rat) (0 : Rat)))) rfl (ox_idx_s (T3.mk (0 : Rat) (0 : Rat) (0 : Rat)) a Tryz.underlying36 ty33 rfl rfl rl rfl (by omega) (show 0 < 9 from by decide)) mem0 rfl ?_
   intro v30 r30
   refine w_qx (F := fun v_ => (rpT (rpQ k)).Is mb v_ (l.getD a (T3.mk (0 : Rat) (0 : Rat) (0 : Rat)))) rfl (yK ty33 rfl r30) mem0 rfl ?_
   intro v31 r31
   refine w_q rfl (fun h' L' hh hR => zF rfl) rfl (w_q rfl (fun h' L' hh hR => zF rfl) rfl (w_qx (F := fun v_ => AtP (rpT (rpQ k)) mb v_ (l.getD b (T3.mk (0 : Rat) (0 : Rat) (0 : Rat)))) rfl (ox_idx_s (T3.mk (0 : Rat) (0 : Rat) (0 : Rat)) b Tryz.underlying36 ty33 rfl rfl rl rfl (by omega) (show 0 < 9 from by decide)) mem0 rfl ?_))
   intro v34 r34
   refine w_qx (F := fun v_ => (rpT (rpQ k)).Is mb v_ (l.getD b (T3.mk (0 : Rat) (0 : Rat) (0 : Rat)))) rfl (yK ty33 rfl r34) mem0 rfl ?_
   intro v35 r35
   refine w_q rfl (fun h' L' hh hR => zF rfl) rfl (w_q rfl (fun h' L' hh hR => zF rfl) rfl ?_)
   refine w_c rfl ?_
   refine yO (vs := [_, _, _, _]) Tryz.call74 ⟨rfl, rfl, rfl, rfl, trivial⟩ (fun w hs => o_pl_same (i := i) (j := j) hs r31 r35 (by omega) (by omega) (by omega)) rfl ?_
   intro v38 h1 hh1 r38
   obtain rfl : v38 = vB (pr (l.getD a (T3.mk (0 : Rat) (0 : Rat) (0 : Rat))) i j = pr (l.getD b (T3.mk (0 : Rat) (0 : Rat) (0 : Rat))) i j) := r38
   refine w_nil (zL (e' := [(0, _), (1, _), (2, _), (7, _), (8, _), (9, _), (17, _), (18, _), (38, _)]) ⟨rfl, rfl, rfl, rfl, rfl, rfl, rfl, rfl, rfl, trivial⟩ (zB ?_))
   refine zH rfl (fun hc38 => ?_) (fun hc38 => ?_)
   ·
    refine zC (zA (asg rfl rfl (zD (zB (zN (gr_in (zO (zO (gr_in (gr_in (zO (zO (gr_in ?_)))))))))))))
    refine zO (zW rfl rfl ?_)
    exact (yA (fun e => e.2.1 a b (by omega) (by omega) (by omega) hc38)).symm
   refine zI (gq_in (zB (zA (mv rfl rfl (gv (zV (q := 1) rfl rfl (by omega) (by omega)) rfl (asg rfl rfl (zD ?_)))))))
   refine yJ ((b + 1), h1) ?_ ?_ ⟨rfl, rfl, rfl, rfl, rfl, rfl, rfl, rfl, trivial⟩ rfl rfl
   ·
    refine ⟨(hmmb.trans hh1), ?_⟩
    exact ⟨by omega, by omega, row_next hb2 hc38⟩
   dsimp only
   omega
  refine gc_exit (zZ (zZ (gx_here (gq_in (zB (zA (gv (zV (q := 1) rfl rfl (by omega) (by omega)) rfl (mv rfl rfl (zD ?_)))))))))
  refine yJ ((a + 1), mb) ?_ ?_ ⟨rfl, rfl, rfl, rfl, rfl, rfl, trivial⟩ rfl rfl
  ·
   refine ⟨(hmma.trans hmmb), ?_⟩
   exact ⟨by omega, pairs_next ha2 hb2 (by omega)⟩
  dsimp only
  omega
 have ea : a = l.length := by omega
 have hP := ha2
 rw [ea] at hP
 refine gc_exit (zZ (zZ (gx_here (zB (zC (zC (zA (mv rfl rfl (mv (v := vI (0)) rfl rfl (zD (zB (zQ ?_))))))))))))
 refine gc_loop (ι := Nat × Mem) (fun (p, mp) => MLe ma mp ∧ (p ≤ l.length ∧ pairsTo (okT l i j) l.length p)) (fun (p, mp) => [(0, vl), (1, vI ↑i), (2, vI ↑j), (7, vI (↑(l).length : Int)), (40, vI (↑(l).length : Int)), (41, vI ↑p)]) (fun (p, mp) => []) (fun (p, mp) => mp) (fun (p, mp) => l.length - p) (0, ma) ?_ ⟨rfl, rfl, rfl, rfl, rfl, rfl, trivial⟩ rfl rfl ?_
 ·
  refine ⟨MLe.refl _, ?_⟩
  exact ⟨by omega, pairs_zero⟩
 intro x hx
 obtain ⟨p, mp⟩ := x
 obtain ⟨hmmp, hinv⟩ := hx
 show GC _ _ _ _ _ _ [(0, vl), (1, vI ↑i), (2, vI ↑j), (7, vI (↑(l).length : Int)), (40, vI (↑(l).length : Int)), (41, vI ↑p)] [] mp
 obtain ⟨hp1, hp2⟩ := hinv
 refine zC (zA (gv (yH rfl rfl) rfl (zD (zB (zC ?_)))))
 refine zH rfl (fun hc42 => ?_) (fun hc42 => ?_)
 ·
  refine zI (zB (zC (zQ (zC (zA (mv rfl rfl (asg rfl rfl (zD (zB (zC (zA (mv rfl rfl (gv (zV (q := 1) rfl rfl (by omega) (by omega)) rfl ?_)))))))))))))
  refine asg rfl rfl (zD (zB (zQ ?_)))
  refine gc_loop (ι := Nat × Mem) (fun (q, mq) => MLe mp mq ∧ (p < q ∧ q ≤ l.length ∧ rowTo (okT l i j) p q)) (fun (q, mq) => [(0, vl), (1, vI ↑i), (2, vI ↑j), (7, vI (↑(l).length : Int)), (10, vI ↑p), (11, vI ↑q), (40, vI (↑(l).length : Int)), (41, vI ↑p)]) (fun (q, mq) => []) (fun (q, mq) => mq) (fun (q, mq) => l.length - q) ((p + 1), mp) ?_ ⟨rfl, rfl, rfl, rfl, rfl, rfl, rfl, rfl, trivial⟩ rfl rfl ?_
  ·
   refine ⟨MLe.refl _, ?_⟩
   exact ⟨by omega, by omega, row_start⟩
  intro x hx
  obtain ⟨q, mq⟩ := x
  obtain ⟨hmmq, hinv⟩ := hx
  show GC _ _ _ _ _ _ [(0, vl), (1, vI ↑i), (2, vI ↑j), (7, vI (↑(l).length : Int)), (10, vI ↑p), (11, vI ↑q), (40, vI (↑(l).length : Int)), (41, vI ↑p)] [] mq
  obtain ⟨hq0, hq1, hq2⟩ := hinv
  refine zC (zC (zA (mv rfl rfl (mv rfl rfl (gv (yH rfl rfl) rfl (zD (zB ?_)))))))
  refine zH rfl (fun hc48 => ?_) (fun hc48 => ?_)
  ·
   refine zI (zB (zC (zQ (zC (zA (asg (v := vI (0)) rfl rfl (zD (zB ?_))))))))
   refine gc_cut (ι := Mem) (fun (mw : (Mem)) => MLe mq mw ∧ (True)) (fun (mw : (Mem)) => [(0, vl), (1, vI ↑i), (2, vI ↑j), (7, vI (↑(l).length : Int)), (10, vI ↑p), (11, vI ↑q), (12, vI (wantZ l.length p q)), (40, vI (↑(l).length : Int)), (41, vI ↑p)]) (fun (mw : (Mem)) => []) (fun (mw : (Mem)) => mw) ?_ ?_
   ·
    refine zC (zA (mv rfl rfl (mv rfl rfl (gv (zV (q := 1) rfl rfl (by omega) (by omega)) rfl (gv (ov_eql_i rfl rfl) rfl ?_)))))
    refine gl_cut (ι := Unit) 10 (fun _ => True) (fun _ => [(64, vB (((↑q : Int) = ((↑p : Int) + (1 : Int))) ∨ (((↑p : Int) = (0 : Int)) ∧ ((↑q : Int) = ((↑(l).length : Int) - (1 : Int)))))), (0, vl), (1, vI ↑i), (2, vI ↑j), (7, vI (↑(l).length : Int)), (10, vI ↑p), (11, vI ↑q), (40, vI (↑(l).length : Int)), (41, vI ↑p), (12, vI (0))]) (fun _ => []) (fun _ => mq) ?_ ?_
    ·
     refine gl_cases ((↑q : Int) = ((↑p : Int) + (1 : Int))) (fun hg => ?_) (fun hg => ?_)
     ·
      refine yG (zF (v := .bool true) (congrArg some (yI hg))) rfl rfl rfl (zK rfl rfl rfl rfl rfl rfl (zK rfl rfl rfl rfl rfl rfl (zK rfl rfl rfl rfl rfl rfl (gl_offu rfl rfl rfl rfl rfl (gl_offu rfl rfl rfl rfl rfl (gl_offu rfl rfl rfl rfl rfl (gl_offu rfl rfl rfl rfl rfl (zK rfl rfl rfl rfl rfl rfl (gv (yF rfl rfl) rfl (zD ?_))))))))))
      refine zU () trivial ⟨?_, rfl, rfl, rfl, rfl, rfl, rfl, rfl, rfl, rfl, trivial⟩ rfl rfl
      exact congrArg some (vB_or_t hg)
     refine yG (zF (v := .bool false) (congrArg some (yA hg))) rfl rfl rfl (zT rfl rfl rfl (mv rfl rfl (zT rfl rfl rfl (gv (ov_eql_i (q := 0) rfl rfl) rfl ?_))))
     refine gl_cut (ι := Unit) 6 (fun _ => True) (fun _ => [(63, vB (((↑p : Int) = (0 : Int)) ∧ ((↑q : Int) = ((↑(l).length : Int) - (1 : Int))))), (0, vl), (1, vI ↑i), (2, vI ↑j), (7, vI (↑(l).length : Int)), (10, vI ↑p), (11, vI ↑q), (40, vI (↑(l).length : Int)), (41, vI ↑p), (12, vI (0)), (55, .bool false)]) (fun _ => []) (fun _ => mq) ?_ ?_
     ·
      refine gl_cases ((↑p : Int) = (0 : Int)) (fun hg => ?_) (fun hg => ?_)
      ·
       refine zT rfl rfl rfl (yG (zF (v := .bool true) (congrArg some (yI hg))) rfl rfl rfl (zT rfl rfl rfl (mv rfl rfl (zT rfl rfl rfl (mv rfl rfl (zT rfl rfl rfl (gv (ov_sub_i (q := 1) rfl rfl (by omega) (by omega)) rfl (zT rfl rfl rfl (gv (ov_eql_i rfl rfl) rfl (zT rfl rfl rfl (gv (yF rfl rfl) rfl (zD ?_))))))))))))
       refine zU () trivial ⟨?_, rfl, rfl, rfl, rfl, rfl, rfl, rfl, rfl, rfl, rfl, trivial⟩ rfl rfl
       exact congrArg some (vB_and_t hg)
      refine zT rfl rfl rfl (yG (zF (v := .bool false) (congrArg some (yA hg))) rfl rfl rfl (zK rfl rfl rfl rfl rfl rfl (zK rfl rfl rfl rfl rfl rfl (zK rfl rfl rfl rfl rfl rfl (zK rfl rfl rfl rfl rfl rfl (zT rfl rfl rfl (gv (yD rfl rfl) rfl (zD ?_))))))))
      refine zU () trivial ⟨?_, rfl, rfl, rfl, rfl, rfl, rfl, rfl, rfl, rfl, rfl, trivial⟩ rfl rfl
      exact congrArg some (vB_and_f hg)
     intro _ _
     show GL _ _ _ _ _ _ _ [(63, vB (((↑p : Int) = (0 : Int)) ∧ ((↑q : Int) = ((↑(l).length : Int) - (1 : Int))))), (0, vl), (1, vI ↑i), (2, vI ↑j), (7, vI (↑(l).length : Int)), (10, vI ↑p), (11, vI ↑q), (40, vI (↑(l).length : Int)), (41, vI ↑p), (12, vI (0)), (55, .bool false)] [] mq
     refine gv (yD rfl rfl) rfl (zD ?_)
     refine zU () trivial ⟨?_, rfl, rfl, rfl, rfl, rfl, rfl, rfl, rfl, rfl, trivial⟩ rfl rfl
     exact congrArg some (vB_or_f hg)
    intro _ _
    show GL _ _ _ _ _ _ _ [(64, vB (((↑q : Int) = ((↑p : Int) + (1 : Int))) ∨ (((↑p : Int) = (0 : Int)) ∧ ((↑q : Int) = ((↑(l).length : Int) - (1 : Int)))))), (0, vl), (1, vI ↑i), (2, vI ↑j), (7, vI (↑(l).length : Int)), (10, vI ↑p), (11, vI ↑q), (40, vI (↑(l).length : Int)), (41, vI ↑p), (12, vI (0))] [] mq
    refine zD (zB ?_)
    refine zH rfl (fun hc64 => ?_) (fun hc64 => ?_)
    ·
     refine zA (asg (v := vI (1)) rfl rfl (zD ?_))
     refine zU (mq) ?_ ⟨rfl, rfl, rfl, rfl, rfl, rfl, ?_, rfl, rfl, trivial⟩ rfl rfl
     ·
      refine ⟨MLe.refl _, ?_⟩
      trivial
     · exact congrArg (fun z => some (vI z)) (want_t (by omega))
    refine zI ?_
    refine zU (mq) ?_ ⟨rfl, rfl, rfl, rfl, rfl, rfl, ?_, rfl, rfl, trivial⟩ rfl rfl
    ·
     refine ⟨MLe.refl _, ?_⟩
     trivial
    · exact congrArg (fun z => some (vI z)) (want_f (by omega))
   intro mw hx
   obtain ⟨hmmw, hcut⟩ := hx
   show GC _ _ _ _ _ _ [(0, vl), (1, vI ↑i), (2, vI ↑j), (7, vI (↑(l).length : Int)), (10, vI ↑p), (11, vI ↑q), (12, vI (wantZ l.length p q)), (40, vI (↑(l).length : Int)), (41, vI ↑p)] [] mw
   refine zC ?_
   refine gc_draw 27 _ [] [(0, .q), (1, .q), (2, .q), (3, .q), (4, .q), (5, .q), (6, .q), (7, .q), (8, .q), (9, .q), (10, .q), (11, .q), (12, .q), (13, .q), (14, .q), (15, .q), (16, .q), (17, .q), (18, .q), (19, .q), (20, .q), (21, .q), (22, .q), (23, .q), (25, .q), (24, .c), (26, .q)] mixed (fun x hx => by cases hx) (chk_of [0, 0, 3, 4, 0, 0, 32, 0, 192, 272, 512, 0, 0, 6144, 8192, 0, 0, 65536, 0, 393216, 557056, 1048576, 0, 0, 14697480, 0, 50331648] [134217727, 134217727, 134217724, 134217723, 134217727, 134217727, 134217695, 134217727, 134217535, 134217455, 134217215, 134217727, 134217727, 134211583, 134209535, 134217727, 134217727, 134152191, 134217727, 133824511, 133660671, 133169151, 134217727, 134217727, 119520247, 134217727, 83886079] (by kernel_rfl)) (fun x hx => by cases hx) (fun r hr => hr) (w_q rfl (fun h' L' hh hR => zF rfl) rfl (w_q rfl (fun h' L' hh hR => zF rfl) rfl ?_))
   replace rl := rl.mono (((hmma.trans hmmp).trans hmmq).trans hmmw)
   refine w_qx (F := fun v_ => AtP (rpT (rpQ k)) mw v_ (l.getD p (T3.mk (0 : Rat) (0 : Rat) (0 : Rat)))) rfl (ox_idx_s (T3.mk (0 : Rat) (0 : Rat) (0 : Rat)) p Tryz.underlying36 ty33 rfl rfl rl rfl (by omega) (show 0 < 9 from by decide)) mem0 rfl ?_
   intro v67 r67
   refine w_qx (F := fun v_ => (rpT (rpQ k)).Is mw v_ (l.getD p (T3.mk (0 : Rat) (0 : Rat) (0 : Rat)))) rfl (yK ty33 rfl r67) mem0 rfl ?_
   intro v68 r68
   refine w_q rfl (fun h' L' hh hR => zF rfl) rfl (w_q rfl (fun h' L' hh hR => zF rfl) rfl (w_q rfl (fun h' L' hh hR => zV (q := 1) rfl rfl (by omega) (by omega)) rfl (w_q rfl (fun h' L' hh hR => zF rfl) rfl (w_q rfl (fun h' L' hh hR => ov_rem_i rfl rfl (by omega) (by omega)) rfl (w_qx (F := fun v_ => AtP (rpT (rpQ k)) mw v_ (l.getD ((p + 1) % l.length) (T3.mk (0 : Rat) (0 : Rat) (0 : Rat)))) rfl (ox_idx_s (T3.mk (0 : Rat) (0 : Rat) (0 : Rat)) ((p + 1) % l.length) Tryz.underlying36 ty33 rfl rfl rl (by first | rfl | (push_cast; rfl)) (by exact Nat.mod_lt _ (by omega)) (show 0 < 9 from by decide)) mem0 rfl ?_)))))
   intro v74 r74
   refine w_qx (F := fun v_ => (rpT (rpQ k)).Is mw v_ (l.getD ((p + 1) % l.length) (T3.mk (0 : Rat) (0 : Rat) (0 : Rat)))) rfl (yK ty33 rfl r74) mem0 rfl ?_
   intro v75 r75
   refine w_q rfl (fun h' L' hh hR => zF rfl) rfl (w_q rfl (fun h' L' hh hR => zF rfl) rfl (w_qx (F := fun v_ => AtP (rpT (rpQ k)) mw v_ (l.getD q (T3.mk (0 : Rat) (0 : Rat) (0 : Rat)))) rfl (ox_idx_s (T3.mk (0 : Rat) (0 : Rat) (0 : Rat)) q Tryz.underlying36 ty33 rfl rfl rl rfl (by omega) (show 0 < 9 from by decide)) mem0 rfl ?_))
   intro v78 r78
   refine w_qx (F := fun v_ => (rpT (rpQ k)).Is mw v_ (l.getD q (T3.mk (0 : Rat) (0 : Rat) (0 : Rat)))) rfl (yK ty33 rfl r78) mem0 rfl ?_
   intro v79 r79
   refine w_q rfl (fun h' L' hh hR => zF rfl) rfl (w_q rfl (fun h' L' hh hR => zF rfl) rfl (w_q rfl (fun h' L' hh hR => zV (q := 1) rfl rfl (by omega) (by omega)) rfl (w_q rfl (fun h' L' hh hR => zF rfl) rfl (w_q rfl (fun h' L' hh hR => ov_rem_i rfl rfl (by omega) (by omega)) rfl (w_qx (F := fun v_ => AtP (rpT (rpQ k)) mw v_ (l.getD ((q + 1) % l.length) (T3.mk (0 : Rat) (0 : Rat) (0 : Rat)))) rfl (ox_idx_s (T3.mk (0 : Rat) (0 : Rat) (0 : Rat)) ((q + 1) % l.length) Tryz.underlying36 ty33 rfl rfl rl (by first | rfl | (push_cast; rfl)) (by exact Nat.mod_lt _ (by omega)) (show 0 < 9 from by decide)) mem0 rfl ?_)))))
   intro v85 r85
   refine w_qx (F := fun v_ => (rpT (rpQ k)).Is mw v_ (l.getD ((q + 1) % l.length) (T3.mk (0 : Rat) (0 : Rat) (0 : Rat)))) rfl (yK ty33 rfl r85) mem0 rfl ?_
   intro v86 r86
   refine w_q rfl (fun h' L' hh hR => zF rfl) rfl (w_q rfl (fun h' L' hh hR => zF rfl) rfl (w_q rfl (fun h' L' hh hR => zF rfl) rfl ?_))
   refine w_c rfl ?_
   refine yO (vs := [_, _, _, _, _, _]) Tryz.call59 ⟨rfl, rfl, rfl, rfl, rfl, rfl, trivial⟩ (fun w hs => o_pl_touch (i := i) (j := j) hs r68 r75 r79 r86 (by omega) (by omega) (by omega)) rfl ?_
   intro v89 h1 hh1 r89
   obtain rfl : v89 = vI (touch2 (pr (l.getD p (T3.mk (0 : Rat) (0 : Rat) (0 : Rat))) i j) (pr (l.getD ((p + 1) % l.length) (T3.mk (0 : Rat) (0 : Rat) (0 : Rat))) i j) (pr (l.getD q (T3.mk (0 : Rat) (0 : Rat) (0 : Rat))) i j) (pr (l.getD ((q + 1) % l.length) (T3.mk (0 : Rat) (0 : Rat) (0 : Rat))) i j)) := r89
   have htr89 := touch_range (pr (l.getD p (T3.mk (0 : Rat) (0 : Rat) (0 : Rat))) i j) (pr (l.getD ((p + 1) % l.length) (T3.mk (0 : Rat) (0 : Rat) (0 : Rat))) i j) (pr (l.getD q (T3.mk (0 : Rat) (0 : Rat) (0 : Rat))) i j) (pr (l.getD ((q + 1) % l.length) (T3.mk (0 : Rat) (0 : Rat) (0 : Rat))) i j)
   refine w_q rfl (fun h' L' hh hR => ov_neq_i rfl rfl) rfl (w_nil (zL (e' := [(0, _), (1, _), (2, _), (7, _), (10, _), (11, _), (40, _), (41, _), (91, _)]) ⟨rfl, rfl, rfl, rfl, rfl, rfl, rfl, rfl, rfl, trivial⟩ (zB ?_)))
   refine zH rfl (fun hc91 => ?_) (fun hc91 => ?_)
   ·
    refine zC (zA (asg rfl rfl (zD (zB (zN (gr_in (zO (zO (gr_in (gr_in (zO (zO (gr_in ?_)))))))))))))
    refine zO (zW rfl rfl ?_)
    exact (yA (fun e => hc91 (e.2.2 p q (by omega) (by omega) (by omega)))).symm
   refine zI (gq_in (zB (zA (mv rfl rfl (gv (zV (q := 1) rfl rfl (by omega) (by omega)) rfl (asg rfl rfl (zD ?_)))))))
   refine yJ ((q + 1), h1) ?_ ?_ ⟨rfl, rfl, rfl, rfl, rfl, rfl, rfl, rfl, trivial⟩ rfl rfl
   ·
    refine ⟨((hmmq.trans hmmw).trans hh1), ?_⟩
    exact ⟨by omega, by omega, row_next hq2 (Classical.not_not.1 hc91)⟩
   dsimp only
   omega
  refine gc_exit (zZ (zZ (gx_here (gq_in (zB (zA (gv (zV (q := 1) rfl rfl (by omega) (by omega)) rfl (mv rfl rfl (zD ?_)))))))))
  refine yJ ((p + 1), mq) ?_ ?_ ⟨rfl, rfl, rfl, rfl, rfl, rfl, trivial⟩ rfl rfl
  ·
   refine ⟨(hmmp.trans hmmq), ?_⟩
   exact ⟨by omega, pairs_next hp2 hq2 (by omega)⟩
  dsimp only
  omega
 have ep : p = l.length := by omega
 have hQ := hp2
 rw [ep] at hQ
 refine gc_exit (zZ (zZ (gx_here (zB (zC (zA (asg rfl rfl (zD (zB (zN (zW rfl rfl ?_)))))))))))
 exact (yI ⟨by omega, hP, hQ⟩).symm

end Go.Proofs.YtfpjclgbieppeaaGreat


namespace Go.Proofs.YtfpjclgbieppeaaGreat
open Bk Go
set_option linter.unusedVariables false
set_option linter.unusedSimpArgs false
set_option maxRecDepth 10000

theorem o_r5_flat {w0 : World} {h0 : Mem}  (hs : MLe h0 (mem w0)) {k : Nat} {vp : Value} {p : (T3 Rat)} (rp : (rpT (rpQ k)).Is h0 vp p)  :
    Calls Tryz.prog 43 #[vp] w0 (Ret w0 h0 (fun h r => (rpT (rpQ (k + 1))).Is h r (T3.mk p.x p.y (0 : Rat)))) := by
 refine zR (n := 8) (e := [(0, vp)]) (vs := [vp]) Tryz.func43 rfl rfl (Nat.le_of_ble_eq_true rfl) hs ⟨rfl, trivial⟩ (zC (zA (zP (new_boxx (ρ := (rpT (rpQ k))) rfl rp) rfl rfl rfl ?_)))
 intro v1 q1 hq1
 obtain ⟨b1, cs1, rfl, rfl, rb1⟩ := hq1
 refine zP (new_allocx (ρ := (rpT (rpQ (k + 1)))) (X := (T3.mk (0 : Rat) (0 : Rat) (0 : Rat))) info33 rfl rfl (zr_t (zr_q (by omega)))) rfl rfl rfl ?_
 intro v2 q2 hq2
 obtain ⟨b2, cs2, rfl, rfl, rb2⟩ := hq2
 refine zD (zB (zC (zA (gv ((zY (sz := 3) (q := 0) 0 Tryz.underlying33 Tryz.sizeOf31 rfl rfl rfl (by decide)).cv (show _ = vP b1 0 from congrArg (vP b1) (by rfl))) rfl (gl_x (F := fun v_ => (rpQ k).Is h0 v_ p.x) (zE ty31 (Pc.tx (Pc.here _)) rfl rfl rb1 rfl) (mem1 (.tail _ (.head _))) rfl ?_)))))
 intro v4 r4
 refine gv ((zY (sz := 3) (q := 1) 1 Tryz.underlying33 Tryz.sizeOf31 rfl rfl rfl (by decide)).cv (show _ = vP b1 3 from congrArg (vP b1) (by rfl))) rfl (gl_x (F := fun v_ => (rpQ k).Is h0 v_ p.y) (zE ty31 (Pc.ty (Pc.here _)) rfl rfl rb1 rfl) (mem1 (.tail _ (.head _))) rfl ?_)
 intro v6 r6
 refine gl_x (F := fun v_ => (rpT (rpQ (k + 1))).Is h0 v_ (T3.mk p.x p.y (0 : Rat))) (ox_build_arr (ps' := [(0, _), (1, _)]) Tryz.underlying33 info33 rfl rfl Tryz.sizeOf31 ⟨rfl, rfl, rfl, rfl, trivial⟩ rfl (zr_t (zr_q (by omega))) (fx_one rfl (Pc.tx (Pc.here _)) (r4.le (Le.q (l := k + 1) (by omega))) (fx_one rfl (Pc.ty (Pc.here _)) (r6.le (Le.q (l := k + 1) (by omega))) fx_nil))) mem0 rfl ?_
 intro v7 r7
 refine gl_updx (A := []) (F := fun c_ => (rpT (rpQ (k + 1))).R h0 c_ (T3.mk p.x p.y (0 : Rat))) (upd_box Tryz.sizeOf33 (Pc.here _) rfl rfl rfl rb2 r7 rfl) ?_
 intro cs_1 rb_2
 refine zD (zB (zN (gq_exv (rv_o (t := 2) ty33 (.head _) rfl rb_2) ?_)))
 intro w_3 hvw_3 rr_4
 refine gq_res (fun E S => run_res1 rfl hvw_3 E S) ?_
 exact rr_4

theorem o_r5_equal {w0 : World} {h0 : Mem}  (hs : MLe h0 (mem w0)) {k : Nat} {va : Value} {a : (T3 Rat)} (ra : (rpT (rpQ k)).Is h0 va a) {vb : Value} {b : (T3 Rat)} (rb : (rpT (rpQ k)).Is h0 vb b) (hcd0 : k ≤ 2000000000)  :
    Calls Tryz.prog 50 #[va, vb] w0 (Ret w0 h0 (fun _ r => r = vB ((pr a 0 1) = (pr b 0 1)))) := by
 refine zR (n := 17) (e := [(0, va), (1, vb)]) (vs := [va, vb]) Tryz.func50 rfl rfl (Nat.le_of_ble_eq_true rfl) hs ⟨rfl, rfl, trivial⟩ (zC (zA (zP (new_boxx (ρ := (rpT (rpQ k))) rfl ra) rfl rfl rfl ?_)))
 intro v2 q2 hq2
 obtain ⟨b2, cs2, rfl, rfl, rb2⟩ := hq2
 refine zP (new_boxx (ρ := (rpT (rpQ k))) rfl rb) rfl rfl rfl ?_
 intro v3 q3 hq3
 obtain ⟨b3, cs3, rfl, rfl, rb3⟩ := hq3
 refine asg rfl rfl (zD (zB (zC (zA (gv ((zY (sz := 3) (q := 0) 0 Tryz.underlying33 Tryz.sizeOf31 rfl rfl rfl (by decide)).cv (show _ = vP b2 0 from congrArg (vP b2) (by rfl))) rfl (gl_x (F := fun v_ => (rpQ k).Is h0 v_ a.x) (zE ty31 (Pc.tx (Pc.here _)) rfl rfl rb2 rfl) (mem1 (.tail _ (.head _))) rfl ?_))))))
 intro v6 r6
 refine gv ((zY (sz := 3) (q := 0) 0 Tryz.underlying33 Tryz.sizeOf31 rfl rfl rfl (by decide)).cv (show _ = vP b3 0 from congrArg (vP b3) (by rfl))) rfl (gl_x (F := fun v_ => (rpQ k).Is h0 v_ b.x) (zE ty31 (Pc.tx (Pc.here _)) rfl rfl rb3 rfl) (mem1 (.head _)) rfl ?_)
 intro v8 r8
 refine zJ (vs := [_, _]) rfl rfl rfl rfl Tryz.call23 ⟨rfl, rfl, trivial⟩ (fun w hs => o_rref_same hs r6 r8 (by omega)) ?_
 intro v9 h1 hh1 r9
 obtain rfl : v9 = vB (a.x = b.x) := r9
 refine gl_cut (ι := Mem) 7 (fun m_ => MLe h1 m_) (fun _ => [(16, vB ((a.x = b.x) ∧ (a.y = b.y)))]) (fun _ => [.var b3 33 cs3, .var b2 33 cs2]) (fun m_ => m_) ?_ ?_
 ·
  refine gl_cases (a.x = b.x) (fun hg => ?_) (fun hg => ?_)
  ·
   refine yG (zF (v := .bool true) (congrArg some (yI hg))) rfl rfl rfl (zT rfl rfl rfl (gv ((zY (sz := 3) (q := 1) 1 Tryz.underlying33 Tryz.sizeOf31 rfl rfl rfl (by decide)).cv (show _ = vP b2 3 from congrArg (vP b2) (by rfl))) rfl (zT rfl rfl rfl ?_)))
   replace rb2 := rb2.mono hh1
   refine gl_x (F := fun v_ => (rpQ k).Is h1 v_ a.y) (zE ty31 (Pc.ty (Pc.here _)) rfl rfl rb2 rfl) (mem1 (.tail _ (.head _))) rfl ?_
   intro v12 r12
   refine zT rfl rfl rfl (gv ((zY (sz := 3) (q := 1) 1 Tryz.underlying33 Tryz.sizeOf31 rfl rfl rfl (by decide)).cv (show _ = vP b3 3 from congrArg (vP b3) (by rfl))) rfl (zT rfl rfl rfl ?_))
   replace rb3 := rb3.mono hh1
   refine gl_x (F := fun v_ => (rpQ k).Is h1 v_ b.y) (zE ty31 (Pc.ty (Pc.here _)) rfl rfl rb3 rfl) (mem1 (.head _)) rfl ?_
   intro v14 r14
   refine zT rfl rfl rfl ?_
   refine zJ (vs := [_, _]) rfl rfl rfl rfl Tryz.call23 ⟨rfl, rfl, trivial⟩ (fun w hs => o_rref_same hs r12 r14 (by omega)) ?_
   intro v15 h2 hh2 r15
   obtain rfl : v15 = vB (a.y = b.y) := r15
   refine gv (yF rfl rfl) rfl (zD ?_)
   refine zU h2 hh2 ⟨?_, trivial⟩ rfl rfl
   exact congrArg some (vB_and_t hg)
  refine yG (zF (v := .bool false) (congrArg some (yA hg))) rfl rfl rfl (zK rfl rfl rfl rfl rfl rfl (zK rfl rfl rfl rfl rfl rfl (zK rfl rfl rfl rfl rfl rfl (zK rfl rfl rfl rfl rfl rfl (zK rfl rfl rfl rfl rfl rfl (gv (yD rfl rfl) rfl (zD ?_)))))))
  refine zU h1 (MLe.refl _) ⟨?_, trivial⟩ rfl rfl
  exact congrArg some (vB_and_f hg)
 intro mg1_5 hmmg1_5
 show GL _ _ _ _ _ _ _ [(16, vB ((a.x = b.x) ∧ (a.y = b.y)))] [.var b3 33 cs3, .var b2 33 cs2] mg1_5
 refine asg rfl rfl (zD (zB (zN (zW rfl rfl ?_))))
 first | exact vB_iff (by rw [pr_eq]; exact Iff.rfl) | exact (yI (by rw [pr_eq]; exact Iff.rfl)).symm | exact (yA (by rw [pr_eq]; exact Iff.rfl)).symm

theorem o_r5_less {w0 : World} {h0 : Mem}  (hs : MLe h0 (mem w0)) {k : Nat} {va : Value} {a : (T3 Rat)} (ra : (rpT (rpQ k)).Is h0 va a) {vb : Value} {b : (T3 Rat)} (rb : (rpT (rpQ k)).Is h0 vb b) (hcd0 : k ≤ 2000000000)  :
    Calls Tryz.prog 70 #[va, vb] w0 (Ret w0 h0 (fun _ r => r = vB (lx (pr a 0 1) (pr b 0 1)))) := by
 refine zR (n := 21) (e := [(0, va), (1, vb)]) (vs := [va, vb]) Tryz.func70 rfl rfl (Nat.le_of_ble_eq_true rfl) hs ⟨rfl, rfl, trivial⟩ (zC (zA (zP (new_boxx (ρ := (rpT (rpQ k))) rfl ra) rfl rfl rfl ?_)))
 intro v2 q2 hq2
 obtain ⟨b2, cs2, rfl, rfl, rb2⟩ := hq2
 refine zP (new_boxx (ρ := (rpT (rpQ k))) rfl rb) rfl rfl rfl ?_
 intro v3 q3 hq3
 obtain ⟨b3, cs3, rfl, rfl, rb3⟩ := hq3
 refine asg rfl rfl (zD (zB (zC (zC (zA (gv ((zY (sz := 3) (q := 0) 0 Tryz.underlying33 Tryz.sizeOf31 rfl rfl rfl (by decide)).cv (show _ = vP b2 0 from congrArg (vP b2) (by rfl))) rfl (gl_x (F := fun v_ => (rpQ k).Is h0 v_ a.x) (zE ty31 (Pc.tx (Pc.here _)) rfl rfl rb2 rfl) (mem1 (.tail _ (.head _))) rfl ?_)))))))
 intro v7 r7
 refine gv ((zY (sz := 3) (q := 0) 0 Tryz.underlying33 Tryz.sizeOf31 rfl rfl rfl (by decide)).cv (show _ = vP b3 0 from congrArg (vP b3) (by rfl))) rfl (gl_x (F := fun v_ => (rpQ k).Is h0 v_ b.x) (zE ty31 (Pc.tx (Pc.here _)) rfl rfl rb3 rfl) (mem1 (.head _)) rfl ?_)
 intro v9 r9
 refine zJ (vs := [_, _]) rfl rfl rfl rfl Tryz.call44 ⟨rfl, rfl, trivial⟩ (fun w hs => o_rref_cmp hs r7 r9 (by omega)) ?_
 intro v10 h1 hh1 r10
 obtain rfl : v10 = vI (cmpQ a.x b.x) := r10
 have hcr10 := cmpQ_range a.x b.x
 refine asg rfl rfl (zD (zB (zC (zA (mv rfl rfl (gv (ov_neq_i (q := 0) rfl rfl) rfl (zD (zB ?_))))))))
 refine zH rfl (fun hc12 => ?_) (fun hc12 => ?_)
 ·
  refine gc_keep (e' := [(5, _)]) ⟨rfl, trivial⟩ (zC (zA (mv rfl rfl (gv (yH (q := 0) rfl rfl) rfl (asg rfl rfl (zD (zB (zN (zO (zW rfl rfl ?_))))))))))
  exact vB_iff (less_1 hc12)
 refine gc_keep (e' := [(2, _), (3, _)]) ⟨rfl, rfl, trivial⟩ (zI (zB (zC (zA (gv ((zY (sz := 3) (q := 1) 1 Tryz.underlying33 Tryz.sizeOf31 rfl rfl rfl (by decide)).cv (show _ = vP b2 3 from congrArg (vP b2) (by rfl))) rfl ?_)))))
 replace rb2 := rb2.mono hh1
 refine gl_x (F := fun v_ => (rpQ k).Is h1 v_ a.y) (zE ty31 (Pc.ty (Pc.here _)) rfl rfl rb2 rfl) (mem1 (.tail _ (.head _))) rfl ?_
 intro v16 r16
 refine gv ((zY (sz := 3) (q := 1) 1 Tryz.underlying33 Tryz.sizeOf31 rfl rfl rfl (by decide)).cv (show _ = vP b3 3 from congrArg (vP b3) (by rfl))) rfl ?_
 replace rb3 := rb3.mono hh1
 refine gl_x (F := fun v_ => (rpQ k).Is h1 v_ b.y) (zE ty31 (Pc.ty (Pc.here _)) rfl rfl rb3 rfl) (mem1 (.head _)) rfl ?_
 intro v18 r18
 refine zJ (vs := [_, _]) rfl rfl rfl rfl Tryz.call44 ⟨rfl, rfl, trivial⟩ (fun w hs => o_rref_cmp hs r16 r18 (by omega)) ?_
 intro v19 h2 hh2 r19
 obtain rfl : v19 = vI (cmpQ a.y b.y) := r19
 have hcr19 := cmpQ_range a.y b.y
 refine gv (yH (q := 0) rfl rfl) rfl (asg rfl rfl (zD (zB (zN (zW rfl rfl ?_)))))
 exact vB_iff (less_2 hc12)

theorem o_r5_area {w0 : World} {h0 : Mem}  (hs : MLe h0 (mem w0)) {k : Nat} {vl : Value} {l : (List (T3 Rat))} (rl : (rpS (rpT (rpQ k))).Is h0 vl l) (hcd0 : k ≤ 100000) (hcd1 : l.length ≤ 1000)  :
    Calls Tryz.prog 25 #[vl] w0 (Ret w0 h0 (fun h r => (rpQ 1000000000).Is h r (areaTo l 0 1 l.length))) := by
 refine zR (n := 40) (e := [(0, vl)]) (vs := [vl]) Tryz.func25 rfl rfl (Nat.le_of_ble_eq_true rfl) hs ⟨rfl, trivial⟩ (zC (zA (zP (new_allocx (ρ := (rpQ 1)) (X := (0 : Rat)) info31 rfl rfl (zr_q (by decide))) rfl rfl rfl ?_)))
 intro v2 q2 hq2
 obtain ⟨b2, cs2, rfl, rfl, rb2⟩ := hq2
 refine zD (zB (zC (zA (gl_x (F := fun v_ => (rpQ 1).Is h0 v_ (0 : Rat)) (ox_build (ps' := []) Tryz.underlying31 info31 rfl rfl (places31 Tryz.underlying31) trivial rfl (zr_q (by decide)) fx_nil) mem0 rfl ?_))))
 intro v7 r7
 refine zP (new_allocx (ρ := (rpQ 1)) (X := (0 : Rat)) info31 rfl rfl (zr_q (by decide))) rfl rfl rfl ?_
 intro v3 q3 hq3
 obtain ⟨b3, cs3, rfl, rfl, rb3⟩ := hq3
 refine gl_updx (A := []) (F := fun c_ => (rpQ 1).R h0 c_ (0 : Rat)) (upd_box Tryz.sizeOf31 (Pc.here _) rfl rfl rfl rb3 r7 rfl) ?_
 intro cs_5 rb_6
 refine zD (zB (zC (zC (zA (asg (v := vI (0)) rfl rfl (zD (zB (zQ ?_))))))))
 refine gc_loop (ι := Nat × Nat × List Value × Mem) (fun (m, q, cs_7, ma) => MLe h0 ma ∧ ((rpQ q).R ma cs_7 (areaTo l 0 1 m) ∧ m ≤ l.length ∧ q ≤ (4 * k + 9) * m + 1)) (fun (m, q, cs_7, ma) => [(0, vl), (2, vP b2 0), (3, vP b3 0), (4, vI ↑m)]) (fun (m, q, cs_7, ma) => [.var b3 31 cs_7, .var b2 31 cs2]) (fun (m, q, cs_7, ma) => ma) (fun (m, q, cs_7, ma) => l.length - m) (0, 1, cs_5, h0) ?_ ⟨rfl, rfl, rfl, rfl, trivial⟩ rfl rfl ?_
 ·
  refine ⟨MLe.refl _, ?_⟩
  refine ⟨rb_6, ?_⟩
  exact ⟨by omega, by omega⟩
 intro x hx
 obtain ⟨m, q, cs_7, ma⟩ := x
 obtain ⟨hmma, hinv⟩ := hx
 show GC _ _ _ _ _ _ [(0, vl), (2, vP b2 0), (3, vP b3 0), (4, vI ↑m)] [.var b3 31 cs_7, .var b2 31 cs2] ma
 obtain ⟨rb_8, hinv⟩ := hinv
 obtain ⟨hm1, hq1⟩ := hinv
 have hq2 := Nat.mul_le_mul_left (4 * k + 9) (show m ≤ 1000 by omega)
 refine zC (zC (zA (mv rfl rfl (mv rfl rfl ?_))))
 replace rl := rl.mono hmma
 refine gv (ov_len_sr Tryz.underlying36 rfl rl) rfl (gv (yH rfl rfl) rfl (zD (zB ?_)))
 refine zH rfl (fun hc11 => ?_) (fun hc11 => ?_)
 ·
  refine zI (zB (zC (zQ (zC ?_))))
  refine gc_draw 16 _ [(12, (5, 33, [.bool false, .slice none 0 0, .slice none 0 0, .bool false, .slice none 0 0, .slice none 0 0, .bool false, .slice none 0 0, .slice none 0 0])), (13, (6, 33, [.bool false, .slice none 0 0, .slice none 0 0, .bool false, .slice none 0 0, .slice none 0 0, .bool false, .slice none 0 0, .slice none 0 0]))] [(0, .q), (1, .q), (2, .q), (3, .q), (4, .q), (5, .q), (6, .q), (7, .q), (8, .q), (9, .q), (10, .q), (11, .q), (12, .a), (13, .a), (14, .c), (15, .c)] mixed (AlOk.cons rfl (zero_run info33 rfl rfl) (AlOk.cons rfl (zero_run info33 rfl rfl) AlOk.nil)) (chk_of [0, 0, 3, 4, 0, 0, 32, 0, 128, 320, 528, 1024, 0, 0, 12303, 32767] [65535, 65535, 65532, 65531, 65535, 65535, 65503, 65535, 65407, 65215, 65007, 64511, 65535, 65535, 61431, 55295] (by kernel_rfl)) (hae_cons rfl rfl (hae_cons rfl rfl hae_nil)) (fun r hr => hr) (w_q rfl (fun h' L' hh hR => zF rfl) rfl (w_q rfl (fun h' L' hh hR => zF rfl) rfl (w_qx (F := fun v_ => AtP (rpT (rpQ k)) ma v_ (l.getD m (T3.mk (0 : Rat) (0 : Rat) (0 : Rat)))) rfl (ox_idx_s (T3.mk (0 : Rat) (0 : Rat) (0 : Rat)) m Tryz.underlying36 ty33 rfl rfl rl rfl (by omega) (show 0 < 9 from by decide)) mem0 rfl ?_)))
  intro v16 r16
  refine w_qx (F := fun v_ => (rpT (rpQ k)).Is ma v_ (l.getD m (T3.mk (0 : Rat) (0 : Rat) (0 : Rat)))) rfl (yK ty33 rfl r16) mem0 rfl ?_
  intro v17 r17
  refine w_q rfl (fun h' L' hh hR => zF rfl) rfl (w_q rfl (fun h' L' hh hR => zF rfl) rfl (w_q rfl (fun h' L' hh hR => zV (q := 1) rfl rfl (by omega) (by omega)) rfl (w_q rfl (fun h' L' hh hR => zF rfl) rfl (w_q rfl (fun h' L' hh hR => ov_len_sr Tryz.underlying36 rfl (rl.mono hh)) rfl (w_q rfl (fun h' L' hh hR => ov_rem_i rfl rfl (by omega) (by omega)) rfl (w_qx (F := fun v_ => AtP (rpT (rpQ k)) ma v_ (l.getD ((m + 1) % l.length) (T3.mk (0 : Rat) (0 : Rat) (0 : Rat)))) rfl (ox_idx_s (T3.mk (0 : Rat) (0 : Rat) (0 : Rat)) ((m + 1) % l.length) Tryz.underlying36 ty33 rfl rfl rl (by first | rfl | (push_cast; rfl)) (by exact Nat.mod_lt _ (by omega)) (show 0 < 9 from by decide)) mem0 rfl ?_))))))
  intro v24 r24
  refine w_qx (F := fun v_ => (rpT (rpQ k)).Is ma v_ (l.getD ((m + 1) % l.length) (T3.mk (0 : Rat) (0 : Rat) (0 : Rat)))) rfl (yK ty33 rfl r24) mem0 rfl ?_
  intro v25 r25
  refine w_a rfl (fun b5 => ?_)
  have rb5 : (rpT (rpQ 1)).R ma [.bool false, .slice none 0 0, .slice none 0 0, .bool false, .slice none 0 0, .slice none 0 0, .bool false, .slice none 0 0, .slice none 0 0] (T3.mk (0 : Rat) (0 : Rat) (0 : Rat)) := (zr_t (zr_q (by decide)))
  refine w_a rfl (fun b6 => ?_)
  have rb6 : (rpT (rpQ 1)).R ma [.bool false, .slice none 0 0, .slice none 0 0, .bool false, .slice none 0 0, .slice none 0 0, .bool false, .slice none 0 0, .slice none 0 0] (T3.mk (0 : Rat) (0 : Rat) (0 : Rat)) := (zr_t (zr_q (by decide)))
  refine w_c rfl ?_
  have rw_9 := (Le.t (Le.q (l := k + 1) (by omega))).R rb5
  refine s_updx (A := [_]) (F := fun c_ => (rpT (rpQ (k + 1))).R ma c_ (l.getD m (T3.mk (0 : Rat) (0 : Rat) (0 : Rat)))) (upd_box Tryz.sizeOf33 (Pc.here _) rfl rfl rfl rw_9 (r17.le (Le.t (Le.q (l := k + 1) (by omega)))) rfl) (mem_kept (by first | (simp; done) | grind)) ?_
  intro cs_10 rb_11
  refine w_c rfl ?_
  have rw_12 := (Le.t (Le.q (l := k + 1) (by omega))).R rb6
  refine s_updx (A := []) (F := fun c_ => (rpT (rpQ (k + 1))).R ma c_ (l.getD ((m + 1) % l.length) (T3.mk (0 : Rat) (0 : Rat) (0 : Rat)))) (upd_box Tryz.sizeOf33 (Pc.here _) rfl rfl rfl rw_12 (r25.le (Le.t (Le.q (l := k + 1) (by omega)))) rfl) (mem_kept (by first | (simp; done) | grind)) ?_
  intro cs_13 rb_14
  refine w_nil (zL (e' := [(0, _), (2, _), (3, _), (4, _), (5, _), (6, _)]) ⟨rfl, rfl, rfl, rfl, rfl, rfl, trivial⟩ (zB ?_))
  refine gc_draw 13 _ [] [(0, .q), (1, .q), (2, .q), (3, .q), (4, .q), (6, .q), (7, .q), (8, .q), (9, .q), (5, .c), (10, .c), (11, .c), (12, .c), (13, .t)] mixed (fun x hx => by cases hx) (chk_of [0, 0, 2, 0, 8, 20, 0, 64, 0, 256, 672, 1056, 2049, 8191] [16383, 16383, 16381, 16383, 16375, 16363, 16383, 16319, 16383, 16127, 15743, 15327, 14334, 12287] (by kernel_rfl)) (fun x hx => by cases hx) (fun r hr => hr) (w_qx (F := fun v_ => (rpQ q).Is ma v_ (areaTo l 0 1 m)) rfl (zE ty31 (Pc.here _) rfl rfl rb_8 rfl) (mem1 (.tail _ (.tail _ (.head _)))) rfl ?_)
  intro v26 r26
  refine w_q rfl (fun h' L' hh hR => (zY (sz := 3) (q := 0) 0 Tryz.underlying33 Tryz.sizeOf31 rfl rfl rfl (by decide)).cv (show _ = vP b5 0 from congrArg (vP b5) (by rfl))) rfl (w_qx (F := fun v_ => (rpQ (k + 1)).Is ma v_ ((l.getD m (T3.mk (0 : Rat) (0 : Rat) (0 : Rat))).x)) rfl (zE ty31 (Pc.tx (Pc.here _)) rfl rfl rb_11 rfl) (mem1 (.tail _ (.head _))) rfl ?_)
  intro v28 r28
  refine w_q rfl (fun h' L' hh hR => (zY (sz := 3) (q := 1) 1 Tryz.underlying33 Tryz.sizeOf31 rfl rfl rfl (by decide)).cv (show _ = vP b6 3 from congrArg (vP b6) (by rfl))) rfl (w_qx (F := fun v_ => (rpQ (k + 1)).Is ma v_ ((l.getD ((m + 1) % l.length) (T3.mk (0 : Rat) (0 : Rat) (0 : Rat))).y)) rfl (zE ty31 (Pc.ty (Pc.here _)) rfl rfl rb_14 rfl) (mem1 (.head _)) rfl ?_)
  intro v30 r30
  refine w_q rfl (fun h' L' hh hR => (zY (sz := 3) (q := 0) 0 Tryz.underlying33 Tryz.sizeOf31 rfl rfl rfl (by decide)).cv (show _ = vP b6 0 from congrArg (vP b6) (by rfl))) rfl (w_qx (F := fun v_ => (rpQ (k + 1)).Is ma v_ ((l.getD ((m + 1) % l.length) (T3.mk (0 : Rat) (0 : Rat) (0 : Rat))).x)) rfl (zE ty31 (Pc.tx (Pc.here _)) rfl rfl rb_14 rfl) (mem1 (.head _)) rfl ?_)
  intro v33 r33
  refine w_q rfl (fun h' L' hh hR => (zY (sz := 3) (q := 1) 1 Tryz.underlying33 Tryz.sizeOf31 rfl rfl rfl (by decide)).cv (show _ = vP b5 3 from congrArg (vP b5) (by rfl))) rfl (w_qx (F := fun v_ => (rpQ (k + 1)).Is ma v_ ((l.getD m (T3.mk (0 : Rat) (0 : Rat) (0 : Rat))).y)) rfl (zE ty31 (Pc.ty (Pc.here _)) rfl rfl rb_11 rfl) (mem1 (.tail _ (.head _))) rfl ?_)
  intro v35 r35
  refine w_c rfl ?_
  refine yO (vs := [_, _]) Tryz.call37 ⟨rfl, rfl, trivial⟩ (fun w hs => o_rref_mul hs r28 r30 (by omega)) rfl ?_
  intro v31 h1 hh1 r31
  change (rpQ ((k + 1) + (k + 1))).Is h1 v31 (((l.getD m (T3.mk (0 : Rat) (0 : Rat) (0 : Rat))).x) * ((l.getD ((m + 1) % l.length) (T3.mk (0 : Rat) (0 : Rat) (0 : Rat))).y)) at r31
  replace r31 := Rp.Is.le r31 (Le.q (l := 2 * k + 2) (by omega))
  refine w_c rfl ?_
  replace r33 := r33.mono hh1
  replace r35 := r35.mono hh1
  refine yO (vs := [_, _]) Tryz.call37 ⟨rfl, rfl, trivial⟩ (fun w hs => o_rref_mul hs r33 r35 (by omega)) rfl ?_
  intro v36 h2 hh2 r36
  change (rpQ ((k + 1) + (k + 1))).Is h2 v36 (((l.getD ((m + 1) % l.length) (T3.mk (0 : Rat) (0 : Rat) (0 : Rat))).x) * ((l.getD m (T3.mk (0 : Rat) (0 : Rat) (0 : Rat))).y)) at r36
  replace r36 := Rp.Is.le r36 (Le.q (l := 2 * k + 2) (by omega))
  refine w_c rfl ?_
  replace r31 := r31.mono hh2
  refine yO (vs := [_, _]) Tryz.call39 ⟨rfl, rfl, trivial⟩ (fun w hs => o_rref_sub hs r31 r36 (by omega)) rfl ?_
  intro v37 h3 hh3 r37
  change (rpQ ((2 * k + 2) + (2 * k + 2) + 1)).Is h3 v37 ((((l.getD m (T3.mk (0 : Rat) (0 : Rat) (0 : Rat))).x) * ((l.getD ((m + 1) % l.length) (T3.mk (0 : Rat) (0 : Rat) (0 : Rat))).y)) - (((l.getD ((m + 1) % l.length) (T3.mk (0 : Rat) (0 : Rat) (0 : Rat))).x) * ((l.getD m (T3.mk (0 : Rat) (0 : Rat) (0 : Rat))).y))) at r37
  replace r37 := Rp.Is.le r37 (Le.q (l := 4 * k + 5) (by omega))
  refine w_c rfl ?_
  replace r26 := r26.mono ((hh1.trans hh2).trans hh3)
  refine yO (vs := [_, _]) Tryz.call36 ⟨rfl, rfl, trivial⟩ (fun w hs => o_rref_add hs r26 r37 (by omega)) rfl ?_
  intro v38 h4 hh4 r38
  change (rpQ (q + (4 * k + 5) + 1)).Is h4 v38 ((areaTo l 0 1 m) + ((((l.getD m (T3.mk (0 : Rat) (0 : Rat) (0 : Rat))).x) * ((l.getD ((m + 1) % l.length) (T3.mk (0 : Rat) (0 : Rat) (0 : Rat))).y)) - (((l.getD ((m + 1) % l.length) (T3.mk (0 : Rat) (0 : Rat) (0 : Rat))).x) * ((l.getD m (T3.mk (0 : Rat) (0 : Rat) (0 : Rat))).y)))) at r38
  replace r38 := Rp.Is.le r38 (Le.q (l := 4 * k + q + 6) (by omega))
  replace rb_8 := rb_8.mono (((hh1.trans hh2).trans hh3).trans hh4)
  have rw_15 := (Le.q (l := 4 * k + q + 6) (by omega)).R rb_8
  refine w_tx_upd (A := [_, _]) (F := fun c_ => (rpQ (4 * k + q + 6)).R h4 c_ ((areaTo l 0 1 m) + ((((l.getD m (T3.mk (0 : Rat) (0 : Rat) (0 : Rat))).x) * ((l.getD ((m + 1) % l.length) (T3.mk (0 : Rat) (0 : Rat) (0 : Rat))).y)) - (((l.getD ((m + 1) % l.length) (T3.mk (0 : Rat) (0 : Rat) (0 : Rat))).x) * ((l.getD m (T3.mk (0 : Rat) (0 : Rat) (0 : Rat))).y))))) rfl (upd_box Tryz.sizeOf31 (Pc.here _) rfl rfl rfl rw_15 r38 rfl) ?_
  intro cs_16 rb_17
  refine w_nil (gq_in (zL (e' := [(0, _), (2, _), (3, _), (4, _)]) ⟨rfl, rfl, rfl, rfl, trivial⟩ (zB (zA (mv rfl rfl (gv (zV (q := 1) rfl rfl (by omega) (by omega)) rfl (asg rfl rfl (zD (gq_drop (A := []) (gq_drop (A := []) ?_))))))))))
  refine yJ ((m + 1), (q + (4 * k + 9)), cs_16, h4) ?_ ?_ ⟨rfl, rfl, rfl, rfl, trivial⟩ rfl rfl
  ·
   refine ⟨((((hmma.trans hh1).trans hh2).trans hh3).trans hh4), ?_⟩
   refine ⟨(Rp.castR (Le.R (Le.q (l := q + (4 * k + 9)) (by omega)) rb_17) rfl), ?_⟩
   exact ⟨by omega, by rw [Nat.mul_succ]; omega⟩
  dsimp only
  omega
 have em : m = l.length := by omega
 have hq2 := Nat.mul_le_mul_left (4 * k + 9) (show m ≤ 1000 by omega)
 refine gc_exit (zZ (zZ (gx_here (zB (zC (zA (gl_x (F := fun v_ => (rpQ q).Is ma v_ (areaTo l 0 1 m)) (zE ty31 (Pc.here _) rfl rfl rb_8 rfl) (mem1 (.head _)) rfl ?_)))))))
 intro v39 r39
 replace rb2 := rb2.mono hmma
 have rw_18 := (Le.q (l := q + 1) (by omega)).R rb2
 refine gl_updx (A := [_]) (F := fun c_ => (rpQ (q + 1)).R ma c_ (areaTo l 0 1 m)) (upd_box Tryz.sizeOf31 (Pc.here _) rfl rfl rfl rw_18 (r39.le (Le.q (l := q + 1) (by omega))) rfl) ?_
 intro cs_19 rb_20
 refine zD (zB (zN (gq_exv (rv_o (t := 2) ty31 (.tail _ (.head _)) rfl rb_20) ?_)))
 intro w_21 hvw_21 rr_22
 refine gq_res (fun E S => run_res1 rfl hvw_21 E S) ?_
 exact (Rp.Is.cast (Rp.Is.le rr_22 (Le.q (l := 1000000000) (by omega))) (by rw [em]))

theorem o_r5_turn {w0 : World} {h0 : Mem}  (hs : MLe h0 (mem w0)) {k : Nat} {va : Value} {a : (T3 Rat)} (ra : (rpT (rpQ k)).Is h0 va a) {vb : Value} {b : (T3 Rat)} (rb : (rpT (rpQ k)).Is h0 vb b) {vc : Value} {c : (T3 Rat)} (rc : (rpT (rpQ k)).Is h0 vc c) (hcd0 : k ≤ 10000)  :
    Calls Tryz.prog 45 #[va, vb, vc] w0 (Ret w0 h0 (fun _ r => r = vI (orZ (pr a 0 1) (pr b 0 1) (pr c 0 1)))) := by
 refine zR (n := 13) (e := [(0, va), (1, vb), (2, vc)]) (vs := [va, vb, vc]) Tryz.func45 rfl rfl (Nat.le_of_ble_eq_true rfl) hs ⟨rfl, rfl, rfl, trivial⟩ (zC (zA (zP (new_boxx (ρ := (rpT (rpQ k))) rfl ra) rfl rfl rfl ?_)))
 intro v3 q3 hq3
 obtain ⟨b3, cs3, rfl, rfl, rb3⟩ := hq3
 refine zP (new_boxx (ρ := (rpT (rpQ k))) rfl rb) rfl rfl rfl ?_
 intro v4 q4 hq4
 obtain ⟨b4, cs4, rfl, rfl, rb4⟩ := hq4
 refine zP (new_boxx (ρ := (rpT (rpQ k))) rfl rc) rfl rfl rfl ?_
 intro v5 q5 hq5
 obtain ⟨b5, cs5, rfl, rfl, rb5⟩ := hq5
 refine asg (v := vI (0)) rfl rfl (zD (zB (zC (zA (gl_x (F := fun v_ => (rpT (rpQ k)).Is h0 v_ a) (zE ty33 (Pc.here _) rfl rfl rb3 rfl) (mem1 (.tail _ (.tail _ (.head _)))) rfl ?_)))))
 intro v7 r7
 refine gl_x (F := fun v_ => (rpT (rpQ k)).Is h0 v_ b) (zE ty33 (Pc.here _) rfl rfl rb4 rfl) (mem1 (.tail _ (.head _))) rfl ?_
 intro v8 r8
 refine gl_x (F := fun v_ => (rpT (rpQ k)).Is h0 v_ c) (zE ty33 (Pc.here _) rfl rfl rb5 rfl) (mem1 (.head _)) rfl ?_
 intro v9 r9
 refine zP (new_buildx (ρ := (rpT (rpQ (k + 1)))) (m := 3) (xs := [a, b, c]) (ps' := [(0, _), (1, _), (2, _)]) Tryz.underlying36 info33 rfl rfl rfl (zr_t (zr_q (by omega))) ⟨rfl, rfl, rfl, rfl, rfl, rfl, trivial⟩ (fx_one rfl (Pc.arr (Pc.here _) (T3.mk (0 : Rat) (0 : Rat) (0 : Rat)) 0 (by decide)) (r7.le (Le.t (Le.q (l := k + 1) (by omega)))) (fx_one rfl (Pc.arr (Pc.here _) (T3.mk (0 : Rat) (0 : Rat) (0 : Rat)) 1 (by decide)) (r8.le (Le.t (Le.q (l := k + 1) (by omega)))) (fx_one rfl (Pc.arr (Pc.here _) (T3.mk (0 : Rat) (0 : Rat) (0 : Rat)) 2 (by decide)) (r9.le (Le.t (Le.q (l := k + 1) (by omega)))) fx_nil))) (show 3 * 9 ≤ 16777216 from by decide) (show 0 < 9 from by decide)) rfl rfl rfl ?_
 intro v10 q10 hq10
 obtain ⟨cs10, rfl, rl10⟩ := hq10
 refine gl_freezex (A := []) (ρ := (rpT (rpQ (k + 1)))) rl10 ?_
 intro h1 hh1 rs_23
 refine zJ (vs := [_]) rfl rfl rfl rfl Tryz.call25 ⟨rfl, trivial⟩ (fun w hs => o_r5_area hs rs_23 (by first | omega | exact (by decide : 3 ≤ 1000)) (by first | omega | exact (by decide : 3 ≤ 1000))) ?_
 intro v11 h2 hh2 r11
 change (rpQ 1000000000).Is h2 v11 (areaTo [a, b, c] 0 1 [a, b, c].length) at r11
 refine zJ (vs := [_]) rfl rfl rfl rfl Tryz.call55 ⟨rfl, trivial⟩ (fun w hs => o_rref_sign hs r11 (by decide)) ?_
 intro v12 h3 hh3 r12
 obtain rfl : v12 = vI (sgnQ (areaTo [a, b, c] 0 1 [a, b, c].length)) := r12
 have hsr12 := sgnQ_range (areaTo [a, b, c] 0 1 [a, b, c].length)
 refine asg rfl rfl (zD (zL (e' := [(6, _)]) ⟨rfl, trivial⟩ (zB (zN (zW rfl rfl ?_)))))
 exact congrArg vI (turn_eq a b c)

theorem o_r5_on {w0 : World} {h0 : Mem}  (hs : MLe h0 (mem w0)) {k : Nat} {va : Value} {a : (T3 Rat)} (ra : (rpT (rpQ k)).Is h0 va a) {vb : Value} {b : (T3 Rat)} (rb : (rpT (rpQ k)).Is h0 vb b) {vp : Value} {p : (T3 Rat)} (rp : (rpT (rpQ k)).Is h0 vp p) (hcd0 : k ≤ 10000)  :
    Calls Tryz.prog 42 #[va, vb, vp] w0 (Ret w0 h0 (fun _ r => r = vB (onS (pr a 0 1) (pr b 0 1) (pr p 0 1)))) := by
 refine zR (n := 29) (e := [(0, va), (1, vb), (2, vp)]) (vs := [va, vb, vp]) Tryz.func42 rfl rfl (Nat.le_of_ble_eq_true rfl) hs ⟨rfl, rfl, rfl, trivial⟩ (zC (zA (zP (new_boxx (ρ := (rpT (rpQ k))) rfl ra) rfl rfl rfl ?_)))
 intro v3 q3 hq3
 obtain ⟨b3, cs3, rfl, rfl, rb3⟩ := hq3
 refine zP (new_boxx (ρ := (rpT (rpQ k))) rfl rb) rfl rfl rfl ?_
 intro v4 q4 hq4
 obtain ⟨b4, cs4, rfl, rfl, rb4⟩ := hq4
 refine zP (new_boxx (ρ := (rpT (rpQ k))) rfl rp) rfl rfl rfl ?_
 intro v5 q5 hq5
 obtain ⟨b5, cs5, rfl, rfl, rb5⟩ := hq5
 refine asg rfl rfl (zD (zB ?_))
 refine gc_cut (ι := List Value × List Value × Mem) (fun (cs_24, cs_26, m1) => MLe h0 m1 ∧ ((rpT (rpQ k)).R m1 cs_24 (loT a b 0 1) ∧ (rpT (rpQ k)).R m1 cs_26 (hiT a b 0 1) ∧ True)) (fun (cs_24, cs_26, m1) => [(3, vP b3 0), (4, vP b4 0), (5, vP b5 0)]) (fun (cs_24, cs_26, m1) => [.var b5 33 cs5, .var b4 33 cs_26, .var b3 33 cs_24]) (fun (cs_24, cs_26, m1) => m1) ?_ ?_
 ·
  refine zC (zA (gl_x (F := fun v_ => (rpT (rpQ k)).Is h0 v_ b) (zE ty33 (Pc.here _) rfl rfl rb4 rfl) (mem1 (.tail _ (.head _))) rfl ?_))
  intro v7 r7
  refine gl_x (F := fun v_ => (rpT (rpQ k)).Is h0 v_ a) (zE ty33 (Pc.here _) rfl rfl rb3 rfl) (mem1 (.tail _ (.tail _ (.head _)))) rfl ?_
  intro v8 r8
  refine zJ (vs := [_, _]) rfl rfl rfl rfl Tryz.call70 ⟨rfl, rfl, trivial⟩ (fun w hs => o_r5_less hs r7 r8 (by omega)) ?_
  intro v9 h1 hh1 r9
  obtain rfl : v9 = vB (lx (pr b 0 1) (pr a 0 1)) := r9
  refine zD (zB ?_)
  refine zH rfl (fun hc9 => ?_) (fun hc9 => ?_)
  ·
   refine zA ?_
   replace rb4 := rb4.mono hh1
   refine gl_x (F := fun v_ => (rpT (rpQ k)).Is h1 v_ b) (zE ty33 (Pc.here _) rfl rfl rb4 rfl) (mem1 (.tail _ (.head _))) rfl ?_
   intro v10 r10
   replace rb3 := rb3.mono hh1
   refine gl_x (F := fun v_ => (rpT (rpQ k)).Is h1 v_ a) (zE ty33 (Pc.here _) rfl rfl rb3 rfl) (mem1 (.tail _ (.tail _ (.head _)))) rfl ?_
   intro v11 r11
   refine gl_updx (A := [_, _]) (F := fun c_ => (rpT (rpQ k)).R h1 c_ b) (upd_box Tryz.sizeOf33 (Pc.here _) rfl rfl rfl rb3 r10 rfl) ?_
   intro cs_28 rb_29
   refine gl_updx (A := [_]) (F := fun c_ => (rpT (rpQ k)).R h1 c_ a) (upd_box Tryz.sizeOf33 (Pc.here _) rfl rfl rfl rb4 r11 rfl) ?_
   intro cs_30 rb_31
   refine zD ?_
   refine zU (cs_28, cs_30, h1) ?_ ⟨rfl, rfl, rfl, trivial⟩ rfl rfl
   refine ⟨hh1, ?_⟩
   refine ⟨(Rp.castR rb_29 (if_pos hc9).symm), (Rp.castR rb_31 (if_pos hc9).symm), ?_⟩
   trivial
  refine zI ?_
  refine zU (cs3, cs4, h1) ?_ ⟨rfl, rfl, rfl, trivial⟩ rfl rfl
  refine ⟨hh1, ?_⟩
  replace rb3 := rb3.mono hh1
  replace rb4 := rb4.mono hh1
  refine ⟨(Rp.castR rb3 (if_neg hc9).symm), (Rp.castR rb4 (if_neg hc9).symm), ?_⟩
  trivial
 intro x hx
 obtain ⟨cs_24, cs_26, m1⟩ := x
 obtain ⟨hmm1, hcut⟩ := hx
 show GC _ _ _ _ _ _ [(3, vP b3 0), (4, vP b4 0), (5, vP b5 0)] [.var b5 33 cs5, .var b4 33 cs_26, .var b3 33 cs_24] m1
 obtain ⟨rb_25, rb_27, hcut⟩ := hcut
 refine zC (zA (gl_x (F := fun v_ => (rpT (rpQ k)).Is m1 v_ (loT a b 0 1)) (zE ty33 (Pc.here _) rfl rfl rb_25 rfl) (mem1 (.tail _ (.tail _ (.head _)))) rfl ?_))
 intro v12 r12
 refine gl_x (F := fun v_ => (rpT (rpQ k)).Is m1 v_ (hiT a b 0 1)) (zE ty33 (Pc.here _) rfl rfl rb_27 rfl) (mem1 (.tail _ (.head _))) rfl ?_
 intro v13 r13
 replace rb5 := rb5.mono hmm1
 refine gl_x (F := fun v_ => (rpT (rpQ k)).Is m1 v_ p) (zE ty33 (Pc.here _) rfl rfl rb5 rfl) (mem1 (.head _)) rfl ?_
 intro v14 r14
 refine zJ (vs := [_, _, _]) rfl rfl rfl rfl Tryz.call45 ⟨rfl, rfl, rfl, trivial⟩ (fun w hs => o_r5_turn hs r12 r13 r14 (by omega)) ?_
 intro v15 h1 hh1 r15
 obtain rfl : v15 = vI (orZ (pr (loT a b 0 1) 0 1) (pr (hiT a b 0 1) 0 1) (pr p 0 1)) := r15
 have hor15 := or_range (pr (loT a b 0 1) 0 1) (pr (hiT a b 0 1) 0 1) (pr p 0 1)
 refine gv (ov_eql_i (q := 0) rfl rfl) rfl ?_
 refine gl_cut (ι := Mem) 6 (fun m_ => MLe h1 m_) (fun _ => [(22, vB (((orZ (pr (loT a b 0 1) 0 1) (pr (hiT a b 0 1) 0 1) (pr p 0 1)) = (0 : Int)) ∧ (¬ (lx (pr p 0 1) (pr (loT a b 0 1) 0 1))))), (4, vP b4 0), (5, vP b5 0)]) (fun _ => [.var b5 33 cs5, .var b4 33 cs_26, .var b3 33 cs_24]) (fun m_ => m_) ?_ ?_
 ·
  refine gl_cases ((orZ (pr (loT a b 0 1) 0 1) (pr (hiT a b 0 1) 0 1) (pr p 0 1)) = (0 : Int)) (fun hg => ?_) (fun hg => ?_)
  ·
   refine yG (zF (v := .bool true) (congrArg some (yI hg))) rfl rfl rfl (zT rfl rfl rfl ?_)
   replace rb5 := rb5.mono hh1
   refine gl_x (F := fun v_ => (rpT (rpQ k)).Is h1 v_ p) (zE ty33 (Pc.here _) rfl rfl rb5 rfl) (mem1 (.head _)) rfl ?_
   intro v18 r18
   refine zT rfl rfl rfl ?_
   replace rb_25 := rb_25.mono hh1
   refine gl_x (F := fun v_ => (rpT (rpQ k)).Is h1 v_ (loT a b 0 1)) (zE ty33 (Pc.here _) rfl rfl rb_25 rfl) (mem1 (.tail _ (.tail _ (.head _)))) rfl ?_
   intro v19 r19
   refine zT rfl rfl rfl ?_
   refine zJ (vs := [_, _]) rfl rfl rfl rfl Tryz.call70 ⟨rfl, rfl, trivial⟩ (fun w hs => o_r5_less hs r18 r19 (by omega)) ?_
   intro v20 h2 hh2 r20
   obtain rfl : v20 = vB (lx (pr p 0 1) (pr (loT a b 0 1) 0 1)) := r20
   refine zT rfl rfl rfl (gv (ov_not rfl) rfl (gv (yF rfl rfl) rfl (zD ?_)))
   refine zU h2 hh2 ⟨?_, rfl, rfl, trivial⟩ rfl rfl
   exact congrArg some (vB_and_t hg)
  refine yG (zF (v := .bool false) (congrArg some (yA hg))) rfl rfl rfl (zK rfl rfl rfl rfl rfl rfl (zK rfl rfl rfl rfl rfl rfl (zK rfl rfl rfl rfl rfl rfl (zK rfl rfl rfl rfl rfl rfl (gv (yD rfl rfl) rfl (zD ?_))))))
  refine zU h1 (MLe.refl _) ⟨?_, rfl, rfl, trivial⟩ rfl rfl
  exact congrArg some (vB_and_f hg)
 intro mg3_5 hmmg3_5
 show GL _ _ _ _ _ _ _ [(22, vB (((orZ (pr (loT a b 0 1) 0 1) (pr (hiT a b 0 1) 0 1) (pr p 0 1)) = (0 : Int)) ∧ (¬ (lx (pr p 0 1) (pr (loT a b 0 1) 0 1))))), (4, vP b4 0), (5, vP b5 0)] [.var b5 33 cs5, .var b4 33 cs_26, .var b3 33 cs_24] mg3_5
 refine gl_cut (ι := Mem) 6 (fun m_ => MLe mg3_5 m_) (fun _ => [(28, vB ((((orZ (pr (loT a b 0 1) 0 1) (pr (hiT a b 0 1) 0 1) (pr p 0 1)) = (0 : Int)) ∧ (¬ (lx (pr p 0 1) (pr (loT a b 0 1) 0 1)))) ∧ (¬ (lx (pr (hiT a b 0 1) 0 1) (pr p 0 1)))))]) (fun _ => [.var b5 33 cs5, .var b4 33 cs_26, .var b3 33 cs_24]) (fun m_ => m_) ?_ ?_
 ·
  refine gl_cases (((orZ (pr (loT a b 0 1) 0 1) (pr (hiT a b 0 1) 0 1) (pr p 0 1)) = (0 : Int)) ∧ (¬ (lx (pr p 0 1) (pr (loT a b 0 1) 0 1)))) (fun hg => ?_) (fun hg => ?_)
  ·
   refine yG (zF (v := .bool true) (congrArg some (yI hg))) rfl rfl rfl (zT rfl rfl rfl ?_)
   replace rb_27 := rb_27.mono (hh1.trans hmmg3_5)
   refine gl_x (F := fun v_ => (rpT (rpQ k)).Is mg3_5 v_ (hiT a b 0 1)) (zE ty33 (Pc.here _) rfl rfl rb_27 rfl) (mem1 (.tail _ (.head _))) rfl ?_
   intro v24 r24
   refine zT rfl rfl rfl ?_
   replace rb5 := rb5.mono (hh1.trans hmmg3_5)
   refine gl_x (F := fun v_ => (rpT (rpQ k)).Is mg3_5 v_ p) (zE ty33 (Pc.here _) rfl rfl rb5 rfl) (mem1 (.head _)) rfl ?_
   intro v25 r25
   refine zT rfl rfl rfl ?_
   refine zJ (vs := [_, _]) rfl rfl rfl rfl Tryz.call70 ⟨rfl, rfl, trivial⟩ (fun w hs => o_r5_less hs r24 r25 (by omega)) ?_
   intro v26 h2 hh2 r26
   obtain rfl : v26 = vB (lx (pr (hiT a b 0 1) 0 1) (pr p 0 1)) := r26
   refine zT rfl rfl rfl (gv (ov_not rfl) rfl (gv (yF rfl rfl) rfl (zD ?_)))
   refine zU h2 hh2 ⟨?_, trivial⟩ rfl rfl
   exact congrArg some (vB_and_t hg)
  refine yG (zF (v := .bool false) (congrArg some (yA hg))) rfl rfl rfl (zK rfl rfl rfl rfl rfl rfl (zK rfl rfl rfl rfl rfl rfl (zK rfl rfl rfl rfl rfl rfl (zK rfl rfl rfl rfl rfl rfl (gv (yD rfl rfl) rfl (zD ?_))))))
  refine zU mg3_5 (MLe.refl _) ⟨?_, trivial⟩ rfl rfl
  exact congrArg some (vB_and_f hg)
 intro mg3_11 hmmg3_11
 show GL _ _ _ _ _ _ _ [(28, vB ((((orZ (pr (loT a b 0 1) 0 1) (pr (hiT a b 0 1) 0 1) (pr p 0 1)) = (0 : Int)) ∧ (¬ (lx (pr p 0 1) (pr (loT a b 0 1) 0 1)))) ∧ (¬ (lx (pr (hiT a b 0 1) 0 1) (pr p 0 1)))))] [.var b5 33 cs5, .var b4 33 cs_26, .var b3 33 cs_24] mg3_11
 refine asg rfl rfl (zD (zB (zN (zW rfl rfl ?_))))
 first | exact vB_iff (by rw [← on_T]; grind) | exact (yI (by rw [← on_T]; grind)).symm | exact (yA (by rw [← on_T]; grind)).symm

theorem o_r5_line {w0 : World} {h0 : Mem}  (hs : MLe h0 (mem w0)) {k : Nat} {va : Value} {a : (T3 Rat)} (ra : (rpT (rpQ k)).Is h0 va a) {vb : Value} {b : (T3 Rat)} (rb : (rpT (rpQ k)).Is h0 vb b) {vc : Value} {c : (T3 Rat)} (rc : (rpT (rpQ k)).Is h0 vc c) {vd : Value} {d : (T3 Rat)} (rd : (rpT (rpQ k)).Is h0 vd d) (hcd0 : k ≤ 9000)  :
    Calls Tryz.prog 75 #[va, vb, vc, vd] w0 (Ret w0 h0 (fun _ r => r = vI (lineR (pr a 0 1) (pr b 0 1) (pr c 0 1) (pr d 0 1)))) := by
 refine zR (n := 72) (e := [(0, va), (1, vb), (2, vc), (3, vd)]) (vs := [va, vb, vc, vd]) Tryz.func75 rfl rfl (Nat.le_of_ble_eq_true rfl) hs ⟨rfl, rfl, rfl, rfl, trivial⟩ (zC (zA (zP (new_boxx (ρ := (rpT (rpQ k))) rfl ra) rfl rfl rfl ?_)))
 intro v4 q4 hq4
 obtain ⟨b4, cs4, rfl, rfl, rb4⟩ := hq4
 refine zP (new_boxx (ρ := (rpT (rpQ k))) rfl rb) rfl rfl rfl ?_
 intro v5 q5 hq5
 obtain ⟨b5, cs5, rfl, rfl, rb5⟩ := hq5
 refine zP (new_boxx (ρ := (rpT (rpQ k))) rfl rc) rfl rfl rfl ?_
 intro v6 q6 hq6
 obtain ⟨b6, cs6, rfl, rfl, rb6⟩ := hq6
 refine zP (new_boxx (ρ := (rpT (rpQ k))) rfl rd) rfl rfl rfl ?_
 intro v7 q7 hq7
 obtain ⟨b7, cs7, rfl, rfl, rb7⟩ := hq7
 refine asg (v := vI (0)) rfl rfl (zD (zB (zC ?_)))
 refine gc_draw 6 _ [(2, (9, 33, [.bool false, .slice none 0 0, .slice none 0 0, .bool false, .slice none 0 0, .slice none 0 0, .bool false, .slice none 0 0, .slice none 0 0])), (3, (10, 33, [.bool false, .slice none 0 0, .slice none 0 0, .bool false, .slice none 0 0, .slice none 0 0, .bool false, .slice none 0 0, .slice none 0 0]))] [(0, .q), (1, .q), (2, .a), (3, .a), (4, .c), (5, .c)] mixed (AlOk.cons rfl (zero_run info33 rfl rfl) (AlOk.cons rfl (zero_run info33 rfl rfl) AlOk.nil)) (by kernel_rfl) (hae_cons rfl rfl (hae_cons rfl rfl hae_nil)) (fun r hr => hr) (w_qx (F := fun v_ => (rpT (rpQ k)).Is h0 v_ a) rfl (zE ty33 (Pc.here _) rfl rfl rb4 rfl) (mem1 (.tail _ (.tail _ (.tail _ (.head _))))) rfl ?_)
 intro v11 r11
 refine w_qx (F := fun v_ => (rpT (rpQ k)).Is h0 v_ b) rfl (zE ty33 (Pc.here _) rfl rfl rb5 rfl) (mem1 (.tail _ (.tail _ (.head _)))) rfl ?_
 intro v12 r12
 refine w_a rfl (fun b9 => ?_)
 have rb9 : (rpT (rpQ (k + 1))).R h0 [.bool false, .slice none 0 0, .slice none 0 0, .bool false, .slice none 0 0, .slice none 0 0, .bool false, .slice none 0 0, .slice none 0 0] (T3.mk (0 : Rat) (0 : Rat) (0 : Rat)) := (zr_t (zr_q (by omega)))
 refine w_a rfl (fun b10 => ?_)
 have rb10 : (rpT (rpQ (k + 1))).R h0 [.bool false, .slice none 0 0, .slice none 0 0, .bool false, .slice none 0 0, .slice none 0 0, .bool false, .slice none 0 0, .slice none 0 0] (T3.mk (0 : Rat) (0 : Rat) (0 : Rat)) := (zr_t (zr_q (by omega)))
 refine w_c rfl (s_updx (A := [_]) (F := fun c_ => (rpT (rpQ (k + 1))).R h0 c_ a) (upd_box Tryz.sizeOf33 (Pc.here _) rfl rfl rfl rb9 (r11.le (Le.t (Le.q (l := k + 1) (by omega)))) rfl) (mem_kept (by first | (simp; done) | grind)) ?_)
 intro cs_32 rb_33
 refine w_c rfl (s_updx (A := []) (F := fun c_ => (rpT (rpQ (k + 1))).R h0 c_ b) (upd_box Tryz.sizeOf33 (Pc.here _) rfl rfl rfl rb10 (r12.le (Le.t (Le.q (l := k + 1) (by omega)))) rfl) (mem_kept (by first | (simp; done) | grind)) ?_)
 intro cs_34 rb_35
 refine w_nil (zB ?_)
 refine gc_cut (ι := List Value × Mem) (fun (cs_36, m1) => MLe h0 m1 ∧ ((rpT (rpQ (k + 1))).R m1 cs_36 (mxT a c 0 1) ∧ True)) (fun (cs_36, m1) => [(4, vP b4 0), (5, vP b5 0), (6, vP b6 0), (7, vP b7 0), (9, vP b9 0), (10, vP b10 0)]) (fun (cs_36, m1) => [.var b10 33 cs_34, .var b9 33 cs_36, .var b7 33 cs7, .var b6 33 cs6, .var b5 33 cs5, .var b4 33 cs4]) (fun (cs_36, m1) => m1) ?_ ?_
 ·
  refine zC (zA (gl_x (F := fun v_ => (rpT (rpQ (k + 1))).Is h0 v_ a) (zE ty33 (Pc.here _) rfl rfl rb_33 rfl) (mem1 (.tail _ (.head _))) rfl ?_))
  intro v13 r13
  refine gl_x (F := fun v_ => (rpT (rpQ k)).Is h0 v_ c) (zE ty33 (Pc.here _) rfl rfl rb6 rfl) (mem1 (.tail _ (.tail _ (.tail _ (.head _))))) rfl ?_
  intro v14 r14
  refine zJ (vs := [_, _]) rfl rfl rfl rfl Tryz.call70 ⟨rfl, rfl, trivial⟩ (fun w hs => o_r5_less hs r13 (r14.le (Le.t (Le.q (l := k + 1) (by omega)))) (by omega)) ?_
  intro v15 h1 hh1 r15
  obtain rfl : v15 = vB (lx (pr a 0 1) (pr c 0 1)) := r15
  refine zD (zB ?_)
  refine zH rfl (fun hc15 => ?_) (fun hc15 => ?_)
  ·
   refine gc_keep (e' := [(4, _), (5, _), (6, _), (7, _), (9, _), (10, _)]) ⟨rfl, rfl, rfl, rfl, rfl, rfl, trivial⟩ (zA ?_)
   replace rb6 := rb6.mono hh1
   refine gl_x (F := fun v_ => (rpT (rpQ k)).Is h1 v_ c) (zE ty33 (Pc.here _) rfl rfl rb6 rfl) (mem1 (.tail _ (.tail _ (.tail _ (.head _))))) rfl ?_
   intro v16 r16
   replace rb_33 := rb_33.mono hh1
   refine gl_updx (A := [_]) (F := fun c_ => (rpT (rpQ (k + 1))).R h1 c_ c) (upd_box Tryz.sizeOf33 (Pc.here _) rfl rfl rfl rb_33 (r16.le (Le.t (Le.q (l := k + 1) (by omega)))) rfl) ?_
   intro cs_38 rb_39
   refine zD ?_
   refine zU (cs_38, h1) ?_ ⟨rfl, rfl, rfl, rfl, rfl, rfl, trivial⟩ rfl rfl
   refine ⟨hh1, ?_⟩
   refine ⟨(Rp.castR rb_39 (if_pos hc15).symm), ?_⟩
   trivial
  refine gc_keep (e' := [(4, _), (5, _), (6, _), (7, _), (9, _), (10, _)]) ⟨rfl, rfl, rfl, rfl, rfl, rfl, trivial⟩ (zI ?_)
  refine zU (cs_32, h1) ?_ ⟨rfl, rfl, rfl, rfl, rfl, rfl, trivial⟩ rfl rfl
  refine ⟨hh1, ?_⟩
  replace rb_33 := rb_33.mono hh1
  refine ⟨(Rp.castR rb_33 (if_neg hc15).symm), ?_⟩
  trivial
 intro x hx
 obtain ⟨cs_36, m1⟩ := x
 obtain ⟨hmm1, hcut⟩ := hx
 show GC _ _ _ _ _ _ [(4, vP b4 0), (5, vP b5 0), (6, vP b6 0), (7, vP b7 0), (9, vP b9 0), (10, vP b10 0)] [.var b10 33 cs_34, .var b9 33 cs_36, .var b7 33 cs7, .var b6 33 cs6, .var b5 33 cs5, .var b4 33 cs4] m1
 obtain ⟨rb_37, hcut⟩ := hcut
 refine gc_cut (ι := List Value × Mem) (fun (cs_40, m2) => MLe m1 m2 ∧ ((rpT (rpQ (k + 1))).R m2 cs_40 (mnT b d 0 1) ∧ True)) (fun (cs_40, m2) => [(4, vP b4 0), (5, vP b5 0), (6, vP b6 0), (7, vP b7 0), (9, vP b9 0), (10, vP b10 0)]) (fun (cs_40, m2) => [.var b10 33 cs_40, .var b9 33 cs_36, .var b7 33 cs7, .var b6 33 cs6, .var b5 33 cs5, .var b4 33 cs4]) (fun (cs_40, m2) => m2) ?_ ?_
 ·
  refine zC (zA ?_)
  replace rb7 := rb7.mono hmm1
  refine gl_x (F := fun v_ => (rpT (rpQ k)).Is m1 v_ d) (zE ty33 (Pc.here _) rfl rfl rb7 rfl) (mem1 (.tail _ (.tail _ (.head _)))) rfl ?_
  intro v17 r17
  replace rb_35 := rb_35.mono hmm1
  refine gl_x (F := fun v_ => (rpT (rpQ (k + 1))).Is m1 v_ b) (zE ty33 (Pc.here _) rfl rfl rb_35 rfl) (mem1 (.head _)) rfl ?_
  intro v18 r18
  refine zJ (vs := [_, _]) rfl rfl rfl rfl Tryz.call70 ⟨rfl, rfl, trivial⟩ (fun w hs => o_r5_less hs (r17.le (Le.t (Le.q (l := k + 1) (by omega)))) r18 (by omega)) ?_
  intro v19 h1 hh1 r19
  obtain rfl : v19 = vB (lx (pr d 0 1) (pr b 0 1)) := r19
  refine zD (zB ?_)
  refine zH rfl (fun hc19 => ?_) (fun hc19 => ?_)
  ·
   refine zA ?_
   replace rb7 := rb7.mono hh1
   refine gl_x (F := fun v_ => (rpT (rpQ k)).Is h1 v_ d) (zE ty33 (Pc.here _) rfl rfl rb7 rfl) (mem1 (.tail _ (.tail _ (.head _)))) rfl ?_
   intro v20 r20
   replace rb_35 := rb_35.mono hh1
   refine gl_updx (A := []) (F := fun c_ => (rpT (rpQ (k + 1))).R h1 c_ d) (upd_box Tryz.sizeOf33 (Pc.here _) rfl rfl rfl rb_35 (r20.le (Le.t (Le.q (l := k + 1) (by omega)))) rfl) ?_
   intro cs_42 rb_43
   refine zD ?_
   refine zU (cs_42, h1) ?_ ⟨rfl, rfl, rfl, rfl, rfl, rfl, trivial⟩ rfl rfl
   refine ⟨hh1, ?_⟩
   refine ⟨(Rp.castR rb_43 (if_pos hc19).symm), ?_⟩
   trivial
  refine zI ?_
  refine zU (cs_34, h1) ?_ ⟨rfl, rfl, rfl, rfl, rfl, rfl, trivial⟩ rfl rfl
  refine ⟨hh1, ?_⟩
  replace rb_35 := rb_35.mono hh1
  refine ⟨(Rp.castR rb_35 (if_neg hc19).symm), ?_⟩
  trivial
 intro x hx
 obtain ⟨cs_40, m2⟩ := x
 obtain ⟨hmm2, hcut⟩ := hx
 show GC _ _ _ _ _ _ [(4, vP b4 0), (5, vP b5 0), (6, vP b6 0), (7, vP b7 0), (9, vP b9 0), (10, vP b10 0)] [.var b10 33 cs_40, .var b9 33 cs_36, .var b7 33 cs7, .var b6 33 cs6, .var b5 33 cs5, .var b4 33 cs4] m2
 obtain ⟨rb_41, hcut⟩ := hcut
 refine zC (zQ (zC (zA (gl_x (F := fun v_ => (rpT (rpQ (k + 1))).Is m2 v_ (mnT b d 0 1)) (zE ty33 (Pc.here _) rfl rfl rb_41 rfl) (mem1 (.head _)) rfl ?_))))
 intro v22 r22
 replace rb_37 := rb_37.mono hmm2
 refine gl_x (F := fun v_ => (rpT (rpQ (k + 1))).Is m2 v_ (mxT a c 0 1)) (zE ty33 (Pc.here _) rfl rfl rb_37 rfl) (mem1 (.tail _ (.head _))) rfl ?_
 intro v23 r23
 refine zJ (vs := [_, _]) rfl rfl rfl rfl Tryz.call70 ⟨rfl, rfl, trivial⟩ (fun w hs => o_r5_less hs r22 r23 (by omega)) ?_
 intro v24 h1 hh1 r24
 obtain rfl : v24 = vB (lx (pr (mnT b d 0 1) 0 1) (pr (mxT a c 0 1) 0 1)) := r24
 refine asg rfl rfl (zD (zB ?_))
 refine zH rfl (fun hc21 => ?_) (fun hc21 => ?_)
 ·
  refine gc_keep (e' := []) trivial (zC (zA (asg (v := vI (0)) rfl rfl (zD (zB (zN (gr_in (zO (zW rfl rfl ?_)))))))))
  refine congrArg vI ?_; rw [← line_T rfl rfl]; unfold lineT; grind
 refine zC (zA ?_)
 replace rb_37 := rb_37.mono hh1
 refine gl_x (F := fun v_ => (rpT (rpQ (k + 1))).Is h1 v_ (mxT a c 0 1)) (zE ty33 (Pc.here _) rfl rfl rb_37 rfl) (mem1 (.tail _ (.head _))) rfl ?_
 intro v26 r26
 replace rb_41 := rb_41.mono hh1
 refine gl_x (F := fun v_ => (rpT (rpQ (k + 1))).Is h1 v_ (mnT b d 0 1)) (zE ty33 (Pc.here _) rfl rfl rb_41 rfl) (mem1 (.head _)) rfl ?_
 intro v27 r27
 refine zJ (vs := [_, _]) rfl rfl rfl rfl Tryz.call50 ⟨rfl, rfl, trivial⟩ (fun w hs => o_r5_equal hs r26 r27 (by omega)) ?_
 intro v28 h2 hh2 r28
 obtain rfl : v28 = vB ((pr (mxT a c 0 1) 0 1) = (pr (mnT b d 0 1) 0 1)) := r28
 refine gv (ov_not rfl) rfl (asg rfl rfl (zD (zB ?_)))
 refine zH rfl (fun hc25 => ?_) (fun hc25 => ?_)
 ·
  refine gc_keep (e' := []) trivial (zC (zA (asg (v := vI (3)) rfl rfl (zD (zB (zN (gr_in (zO (zW rfl rfl ?_)))))))))
  refine congrArg vI ?_; rw [← line_T rfl rfl]; unfold lineT; grind
 refine gc_keep (e' := [(4, _), (5, _), (6, _), (7, _), (9, _)]) ⟨rfl, rfl, rfl, rfl, rfl, trivial⟩ (zC (zA ?_))
 replace rb_37 := rb_37.mono hh2
 refine gl_x (F := fun v_ => (rpT (rpQ (k + 1))).Is h2 v_ (mxT a c 0 1)) (zE ty33 (Pc.here _) rfl rfl rb_37 rfl) (mem1 (.tail _ (.head _))) rfl ?_
 intro v31 r31
 replace rb4 := rb4.mono (((hmm1.trans hmm2).trans hh1).trans hh2)
 refine gl_x (F := fun v_ => (rpT (rpQ k)).Is h2 v_ a) (zE ty33 (Pc.here _) rfl rfl rb4 rfl) (mem1 (.tail _ (.tail _ (.tail _ (.tail _ (.tail _ (.head _))))))) rfl ?_
 intro v32 r32
 refine zJ (vs := [_, _]) rfl rfl rfl rfl Tryz.call50 ⟨rfl, rfl, trivial⟩ (fun w hs => o_r5_equal hs r31 (r32.le (Le.t (Le.q (l := k + 1) (by omega)))) (by omega)) ?_
 intro v33 h3 hh3 r33
 obtain rfl : v33 = vB ((pr (mxT a c 0 1) 0 1) = (pr a 0 1)) := r33
 refine gl_cut (ι := Mem) 5 (fun m_ => MLe h3 m_) (fun _ => [(38, vB (((pr (mxT a c 0 1) 0 1) = (pr a 0 1)) ∨ ((pr (mxT a c 0 1) 0 1) = (pr b 0 1)))), (4, vP b4 0), (5, vP b5 0), (6, vP b6 0), (7, vP b7 0), (9, vP b9 0)]) (fun _ => [.var b10 33 cs_40, .var b9 33 cs_36, .var b7 33 cs7, .var b6 33 cs6, .var b5 33 cs5, .var b4 33 cs4]) (fun m_ => m_) ?_ ?_
 ·
  refine gl_cases ((pr (mxT a c 0 1) 0 1) = (pr a 0 1)) (fun hg => ?_) (fun hg => ?_)
  ·
   refine yG (zF (v := .bool true) (congrArg some (yI hg))) rfl rfl rfl (zK rfl rfl rfl rfl rfl rfl (zK rfl rfl rfl rfl rfl rfl (zK rfl rfl rfl rfl rfl rfl (gv (yF rfl rfl) rfl (zD ?_)))))
   refine zU h3 (MLe.refl _) ⟨?_, rfl, rfl, rfl, rfl, rfl, trivial⟩ rfl rfl
   exact congrArg some (vB_or_t hg)
  refine yG (zF (v := .bool false) (congrArg some (yA hg))) rfl rfl rfl (zT rfl rfl rfl ?_)
  replace rb_37 := rb_37.mono hh3
  refine gl_x (F := fun v_ => (rpT (rpQ (k + 1))).Is h3 v_ (mxT a c 0 1)) (zE ty33 (Pc.here _) rfl rfl rb_37 rfl) (mem1 (.tail _ (.head _))) rfl ?_
  intro v35 r35
  refine zT rfl rfl rfl ?_
  replace rb5 := rb5.mono ((((hmm1.trans hmm2).trans hh1).trans hh2).trans hh3)
  refine gl_x (F := fun v_ => (rpT (rpQ k)).Is h3 v_ b) (zE ty33 (Pc.here _) rfl rfl rb5 rfl) (mem1 (.tail _ (.tail _ (.tail _ (.tail _ (.head _)))))) rfl ?_
  intro v36 r36
  refine zT rfl rfl rfl ?_
  refine zJ (vs := [_, _]) rfl rfl rfl rfl Tryz.call50 ⟨rfl, rfl, trivial⟩ (fun w hs => o_r5_equal hs r35 (r36.le (Le.t (Le.q (l := k + 1) (by omega)))) (by omega)) ?_
  intro v37 h4 hh4 r37
  obtain rfl : v37 = vB ((pr (mxT a c 0 1) 0 1) = (pr b 0 1)) := r37
  refine gv (yD rfl rfl) rfl (zD ?_)
  refine zU h4 hh4 ⟨?_, rfl, rfl, rfl, rfl, rfl, trivial⟩ rfl rfl
  exact congrArg some (vB_or_f hg)
 intro mg10_3 hmmg10_3
 show GL _ _ _ _ _ _ _ [(38, vB (((pr (mxT a c 0 1) 0 1) = (pr a 0 1)) ∨ ((pr (mxT a c 0 1) 0 1) = (pr b 0 1)))), (4, vP b4 0), (5, vP b5 0), (6, vP b6 0), (7, vP b7 0), (9, vP b9 0)] [.var b10 33 cs_40, .var b9 33 cs_36, .var b7 33 cs7, .var b6 33 cs6, .var b5 33 cs5, .var b4 33 cs4] mg10_3
 refine gl_cut (ι := Mem) 10 (fun m_ => MLe mg10_3 m_) (fun _ => [(48, vB ((((pr (mxT a c 0 1) 0 1) = (pr a 0 1)) ∨ ((pr (mxT a c 0 1) 0 1) = (pr b 0 1))) ∧ (((pr (mxT a c 0 1) 0 1) = (pr c 0 1)) ∨ ((pr (mxT a c 0 1) 0 1) = (pr d 0 1))))), (4, vP b4 0), (5, vP b5 0), (6, vP b6 0), (7, vP b7 0), (9, vP b9 0)]) (fun _ => [.var b10 33 cs_40, .var b9 33 cs_36, .var b7 33 cs7, .var b6 33 cs6, .var b5 33 cs5, .var b4 33 cs4]) (fun m_ => m_) ?_ ?_
 ·
  refine gl_cases (((pr (mxT a c 0 1) 0 1) = (pr a 0 1)) ∨ ((pr (mxT a c 0 1) 0 1) = (pr b 0 1))) (fun hg => ?_) (fun hg => ?_)
  ·
   refine yG (zF (v := .bool true) (congrArg some (yI hg))) rfl rfl rfl (zT rfl rfl rfl ?_)
   replace rb_37 := rb_37.mono (hh3.trans hmmg10_3)
   refine gl_x (F := fun v_ => (rpT (rpQ (k + 1))).Is mg10_3 v_ (mxT a c 0 1)) (zE ty33 (Pc.here _) rfl rfl rb_37 rfl) (mem1 (.tail _ (.head _))) rfl ?_
   intro v40 r40
   refine zT rfl rfl rfl ?_
   replace rb6 := rb6.mono (((((hmm1.trans hmm2).trans hh1).trans hh2).trans hh3).trans hmmg10_3)
   refine gl_x (F := fun v_ => (rpT (rpQ k)).Is mg10_3 v_ c) (zE ty33 (Pc.here _) rfl rfl rb6 rfl) (mem1 (.tail _ (.tail _ (.tail _ (.head _))))) rfl ?_
   intro v41 r41
   refine zT rfl rfl rfl ?_
   refine zJ (vs := [_, _]) rfl rfl rfl rfl Tryz.call50 ⟨rfl, rfl, trivial⟩ (fun w hs => o_r5_equal hs r40 (r41.le (Le.t (Le.q (l := k + 1) (by omega)))) (by omega)) ?_
   intro v42 h4 hh4 r42
   obtain rfl : v42 = vB ((pr (mxT a c 0 1) 0 1) = (pr c 0 1)) := r42
   refine gl_cut (ι := Mem) 5 (fun m_ => MLe h4 m_) (fun _ => [(47, vB (((pr (mxT a c 0 1) 0 1) = (pr c 0 1)) ∨ ((pr (mxT a c 0 1) 0 1) = (pr d 0 1)))), (4, vP b4 0), (5, vP b5 0), (6, vP b6 0), (7, vP b7 0), (9, vP b9 0), (39, .bool true)]) (fun _ => [.var b10 33 cs_40, .var b9 33 cs_36, .var b7 33 cs7, .var b6 33 cs6, .var b5 33 cs5, .var b4 33 cs4]) (fun m_ => m_) ?_ ?_
   ·
    refine gl_cases ((pr (mxT a c 0 1) 0 1) = (pr c 0 1)) (fun hg => ?_) (fun hg => ?_)
    ·
     refine zT rfl rfl rfl (yG (zF (v := .bool true) (congrArg some (yI hg))) rfl rfl rfl (zK rfl rfl rfl rfl rfl rfl (zK rfl rfl rfl rfl rfl rfl (zK rfl rfl rfl rfl rfl rfl (zT rfl rfl rfl (gv (yF rfl rfl) rfl (zD ?_)))))))
     refine zU h4 (MLe.refl _) ⟨?_, rfl, rfl, rfl, rfl, rfl, rfl, trivial⟩ rfl rfl
     exact congrArg some (vB_or_t hg)
    refine zT rfl rfl rfl (yG (zF (v := .bool false) (congrArg some (yA hg))) rfl rfl rfl (zT rfl rfl rfl ?_))
    replace rb_37 := rb_37.mono hh4
    refine gl_x (F := fun v_ => (rpT (rpQ (k + 1))).Is h4 v_ (mxT a c 0 1)) (zE ty33 (Pc.here _) rfl rfl rb_37 rfl) (mem1 (.tail _ (.head _))) rfl ?_
    intro v44 r44
    refine zT rfl rfl rfl ?_
    replace rb7 := rb7.mono ((((((hmm1.trans hmm2).trans hh1).trans hh2).trans hh3).trans hmmg10_3).trans hh4)
    refine gl_x (F := fun v_ => (rpT (rpQ k)).Is h4 v_ d) (zE ty33 (Pc.here _) rfl rfl rb7 rfl) (mem1 (.tail _ (.tail _ (.head _)))) rfl ?_
    intro v45 r45
    refine zT rfl rfl rfl ?_
    refine zJ (vs := [_, _]) rfl rfl rfl rfl Tryz.call50 ⟨rfl, rfl, trivial⟩ (fun w hs => o_r5_equal hs r44 (r45.le (Le.t (Le.q (l := k + 1) (by omega)))) (by omega)) ?_
    intro v46 h5 hh5 r46
    obtain rfl : v46 = vB ((pr (mxT a c 0 1) 0 1) = (pr d 0 1)) := r46
    refine zT rfl rfl rfl (gv (yD rfl rfl) rfl (zD ?_))
    refine zU h5 hh5 ⟨?_, rfl, rfl, rfl, rfl, rfl, rfl, trivial⟩ rfl rfl
    exact congrArg some (vB_or_f hg)
   intro mg10_12 hmmg10_12
   show GL _ _ _ _ _ _ _ [(47, vB (((pr (mxT a c 0 1) 0 1) = (pr c 0 1)) ∨ ((pr (mxT a c 0 1) 0 1) = (pr d 0 1)))), (4, vP b4 0), (5, vP b5 0), (6, vP b6 0), (7, vP b7 0), (9, vP b9 0), (39, .bool true)] [.var b10 33 cs_40, .var b9 33 cs_36, .var b7 33 cs7, .var b6 33 cs6, .var b5 33 cs5, .var b4 33 cs4] mg10_12
   refine gv (yF rfl rfl) rfl (zD ?_)
   refine zU mg10_12 (hh4.trans hmmg10_12) ⟨?_, rfl, rfl, rfl, rfl, rfl, trivial⟩ rfl rfl
   exact congrArg some (vB_and_t hg)
  refine yG (zF (v := .bool false) (congrArg some (yA hg))) rfl rfl rfl (zK rfl rfl rfl rfl rfl rfl (zK rfl rfl rfl rfl rfl rfl (zK rfl rfl rfl rfl rfl rfl (zK rfl rfl rfl rfl rfl rfl (gl_offu rfl rfl rfl rfl rfl (gl_offu rfl rfl rfl rfl rfl (gl_offu rfl rfl rfl rfl rfl (zK rfl rfl rfl rfl rfl rfl (gv (yD rfl rfl) rfl (zD ?_))))))))))
  refine zU mg10_3 (MLe.refl _) ⟨?_, rfl, rfl, rfl, rfl, rfl, trivial⟩ rfl rfl
  exact congrArg some (vB_and_f hg)
 intro mg10_8 hmmg10_8
 show GL _ _ _ _ _ _ _ [(48, vB ((((pr (mxT a c 0 1) 0 1) = (pr a 0 1)) ∨ ((pr (mxT a c 0 1) 0 1) = (pr b 0 1))) ∧ (((pr (mxT a c 0 1) 0 1) = (pr c 0 1)) ∨ ((pr (mxT a c 0 1) 0 1) = (pr d 0 1))))), (4, vP b4 0), (5, vP b5 0), (6, vP b6 0), (7, vP b7 0), (9, vP b9 0)] [.var b10 33 cs_40, .var b9 33 cs_36, .var b7 33 cs7, .var b6 33 cs6, .var b5 33 cs5, .var b4 33 cs4] mg10_8
 refine gl_cut (ι := Mem) 6 (fun m_ => MLe mg10_8 m_) (fun _ => [(54, vB (((((pr (mxT a c 0 1) 0 1) = (pr a 0 1)) ∨ ((pr (mxT a c 0 1) 0 1) = (pr b 0 1))) ∧ (((pr (mxT a c 0 1) 0 1) = (pr c 0 1)) ∨ ((pr (mxT a c 0 1) 0 1) = (pr d 0 1)))) ∧ (onS (pr a 0 1) (pr b 0 1) (pr (mxT a c 0 1) 0 1)))), (4, vP b4 0), (5, vP b5 0), (6, vP b6 0), (7, vP b7 0), (9, vP b9 0)]) (fun _ => [.var b10 33 cs_40, .var b9 33 cs_36, .var b7 33 cs7, .var b6 33 cs6, .var b5 33 cs5, .var b4 33 cs4]) (fun m_ => m_) ?_ ?_
 ·
  refine gl_cases ((((pr (mxT a c 0 1) 0 1) = (pr a 0 1)) ∨ ((pr (mxT a c 0 1) 0 1) = (pr b 0 1))) ∧ (((pr (mxT a c 0 1) 0 1) = (pr c 0 1)) ∨ ((pr (mxT a c 0 1) 0 1) = (pr d 0 1)))) (fun hg => ?_) (fun hg => ?_)
  ·
   refine yG (zF (v := .bool true) (congrArg some (yI hg))) rfl rfl rfl (zT rfl rfl rfl ?_)
   replace rb4 := rb4.mono ((hh3.trans hmmg10_3).trans hmmg10_8)
   refine gl_x (F := fun v_ => (rpT (rpQ k)).Is mg10_8 v_ a) (zE ty33 (Pc.here _) rfl rfl rb4 rfl) (mem1 (.tail _ (.tail _ (.tail _ (.tail _ (.tail _ (.head _))))))) rfl ?_
   intro v50 r50
   refine zT rfl rfl rfl ?_
   replace rb5 := rb5.mono ((((((hmm1.trans hmm2).trans hh1).trans hh2).trans hh3).trans hmmg10_3).trans hmmg10_8)
   refine gl_x (F := fun v_ => (rpT (rpQ k)).Is mg10_8 v_ b) (zE ty33 (Pc.here _) rfl rfl rb5 rfl) (mem1 (.tail _ (.tail _ (.tail _ (.tail _ (.head _)))))) rfl ?_
   intro v51 r51
   refine zT rfl rfl rfl ?_
   replace rb_37 := rb_37.mono ((hh3.trans hmmg10_3).trans hmmg10_8)
   refine gl_x (F := fun v_ => (rpT (rpQ (k + 1))).Is mg10_8 v_ (mxT a c 0 1)) (zE ty33 (Pc.here _) rfl rfl rb_37 rfl) (mem1 (.tail _ (.head _))) rfl ?_
   intro v52 r52
   refine zT rfl rfl rfl ?_
   refine zJ (vs := [_, _, _]) rfl rfl rfl rfl Tryz.call42 ⟨rfl, rfl, rfl, trivial⟩ (fun w hs => o_r5_on hs (r50.le (Le.t (Le.q (l := k + 1) (by omega)))) (r51.le (Le.t (Le.q (l := k + 1) (by omega)))) r52 (by omega)) ?_
   intro v53 h4 hh4 r53
   obtain rfl : v53 = vB (onS (pr a 0 1) (pr b 0 1) (pr (mxT a c 0 1) 0 1)) := r53
   refine gv (yF rfl rfl) rfl (zD ?_)
   refine zU h4 hh4 ⟨?_, rfl, rfl, rfl, rfl, rfl, trivial⟩ rfl rfl
   exact congrArg some (vB_and_t hg)
  refine yG (zF (v := .bool false) (congrArg some (yA hg))) rfl rfl rfl (zK rfl rfl rfl rfl rfl rfl (zK rfl rfl rfl rfl rfl rfl (zK rfl rfl rfl rfl rfl rfl (zK rfl rfl rfl rfl rfl rfl (gv (yD rfl rfl) rfl (zD ?_))))))
  refine zU mg10_8 (MLe.refl _) ⟨?_, rfl, rfl, rfl, rfl, rfl, trivial⟩ rfl rfl
  exact congrArg some (vB_and_f hg)
 intro mg10_18 hmmg10_18
 show GL _ _ _ _ _ _ _ [(54, vB (((((pr (mxT a c 0 1) 0 1) = (pr a 0 1)) ∨ ((pr (mxT a c 0 1) 0 1) = (pr b 0 1))) ∧ (((pr (mxT a c 0 1) 0 1) = (pr c 0 1)) ∨ ((pr (mxT a c 0 1) 0 1) = (pr d 0 1)))) ∧ (onS (pr a 0 1) (pr b 0 1) (pr (mxT a c 0 1) 0 1)))), (4, vP b4 0), (5, vP b5 0), (6, vP b6 0), (7, vP b7 0), (9, vP b9 0)] [.var b10 33 cs_40, .var b9 33 cs_36, .var b7 33 cs7, .var b6 33 cs6, .var b5 33 cs5, .var b4 33 cs4] mg10_18
 refine gl_cut (ι := Mem) 6 (fun m_ => MLe mg10_18 m_) (fun _ => [(60, vB ((((((pr (mxT a c 0 1) 0 1) = (pr a 0 1)) ∨ ((pr (mxT a c 0 1) 0 1) = (pr b 0 1))) ∧ (((pr (mxT a c 0 1) 0 1) = (pr c 0 1)) ∨ ((pr (mxT a c 0 1) 0 1) = (pr d 0 1)))) ∧ (onS (pr a 0 1) (pr b 0 1) (pr (mxT a c 0 1) 0 1))) ∧ (onS (pr c 0 1) (pr d 0 1) (pr (mxT a c 0 1) 0 1)))), (4, vP b4 0), (5, vP b5 0), (6, vP b6 0), (7, vP b7 0), (9, vP b9 0)]) (fun _ => [.var b10 33 cs_40, .var b9 33 cs_36, .var b7 33 cs7, .var b6 33 cs6, .var b5 33 cs5, .var b4 33 cs4]) (fun m_ => m_) ?_ ?_
 ·
  refine gl_cases (((((pr (mxT a c 0 1) 0 1) = (pr a 0 1)) ∨ ((pr (mxT a c 0 1) 0 1) = (pr b 0 1))) ∧ (((pr (mxT a c 0 1) 0 1) = (pr c 0 1)) ∨ ((pr (mxT a c 0 1) 0 1) = (pr d 0 1)))) ∧ (onS (pr a 0 1) (pr b 0 1) (pr (mxT a c 0 1) 0 1))) (fun hg => ?_) (fun hg => ?_)
  ·
   refine yG (zF (v := .bool true) (congrArg some (yI hg))) rfl rfl rfl (zT rfl rfl rfl ?_)
   replace rb6 := rb6.mono (((((((hmm1.trans hmm2).trans hh1).trans hh2).trans hh3).trans hmmg10_3).trans hmmg10_8).trans hmmg10_18)
   refine gl_x (F := fun v_ => (rpT (rpQ k)).Is mg10_18 v_ c) (zE ty33 (Pc.here _) rfl rfl rb6 rfl) (mem1 (.tail _ (.tail _ (.tail _ (.head _))))) rfl ?_
   intro v56 r56
   refine zT rfl rfl rfl ?_
   replace rb7 := rb7.mono (((((((hmm1.trans hmm2).trans hh1).trans hh2).trans hh3).trans hmmg10_3).trans hmmg10_8).trans hmmg10_18)
   refine gl_x (F := fun v_ => (rpT (rpQ k)).Is mg10_18 v_ d) (zE ty33 (Pc.here _) rfl rfl rb7 rfl) (mem1 (.tail _ (.tail _ (.head _)))) rfl ?_
   intro v57 r57
   refine zT rfl rfl rfl ?_
   replace rb_37 := rb_37.mono (((hh3.trans hmmg10_3).trans hmmg10_8).trans hmmg10_18)
   refine gl_x (F := fun v_ => (rpT (rpQ (k + 1))).Is mg10_18 v_ (mxT a c 0 1)) (zE ty33 (Pc.here _) rfl rfl rb_37 rfl) (mem1 (.tail _ (.head _))) rfl ?_
   intro v58 r58
   refine zT rfl rfl rfl ?_
   refine zJ (vs := [_, _, _]) rfl rfl rfl rfl Tryz.call42 ⟨rfl, rfl, rfl, trivial⟩ (fun w hs => o_r5_on hs (r56.le (Le.t (Le.q (l := k + 1) (by omega)))) (r57.le (Le.t (Le.q (l := k + 1) (by omega)))) r58 (by omega)) ?_
   intro v59 h4 hh4 r59
   obtain rfl : v59 = vB (onS (pr c 0 1) (pr d 0 1) (pr (mxT a c 0 1) 0 1)) := r59
   refine gv (yF rfl rfl) rfl (zD ?_)
   refine zU h4 hh4 ⟨?_, rfl, rfl, rfl, rfl, rfl, trivial⟩ rfl rfl
   exact congrArg some (vB_and_t hg)
  refine yG (zF (v := .bool false) (congrArg some (yA hg))) rfl rfl rfl (zK rfl rfl rfl rfl rfl rfl (zK rfl rfl rfl rfl rfl rfl (zK rfl rfl rfl rfl rfl rfl (zK rfl rfl rfl rfl rfl rfl (gv (yD rfl rfl) rfl (zD ?_))))))
  refine zU mg10_18 (MLe.refl _) ⟨?_, rfl, rfl, rfl, rfl, rfl, trivial⟩ rfl rfl
  exact congrArg some (vB_and_f hg)
 intro mg10_24 hmmg10_24
 show GL _ _ _ _ _ _ _ [(60, vB ((((((pr (mxT a c 0 1) 0 1) = (pr a 0 1)) ∨ ((pr (mxT a c 0 1) 0 1) = (pr b 0 1))) ∧ (((pr (mxT a c 0 1) 0 1) = (pr c 0 1)) ∨ ((pr (mxT a c 0 1) 0 1) = (pr d 0 1)))) ∧ (onS (pr a 0 1) (pr b 0 1) (pr (mxT a c 0 1) 0 1))) ∧ (onS (pr c 0 1) (pr d 0 1) (pr (mxT a c 0 1) 0 1)))), (4, vP b4 0), (5, vP b5 0), (6, vP b6 0), (7, vP b7 0), (9, vP b9 0)] [.var b10 33 cs_40, .var b9 33 cs_36, .var b7 33 cs7, .var b6 33 cs6, .var b5 33 cs5, .var b4 33 cs4] mg10_24
 refine asg rfl rfl (zD (zB ?_))
 refine zH rfl (fun hc30 => ?_) (fun hc30 => ?_)
 ·
  refine zC (zA (asg (v := vI (1)) rfl rfl (zD (zB (zN (gr_in (zO (zW rfl rfl ?_))))))))
  refine congrArg vI ?_; rw [← line_T rfl rfl]; unfold lineT; grind
 refine zC (zA ?_)
 replace rb4 := rb4.mono ((((hh3.trans hmmg10_3).trans hmmg10_8).trans hmmg10_18).trans hmmg10_24)
 refine gl_x (F := fun v_ => (rpT (rpQ k)).Is mg10_24 v_ a) (zE ty33 (Pc.here _) rfl rfl rb4 rfl) (mem1 (.tail _ (.tail _ (.tail _ (.tail _ (.tail _ (.head _))))))) rfl ?_
 intro v62 r62
 replace rb5 := rb5.mono ((((((((hmm1.trans hmm2).trans hh1).trans hh2).trans hh3).trans hmmg10_3).trans hmmg10_8).trans hmmg10_18).trans hmmg10_24)
 refine gl_x (F := fun v_ => (rpT (rpQ k)).Is mg10_24 v_ b) (zE ty33 (Pc.here _) rfl rfl rb5 rfl) (mem1 (.tail _ (.tail _ (.tail _ (.tail _ (.head _)))))) rfl ?_
 intro v63 r63
 replace rb_37 := rb_37.mono ((((hh3.trans hmmg10_3).trans hmmg10_8).trans hmmg10_18).trans hmmg10_24)
 refine gl_x (F := fun v_ => (rpT (rpQ (k + 1))).Is mg10_24 v_ (mxT a c 0 1)) (zE ty33 (Pc.here _) rfl rfl rb_37 rfl) (mem1 (.tail _ (.head _))) rfl ?_
 intro v64 r64
 refine zJ (vs := [_, _, _]) rfl rfl rfl rfl Tryz.call42 ⟨rfl, rfl, rfl, trivial⟩ (fun w hs => o_r5_on hs (r62.le (Le.t (Le.q (l := k + 1) (by omega)))) (r63.le (Le.t (Le.q (l := k + 1) (by omega)))) r64 (by omega)) ?_
 intro v65 h4 hh4 r65
 obtain rfl : v65 = vB (onS (pr a 0 1) (pr b 0 1) (pr (mxT a c 0 1) 0 1)) := r65
 refine gl_cut (ι := Mem) 6 (fun m_ => MLe h4 m_) (fun _ => [(71, vB ((onS (pr a 0 1) (pr b 0 1) (pr (mxT a c 0 1) 0 1)) ∧ (onS (pr c 0 1) (pr d 0 1) (pr (mxT a c 0 1) 0 1))))]) (fun _ => [.var b10 33 cs_40, .var b9 33 cs_36, .var b7 33 cs7, .var b6 33 cs6, .var b5 33 cs5, .var b4 33 cs4]) (fun m_ => m_) ?_ ?_
 ·
  refine gl_cases (onS (pr a 0 1) (pr b 0 1) (pr (mxT a c 0 1) 0 1)) (fun hg => ?_) (fun hg => ?_)
  ·
   refine yG (zF (v := .bool true) (congrArg some (yI hg))) rfl rfl rfl (zT rfl rfl rfl ?_)
   replace rb6 := rb6.mono (((((((((hmm1.trans hmm2).trans hh1).trans hh2).trans hh3).trans hmmg10_3).trans hmmg10_8).trans hmmg10_18).trans hmmg10_24).trans hh4)
   refine gl_x (F := fun v_ => (rpT (rpQ k)).Is h4 v_ c) (zE ty33 (Pc.here _) rfl rfl rb6 rfl) (mem1 (.tail _ (.tail _ (.tail _ (.head _))))) rfl ?_
   intro v67 r67
   refine zT rfl rfl rfl ?_
   replace rb7 := rb7.mono (((((((((hmm1.trans hmm2).trans hh1).trans hh2).trans hh3).trans hmmg10_3).trans hmmg10_8).trans hmmg10_18).trans hmmg10_24).trans hh4)
   refine gl_x (F := fun v_ => (rpT (rpQ k)).Is h4 v_ d) (zE ty33 (Pc.here _) rfl rfl rb7 rfl) (mem1 (.tail _ (.tail _ (.head _)))) rfl ?_
   intro v68 r68
   refine zT rfl rfl rfl ?_
   replace rb_37 := rb_37.mono hh4
   refine gl_x (F := fun v_ => (rpT (rpQ (k + 1))).Is h4 v_ (mxT a c 0 1)) (zE ty33 (Pc.here _) rfl rfl rb_37 rfl) (mem1 (.tail _ (.head _))) rfl ?_
   intro v69 r69
   refine zT rfl rfl rfl ?_
   refine zJ (vs := [_, _, _]) rfl rfl rfl rfl Tryz.call42 ⟨rfl, rfl, rfl, trivial⟩ (fun w hs => o_r5_on hs (r67.le (Le.t (Le.q (l := k + 1) (by omega)))) (r68.le (Le.t (Le.q (l := k + 1) (by omega)))) r69 (by omega)) ?_
   intro v70 h5 hh5 r70
   obtain rfl : v70 = vB (onS (pr c 0 1) (pr d 0 1) (pr (mxT a c 0 1) 0 1)) := r70
   refine gv (yF rfl rfl) rfl (zD ?_)
   refine zU h5 hh5 ⟨?_, trivial⟩ rfl rfl
   exact congrArg some (vB_and_t hg)
  refine yG (zF (v := .bool false) (congrArg some (yA hg))) rfl rfl rfl (zK rfl rfl rfl rfl rfl rfl (zK rfl rfl rfl rfl rfl rfl (zK rfl rfl rfl rfl rfl rfl (zK rfl rfl rfl rfl rfl rfl (gv (yD rfl rfl) rfl (zD ?_))))))
  refine zU h4 (MLe.refl _) ⟨?_, trivial⟩ rfl rfl
  exact congrArg some (vB_and_f hg)
 intro mg12_4 hmmg12_4
 show GL _ _ _ _ _ _ _ [(71, vB ((onS (pr a 0 1) (pr b 0 1) (pr (mxT a c 0 1) 0 1)) ∧ (onS (pr c 0 1) (pr d 0 1) (pr (mxT a c 0 1) 0 1))))] [.var b10 33 cs_40, .var b9 33 cs_36, .var b7 33 cs7, .var b6 33 cs6, .var b5 33 cs5, .var b4 33 cs4] mg12_4
 refine asg rfl rfl (zD (zB ?_))
 refine zH rfl (fun hc61 => ?_) (fun hc61 => ?_)
 ·
  refine zC (zA (asg (v := vI (2)) rfl rfl (zD (zB (zN (gr_in (zO (zW rfl rfl ?_))))))))
  refine congrArg vI ?_; rw [← line_T rfl rfl]; unfold lineT; grind
 refine zI (gq_in (zB (zC (zA (asg (v := vI (0)) rfl rfl (zD (zB (zN (zW rfl rfl ?_)))))))))
 refine congrArg vI ?_; rw [← line_T rfl rfl]; unfold lineT; grind

theorem o_r5_single {w0 : World} {h0 : Mem}  (hs : MLe h0 (mem w0)) {k : Nat} {va : Value} {a : (T3 Rat)} (ra : (rpT (rpQ k)).Is h0 va a) {vb : Value} {b : (T3 Rat)} (rb : (rpT (rpQ k)).Is h0 vb b) {vc : Value} {c : (T3 Rat)} (rc : (rpT (rpQ k)).Is h0 vc c) {vd : Value} {d : (T3 Rat)} (rd : (rpT (rpQ k)).Is h0 vd d) (hcd0 : k ≤ 10000)  :
    Calls Tryz.prog 76 #[va, vb, vc, vd] w0 (Ret w0 h0 (fun _ r => r = vI (singleR (pr a 0 1) (pr b 0 1) (pr c 0 1) (pr d 0 1)))) := by
 refine zR (n := 29) (e := [(0, va), (1, vb), (2, vc), (3, vd)]) (vs := [va, vb, vc, vd]) Tryz.func76 rfl rfl (Nat.le_of_ble_eq_true rfl) hs ⟨rfl, rfl, rfl, rfl, trivial⟩ (zC (zA (zP (new_boxx (ρ := (rpT (rpQ k))) rfl ra) rfl rfl rfl ?_)))
 intro v4 q4 hq4
 obtain ⟨b4, cs4, rfl, rfl, rb4⟩ := hq4
 refine zP (new_boxx (ρ := (rpT (rpQ k))) rfl rb) rfl rfl rfl ?_
 intro v5 q5 hq5
 obtain ⟨b5, cs5, rfl, rfl, rb5⟩ := hq5
 refine zP (new_boxx (ρ := (rpT (rpQ k))) rfl rc) rfl rfl rfl ?_
 intro v6 q6 hq6
 obtain ⟨b6, cs6, rfl, rfl, rb6⟩ := hq6
 refine zP (new_boxx (ρ := (rpT (rpQ k))) rfl rd) rfl rfl rfl ?_
 intro v7 q7 hq7
 obtain ⟨b7, cs7, rfl, rfl, rb7⟩ := hq7
 refine asg (v := vI (0)) rfl rfl (zD (zB (zC (zC (zA (gl_x (F := fun v_ => (rpT (rpQ k)).Is h0 v_ a) (zE ty33 (Pc.here _) rfl rfl rb4 rfl) (mem1 (.tail _ (.tail _ (.tail _ (.head _))))) rfl ?_))))))
 intro v9 r9
 refine gl_x (F := fun v_ => (rpT (rpQ k)).Is h0 v_ b) (zE ty33 (Pc.here _) rfl rfl rb5 rfl) (mem1 (.tail _ (.tail _ (.head _)))) rfl ?_
 intro v10 r10
 refine zJ (vs := [_, _]) rfl rfl rfl rfl Tryz.call50 ⟨rfl, rfl, trivial⟩ (fun w hs => o_r5_equal hs r9 r10 (by omega)) ?_
 intro v11 h1 hh1 r11
 obtain rfl : v11 = vB ((pr a 0 1) = (pr b 0 1)) := r11
 refine gl_cut (ι := Mem) 6 (fun m_ => MLe h1 m_) (fun _ => [(17, vB (((pr a 0 1) = (pr b 0 1)) ∧ (onS (pr c 0 1) (pr d 0 1) (pr a 0 1)))), (4, vP b4 0), (5, vP b5 0), (6, vP b6 0), (7, vP b7 0)]) (fun _ => [.var b7 33 cs7, .var b6 33 cs6, .var b5 33 cs5, .var b4 33 cs4]) (fun m_ => m_) ?_ ?_
 ·
  refine gl_cases ((pr a 0 1) = (pr b 0 1)) (fun hg => ?_) (fun hg => ?_)
  ·
   refine yG (zF (v := .bool true) (congrArg some (yI hg))) rfl rfl rfl (zT rfl rfl rfl ?_)
   replace rb6 := rb6.mono hh1
   refine gl_x (F := fun v_ => (rpT (rpQ k)).Is h1 v_ c) (zE ty33 (Pc.here _) rfl rfl rb6 rfl) (mem1 (.tail _ (.head _))) rfl ?_
   intro v13 r13
   refine zT rfl rfl rfl ?_
   replace rb7 := rb7.mono hh1
   refine gl_x (F := fun v_ => (rpT (rpQ k)).Is h1 v_ d) (zE ty33 (Pc.here _) rfl rfl rb7 rfl) (mem1 (.head _)) rfl ?_
   intro v14 r14
   refine zT rfl rfl rfl ?_
   replace rb4 := rb4.mono hh1
   refine gl_x (F := fun v_ => (rpT (rpQ k)).Is h1 v_ a) (zE ty33 (Pc.here _) rfl rfl rb4 rfl) (mem1 (.tail _ (.tail _ (.tail _ (.head _))))) rfl ?_
   intro v15 r15
   refine zT rfl rfl rfl ?_
   refine zJ (vs := [_, _, _]) rfl rfl rfl rfl Tryz.call42 ⟨rfl, rfl, rfl, trivial⟩ (fun w hs => o_r5_on hs r13 r14 r15 (by omega)) ?_
   intro v16 h2 hh2 r16
   obtain rfl : v16 = vB (onS (pr c 0 1) (pr d 0 1) (pr a 0 1)) := r16
   refine gv (yF rfl rfl) rfl (zD ?_)
   refine zU h2 hh2 ⟨?_, rfl, rfl, rfl, rfl, trivial⟩ rfl rfl
   exact congrArg some (vB_and_t hg)
  refine yG (zF (v := .bool false) (congrArg some (yA hg))) rfl rfl rfl (zK rfl rfl rfl rfl rfl rfl (zK rfl rfl rfl rfl rfl rfl (zK rfl rfl rfl rfl rfl rfl (zK rfl rfl rfl rfl rfl rfl (gv (yD rfl rfl) rfl (zD ?_))))))
  refine zU h1 (MLe.refl _) ⟨?_, rfl, rfl, rfl, rfl, trivial⟩ rfl rfl
  exact congrArg some (vB_and_f hg)
 intro mg1_3 hmmg1_3
 show GL _ _ _ _ _ _ _ [(17, vB (((pr a 0 1) = (pr b 0 1)) ∧ (onS (pr c 0 1) (pr d 0 1) (pr a 0 1)))), (4, vP b4 0), (5, vP b5 0), (6, vP b6 0), (7, vP b7 0)] [.var b7 33 cs7, .var b6 33 cs6, .var b5 33 cs5, .var b4 33 cs4] mg1_3
 refine gl_cut (ι := Mem) 11 (fun m_ => MLe mg1_3 m_) (fun _ => [(28, vB ((((pr a 0 1) = (pr b 0 1)) ∧ (onS (pr c 0 1) (pr d 0 1) (pr a 0 1))) ∨ (((pr c 0 1) = (pr d 0 1)) ∧ (onS (pr a 0 1) (pr b 0 1) (pr c 0 1)))))]) (fun _ => [.var b7 33 cs7, .var b6 33 cs6, .var b5 33 cs5, .var b4 33 cs4]) (fun m_ => m_) ?_ ?_
 ·
  refine gl_cases (((pr a 0 1) = (pr b 0 1)) ∧ (onS (pr c 0 1) (pr d 0 1) (pr a 0 1))) (fun hg => ?_) (fun hg => ?_)
  ·
   refine yG (zF (v := .bool true) (congrArg some (yI hg))) rfl rfl rfl (zK rfl rfl rfl rfl rfl rfl (zK rfl rfl rfl rfl rfl rfl (zK rfl rfl rfl rfl rfl rfl (zK rfl rfl rfl rfl rfl rfl (gl_offu rfl rfl rfl rfl rfl (gl_offu rfl rfl rfl rfl rfl (gl_offu rfl rfl rfl rfl rfl (gl_offu rfl rfl rfl rfl rfl (zK rfl rfl rfl rfl rfl rfl (gv (yF rfl rfl) rfl (zD ?_)))))))))))
   refine zU mg1_3 (MLe.refl _) ⟨?_, trivial⟩ rfl rfl
   exact congrArg some (vB_or_t hg)
  refine yG (zF (v := .bool false) (congrArg some (yA hg))) rfl rfl rfl (zT rfl rfl rfl ?_)
  replace rb6 := rb6.mono (hh1.trans hmmg1_3)
  refine gl_x (F := fun v_ => (rpT (rpQ k)).Is mg1_3 v_ c) (zE ty33 (Pc.here _) rfl rfl rb6 rfl) (mem1 (.tail _ (.head _))) rfl ?_
  intro v19 r19
  refine zT rfl rfl rfl ?_
  replace rb7 := rb7.mono (hh1.trans hmmg1_3)
  refine gl_x (F := fun v_ => (rpT (rpQ k)).Is mg1_3 v_ d) (zE ty33 (Pc.here _) rfl rfl rb7 rfl) (mem1 (.head _)) rfl ?_
  intro v20 r20
  refine zT rfl rfl rfl ?_
  refine zJ (vs := [_, _]) rfl rfl rfl rfl Tryz.call50 ⟨rfl, rfl, trivial⟩ (fun w hs => o_r5_equal hs r19 r20 (by omega)) ?_
  intro v21 h2 hh2 r21
  obtain rfl : v21 = vB ((pr c 0 1) = (pr d 0 1)) := r21
  refine gl_cut (ι := Mem) 6 (fun m_ => MLe h2 m_) (fun _ => [(27, vB (((pr c 0 1) = (pr d 0 1)) ∧ (onS (pr a 0 1) (pr b 0 1) (pr c 0 1)))), (18, .bool false)]) (fun _ => [.var b7 33 cs7, .var b6 33 cs6, .var b5 33 cs5, .var b4 33 cs4]) (fun m_ => m_) ?_ ?_
  ·
   refine gl_cases ((pr c 0 1) = (pr d 0 1)) (fun hg => ?_) (fun hg => ?_)
   ·
    refine zT rfl rfl rfl (yG (zF (v := .bool true) (congrArg some (yI hg))) rfl rfl rfl (zT rfl rfl rfl ?_))
    replace rb4 := rb4.mono ((hh1.trans hmmg1_3).trans hh2)
    refine gl_x (F := fun v_ => (rpT (rpQ k)).Is h2 v_ a) (zE ty33 (Pc.here _) rfl rfl rb4 rfl) (mem1 (.tail _ (.tail _ (.tail _ (.head _))))) rfl ?_
    intro v23 r23
    refine zT rfl rfl rfl ?_
    replace rb5 := rb5.mono ((hh1.trans hmmg1_3).trans hh2)
    refine gl_x (F := fun v_ => (rpT (rpQ k)).Is h2 v_ b) (zE ty33 (Pc.here _) rfl rfl rb5 rfl) (mem1 (.tail _ (.tail _ (.head _)))) rfl ?_
    intro v24 r24
    refine zT rfl rfl rfl ?_
    replace rb6 := rb6.mono hh2
    refine gl_x (F := fun v_ => (rpT (rpQ k)).Is h2 v_ c) (zE ty33 (Pc.here _) rfl rfl rb6 rfl) (mem1 (.tail _ (.head _))) rfl ?_
    intro v25 r25
    refine zT rfl rfl rfl ?_
    refine zJ (vs := [_, _, _]) rfl rfl rfl rfl Tryz.call42 ⟨rfl, rfl, rfl, trivial⟩ (fun w hs => o_r5_on hs r23 r24 r25 (by omega)) ?_
    intro v26 h3 hh3 r26
    obtain rfl : v26 = vB (onS (pr a 0 1) (pr b 0 1) (pr c 0 1)) := r26
    refine zT rfl rfl rfl (gv (yF rfl rfl) rfl (zD ?_))
    refine zU h3 hh3 ⟨?_, rfl, trivial⟩ rfl rfl
    exact congrArg some (vB_and_t hg)
   refine zT rfl rfl rfl (yG (zF (v := .bool false) (congrArg some (yA hg))) rfl rfl rfl (zK rfl rfl rfl rfl rfl rfl (zK rfl rfl rfl rfl rfl rfl (zK rfl rfl rfl rfl rfl rfl (zK rfl rfl rfl rfl rfl rfl (zT rfl rfl rfl (gv (yD rfl rfl) rfl (zD ?_))))))))
   refine zU h2 (MLe.refl _) ⟨?_, rfl, trivial⟩ rfl rfl
   exact congrArg some (vB_and_f hg)
  intro mg1_13 hmmg1_13
  show GL _ _ _ _ _ _ _ [(27, vB (((pr c 0 1) = (pr d 0 1)) ∧ (onS (pr a 0 1) (pr b 0 1) (pr c 0 1)))), (18, .bool false)] [.var b7 33 cs7, .var b6 33 cs6, .var b5 33 cs5, .var b4 33 cs4] mg1_13
  refine gv (yD rfl rfl) rfl (zD ?_)
  refine zU mg1_13 (hh2.trans hmmg1_13) ⟨?_, trivial⟩ rfl rfl
  exact congrArg some (vB_or_f hg)
 intro mg1_9 hmmg1_9
 show GL _ _ _ _ _ _ _ [(28, vB ((((pr a 0 1) = (pr b 0 1)) ∧ (onS (pr c 0 1) (pr d 0 1) (pr a 0 1))) ∨ (((pr c 0 1) = (pr d 0 1)) ∧ (onS (pr a 0 1) (pr b 0 1) (pr c 0 1)))))] [.var b7 33 cs7, .var b6 33 cs6, .var b5 33 cs5, .var b4 33 cs4] mg1_9
 refine zD (zB ?_)
 refine zH rfl (fun hc28 => ?_) (fun hc28 => ?_)
 ·
  refine zC (zA (asg (v := vI (2)) rfl rfl (zD (zB (zN (zO (zW rfl rfl ?_)))))))
  exact congrArg vI (if_pos hc28).symm
 refine zI (zB (zC (zA (asg (v := vI (0)) rfl rfl (zD (zB (zN (zW rfl rfl ?_))))))))
 exact congrArg vI (if_neg hc28).symm

theorem o_r5_touch {w0 : World} {h0 : Mem}  (hs : MLe h0 (mem w0)) {k : Nat} {va : Value} {a : (T3 Rat)} (ra : (rpT (rpQ k)).Is h0 va a) {vb : Value} {b : (T3 Rat)} (rb : (rpT (rpQ k)).Is h0 vb b) {vc : Value} {c : (T3 Rat)} (rc : (rpT (rpQ k)).Is h0 vc c) {vd : Value} {d : (T3 Rat)} (rd : (rpT (rpQ k)).Is h0 vd d) (hcd0 : k ≤ 5000)  :
    Calls Tryz.prog 51 #[va, vb, vc, vd] w0 (Ret w0 h0 (fun _ r => r = vI (touchR (pr a 0 1) (pr b 0 1) (pr c 0 1) (pr d 0 1)))) := by
 refine zR (n := 117) (e := [(0, va), (1, vb), (2, vc), (3, vd)]) (vs := [va, vb, vc, vd]) Tryz.func51 rfl rfl (Nat.le_of_ble_eq_true rfl) hs ⟨rfl, rfl, rfl, rfl, trivial⟩ (zC (zA (zP (new_boxx (ρ := (rpT (rpQ k))) rfl ra) rfl rfl rfl ?_)))
 intro v4 q4 hq4
 obtain ⟨b4, cs4, rfl, rfl, rb4⟩ := hq4
 refine zP (new_boxx (ρ := (rpT (rpQ k))) rfl rb) rfl rfl rfl ?_
 intro v5 q5 hq5
 obtain ⟨b5, cs5, rfl, rfl, rb5⟩ := hq5
 refine zP (new_boxx (ρ := (rpT (rpQ k))) rfl rc) rfl rfl rfl ?_
 intro v6 q6 hq6
 obtain ⟨b6, cs6, rfl, rfl, rb6⟩ := hq6
 refine zP (new_boxx (ρ := (rpT (rpQ k))) rfl rd) rfl rfl rfl ?_
 intro v7 q7 hq7
 obtain ⟨b7, cs7, rfl, rfl, rb7⟩ := hq7
 refine asg (v := vI (0)) rfl rfl (zD (zB (zC ?_)))
 refine gc_draw 8 _ [] [(0, .q), (2, .q), (4, .q), (6, .q), (1, .c), (3, .c), (5, .c), (7, .c), (8, .t), (9, .t), (10, .t), (11, .t)] mixed (fun x hx => by cases hx) (chk_of [0, 1, 0, 6, 0, 24, 0, 96, 131, 271, 831, 2047] [4095, 4094, 4095, 4091, 4095, 4079, 4095, 4031, 4093, 4087, 4063, 3967] (by kernel_rfl)) (fun x hx => by cases hx) (fun r hr => hr) (w_qx (F := fun v_ => (rpT (rpQ k)).Is h0 v_ a) rfl (zE ty33 (Pc.here _) rfl rfl rb4 rfl) (mem1 (.tail _ (.tail _ (.tail _ (.head _))))) rfl ?_)
 intro v11 r11
 refine w_qx (F := fun v_ => (rpT (rpQ k)).Is h0 v_ b) rfl (zE ty33 (Pc.here _) rfl rfl rb5 rfl) (mem1 (.tail _ (.tail _ (.head _)))) rfl ?_
 intro v13 r13
 refine w_qx (F := fun v_ => (rpT (rpQ k)).Is h0 v_ c) rfl (zE ty33 (Pc.here _) rfl rfl rb6 rfl) (mem1 (.tail _ (.head _))) rfl ?_
 intro v15 r15
 refine w_qx (F := fun v_ => (rpT (rpQ k)).Is h0 v_ d) rfl (zE ty33 (Pc.here _) rfl rfl rb7 rfl) (mem1 (.head _)) rfl ?_
 intro v17 r17
 refine w_c rfl ?_
 refine yO (vs := [_]) Tryz.call43 ⟨rfl, trivial⟩ (fun w hs => o_r5_flat hs r11) rfl ?_
 intro v12 h1 hh1 r12
 change (rpT (rpQ (k + 1))).Is h1 v12 (T3.mk a.x a.y (0 : Rat)) at r12
 refine w_c rfl ?_
 replace r13 := r13.mono hh1
 refine yO (vs := [_]) Tryz.call43 ⟨rfl, trivial⟩ (fun w hs => o_r5_flat hs r13) rfl ?_
 intro v14 h2 hh2 r14
 change (rpT (rpQ (k + 1))).Is h2 v14 (T3.mk b.x b.y (0 : Rat)) at r14
 refine w_c rfl ?_
 replace r15 := r15.mono (hh1.trans hh2)
 refine yO (vs := [_]) Tryz.call43 ⟨rfl, trivial⟩ (fun w hs => o_r5_flat hs r15) rfl ?_
 intro v16 h3 hh3 r16
 change (rpT (rpQ (k + 1))).Is h3 v16 (T3.mk c.x c.y (0 : Rat)) at r16
 refine w_c rfl ?_
 replace r17 := r17.mono ((hh1.trans hh2).trans hh3)
 refine yO (vs := [_]) Tryz.call43 ⟨rfl, trivial⟩ (fun w hs => o_r5_flat hs r17) rfl ?_
 intro v18 h4 hh4 r18
 change (rpT (rpQ (k + 1))).Is h4 v18 (T3.mk d.x d.y (0 : Rat)) at r18
 replace rb4 := rb4.mono (((hh1.trans hh2).trans hh3).trans hh4)
 have rw_44 := (Le.t (Le.q (l := k + 1) (by omega))).R rb4
 replace r12 := r12.mono ((hh2.trans hh3).trans hh4)
 refine w_tx_upd (A := [_, _, _]) (F := fun c_ => (rpT (rpQ (k + 1))).R h4 c_ (T3.mk a.x a.y (0 : Rat))) rfl (upd_box Tryz.sizeOf33 (Pc.here _) rfl rfl rfl rw_44 r12 rfl) ?_
 intro cs_45 rb_46
 replace rb5 := rb5.mono (((hh1.trans hh2).trans hh3).trans hh4)
 have rw_47 := (Le.t (Le.q (l := k + 1) (by omega))).R rb5
 replace r14 := r14.mono (hh3.trans hh4)
 refine w_tx_upd (A := [_, _]) (F := fun c_ => (rpT (rpQ (k + 1))).R h4 c_ (T3.mk b.x b.y (0 : Rat))) rfl (upd_box Tryz.sizeOf33 (Pc.here _) rfl rfl rfl rw_47 r14 rfl) ?_
 intro cs_48 rb_49
 replace rb6 := rb6.mono (((hh1.trans hh2).trans hh3).trans hh4)
 have rw_50 := (Le.t (Le.q (l := k + 1) (by omega))).R rb6
 replace r16 := r16.mono hh4
 refine w_tx_upd (A := [_]) (F := fun c_ => (rpT (rpQ (k + 1))).R h4 c_ (T3.mk c.x c.y (0 : Rat))) rfl (upd_box Tryz.sizeOf33 (Pc.here _) rfl rfl rfl rw_50 r16 rfl) ?_
 intro cs_51 rb_52
 replace rb7 := rb7.mono (((hh1.trans hh2).trans hh3).trans hh4)
 have rw_53 := (Le.t (Le.q (l := k + 1) (by omega))).R rb7
 refine w_tx_upd (A := []) (F := fun c_ => (rpT (rpQ (k + 1))).R h4 c_ (T3.mk d.x d.y (0 : Rat))) rfl (upd_box Tryz.sizeOf33 (Pc.here _) rfl rfl rfl rw_53 r18 rfl) ?_
 intro cs_54 rb_55
 refine w_nil (zL (e' := [(4, _), (5, _), (6, _), (7, _)]) ⟨rfl, rfl, rfl, rfl, trivial⟩ (zB ?_))
 refine gc_cut (ι := List Value × List Value × Mem) (fun (cs_56, cs_58, m1) => MLe h4 m1 ∧ ((rpT (rpQ (k + 1))).R m1 cs_56 (loT (T3.mk a.x a.y (0 : Rat)) (T3.mk b.x b.y (0 : Rat)) 0 1) ∧ (rpT (rpQ (k + 1))).R m1 cs_58 (hiT (T3.mk a.x a.y (0 : Rat)) (T3.mk b.x b.y (0 : Rat)) 0 1) ∧ True)) (fun (cs_56, cs_58, m1) => [(4, vP b4 0), (5, vP b5 0), (6, vP b6 0), (7, vP b7 0)]) (fun (cs_56, cs_58, m1) => [.var b7 33 cs_54, .var b6 33 cs_51, .var b5 33 cs_58, .var b4 33 cs_56]) (fun (cs_56, cs_58, m1) => m1) ?_ ?_
 ·
  refine zC (zA (gl_x (F := fun v_ => (rpT (rpQ (k + 1))).Is h4 v_ (T3.mk b.x b.y (0 : Rat))) (zE ty33 (Pc.here _) rfl rfl rb_49 rfl) (mem1 (.tail _ (.tail _ (.head _)))) rfl ?_))
  intro v19 r19
  refine gl_x (F := fun v_ => (rpT (rpQ (k + 1))).Is h4 v_ (T3.mk a.x a.y (0 : Rat))) (zE ty33 (Pc.here _) rfl rfl rb_46 rfl) (mem1 (.tail _ (.tail _ (.tail _ (.head _))))) rfl ?_
  intro v20 r20
  refine zJ (vs := [_, _]) rfl rfl rfl rfl Tryz.call70 ⟨rfl, rfl, trivial⟩ (fun w hs => o_r5_less hs r19 r20 (by omega)) ?_
  intro v21 h5 hh5 r21
  obtain rfl : v21 = vB (lx (pr (T3.mk b.x b.y (0 : Rat)) 0 1) (pr (T3.mk a.x a.y (0 : Rat)) 0 1)) := r21
  refine zD (zB ?_)
  refine zH rfl (fun hc21 => ?_) (fun hc21 => ?_)
  ·
   refine zA ?_
   replace rb_49 := rb_49.mono hh5
   refine gl_x (F := fun v_ => (rpT (rpQ (k + 1))).Is h5 v_ (T3.mk b.x b.y (0 : Rat))) (zE ty33 (Pc.here _) rfl rfl rb_49 rfl) (mem1 (.tail _ (.tail _ (.head _)))) rfl ?_
   intro v22 r22
   replace rb_46 := rb_46.mono hh5
   refine gl_x (F := fun v_ => (rpT (rpQ (k + 1))).Is h5 v_ (T3.mk a.x a.y (0 : Rat))) (zE ty33 (Pc.here _) rfl rfl rb_46 rfl) (mem1 (.tail _ (.tail _ (.tail _ (.head _))))) rfl ?_
   intro v23 r23
   refine gl_updx (A := [_, _, _]) (F := fun c_ => (rpT (rpQ (k + 1))).R h5 c_ (T3.mk b.x b.y (0 : Rat))) (upd_box Tryz.sizeOf33 (Pc.here _) rfl rfl rfl rb_46 r22 rfl) ?_
   intro cs_60 rb_61
   refine gl_updx (A := [_, _]) (F := fun c_ => (rpT (rpQ (k + 1))).R h5 c_ (T3.mk a.x a.y (0 : Rat))) (upd_box Tryz.sizeOf33 (Pc.here _) rfl rfl rfl rb_49 r23 rfl) ?_
   intro cs_62 rb_63
   refine zD ?_
   refine zU (cs_60, cs_62, h5) ?_ ⟨rfl, rfl, rfl, rfl, trivial⟩ rfl rfl
   refine ⟨hh5, ?_⟩
   refine ⟨(Rp.castR rb_61 (if_pos hc21).symm), (Rp.castR rb_63 (if_pos hc21).symm), ?_⟩
   trivial
  refine zI ?_
  refine zU (cs_45, cs_48, h5) ?_ ⟨rfl, rfl, rfl, rfl, trivial⟩ rfl rfl
  refine ⟨hh5, ?_⟩
  replace rb_46 := rb_46.mono hh5
  replace rb_49 := rb_49.mono hh5
  refine ⟨(Rp.castR rb_46 (if_neg hc21).symm), (Rp.castR rb_49 (if_neg hc21).symm), ?_⟩
  trivial
 intro x hx
 obtain ⟨cs_56, cs_58, m1⟩ := x
 obtain ⟨hmm1, hcut⟩ := hx
 show GC _ _ _ _ _ _ [(4, vP b4 0), (5, vP b5 0), (6, vP b6 0), (7, vP b7 0)] [.var b7 33 cs_54, .var b6 33 cs_51, .var b5 33 cs_58, .var b4 33 cs_56] m1
 obtain ⟨rb_57, rb_59, hcut⟩ := hcut
 refine gc_cut (ι := List Value × List Value × Mem) (fun (cs_64, cs_66, m2) => MLe m1 m2 ∧ ((rpT (rpQ (k + 1))).R m2 cs_64 (loT (T3.mk c.x c.y (0 : Rat)) (T3.mk d.x d.y (0 : Rat)) 0 1) ∧ (rpT (rpQ (k + 1))).R m2 cs_66 (hiT (T3.mk c.x c.y (0 : Rat)) (T3.mk d.x d.y (0 : Rat)) 0 1) ∧ True)) (fun (cs_64, cs_66, m2) => [(4, vP b4 0), (5, vP b5 0), (6, vP b6 0), (7, vP b7 0)]) (fun (cs_64, cs_66, m2) => [.var b7 33 cs_66, .var b6 33 cs_64, .var b5 33 cs_58, .var b4 33 cs_56]) (fun (cs_64, cs_66, m2) => m2) ?_ ?_
 ·
  refine zC (zA ?_)
  replace rb_55 := rb_55.mono hmm1
  refine gl_x (F := fun v_ => (rpT (rpQ (k + 1))).Is m1 v_ (T3.mk d.x d.y (0 : Rat))) (zE ty33 (Pc.here _) rfl rfl rb_55 rfl) (mem1 (.head _)) rfl ?_
  intro v24 r24
  replace rb_52 := rb_52.mono hmm1
  refine gl_x (F := fun v_ => (rpT (rpQ (k + 1))).Is m1 v_ (T3.mk c.x c.y (0 : Rat))) (zE ty33 (Pc.here _) rfl rfl rb_52 rfl) (mem1 (.tail _ (.head _))) rfl ?_
  intro v25 r25
  refine zJ (vs := [_, _]) rfl rfl rfl rfl Tryz.call70 ⟨rfl, rfl, trivial⟩ (fun w hs => o_r5_less hs r24 r25 (by omega)) ?_
  intro v26 h5 hh5 r26
  obtain rfl : v26 = vB (lx (pr (T3.mk d.x d.y (0 : Rat)) 0 1) (pr (T3.mk c.x c.y (0 : Rat)) 0 1)) := r26
  refine zD (zB ?_)
  refine zH rfl (fun hc26 => ?_) (fun hc26 => ?_)
  ·
   refine zA ?_
   replace rb_55 := rb_55.mono hh5
   refine gl_x (F := fun v_ => (rpT (rpQ (k + 1))).Is h5 v_ (T3.mk d.x d.y (0 : Rat))) (zE ty33 (Pc.here _) rfl rfl rb_55 rfl) (mem1 (.head _)) rfl ?_
   intro v27 r27
   replace rb_52 := rb_52.mono hh5
   refine gl_x (F := fun v_ => (rpT (rpQ (k + 1))).Is h5 v_ (T3.mk c.x c.y (0 : Rat))) (zE ty33 (Pc.here _) rfl rfl rb_52 rfl) (mem1 (.tail _ (.head _))) rfl ?_
   intro v28 r28
   refine gl_updx (A := [_]) (F := fun c_ => (rpT (rpQ (k + 1))).R h5 c_ (T3.mk d.x d.y (0 : Rat))) (upd_box Tryz.sizeOf33 (Pc.here _) rfl rfl rfl rb_52 r27 rfl) ?_
   intro cs_68 rb_69
   refine gl_updx (A := []) (F := fun c_ => (rpT (rpQ (k + 1))).R h5 c_ (T3.mk c.x c.y (0 : Rat))) (upd_box Tryz.sizeOf33 (Pc.here _) rfl rfl rfl rb_55 r28 rfl) ?_
   intro cs_70 rb_71
   refine zD ?_
   refine zU (cs_68, cs_70, h5) ?_ ⟨rfl, rfl, rfl, rfl, trivial⟩ rfl rfl
   refine ⟨hh5, ?_⟩
   refine ⟨(Rp.castR rb_69 (if_pos hc26).symm), (Rp.castR rb_71 (if_pos hc26).symm), ?_⟩
   trivial
  refine zI ?_
  refine zU (cs_51, cs_54, h5) ?_ ⟨rfl, rfl, rfl, rfl, trivial⟩ rfl rfl
  refine ⟨hh5, ?_⟩
  replace rb_52 := rb_52.mono hh5
  replace rb_55 := rb_55.mono hh5
  refine ⟨(Rp.castR rb_52 (if_neg hc26).symm), (Rp.castR rb_55 (if_neg hc26).symm), ?_⟩
  trivial
 intro x hx
 obtain ⟨cs_64, cs_66, m2⟩ := x
 obtain ⟨hmm2, hcut⟩ := hx
 show GC _ _ _ _ _ _ [(4, vP b4 0), (5, vP b5 0), (6, vP b6 0), (7, vP b7 0)] [.var b7 33 cs_66, .var b6 33 cs_64, .var b5 33 cs_58, .var b4 33 cs_56] m2
 obtain ⟨rb_65, rb_67, hcut⟩ := hcut
 refine zC (zC (zA ?_))
 replace rb_57 := rb_57.mono hmm2
 refine gl_x (F := fun v_ => (rpT (rpQ (k + 1))).Is m2 v_ (loT (T3.mk a.x a.y (0 : Rat)) (T3.mk b.x b.y (0 : Rat)) 0 1)) (zE ty33 (Pc.here _) rfl rfl rb_57 rfl) (mem1 (.tail _ (.tail _ (.tail _ (.head _))))) rfl ?_
 intro v29 r29
 replace rb_59 := rb_59.mono hmm2
 refine gl_x (F := fun v_ => (rpT (rpQ (k + 1))).Is m2 v_ (hiT (T3.mk a.x a.y (0 : Rat)) (T3.mk b.x b.y (0 : Rat)) 0 1)) (zE ty33 (Pc.here _) rfl rfl rb_59 rfl) (mem1 (.tail _ (.tail _ (.head _)))) rfl ?_
 intro v30 r30
 refine gl_x (F := fun v_ => (rpT (rpQ (k + 1))).Is m2 v_ (loT (T3.mk c.x c.y (0 : Rat)) (T3.mk d.x d.y (0 : Rat)) 0 1)) (zE ty33 (Pc.here _) rfl rfl rb_65 rfl) (mem1 (.tail _ (.head _))) rfl ?_
 intro v31 r31
 refine zJ (vs := [_, _, _]) rfl rfl rfl rfl Tryz.call45 ⟨rfl, rfl, rfl, trivial⟩ (fun w hs => o_r5_turn hs r29 r30 r31 (by omega)) ?_
 intro v32 h5 hh5 r32
 obtain rfl : v32 = vI (orZ (pr (loT (T3.mk a.x a.y (0 : Rat)) (T3.mk b.x b.y (0 : Rat)) 0 1) 0 1) (pr (hiT (T3.mk a.x a.y (0 : Rat)) (T3.mk b.x b.y (0 : Rat)) 0 1) 0 1) (pr (loT (T3.mk c.x c.y (0 : Rat)) (T3.mk d.x d.y (0 : Rat)) 0 1) 0 1)) := r32
 have hor32 := or_range (pr (loT (T3.mk a.x a.y (0 : Rat)) (T3.mk b.x b.y (0 : Rat)) 0 1) 0 1) (pr (hiT (T3.mk a.x a.y (0 : Rat)) (T3.mk b.x b.y (0 : Rat)) 0 1) 0 1) (pr (loT (T3.mk c.x c.y (0 : Rat)) (T3.mk d.x d.y (0 : Rat)) 0 1) 0 1)
 refine gv (ov_eql_i (q := 0) rfl rfl) rfl ?_
 refine gl_cut (ι := Mem) 7 (fun m_ => MLe h5 m_) (fun _ => [(40, vB (((orZ (pr (loT (T3.mk a.x a.y (0 : Rat)) (T3.mk b.x b.y (0 : Rat)) 0 1) 0 1) (pr (hiT (T3.mk a.x a.y (0 : Rat)) (T3.mk b.x b.y (0 : Rat)) 0 1) 0 1) (pr (loT (T3.mk c.x c.y (0 : Rat)) (T3.mk d.x d.y (0 : Rat)) 0 1) 0 1)) = (0 : Int)) ∧ ((orZ (pr (loT (T3.mk a.x a.y (0 : Rat)) (T3.mk b.x b.y (0 : Rat)) 0 1) 0 1) (pr (hiT (T3.mk a.x a.y (0 : Rat)) (T3.mk b.x b.y (0 : Rat)) 0 1) 0 1) (pr (hiT (T3.mk c.x c.y (0 : Rat)) (T3.mk d.x d.y (0 : Rat)) 0 1) 0 1)) = (0 : Int)))), (4, vP b4 0), (5, vP b5 0), (6, vP b6 0), (7, vP b7 0)]) (fun _ => [.var b7 33 cs_66, .var b6 33 cs_64, .var b5 33 cs_58, .var b4 33 cs_56]) (fun m_ => m_) ?_ ?_
 ·
  refine gl_cases ((orZ (pr (loT (T3.mk a.x a.y (0 : Rat)) (T3.mk b.x b.y (0 : Rat)) 0 1) 0 1) (pr (hiT (T3.mk a.x a.y (0 : Rat)) (T3.mk b.x b.y (0 : Rat)) 0 1) 0 1) (pr (loT (T3.mk c.x c.y (0 : Rat)) (T3.mk d.x d.y (0 : Rat)) 0 1) 0 1)) = (0 : Int)) (fun hg => ?_) (fun hg => ?_)
  ·
   refine yG (zF (v := .bool true) (congrArg some (yI hg))) rfl rfl rfl (zT rfl rfl rfl ?_)
   replace rb_57 := rb_57.mono hh5
   refine gl_x (F := fun v_ => (rpT (rpQ (k + 1))).Is h5 v_ (loT (T3.mk a.x a.y (0 : Rat)) (T3.mk b.x b.y (0 : Rat)) 0 1)) (zE ty33 (Pc.here _) rfl rfl rb_57 rfl) (mem1 (.tail _ (.tail _ (.tail _ (.head _))))) rfl ?_
   intro v35 r35
   refine zT rfl rfl rfl ?_
   replace rb_59 := rb_59.mono hh5
   refine gl_x (F := fun v_ => (rpT (rpQ (k + 1))).Is h5 v_ (hiT (T3.mk a.x a.y (0 : Rat)) (T3.mk b.x b.y (0 : Rat)) 0 1)) (zE ty33 (Pc.here _) rfl rfl rb_59 rfl) (mem1 (.tail _ (.tail _ (.head _)))) rfl ?_
   intro v36 r36
   refine zT rfl rfl rfl ?_
   replace rb_67 := rb_67.mono hh5
   refine gl_x (F := fun v_ => (rpT (rpQ (k + 1))).Is h5 v_ (hiT (T3.mk c.x c.y (0 : Rat)) (T3.mk d.x d.y (0 : Rat)) 0 1)) (zE ty33 (Pc.here _) rfl rfl rb_67 rfl) (mem1 (.head _)) rfl ?_
   intro v37 r37
   refine zT rfl rfl rfl ?_
   refine zJ (vs := [_, _, _]) rfl rfl rfl rfl Tryz.call45 ⟨rfl, rfl, rfl, trivial⟩ (fun w hs => o_r5_turn hs r35 r36 r37 (by omega)) ?_
   intro v38 h6 hh6 r38
   obtain rfl : v38 = vI (orZ (pr (loT (T3.mk a.x a.y (0 : Rat)) (T3.mk b.x b.y (0 : Rat)) 0 1) 0 1) (pr (hiT (T3.mk a.x a.y (0 : Rat)) (T3.mk b.x b.y (0 : Rat)) 0 1) 0 1) (pr (hiT (T3.mk c.x c.y (0 : Rat)) (T3.mk d.x d.y (0 : Rat)) 0 1) 0 1)) := r38
   have hor38 := or_range (pr (loT (T3.mk a.x a.y (0 : Rat)) (T3.mk b.x b.y (0 : Rat)) 0 1) 0 1) (pr (hiT (T3.mk a.x a.y (0 : Rat)) (T3.mk b.x b.y (0 : Rat)) 0 1) 0 1) (pr (hiT (T3.mk c.x c.y (0 : Rat)) (T3.mk d.x d.y (0 : Rat)) 0 1) 0 1)
   refine zT rfl rfl rfl (gv (ov_eql_i (q := 0) rfl rfl) rfl (gv (yF rfl rfl) rfl (zD ?_)))
   refine zU h6 hh6 ⟨?_, rfl, rfl, rfl, rfl, trivial⟩ rfl rfl
   exact congrArg some (vB_and_t hg)
  refine yG (zF (v := .bool false) (congrArg some (yA hg))) rfl rfl rfl (zK rfl rfl rfl rfl rfl rfl (zK rfl rfl rfl rfl rfl rfl (zK rfl rfl rfl rfl rfl rfl (zK rfl rfl rfl rfl rfl rfl (zK rfl rfl rfl rfl rfl rfl (gv (yD rfl rfl) rfl (zD ?_)))))))
  refine zU h5 (MLe.refl _) ⟨?_, rfl, rfl, rfl, rfl, trivial⟩ rfl rfl
  exact congrArg some (vB_and_f hg)
 intro mg6_5 hmmg6_5
 show GL _ _ _ _ _ _ _ [(40, vB (((orZ (pr (loT (T3.mk a.x a.y (0 : Rat)) (T3.mk b.x b.y (0 : Rat)) 0 1) 0 1) (pr (hiT (T3.mk a.x a.y (0 : Rat)) (T3.mk b.x b.y (0 : Rat)) 0 1) 0 1) (pr (loT (T3.mk c.x c.y (0 : Rat)) (T3.mk d.x d.y (0 : Rat)) 0 1) 0 1)) = (0 : Int)) ∧ ((orZ (pr (loT (T3.mk a.x a.y (0 : Rat)) (T3.mk b.x b.y (0 : Rat)) 0 1) 0 1) (pr (hiT (T3.mk a.x a.y (0 : Rat)) (T3.mk b.x b.y (0 : Rat)) 0 1) 0 1) (pr (hiT (T3.mk c.x c.y (0 : Rat)) (T3.mk d.x d.y (0 : Rat)) 0 1) 0 1)) = (0 : Int)))), (4, vP b4 0), (5, vP b5 0), (6, vP b6 0), (7, vP b7 0)] [.var b7 33 cs_66, .var b6 33 cs_64, .var b5 33 cs_58, .var b4 33 cs_56] mg6_5
 refine gl_cut (ι := Mem) 7 (fun m_ => MLe mg6_5 m_) (fun _ => [(47, vB ((((orZ (pr (loT (T3.mk a.x a.y (0 : Rat)) (T3.mk b.x b.y (0 : Rat)) 0 1) 0 1) (pr (hiT (T3.mk a.x a.y (0 : Rat)) (T3.mk b.x b.y (0 : Rat)) 0 1) 0 1) (pr (loT (T3.mk c.x c.y (0 : Rat)) (T3.mk d.x d.y (0 : Rat)) 0 1) 0 1)) = (0 : Int)) ∧ ((orZ (pr (loT (T3.mk a.x a.y (0 : Rat)) (T3.mk b.x b.y (0 : Rat)) 0 1) 0 1) (pr (hiT (T3.mk a.x a.y (0 : Rat)) (T3.mk b.x b.y (0 : Rat)) 0 1) 0 1) (pr (hiT (T3.mk c.x c.y (0 : Rat)) (T3.mk d.x d.y (0 : Rat)) 0 1) 0 1)) = (0 : Int))) ∧ ((orZ (pr (loT (T3.mk c.x c.y (0 : Rat)) (T3.mk d.x d.y (0 : Rat)) 0 1) 0 1) (pr (hiT (T3.mk c.x c.y (0 : Rat)) (T3.mk d.x d.y (0 : Rat)) 0 1) 0 1) (pr (loT (T3.mk a.x a.y (0 : Rat)) (T3.mk b.x b.y (0 : Rat)) 0 1) 0 1)) = (0 : Int)))), (4, vP b4 0), (5, vP b5 0), (6, vP b6 0), (7, vP b7 0)]) (fun _ => [.var b7 33 cs_66, .var b6 33 cs_64, .var b5 33 cs_58, .var b4 33 cs_56]) (fun m_ => m_) ?_ ?_
 ·
  refine gl_cases (((orZ (pr (loT (T3.mk a.x a.y (0 : Rat)) (T3.mk b.x b.y (0 : Rat)) 0 1) 0 1) (pr (hiT (T3.mk a.x a.y (0 : Rat)) (T3.mk b.x b.y (0 : Rat)) 0 1) 0 1) (pr (loT (T3.mk c.x c.y (0 : Rat)) (T3.mk d.x d.y (0 : Rat)) 0 1) 0 1)) = (0 : Int)) ∧ ((orZ (pr (loT (T3.mk a.x a.y (0 : Rat)) (T3.mk b.x b.y (0 : Rat)) 0 1) 0 1) (pr (hiT (T3.mk a.x a.y (0 : Rat)) (T3.mk b.x b.y (0 : Rat)) 0 1) 0 1) (pr (hiT (T3.mk c.x c.y (0 : Rat)) (T3.mk d.x d.y (0 : Rat)) 0 1) 0 1)) = (0 : Int))) (fun hg => ?_) (fun hg => ?_)
  ·
   refine yG (zF (v := .bool true) (congrArg some (yI hg))) rfl rfl rfl (zT rfl rfl rfl ?_)
   replace rb_65 := rb_65.mono (hh5.trans hmmg6_5)
   refine gl_x (F := fun v_ => (rpT (rpQ (k + 1))).Is mg6_5 v_ (loT (T3.mk c.x c.y (0 : Rat)) (T3.mk d.x d.y (0 : Rat)) 0 1)) (zE ty33 (Pc.here _) rfl rfl rb_65 rfl) (mem1 (.tail _ (.head _))) rfl ?_
   intro v42 r42
   refine zT rfl rfl rfl ?_
   replace rb_67 := rb_67.mono (hh5.trans hmmg6_5)
   refine gl_x (F := fun v_ => (rpT (rpQ (k + 1))).Is mg6_5 v_ (hiT (T3.mk c.x c.y (0 : Rat)) (T3.mk d.x d.y (0 : Rat)) 0 1)) (zE ty33 (Pc.here _) rfl rfl rb_67 rfl) (mem1 (.head _)) rfl ?_
   intro v43 r43
   refine zT rfl rfl rfl ?_
   replace rb_57 := rb_57.mono (hh5.trans hmmg6_5)
   refine gl_x (F := fun v_ => (rpT (rpQ (k + 1))).Is mg6_5 v_ (loT (T3.mk a.x a.y (0 : Rat)) (T3.mk b.x b.y (0 : Rat)) 0 1)) (zE ty33 (Pc.here _) rfl rfl rb_57 rfl) (mem1 (.tail _ (.tail _ (.tail _ (.head _))))) rfl ?_
   intro v44 r44
   refine zT rfl rfl rfl ?_
   refine zJ (vs := [_, _, _]) rfl rfl rfl rfl Tryz.call45 ⟨rfl, rfl, rfl, trivial⟩ (fun w hs => o_r5_turn hs r42 r43 r44 (by omega)) ?_
   intro v45 h6 hh6 r45
   obtain rfl : v45 = vI (orZ (pr (loT (T3.mk c.x c.y (0 : Rat)) (T3.mk d.x d.y (0 : Rat)) 0 1) 0 1) (pr (hiT (T3.mk c.x c.y (0 : Rat)) (T3.mk d.x d.y (0 : Rat)) 0 1) 0 1) (pr (loT (T3.mk a.x a.y (0 : Rat)) (T3.mk b.x b.y (0 : Rat)) 0 1) 0 1)) := r45
   have hor45 := or_range (pr (loT (T3.mk c.x c.y (0 : Rat)) (T3.mk d.x d.y (0 : Rat)) 0 1) 0 1) (pr (hiT (T3.mk c.x c.y (0 : Rat)) (T3.mk d.x d.y (0 : Rat)) 0 1) 0 1) (pr (loT (T3.mk a.x a.y (0 : Rat)) (T3.mk b.x b.y (0 : Rat)) 0 1) 0 1)
   refine zT rfl rfl rfl (gv (ov_eql_i (q := 0) rfl rfl) rfl (gv (yF rfl rfl) rfl (zD ?_)))
   refine zU h6 hh6 ⟨?_, rfl, rfl, rfl, rfl, trivial⟩ rfl rfl
   exact congrArg some (vB_and_t hg)
  refine yG (zF (v := .bool false) (congrArg some (yA hg))) rfl rfl rfl (zK rfl rfl rfl rfl rfl rfl (zK rfl rfl rfl rfl rfl rfl (zK rfl rfl rfl rfl rfl rfl (zK rfl rfl rfl rfl rfl rfl (zK rfl rfl rfl rfl rfl rfl (gv (yD rfl rfl) rfl (zD ?_)))))))
  refine zU mg6_5 (MLe.refl _) ⟨?_, rfl, rfl, rfl, rfl, trivial⟩ rfl rfl
  exact congrArg some (vB_and_f hg)
 intro mg6_12 hmmg6_12
 show GL _ _ _ _ _ _ _ [(47, vB ((((orZ (pr (loT (T3.mk a.x a.y (0 : Rat)) (T3.mk b.x b.y (0 : Rat)) 0 1) 0 1) (pr (hiT (T3.mk a.x a.y (0 : Rat)) (T3.mk b.x b.y (0 : Rat)) 0 1) 0 1) (pr (loT (T3.mk c.x c.y (0 : Rat)) (T3.mk d.x d.y (0 : Rat)) 0 1) 0 1)) = (0 : Int)) ∧ ((orZ (pr (loT (T3.mk a.x a.y (0 : Rat)) (T3.mk b.x b.y (0 : Rat)) 0 1) 0 1) (pr (hiT (T3.mk a.x a.y (0 : Rat)) (T3.mk b.x b.y (0 : Rat)) 0 1) 0 1) (pr (hiT (T3.mk c.x c.y (0 : Rat)) (T3.mk d.x d.y (0 : Rat)) 0 1) 0 1)) = (0 : Int))) ∧ ((orZ (pr (loT (T3.mk c.x c.y (0 : Rat)) (T3.mk d.x d.y (0 : Rat)) 0 1) 0 1) (pr (hiT (T3.mk c.x c.y (0 : Rat)) (T3.mk d.x d.y (0 : Rat)) 0 1) 0 1) (pr (loT (T3.mk a.x a.y (0 : Rat)) (T3.mk b.x b.y (0 : Rat)) 0 1) 0 1)) = (0 : Int)))), (4, vP b4 0), (5, vP b5 0), (6, vP b6 0), (7, vP b7 0)] [.var b7 33 cs_66, .var b6 33 cs_64, .var b5 33 cs_58, .var b4 33 cs_56] mg6_12
 refine gl_cut (ι := Mem) 7 (fun m_ => MLe mg6_12 m_) (fun _ => [(54, vB (((((orZ (pr (loT (T3.mk a.x a.y (0 : Rat)) (T3.mk b.x b.y (0 : Rat)) 0 1) 0 1) (pr (hiT (T3.mk a.x a.y (0 : Rat)) (T3.mk b.x b.y (0 : Rat)) 0 1) 0 1) (pr (loT (T3.mk c.x c.y (0 : Rat)) (T3.mk d.x d.y (0 : Rat)) 0 1) 0 1)) = (0 : Int)) ∧ ((orZ (pr (loT (T3.mk a.x a.y (0 : Rat)) (T3.mk b.x b.y (0 : Rat)) 0 1) 0 1) (pr (hiT (T3.mk a.x a.y (0 : Rat)) (T3.mk b.x b.y (0 : Rat)) 0 1) 0 1) (pr (hiT (T3.mk c.x c.y (0 : Rat)) (T3.mk d.x d.y (0 : Rat)) 0 1) 0 1)) = (0 : Int))) ∧ ((orZ (pr (loT (T3.mk c.x c.y (0 : Rat)) (T3.mk d.x d.y (0 : Rat)) 0 1) 0 1) (pr (hiT (T3.mk c.x c.y (0 : Rat)) (T3.mk d.x d.y (0 : Rat)) 0 1) 0 1) (pr (loT (T3.mk a.x a.y (0 : Rat)) (T3.mk b.x b.y (0 : Rat)) 0 1) 0 1)) = (0 : Int))) ∧ ((orZ (pr (loT (T3.mk c.x c.y (0 : Rat)) (T3.mk d.x d.y (0 : Rat)) 0 1) 0 1) (pr (hiT (T3.mk c.x c.y (0 : Rat)) (T3.mk d.x d.y (0 : Rat)) 0 1) 0 1) (pr (hiT (T3.mk a.x a.y (0 : Rat)) (T3.mk b.x b.y (0 : Rat)) 0 1) 0 1)) = (0 : Int)))), (4, vP b4 0), (5, vP b5 0), (6, vP b6 0), (7, vP b7 0)]) (fun _ => [.var b7 33 cs_66, .var b6 33 cs_64, .var b5 33 cs_58, .var b4 33 cs_56]) (fun m_ => m_) ?_ ?_
 ·
  refine gl_cases ((((orZ (pr (loT (T3.mk a.x a.y (0 : Rat)) (T3.mk b.x b.y (0 : Rat)) 0 1) 0 1) (pr (hiT (T3.mk a.x a.y (0 : Rat)) (T3.mk b.x b.y (0 : Rat)) 0 1) 0 1) (pr (loT (T3.mk c.x c.y (0 : Rat)) (T3.mk d.x d.y (0 : Rat)) 0 1) 0 1)) = (0 : Int)) ∧ ((orZ (pr (loT (T3.mk a.x a.y (0 : Rat)) (T3.mk b.x b.y (0 : Rat)) 0 1) 0 1) (pr (hiT (T3.mk a.x a.y (0 : Rat)) (T3.mk b.x b.y (0 : Rat)) 0 1) 0 1) (pr (hiT (T3.mk c.x c.y (0 : Rat)) (T3.mk d.x d.y (0 : Rat)) 0 1) 0 1)) = (0 : Int))) ∧ ((orZ (pr (loT (T3.mk c.x c.y (0 : Rat)) (T3.mk d.x d.y (0 : Rat)) 0 1) 0 1) (pr (hiT (T3.mk c.x c.y (0 : Rat)) (T3.mk d.x d.y (0 : Rat)) 0 1) 0 1) (pr (loT (T3.mk a.x a.y (0 : Rat)) (T3.mk b.x b.y (0 : Rat)) 0 1) 0 1)) = (0 : Int))) (fun hg => ?_) (fun hg => ?_)
  ·
   refine yG (zF (v := .bool true) (congrArg some (yI hg))) rfl rfl rfl (zT rfl rfl rfl ?_)
   replace rb_65 := rb_65.mono ((hh5.trans hmmg6_5).trans hmmg6_12)
   refine gl_x (F := fun v_ => (rpT (rpQ (k + 1))).Is mg6_12 v_ (loT (T3.mk c.x c.y (0 : Rat)) (T3.mk d.x d.y (0 : Rat)) 0 1)) (zE ty33 (Pc.here _) rfl rfl rb_65 rfl) (mem1 (.tail _ (.head _))) rfl ?_
   intro v49 r49
   refine zT rfl rfl rfl ?_
   replace rb_67 := rb_67.mono ((hh5.trans hmmg6_5).trans hmmg6_12)
   refine gl_x (F := fun v_ => (rpT (rpQ (k + 1))).Is mg6_12 v_ (hiT (T3.mk c.x c.y (0 : Rat)) (T3.mk d.x d.y (0 : Rat)) 0 1)) (zE ty33 (Pc.here _) rfl rfl rb_67 rfl) (mem1 (.head _)) rfl ?_
   intro v50 r50
   refine zT rfl rfl rfl ?_
   replace rb_59 := rb_59.mono ((hh5.trans hmmg6_5).trans hmmg6_12)
   refine gl_x (F := fun v_ => (rpT (rpQ (k + 1))).Is mg6_12 v_ (hiT (T3.mk a.x a.y (0 : Rat)) (T3.mk b.x b.y (0 : Rat)) 0 1)) (zE ty33 (Pc.here _) rfl rfl rb_59 rfl) (mem1 (.tail _ (.tail _ (.head _)))) rfl ?_
   intro v51 r51
   refine zT rfl rfl rfl ?_
   refine zJ (vs := [_, _, _]) rfl rfl rfl rfl Tryz.call45 ⟨rfl, rfl, rfl, trivial⟩ (fun w hs => o_r5_turn hs r49 r50 r51 (by omega)) ?_
   intro v52 h6 hh6 r52
   obtain rfl : v52 = vI (orZ (pr (loT (T3.mk c.x c.y (0 : Rat)) (T3.mk d.x d.y (0 : Rat)) 0 1) 0 1) (pr (hiT (T3.mk c.x c.y (0 : Rat)) (T3.mk d.x d.y (0 : Rat)) 0 1) 0 1) (pr (hiT (T3.mk a.x a.y (0 : Rat)) (T3.mk b.x b.y (0 : Rat)) 0 1) 0 1)) := r52
   have hor52 := or_range (pr (loT (T3.mk c.x c.y (0 : Rat)) (T3.mk d.x d.y (0 : Rat)) 0 1) 0 1) (pr (hiT (T3.mk c.x c.y (0 : Rat)) (T3.mk d.x d.y (0 : Rat)) 0 1) 0 1) (pr (hiT (T3.mk a.x a.y (0 : Rat)) (T3.mk b.x b.y (0 : Rat)) 0 1) 0 1)
   refine zT rfl rfl rfl (gv (ov_eql_i (q := 0) rfl rfl) rfl (gv (yF rfl rfl) rfl (zD ?_)))
   refine zU h6 hh6 ⟨?_, rfl, rfl, rfl, rfl, trivial⟩ rfl rfl
   exact congrArg some (vB_and_t hg)
  refine yG (zF (v := .bool false) (congrArg some (yA hg))) rfl rfl rfl (zK rfl rfl rfl rfl rfl rfl (zK rfl rfl rfl rfl rfl rfl (zK rfl rfl rfl rfl rfl rfl (zK rfl rfl rfl rfl rfl rfl (zK rfl rfl rfl rfl rfl rfl (gv (yD rfl rfl) rfl (zD ?_)))))))
  refine zU mg6_12 (MLe.refl _) ⟨?_, rfl, rfl, rfl, rfl, trivial⟩ rfl rfl
  exact congrArg some (vB_and_f hg)
 intro mg6_19 hmmg6_19
 show GL _ _ _ _ _ _ _ [(54, vB (((((orZ (pr (loT (T3.mk a.x a.y (0 : Rat)) (T3.mk b.x b.y (0 : Rat)) 0 1) 0 1) (pr (hiT (T3.mk a.x a.y (0 : Rat)) (T3.mk b.x b.y (0 : Rat)) 0 1) 0 1) (pr (loT (T3.mk c.x c.y (0 : Rat)) (T3.mk d.x d.y (0 : Rat)) 0 1) 0 1)) = (0 : Int)) ∧ ((orZ (pr (loT (T3.mk a.x a.y (0 : Rat)) (T3.mk b.x b.y (0 : Rat)) 0 1) 0 1) (pr (hiT (T3.mk a.x a.y (0 : Rat)) (T3.mk b.x b.y (0 : Rat)) 0 1) 0 1) (pr (hiT (T3.mk c.x c.y (0 : Rat)) (T3.mk d.x d.y (0 : Rat)) 0 1) 0 1)) = (0 : Int))) ∧ ((orZ (pr (loT (T3.mk c.x c.y (0 : Rat)) (T3.mk d.x d.y (0 : Rat)) 0 1) 0 1) (pr (hiT (T3.mk c.x c.y (0 : Rat)) (T3.mk d.x d.y (0 : Rat)) 0 1) 0 1) (pr (loT (T3.mk a.x a.y (0 : Rat)) (T3.mk b.x b.y (0 : Rat)) 0 1) 0 1)) = (0 : Int))) ∧ ((orZ (pr (loT (T3.mk c.x c.y (0 : Rat)) (T3.mk d.x d.y (0 : Rat)) 0 1) 0 1) (pr (hiT (T3.mk c.x c.y (0 : Rat)) (T3.mk d.x d.y (0 : Rat)) 0 1) 0 1) (pr (hiT (T3.mk a.x a.y (0 : Rat)) (T3.mk b.x b.y (0 : Rat)) 0 1) 0 1)) = (0 : Int)))), (4, vP b4 0), (5, vP b5 0), (6, vP b6 0), (7, vP b7 0)] [.var b7 33 cs_66, .var b6 33 cs_64, .var b5 33 cs_58, .var b4 33 cs_56] mg6_19
 refine zD (zB ?_)
 refine zH rfl (fun hc54 => ?_) (fun hc54 => ?_)
 ·
  refine zC (zA ?_)
  replace rb_57 := rb_57.mono (((hh5.trans hmmg6_5).trans hmmg6_12).trans hmmg6_19)
  refine gl_x (F := fun v_ => (rpT (rpQ (k + 1))).Is mg6_19 v_ (loT (T3.mk a.x a.y (0 : Rat)) (T3.mk b.x b.y (0 : Rat)) 0 1)) (zE ty33 (Pc.here _) rfl rfl rb_57 rfl) (mem1 (.tail _ (.tail _ (.tail _ (.head _))))) rfl ?_
  intro v55 r55
  replace rb_59 := rb_59.mono (((hh5.trans hmmg6_5).trans hmmg6_12).trans hmmg6_19)
  refine gl_x (F := fun v_ => (rpT (rpQ (k + 1))).Is mg6_19 v_ (hiT (T3.mk a.x a.y (0 : Rat)) (T3.mk b.x b.y (0 : Rat)) 0 1)) (zE ty33 (Pc.here _) rfl rfl rb_59 rfl) (mem1 (.tail _ (.tail _ (.head _)))) rfl ?_
  intro v56 r56
  replace rb_65 := rb_65.mono (((hh5.trans hmmg6_5).trans hmmg6_12).trans hmmg6_19)
  refine gl_x (F := fun v_ => (rpT (rpQ (k + 1))).Is mg6_19 v_ (loT (T3.mk c.x c.y (0 : Rat)) (T3.mk d.x d.y (0 : Rat)) 0 1)) (zE ty33 (Pc.here _) rfl rfl rb_65 rfl) (mem1 (.tail _ (.head _))) rfl ?_
  intro v57 r57
  replace rb_67 := rb_67.mono (((hh5.trans hmmg6_5).trans hmmg6_12).trans hmmg6_19)
  refine gl_x (F := fun v_ => (rpT (rpQ (k + 1))).Is mg6_19 v_ (hiT (T3.mk c.x c.y (0 : Rat)) (T3.mk d.x d.y (0 : Rat)) 0 1)) (zE ty33 (Pc.here _) rfl rfl rb_67 rfl) (mem1 (.head _)) rfl ?_
  intro v58 r58
  refine zJ (vs := [_, _, _, _]) rfl rfl rfl rfl Tryz.call75 ⟨rfl, rfl, rfl, rfl, trivial⟩ (fun w hs => o_r5_line hs r55 r56 r57 r58 (by omega)) ?_
  intro v59 h6 hh6 r59
  obtain rfl : v59 = vI (lineR (pr (loT (T3.mk a.x a.y (0 : Rat)) (T3.mk b.x b.y (0 : Rat)) 0 1) 0 1) (pr (hiT (T3.mk a.x a.y (0 : Rat)) (T3.mk b.x b.y (0 : Rat)) 0 1) 0 1) (pr (loT (T3.mk c.x c.y (0 : Rat)) (T3.mk d.x d.y (0 : Rat)) 0 1) 0 1) (pr (hiT (T3.mk c.x c.y (0 : Rat)) (T3.mk d.x d.y (0 : Rat)) 0 1) 0 1)) := r59
  refine asg rfl rfl (zD (zL (e' := [(8, _)]) ⟨rfl, trivial⟩ (zB (zN (zO (zW rfl rfl ?_))))))
  refine congrArg vI ?_; rw [← touch_T rfl rfl rfl rfl]; unfold touchT; grind
 refine zI (zB (zC (zC (zA ?_))))
 replace rb_57 := rb_57.mono (((hh5.trans hmmg6_5).trans hmmg6_12).trans hmmg6_19)
 refine gl_x (F := fun v_ => (rpT (rpQ (k + 1))).Is mg6_19 v_ (loT (T3.mk a.x a.y (0 : Rat)) (T3.mk b.x b.y (0 : Rat)) 0 1)) (zE ty33 (Pc.here _) rfl rfl rb_57 rfl) (mem1 (.tail _ (.tail _ (.tail _ (.head _))))) rfl ?_
 intro v60 r60
 replace rb_59 := rb_59.mono (((hh5.trans hmmg6_5).trans hmmg6_12).trans hmmg6_19)
 refine gl_x (F := fun v_ => (rpT (rpQ (k + 1))).Is mg6_19 v_ (hiT (T3.mk a.x a.y (0 : Rat)) (T3.mk b.x b.y (0 : Rat)) 0 1)) (zE ty33 (Pc.here _) rfl rfl rb_59 rfl) (mem1 (.tail _ (.tail _ (.head _)))) rfl ?_
 intro v61 r61
 refine zJ (vs := [_, _]) rfl rfl rfl rfl Tryz.call50 ⟨rfl, rfl, trivial⟩ (fun w hs => o_r5_equal hs r60 r61 (by omega)) ?_
 intro v62 h6 hh6 r62
 obtain rfl : v62 = vB ((pr (loT (T3.mk a.x a.y (0 : Rat)) (T3.mk b.x b.y (0 : Rat)) 0 1) 0 1) = (pr (hiT (T3.mk a.x a.y (0 : Rat)) (T3.mk b.x b.y (0 : Rat)) 0 1) 0 1)) := r62
 refine gl_cut (ι := Mem) 5 (fun m_ => MLe h6 m_) (fun _ => [(67, vB (((pr (loT (T3.mk a.x a.y (0 : Rat)) (T3.mk b.x b.y (0 : Rat)) 0 1) 0 1) = (pr (hiT (T3.mk a.x a.y (0 : Rat)) (T3.mk b.x b.y (0 : Rat)) 0 1) 0 1)) ∨ ((pr (loT (T3.mk c.x c.y (0 : Rat)) (T3.mk d.x d.y (0 : Rat)) 0 1) 0 1) = (pr (hiT (T3.mk c.x c.y (0 : Rat)) (T3.mk d.x d.y (0 : Rat)) 0 1) 0 1)))), (4, vP b4 0), (5, vP b5 0), (6, vP b6 0), (7, vP b7 0)]) (fun _ => [.var b7 33 cs_66, .var b6 33 cs_64, .var b5 33 cs_58, .var b4 33 cs_56]) (fun m_ => m_) ?_ ?_
 ·
  refine gl_cases ((pr (loT (T3.mk a.x a.y (0 : Rat)) (T3.mk b.x b.y (0 : Rat)) 0 1) 0 1) = (pr (hiT (T3.mk a.x a.y (0 : Rat)) (T3.mk b.x b.y (0 : Rat)) 0 1) 0 1)) (fun hg => ?_) (fun hg => ?_)
  ·
   refine yG (zF (v := .bool true) (congrArg some (yI hg))) rfl rfl rfl (zK rfl rfl rfl rfl rfl rfl (zK rfl rfl rfl rfl rfl rfl (zK rfl rfl rfl rfl rfl rfl (gv (yF rfl rfl) rfl (zD ?_)))))
   refine zU h6 (MLe.refl _) ⟨?_, rfl, rfl, rfl, rfl, trivial⟩ rfl rfl
   exact congrArg some (vB_or_t hg)
  refine yG (zF (v := .bool false) (congrArg some (yA hg))) rfl rfl rfl (zT rfl rfl rfl ?_)
  replace rb_65 := rb_65.mono ((((hh5.trans hmmg6_5).trans hmmg6_12).trans hmmg6_19).trans hh6)
  refine gl_x (F := fun v_ => (rpT (rpQ (k + 1))).Is h6 v_ (loT (T3.mk c.x c.y (0 : Rat)) (T3.mk d.x d.y (0 : Rat)) 0 1)) (zE ty33 (Pc.here _) rfl rfl rb_65 rfl) (mem1 (.tail _ (.head _))) rfl ?_
  intro v64 r64
  refine zT rfl rfl rfl ?_
  replace rb_67 := rb_67.mono ((((hh5.trans hmmg6_5).trans hmmg6_12).trans hmmg6_19).trans hh6)
  refine gl_x (F := fun v_ => (rpT (rpQ (k + 1))).Is h6 v_ (hiT (T3.mk c.x c.y (0 : Rat)) (T3.mk d.x d.y (0 : Rat)) 0 1)) (zE ty33 (Pc.here _) rfl rfl rb_67 rfl) (mem1 (.head _)) rfl ?_
  intro v65 r65
  refine zT rfl rfl rfl ?_
  refine zJ (vs := [_, _]) rfl rfl rfl rfl Tryz.call50 ⟨rfl, rfl, trivial⟩ (fun w hs => o_r5_equal hs r64 r65 (by omega)) ?_
  intro v66 h7 hh7 r66
  obtain rfl : v66 = vB ((pr (loT (T3.mk c.x c.y (0 : Rat)) (T3.mk d.x d.y (0 : Rat)) 0 1) 0 1) = (pr (hiT (T3.mk c.x c.y (0 : Rat)) (T3.mk d.x d.y (0 : Rat)) 0 1) 0 1)) := r66
  refine gv (yD rfl rfl) rfl (zD ?_)
  refine zU h7 hh7 ⟨?_, rfl, rfl, rfl, rfl, trivial⟩ rfl rfl
  exact congrArg some (vB_or_f hg)
 intro mg8_3 hmmg8_3
 show GL _ _ _ _ _ _ _ [(67, vB (((pr (loT (T3.mk a.x a.y (0 : Rat)) (T3.mk b.x b.y (0 : Rat)) 0 1) 0 1) = (pr (hiT (T3.mk a.x a.y (0 : Rat)) (T3.mk b.x b.y (0 : Rat)) 0 1) 0 1)) ∨ ((pr (loT (T3.mk c.x c.y (0 : Rat)) (T3.mk d.x d.y (0 : Rat)) 0 1) 0 1) = (pr (hiT (T3.mk c.x c.y (0 : Rat)) (T3.mk d.x d.y (0 : Rat)) 0 1) 0 1)))), (4, vP b4 0), (5, vP b5 0), (6, vP b6 0), (7, vP b7 0)] [.var b7 33 cs_66, .var b6 33 cs_64, .var b5 33 cs_58, .var b4 33 cs_56] mg8_3
 refine zD (zB ?_)
 refine zH rfl (fun hc67 => ?_) (fun hc67 => ?_)
 ·
  refine zC (zA ?_)
  replace rb_57 := rb_57.mono (hh6.trans hmmg8_3)
  refine gl_x (F := fun v_ => (rpT (rpQ (k + 1))).Is mg8_3 v_ (loT (T3.mk a.x a.y (0 : Rat)) (T3.mk b.x b.y (0 : Rat)) 0 1)) (zE ty33 (Pc.here _) rfl rfl rb_57 rfl) (mem1 (.tail _ (.tail _ (.tail _ (.head _))))) rfl ?_
  intro v68 r68
  replace rb_59 := rb_59.mono (hh6.trans hmmg8_3)
  refine gl_x (F := fun v_ => (rpT (rpQ (k + 1))).Is mg8_3 v_ (hiT (T3.mk a.x a.y (0 : Rat)) (T3.mk b.x b.y (0 : Rat)) 0 1)) (zE ty33 (Pc.here _) rfl rfl rb_59 rfl) (mem1 (.tail _ (.tail _ (.head _)))) rfl ?_
  intro v69 r69
  replace rb_65 := rb_65.mono (((((hh5.trans hmmg6_5).trans hmmg6_12).trans hmmg6_19).trans hh6).trans hmmg8_3)
  refine gl_x (F := fun v_ => (rpT (rpQ (k + 1))).Is mg8_3 v_ (loT (T3.mk c.x c.y (0 : Rat)) (T3.mk d.x d.y (0 : Rat)) 0 1)) (zE ty33 (Pc.here _) rfl rfl rb_65 rfl) (mem1 (.tail _ (.head _))) rfl ?_
  intro v70 r70
  replace rb_67 := rb_67.mono (((((hh5.trans hmmg6_5).trans hmmg6_12).trans hmmg6_19).trans hh6).trans hmmg8_3)
  refine gl_x (F := fun v_ => (rpT (rpQ (k + 1))).Is mg8_3 v_ (hiT (T3.mk c.x c.y (0 : Rat)) (T3.mk d.x d.y (0 : Rat)) 0 1)) (zE ty33 (Pc.here _) rfl rfl rb_67 rfl) (mem1 (.head _)) rfl ?_
  intro v71 r71
  refine zJ (vs := [_, _, _, _]) rfl rfl rfl rfl Tryz.call76 ⟨rfl, rfl, rfl, rfl, trivial⟩ (fun w hs => o_r5_single hs r68 r69 r70 r71 (by omega)) ?_
  intro v72 h7 hh7 r72
  obtain rfl : v72 = vI (singleR (pr (loT (T3.mk a.x a.y (0 : Rat)) (T3.mk b.x b.y (0 : Rat)) 0 1) 0 1) (pr (hiT (T3.mk a.x a.y (0 : Rat)) (T3.mk b.x b.y (0 : Rat)) 0 1) 0 1) (pr (loT (T3.mk c.x c.y (0 : Rat)) (T3.mk d.x d.y (0 : Rat)) 0 1) 0 1) (pr (hiT (T3.mk c.x c.y (0 : Rat)) (T3.mk d.x d.y (0 : Rat)) 0 1) 0 1)) := r72
  refine asg rfl rfl (zD (zL (e' := [(8, _)]) ⟨rfl, trivial⟩ (zB (zN (zO (zW rfl rfl ?_))))))
  refine congrArg vI ?_; rw [← touch_T rfl rfl rfl rfl]; unfold touchT; grind
 refine zI (zB (zC ?_))
 refine gc_draw 20 _ [] [(0, .q), (1, .q), (2, .q), (4, .q), (5, .q), (6, .q), (9, .q), (10, .q), (11, .q), (13, .q), (14, .q), (15, .q), (3, .c), (7, .c), (8, .q), (12, .c), (16, .c), (17, .q), (18, .q), (19, .q)] mixed (fun x hx => by cases hx) (chk_of [0, 0, 0, 7, 0, 0, 0, 120, 136, 0, 0, 0, 3712, 0, 0, 0, 61440, 69632, 66047, 524287] [1048575, 1048575, 1048575, 1048568, 1048575, 1048575, 1048575, 1048463, 1048439, 1048575, 1048575, 1048575, 1044991, 1048575, 1048575, 1048575, 991231, 978943, 1048319, 917503] (by kernel_rfl)) (fun x hx => by cases hx) (fun r hr => hr) ?_
 replace rb_57 := rb_57.mono (hh6.trans hmmg8_3)
 refine w_qx (F := fun v_ => (rpT (rpQ (k + 1))).Is mg8_3 v_ (loT (T3.mk a.x a.y (0 : Rat)) (T3.mk b.x b.y (0 : Rat)) 0 1)) rfl (zE ty33 (Pc.here _) rfl rfl rb_57 rfl) (mem1 (.tail _ (.tail _ (.tail _ (.head _))))) rfl ?_
 intro v73 r73
 replace rb_59 := rb_59.mono (hh6.trans hmmg8_3)
 refine w_qx (F := fun v_ => (rpT (rpQ (k + 1))).Is mg8_3 v_ (hiT (T3.mk a.x a.y (0 : Rat)) (T3.mk b.x b.y (0 : Rat)) 0 1)) rfl (zE ty33 (Pc.here _) rfl rfl rb_59 rfl) (mem1 (.tail _ (.tail _ (.head _)))) rfl ?_
 intro v74 r74
 replace rb_65 := rb_65.mono (((((hh5.trans hmmg6_5).trans hmmg6_12).trans hmmg6_19).trans hh6).trans hmmg8_3)
 refine w_qx (F := fun v_ => (rpT (rpQ (k + 1))).Is mg8_3 v_ (loT (T3.mk c.x c.y (0 : Rat)) (T3.mk d.x d.y (0 : Rat)) 0 1)) rfl (zE ty33 (Pc.here _) rfl rfl rb_65 rfl) (mem1 (.tail _ (.head _))) rfl ?_
 intro v75 r75
 refine w_qx (F := fun v_ => (rpT (rpQ (k + 1))).Is mg8_3 v_ (loT (T3.mk a.x a.y (0 : Rat)) (T3.mk b.x b.y (0 : Rat)) 0 1)) rfl (zE ty33 (Pc.here _) rfl rfl rb_57 rfl) (mem1 (.tail _ (.tail _ (.tail _ (.head _))))) rfl ?_
 intro v77 r77
 refine w_qx (F := fun v_ => (rpT (rpQ (k + 1))).Is mg8_3 v_ (hiT (T3.mk a.x a.y (0 : Rat)) (T3.mk b.x b.y (0 : Rat)) 0 1)) rfl (zE ty33 (Pc.here _) rfl rfl rb_59 rfl) (mem1 (.tail _ (.tail _ (.head _)))) rfl ?_
 intro v78 r78
 replace rb_67 := rb_67.mono (((((hh5.trans hmmg6_5).trans hmmg6_12).trans hmmg6_19).trans hh6).trans hmmg8_3)
 refine w_qx (F := fun v_ => (rpT (rpQ (k + 1))).Is mg8_3 v_ (hiT (T3.mk c.x c.y (0 : Rat)) (T3.mk d.x d.y (0 : Rat)) 0 1)) rfl (zE ty33 (Pc.here _) rfl rfl rb_67 rfl) (mem1 (.head _)) rfl ?_
 intro v79 r79
 refine w_qx (F := fun v_ => (rpT (rpQ (k + 1))).Is mg8_3 v_ (loT (T3.mk c.x c.y (0 : Rat)) (T3.mk d.x d.y (0 : Rat)) 0 1)) rfl (zE ty33 (Pc.here _) rfl rfl rb_65 rfl) (mem1 (.tail _ (.head _))) rfl ?_
 intro v82 r82
 refine w_qx (F := fun v_ => (rpT (rpQ (k + 1))).Is mg8_3 v_ (hiT (T3.mk c.x c.y (0 : Rat)) (T3.mk d.x d.y (0 : Rat)) 0 1)) rfl (zE ty33 (Pc.here _) rfl rfl rb_67 rfl) (mem1 (.head _)) rfl ?_
 intro v83 r83
 refine w_qx (F := fun v_ => (rpT (rpQ (k + 1))).Is mg8_3 v_ (loT (T3.mk a.x a.y (0 : Rat)) (T3.mk b.x b.y (0 : Rat)) 0 1)) rfl (zE ty33 (Pc.here _) rfl rfl rb_57 rfl) (mem1 (.tail _ (.tail _ (.tail _ (.head _))))) rfl ?_
 intro v84 r84
 refine w_qx (F := fun v_ => (rpT (rpQ (k + 1))).Is mg8_3 v_ (loT (T3.mk c.x c.y (0 : Rat)) (T3.mk d.x d.y (0 : Rat)) 0 1)) rfl (zE ty33 (Pc.here _) rfl rfl rb_65 rfl) (mem1 (.tail _ (.head _))) rfl ?_
 intro v86 r86
 refine w_qx (F := fun v_ => (rpT (rpQ (k + 1))).Is mg8_3 v_ (hiT (T3.mk c.x c.y (0 : Rat)) (T3.mk d.x d.y (0 : Rat)) 0 1)) rfl (zE ty33 (Pc.here _) rfl rfl rb_67 rfl) (mem1 (.head _)) rfl ?_
 intro v87 r87
 refine w_qx (F := fun v_ => (rpT (rpQ (k + 1))).Is mg8_3 v_ (hiT (T3.mk a.x a.y (0 : Rat)) (T3.mk b.x b.y (0 : Rat)) 0 1)) rfl (zE ty33 (Pc.here _) rfl rfl rb_59 rfl) (mem1 (.tail _ (.tail _ (.head _)))) rfl ?_
 intro v88 r88
 refine w_c rfl ?_
 refine yO (vs := [_, _, _]) Tryz.call45 ⟨rfl, rfl, rfl, trivial⟩ (fun w hs => o_r5_turn hs r73 r74 r75 (by omega)) rfl ?_
 intro v76 h7 hh7 r76
 obtain rfl : v76 = vI (orZ (pr (loT (T3.mk a.x a.y (0 : Rat)) (T3.mk b.x b.y (0 : Rat)) 0 1) 0 1) (pr (hiT (T3.mk a.x a.y (0 : Rat)) (T3.mk b.x b.y (0 : Rat)) 0 1) 0 1) (pr (loT (T3.mk c.x c.y (0 : Rat)) (T3.mk d.x d.y (0 : Rat)) 0 1) 0 1)) := r76
 have hor76 := or_range (pr (loT (T3.mk a.x a.y (0 : Rat)) (T3.mk b.x b.y (0 : Rat)) 0 1) 0 1) (pr (hiT (T3.mk a.x a.y (0 : Rat)) (T3.mk b.x b.y (0 : Rat)) 0 1) 0 1) (pr (loT (T3.mk c.x c.y (0 : Rat)) (T3.mk d.x d.y (0 : Rat)) 0 1) 0 1)
 refine w_c rfl ?_
 replace r77 := r77.mono hh7
 replace r78 := r78.mono hh7
 replace r79 := r79.mono hh7
 refine yO (vs := [_, _, _]) Tryz.call45 ⟨rfl, rfl, rfl, trivial⟩ (fun w hs => o_r5_turn hs r77 r78 r79 (by omega)) rfl ?_
 intro v80 h8 hh8 r80
 obtain rfl : v80 = vI (orZ (pr (loT (T3.mk a.x a.y (0 : Rat)) (T3.mk b.x b.y (0 : Rat)) 0 1) 0 1) (pr (hiT (T3.mk a.x a.y (0 : Rat)) (T3.mk b.x b.y (0 : Rat)) 0 1) 0 1) (pr (hiT (T3.mk c.x c.y (0 : Rat)) (T3.mk d.x d.y (0 : Rat)) 0 1) 0 1)) := r80
 have hor80 := or_range (pr (loT (T3.mk a.x a.y (0 : Rat)) (T3.mk b.x b.y (0 : Rat)) 0 1) 0 1) (pr (hiT (T3.mk a.x a.y (0 : Rat)) (T3.mk b.x b.y (0 : Rat)) 0 1) 0 1) (pr (hiT (T3.mk c.x c.y (0 : Rat)) (T3.mk d.x d.y (0 : Rat)) 0 1) 0 1)
 refine w_q rfl (fun h' L' hh hR => ov_mul_i rfl rfl (by have := mul_range hor76 hor80; omega) (by have := mul_range hor76 hor80; omega)) rfl ?_
 refine w_c rfl ?_
 replace r82 := r82.mono (hh7.trans hh8)
 replace r83 := r83.mono (hh7.trans hh8)
 replace r84 := r84.mono (hh7.trans hh8)
 refine yO (vs := [_, _, _]) Tryz.call45 ⟨rfl, rfl, rfl, trivial⟩ (fun w hs => o_r5_turn hs r82 r83 r84 (by omega)) rfl ?_
 intro v85 h9 hh9 r85
 obtain rfl : v85 = vI (orZ (pr (loT (T3.mk c.x c.y (0 : Rat)) (T3.mk d.x d.y (0 : Rat)) 0 1) 0 1) (pr (hiT (T3.mk c.x c.y (0 : Rat)) (T3.mk d.x d.y (0 : Rat)) 0 1) 0 1) (pr (loT (T3.mk a.x a.y (0 : Rat)) (T3.mk b.x b.y (0 : Rat)) 0 1) 0 1)) := r85
 have hor85 := or_range (pr (loT (T3.mk c.x c.y (0 : Rat)) (T3.mk d.x d.y (0 : Rat)) 0 1) 0 1) (pr (hiT (T3.mk c.x c.y (0 : Rat)) (T3.mk d.x d.y (0 : Rat)) 0 1) 0 1) (pr (loT (T3.mk a.x a.y (0 : Rat)) (T3.mk b.x b.y (0 : Rat)) 0 1) 0 1)
 refine w_c rfl ?_
 replace r86 := r86.mono ((hh7.trans hh8).trans hh9)
 replace r87 := r87.mono ((hh7.trans hh8).trans hh9)
 replace r88 := r88.mono ((hh7.trans hh8).trans hh9)
 refine yO (vs := [_, _, _]) Tryz.call45 ⟨rfl, rfl, rfl, trivial⟩ (fun w hs => o_r5_turn hs r86 r87 r88 (by omega)) rfl ?_
 intro v89 h10 hh10 r89
 obtain rfl : v89 = vI (orZ (pr (loT (T3.mk c.x c.y (0 : Rat)) (T3.mk d.x d.y (0 : Rat)) 0 1) 0 1) (pr (hiT (T3.mk c.x c.y (0 : Rat)) (T3.mk d.x d.y (0 : Rat)) 0 1) 0 1) (pr (hiT (T3.mk a.x a.y (0 : Rat)) (T3.mk b.x b.y (0 : Rat)) 0 1) 0 1)) := r89
 have hor89 := or_range (pr (loT (T3.mk c.x c.y (0 : Rat)) (T3.mk d.x d.y (0 : Rat)) 0 1) 0 1) (pr (hiT (T3.mk c.x c.y (0 : Rat)) (T3.mk d.x d.y (0 : Rat)) 0 1) 0 1) (pr (hiT (T3.mk a.x a.y (0 : Rat)) (T3.mk b.x b.y (0 : Rat)) 0 1) 0 1)
 refine w_q rfl (fun h' L' hh hR => ov_mul_i rfl rfl (by have := mul_range hor85 hor89; omega) (by have := mul_range hor85 hor89; omega)) rfl (w_q rfl (fun h' L' hh hR => ov_assign rfl) rfl (w_q rfl (fun h' L' hh hR => ov_assign rfl) rfl (w_nil (zL (e' := [(4, _), (5, _), (6, _), (7, _), (9, _), (10, _)]) ⟨rfl, rfl, rfl, rfl, rfl, rfl, trivial⟩ (zB (zC (zQ (zC (zA (mv rfl rfl (gv (ov_gtr_i (q := 0) rfl rfl) rfl ?_)))))))))))
 refine gl_cut (ι := Unit) 4 (fun _ => True) (fun _ => [(97, vB (((0 : Int) < ((orZ (pr (loT (T3.mk a.x a.y (0 : Rat)) (T3.mk b.x b.y (0 : Rat)) 0 1) 0 1) (pr (hiT (T3.mk a.x a.y (0 : Rat)) (T3.mk b.x b.y (0 : Rat)) 0 1) 0 1) (pr (loT (T3.mk c.x c.y (0 : Rat)) (T3.mk d.x d.y (0 : Rat)) 0 1) 0 1)) * (orZ (pr (loT (T3.mk a.x a.y (0 : Rat)) (T3.mk b.x b.y (0 : Rat)) 0 1) 0 1) (pr (hiT (T3.mk a.x a.y (0 : Rat)) (T3.mk b.x b.y (0 : Rat)) 0 1) 0 1) (pr (hiT (T3.mk c.x c.y (0 : Rat)) (T3.mk d.x d.y (0 : Rat)) 0 1) 0 1)))) ∨ ((0 : Int) < ((orZ (pr (loT (T3.mk c.x c.y (0 : Rat)) (T3.mk d.x d.y (0 : Rat)) 0 1) 0 1) (pr (hiT (T3.mk c.x c.y (0 : Rat)) (T3.mk d.x d.y (0 : Rat)) 0 1) 0 1) (pr (loT (T3.mk a.x a.y (0 : Rat)) (T3.mk b.x b.y (0 : Rat)) 0 1) 0 1)) * (orZ (pr (loT (T3.mk c.x c.y (0 : Rat)) (T3.mk d.x d.y (0 : Rat)) 0 1) 0 1) (pr (hiT (T3.mk c.x c.y (0 : Rat)) (T3.mk d.x d.y (0 : Rat)) 0 1) 0 1) (pr (hiT (T3.mk a.x a.y (0 : Rat)) (T3.mk b.x b.y (0 : Rat)) 0 1) 0 1)))))), (4, vP b4 0), (5, vP b5 0), (6, vP b6 0), (7, vP b7 0)]) (fun _ => [.var b7 33 cs_66, .var b6 33 cs_64, .var b5 33 cs_58, .var b4 33 cs_56]) (fun _ => h10) ?_ ?_
 ·
  refine gl_cases ((0 : Int) < ((orZ (pr (loT (T3.mk a.x a.y (0 : Rat)) (T3.mk b.x b.y (0 : Rat)) 0 1) 0 1) (pr (hiT (T3.mk a.x a.y (0 : Rat)) (T3.mk b.x b.y (0 : Rat)) 0 1) 0 1) (pr (loT (T3.mk c.x c.y (0 : Rat)) (T3.mk d.x d.y (0 : Rat)) 0 1) 0 1)) * (orZ (pr (loT (T3.mk a.x a.y (0 : Rat)) (T3.mk b.x b.y (0 : Rat)) 0 1) 0 1) (pr (hiT (T3.mk a.x a.y (0 : Rat)) (T3.mk b.x b.y (0 : Rat)) 0 1) 0 1) (pr (hiT (T3.mk c.x c.y (0 : Rat)) (T3.mk d.x d.y (0 : Rat)) 0 1) 0 1)))) (fun hg => ?_) (fun hg => ?_)
  ·
   refine yG (zF (v := .bool true) (congrArg some (yI hg))) rfl rfl rfl (zK rfl rfl rfl rfl rfl rfl (zK rfl rfl rfl rfl rfl rfl (gv (yF rfl rfl) rfl (zD ?_))))
   refine zU () trivial ⟨?_, rfl, rfl, rfl, rfl, trivial⟩ rfl rfl
   exact congrArg some (vB_or_t hg)
  refine yG (zF (v := .bool false) (congrArg some (yA hg))) rfl rfl rfl (zT rfl rfl rfl (mv rfl rfl (zT rfl rfl rfl (gv (ov_gtr_i (q := 0) rfl rfl) rfl (gv (yD rfl rfl) rfl (zD ?_))))))
  refine zU () trivial ⟨?_, rfl, rfl, rfl, rfl, trivial⟩ rfl rfl
  exact congrArg some (vB_or_f hg)
 intro _ _
 show GL _ _ _ _ _ _ _ [(97, vB (((0 : Int) < ((orZ (pr (loT (T3.mk a.x a.y (0 : Rat)) (T3.mk b.x b.y (0 : Rat)) 0 1) 0 1) (pr (hiT (T3.mk a.x a.y (0 : Rat)) (T3.mk b.x b.y (0 : Rat)) 0 1) 0 1) (pr (loT (T3.mk c.x c.y (0 : Rat)) (T3.mk d.x d.y (0 : Rat)) 0 1) 0 1)) * (orZ (pr (loT (T3.mk a.x a.y (0 : Rat)) (T3.mk b.x b.y (0 : Rat)) 0 1) 0 1) (pr (hiT (T3.mk a.x a.y (0 : Rat)) (T3.mk b.x b.y (0 : Rat)) 0 1) 0 1) (pr (hiT (T3.mk c.x c.y (0 : Rat)) (T3.mk d.x d.y (0 : Rat)) 0 1) 0 1)))) ∨ ((0 : Int) < ((orZ (pr (loT (T3.mk c.x c.y (0 : Rat)) (T3.mk d.x d.y (0 : Rat)) 0 1) 0 1) (pr (hiT (T3.mk c.x c.y (0 : Rat)) (T3.mk d.x d.y (0 : Rat)) 0 1) 0 1) (pr (loT (T3.mk a.x a.y (0 : Rat)) (T3.mk b.x b.y (0 : Rat)) 0 1) 0 1)) * (orZ (pr (loT (T3.mk c.x c.y (0 : Rat)) (T3.mk d.x d.y (0 : Rat)) 0 1) 0 1) (pr (hiT (T3.mk c.x c.y (0 : Rat)) (T3.mk d.x d.y (0 : Rat)) 0 1) 0 1) (pr (hiT (T3.mk a.x a.y (0 : Rat)) (T3.mk b.x b.y (0 : Rat)) 0 1) 0 1)))))), (4, vP b4 0), (5, vP b5 0), (6, vP b6 0), (7, vP b7 0)] [.var b7 33 cs_66, .var b6 33 cs_64, .var b5 33 cs_58, .var b4 33 cs_56] h10
 refine asg rfl rfl (zD (zB ?_))
 refine zH rfl (fun hc91 => ?_) (fun hc91 => ?_)
 ·
  refine zC (zA (asg (v := vI (0)) rfl rfl (zD (zB (zN (gr_in (zO (zW rfl rfl ?_))))))))
  refine congrArg vI ?_; rw [← touch_T rfl rfl rfl rfl]; unfold touchT; grind
 refine zC (zA ?_)
 replace rb_57 := rb_57.mono (((hh7.trans hh8).trans hh9).trans hh10)
 refine gl_x (F := fun v_ => (rpT (rpQ (k + 1))).Is h10 v_ (loT (T3.mk a.x a.y (0 : Rat)) (T3.mk b.x b.y (0 : Rat)) 0 1)) (zE ty33 (Pc.here _) rfl rfl rb_57 rfl) (mem1 (.tail _ (.tail _ (.tail _ (.head _))))) rfl ?_
 intro v99 r99
 replace rb_65 := rb_65.mono (((hh7.trans hh8).trans hh9).trans hh10)
 refine gl_x (F := fun v_ => (rpT (rpQ (k + 1))).Is h10 v_ (loT (T3.mk c.x c.y (0 : Rat)) (T3.mk d.x d.y (0 : Rat)) 0 1)) (zE ty33 (Pc.here _) rfl rfl rb_65 rfl) (mem1 (.tail _ (.head _))) rfl ?_
 intro v100 r100
 refine zJ (vs := [_, _]) rfl rfl rfl rfl Tryz.call50 ⟨rfl, rfl, trivial⟩ (fun w hs => o_r5_equal hs r99 r100 (by omega)) ?_
 intro v101 h11 hh11 r101
 obtain rfl : v101 = vB ((pr (loT (T3.mk a.x a.y (0 : Rat)) (T3.mk b.x b.y (0 : Rat)) 0 1) 0 1) = (pr (loT (T3.mk c.x c.y (0 : Rat)) (T3.mk d.x d.y (0 : Rat)) 0 1) 0 1)) := r101
 refine gl_cut (ι := Mem) 5 (fun m_ => MLe h11 m_) (fun _ => [(106, vB (((pr (loT (T3.mk a.x a.y (0 : Rat)) (T3.mk b.x b.y (0 : Rat)) 0 1) 0 1) = (pr (loT (T3.mk c.x c.y (0 : Rat)) (T3.mk d.x d.y (0 : Rat)) 0 1) 0 1)) ∨ ((pr (loT (T3.mk a.x a.y (0 : Rat)) (T3.mk b.x b.y (0 : Rat)) 0 1) 0 1) = (pr (hiT (T3.mk c.x c.y (0 : Rat)) (T3.mk d.x d.y (0 : Rat)) 0 1) 0 1)))), (5, vP b5 0), (6, vP b6 0), (7, vP b7 0)]) (fun _ => [.var b7 33 cs_66, .var b6 33 cs_64, .var b5 33 cs_58, .var b4 33 cs_56]) (fun m_ => m_) ?_ ?_
 ·
  refine gl_cases ((pr (loT (T3.mk a.x a.y (0 : Rat)) (T3.mk b.x b.y (0 : Rat)) 0 1) 0 1) = (pr (loT (T3.mk c.x c.y (0 : Rat)) (T3.mk d.x d.y (0 : Rat)) 0 1) 0 1)) (fun hg => ?_) (fun hg => ?_)
  ·
   refine yG (zF (v := .bool true) (congrArg some (yI hg))) rfl rfl rfl (zK rfl rfl rfl rfl rfl rfl (zK rfl rfl rfl rfl rfl rfl (zK rfl rfl rfl rfl rfl rfl (gv (yF rfl rfl) rfl (zD ?_)))))
   refine zU h11 (MLe.refl _) ⟨?_, rfl, rfl, rfl, trivial⟩ rfl rfl
   exact congrArg some (vB_or_t hg)
  refine yG (zF (v := .bool false) (congrArg some (yA hg))) rfl rfl rfl (zT rfl rfl rfl ?_)
  replace rb_57 := rb_57.mono hh11
  refine gl_x (F := fun v_ => (rpT (rpQ (k + 1))).Is h11 v_ (loT (T3.mk a.x a.y (0 : Rat)) (T3.mk b.x b.y (0 : Rat)) 0 1)) (zE ty33 (Pc.here _) rfl rfl rb_57 rfl) (mem1 (.tail _ (.tail _ (.tail _ (.head _))))) rfl ?_
  intro v103 r103
  refine zT rfl rfl rfl ?_
  replace rb_67 := rb_67.mono ((((hh7.trans hh8).trans hh9).trans hh10).trans hh11)
  refine gl_x (F := fun v_ => (rpT (rpQ (k + 1))).Is h11 v_ (hiT (T3.mk c.x c.y (0 : Rat)) (T3.mk d.x d.y (0 : Rat)) 0 1)) (zE ty33 (Pc.here _) rfl rfl rb_67 rfl) (mem1 (.head _)) rfl ?_
  intro v104 r104
  refine zT rfl rfl rfl ?_
  refine zJ (vs := [_, _]) rfl rfl rfl rfl Tryz.call50 ⟨rfl, rfl, trivial⟩ (fun w hs => o_r5_equal hs r103 r104 (by omega)) ?_
  intro v105 h12 hh12 r105
  obtain rfl : v105 = vB ((pr (loT (T3.mk a.x a.y (0 : Rat)) (T3.mk b.x b.y (0 : Rat)) 0 1) 0 1) = (pr (hiT (T3.mk c.x c.y (0 : Rat)) (T3.mk d.x d.y (0 : Rat)) 0 1) 0 1)) := r105
  refine gv (yD rfl rfl) rfl (zD ?_)
  refine zU h12 hh12 ⟨?_, rfl, rfl, rfl, trivial⟩ rfl rfl
  exact congrArg some (vB_or_f hg)
 intro mg13_3 hmmg13_3
 show GL _ _ _ _ _ _ _ [(106, vB (((pr (loT (T3.mk a.x a.y (0 : Rat)) (T3.mk b.x b.y (0 : Rat)) 0 1) 0 1) = (pr (loT (T3.mk c.x c.y (0 : Rat)) (T3.mk d.x d.y (0 : Rat)) 0 1) 0 1)) ∨ ((pr (loT (T3.mk a.x a.y (0 : Rat)) (T3.mk b.x b.y (0 : Rat)) 0 1) 0 1) = (pr (hiT (T3.mk c.x c.y (0 : Rat)) (T3.mk d.x d.y (0 : Rat)) 0 1) 0 1)))), (5, vP b5 0), (6, vP b6 0), (7, vP b7 0)] [.var b7 33 cs_66, .var b6 33 cs_64, .var b5 33 cs_58, .var b4 33 cs_56] mg13_3
 refine gl_cut (ι := Mem) 5 (fun m_ => MLe mg13_3 m_) (fun _ => [(111, vB ((((pr (loT (T3.mk a.x a.y (0 : Rat)) (T3.mk b.x b.y (0 : Rat)) 0 1) 0 1) = (pr (loT (T3.mk c.x c.y (0 : Rat)) (T3.mk d.x d.y (0 : Rat)) 0 1) 0 1)) ∨ ((pr (loT (T3.mk a.x a.y (0 : Rat)) (T3.mk b.x b.y (0 : Rat)) 0 1) 0 1) = (pr (hiT (T3.mk c.x c.y (0 : Rat)) (T3.mk d.x d.y (0 : Rat)) 0 1) 0 1))) ∨ ((pr (hiT (T3.mk a.x a.y (0 : Rat)) (T3.mk b.x b.y (0 : Rat)) 0 1) 0 1) = (pr (loT (T3.mk c.x c.y (0 : Rat)) (T3.mk d.x d.y (0 : Rat)) 0 1) 0 1)))), (5, vP b5 0), (7, vP b7 0)]) (fun _ => [.var b7 33 cs_66, .var b6 33 cs_64, .var b5 33 cs_58, .var b4 33 cs_56]) (fun m_ => m_) ?_ ?_
 ·
  refine gl_cases (((pr (loT (T3.mk a.x a.y (0 : Rat)) (T3.mk b.x b.y (0 : Rat)) 0 1) 0 1) = (pr (loT (T3.mk c.x c.y (0 : Rat)) (T3.mk d.x d.y (0 : Rat)) 0 1) 0 1)) ∨ ((pr (loT (T3.mk a.x a.y (0 : Rat)) (T3.mk b.x b.y (0 : Rat)) 0 1) 0 1) = (pr (hiT (T3.mk c.x c.y (0 : Rat)) (T3.mk d.x d.y (0 : Rat)) 0 1) 0 1))) (fun hg => ?_) (fun hg => ?_)
  ·
   refine yG (zF (v := .bool true) (congrArg some (yI hg))) rfl rfl rfl (zK rfl rfl rfl rfl rfl rfl (zK rfl rfl rfl rfl rfl rfl (zK rfl rfl rfl rfl rfl rfl (gv (yF rfl rfl) rfl (zD ?_)))))
   refine zU mg13_3 (MLe.refl _) ⟨?_, rfl, rfl, trivial⟩ rfl rfl
   exact congrArg some (vB_or_t hg)
  refine yG (zF (v := .bool false) (congrArg some (yA hg))) rfl rfl rfl (zT rfl rfl rfl ?_)
  replace rb_59 := rb_59.mono (((((hh7.trans hh8).trans hh9).trans hh10).trans hh11).trans hmmg13_3)
  refine gl_x (F := fun v_ => (rpT (rpQ (k + 1))).Is mg13_3 v_ (hiT (T3.mk a.x a.y (0 : Rat)) (T3.mk b.x b.y (0 : Rat)) 0 1)) (zE ty33 (Pc.here _) rfl rfl rb_59 rfl) (mem1 (.tail _ (.tail _ (.head _)))) rfl ?_
  intro v108 r108
  refine zT rfl rfl rfl ?_
  replace rb_65 := rb_65.mono (hh11.trans hmmg13_3)
  refine gl_x (F := fun v_ => (rpT (rpQ (k + 1))).Is mg13_3 v_ (loT (T3.mk c.x c.y (0 : Rat)) (T3.mk d.x d.y (0 : Rat)) 0 1)) (zE ty33 (Pc.here _) rfl rfl rb_65 rfl) (mem1 (.tail _ (.head _))) rfl ?_
  intro v109 r109
  refine zT rfl rfl rfl ?_
  refine zJ (vs := [_, _]) rfl rfl rfl rfl Tryz.call50 ⟨rfl, rfl, trivial⟩ (fun w hs => o_r5_equal hs r108 r109 (by omega)) ?_
  intro v110 h12 hh12 r110
  obtain rfl : v110 = vB ((pr (hiT (T3.mk a.x a.y (0 : Rat)) (T3.mk b.x b.y (0 : Rat)) 0 1) 0 1) = (pr (loT (T3.mk c.x c.y (0 : Rat)) (T3.mk d.x d.y (0 : Rat)) 0 1) 0 1)) := r110
  refine gv (yD rfl rfl) rfl (zD ?_)
  refine zU h12 hh12 ⟨?_, rfl, rfl, trivial⟩ rfl rfl
  exact congrArg some (vB_or_f hg)
 intro mg13_8 hmmg13_8
 show GL _ _ _ _ _ _ _ [(111, vB ((((pr (loT (T3.mk a.x a.y (0 : Rat)) (T3.mk b.x b.y (0 : Rat)) 0 1) 0 1) = (pr (loT (T3.mk c.x c.y (0 : Rat)) (T3.mk d.x d.y (0 : Rat)) 0 1) 0 1)) ∨ ((pr (loT (T3.mk a.x a.y (0 : Rat)) (T3.mk b.x b.y (0 : Rat)) 0 1) 0 1) = (pr (hiT (T3.mk c.x c.y (0 : Rat)) (T3.mk d.x d.y (0 : Rat)) 0 1) 0 1))) ∨ ((pr (hiT (T3.mk a.x a.y (0 : Rat)) (T3.mk b.x b.y (0 : Rat)) 0 1) 0 1) = (pr (loT (T3.mk c.x c.y (0 : Rat)) (T3.mk d.x d.y (0 : Rat)) 0 1) 0 1)))), (5, vP b5 0), (7, vP b7 0)] [.var b7 33 cs_66, .var b6 33 cs_64, .var b5 33 cs_58, .var b4 33 cs_56] mg13_8
 refine gl_cut (ι := Mem) 5 (fun m_ => MLe mg13_8 m_) (fun _ => [(116, vB (((((pr (loT (T3.mk a.x a.y (0 : Rat)) (T3.mk b.x b.y (0 : Rat)) 0 1) 0 1) = (pr (loT (T3.mk c.x c.y (0 : Rat)) (T3.mk d.x d.y (0 : Rat)) 0 1) 0 1)) ∨ ((pr (loT (T3.mk a.x a.y (0 : Rat)) (T3.mk b.x b.y (0 : Rat)) 0 1) 0 1) = (pr (hiT (T3.mk c.x c.y (0 : Rat)) (T3.mk d.x d.y (0 : Rat)) 0 1) 0 1))) ∨ ((pr (hiT (T3.mk a.x a.y (0 : Rat)) (T3.mk b.x b.y (0 : Rat)) 0 1) 0 1) = (pr (loT (T3.mk c.x c.y (0 : Rat)) (T3.mk d.x d.y (0 : Rat)) 0 1) 0 1))) ∨ ((pr (hiT (T3.mk a.x a.y (0 : Rat)) (T3.mk b.x b.y (0 : Rat)) 0 1) 0 1) = (pr (hiT (T3.mk c.x c.y (0 : Rat)) (T3.mk d.x d.y (0 : Rat)) 0 1) 0 1))))]) (fun _ => [.var b7 33 cs_66, .var b6 33 cs_64, .var b5 33 cs_58, .var b4 33 cs_56]) (fun m_ => m_) ?_ ?_
 ·
  refine gl_cases ((((pr (loT (T3.mk a.x a.y (0 : Rat)) (T3.mk b.x b.y (0 : Rat)) 0 1) 0 1) = (pr (loT (T3.mk c.x c.y (0 : Rat)) (T3.mk d.x d.y (0 : Rat)) 0 1) 0 1)) ∨ ((pr (loT (T3.mk a.x a.y (0 : Rat)) (T3.mk b.x b.y (0 : Rat)) 0 1) 0 1) = (pr (hiT (T3.mk c.x c.y (0 : Rat)) (T3.mk d.x d.y (0 : Rat)) 0 1) 0 1))) ∨ ((pr (hiT (T3.mk a.x a.y (0 : Rat)) (T3.mk b.x b.y (0 : Rat)) 0 1) 0 1) = (pr (loT (T3.mk c.x c.y (0 : Rat)) (T3.mk d.x d.y (0 : Rat)) 0 1) 0 1))) (fun hg => ?_) (fun hg => ?_)
  ·
   refine yG (zF (v := .bool true) (congrArg some (yI hg))) rfl rfl rfl (zK rfl rfl rfl rfl rfl rfl (zK rfl rfl rfl rfl rfl rfl (zK rfl rfl rfl rfl rfl rfl (gv (yF rfl rfl) rfl (zD ?_)))))
   refine zU mg13_8 (MLe.refl _) ⟨?_, trivial⟩ rfl rfl
   exact congrArg some (vB_or_t hg)
  refine yG (zF (v := .bool false) (congrArg some (yA hg))) rfl rfl rfl (zT rfl rfl rfl ?_)
  replace rb_59 := rb_59.mono ((((((hh7.trans hh8).trans hh9).trans hh10).trans hh11).trans hmmg13_3).trans hmmg13_8)
  refine gl_x (F := fun v_ => (rpT (rpQ (k + 1))).Is mg13_8 v_ (hiT (T3.mk a.x a.y (0 : Rat)) (T3.mk b.x b.y (0 : Rat)) 0 1)) (zE ty33 (Pc.here _) rfl rfl rb_59 rfl) (mem1 (.tail _ (.tail _ (.head _)))) rfl ?_
  intro v113 r113
  refine zT rfl rfl rfl ?_
  replace rb_67 := rb_67.mono ((((((hh7.trans hh8).trans hh9).trans hh10).trans hh11).trans hmmg13_3).trans hmmg13_8)
  refine gl_x (F := fun v_ => (rpT (rpQ (k + 1))).Is mg13_8 v_ (hiT (T3.mk c.x c.y (0 : Rat)) (T3.mk d.x d.y (0 : Rat)) 0 1)) (zE ty33 (Pc.here _) rfl rfl rb_67 rfl) (mem1 (.head _)) rfl ?_
  intro v114 r114
  refine zT rfl rfl rfl ?_
  refine zJ (vs := [_, _]) rfl rfl rfl rfl Tryz.call50 ⟨rfl, rfl, trivial⟩ (fun w hs => o_r5_equal hs r113 r114 (by omega)) ?_
  intro v115 h12 hh12 r115
  obtain rfl : v115 = vB ((pr (hiT (T3.mk a.x a.y (0 : Rat)) (T3.mk b.x b.y (0 : Rat)) 0 1) 0 1) = (pr (hiT (T3.mk c.x c.y (0 : Rat)) (T3.mk d.x d.y (0 : Rat)) 0 1) 0 1)) := r115
  refine gv (yD rfl rfl) rfl (zD ?_)
  refine zU h12 hh12 ⟨?_, trivial⟩ rfl rfl
  exact congrArg some (vB_or_f hg)
 intro mg13_13 hmmg13_13
 show GL _ _ _ _ _ _ _ [(116, vB (((((pr (loT (T3.mk a.x a.y (0 : Rat)) (T3.mk b.x b.y (0 : Rat)) 0 1) 0 1) = (pr (loT (T3.mk c.x c.y (0 : Rat)) (T3.mk d.x d.y (0 : Rat)) 0 1) 0 1)) ∨ ((pr (loT (T3.mk a.x a.y (0 : Rat)) (T3.mk b.x b.y (0 : Rat)) 0 1) 0 1) = (pr (hiT (T3.mk c.x c.y (0 : Rat)) (T3.mk d.x d.y (0 : Rat)) 0 1) 0 1))) ∨ ((pr (hiT (T3.mk a.x a.y (0 : Rat)) (T3.mk b.x b.y (0 : Rat)) 0 1) 0 1) = (pr (loT (T3.mk c.x c.y (0 : Rat)) (T3.mk d.x d.y (0 : Rat)) 0 1) 0 1))) ∨ ((pr (hiT (T3.mk a.x a.y (0 : Rat)) (T3.mk b.x b.y (0 : Rat)) 0 1) 0 1) = (pr (hiT (T3.mk c.x c.y (0 : Rat)) (T3.mk d.x d.y (0 : Rat)) 0 1) 0 1))))] [.var b7 33 cs_66, .var b6 33 cs_64, .var b5 33 cs_58, .var b4 33 cs_56] mg13_13
 refine asg rfl rfl (zD (zB ?_))
 refine zH rfl (fun hc98 => ?_) (fun hc98 => ?_)
 ·
  refine zC (zA (asg (v := vI (1)) rfl rfl (zD (zB (zN (gr_in (zO (zW rfl rfl ?_))))))))
  refine congrArg vI ?_; rw [← touch_T rfl rfl rfl rfl]; unfold touchT; grind
 refine zI (gq_in (zB (zC (zA (asg (v := vI (2)) rfl rfl (zD (zB (zN (zW rfl rfl ?_)))))))))
 refine congrArg vI ?_; rw [← touch_T rfl rfl rfl rfl]; unfold touchT; grind

end Go.Proofs.YtfpjclgbieppeaaGreat


namespace Bk
set_option linter.unusedVariables false
set_option linter.unusedSimpArgs false
open Classical
noncomputable def yLoT (a b : Pt) : Pt := if 0 < cmpQ a.y b.y then b else a
noncomputable def yHiT (a b : Pt) : Pt := if 0 < cmpQ a.y b.y then a else b
theorem crossR_iff (a b p : Pt) : ((cmpQ (yLoT a b).y p.y ≤ 0 ∧ cmpQ p.y (yHiT a b).y < 0) ∧ 0 < orZ (pr (yLoT a b) 0 1) (pr (yHiT a b) 0 1) (pr p 0 1)) ↔ crossP (pr a 0 1) (pr b 0 1) (pr p 0 1) := by
  unfold yLoT yHiT crossP
  rw [cmp_le_iff, cmpQ_neg]
  have e1 : (pr a 0 1).2 = a.y := rfl
  have e2 : (pr b 0 1).2 = b.y := rfl
  have e3 : (pr p 0 1).2 = p.y := rfl
  rw [e1, e2, e3]
  by_cases h : 0 < cmpQ a.y b.y
  · have h1 := cmpQ_pos.1 h
    rw [if_pos h, if_pos h, or_swap (pr a 0 1) (pr b 0 1)]
    constructor
    · rintro ⟨⟨h2, h3⟩, h4⟩
      exact ⟨fun e => by grind, .inr ⟨h2, by omega⟩⟩
    · rintro ⟨h2, h3 | h3⟩
      · exact absurd ⟨fun _ => by grind, fun _ => h3.1⟩ h2
      · exact ⟨⟨h3.1, by grind⟩, by omega⟩
  · have h1 : ¬ b.y < a.y := fun e => h (cmpQ_pos.2 e)
    rw [if_neg h, if_neg h]
    constructor
    · rintro ⟨⟨h2, h3⟩, h4⟩
      exact ⟨fun e => by grind, .inl ⟨h2, h4⟩⟩
    · rintro ⟨h2, h3 | h3⟩
      · exact ⟨⟨h3.1, by grind⟩, h3.2⟩
      · exact absurd ⟨fun _ => h3.1, fun _ => by grind⟩ h2
theorem odd_by {l : List Pt} {p : P2} {i j n : Nat} (h : crossP (edgeA l i j n) (edgeB l i j n) p) : (¬ oddTo l p i j n) = oddTo l p i j (n + 1) := by
  show _ = (_ ∨ _)
  simp [h]
theorem odd_not {l : List Pt} {p : P2} {i j n : Nat} (h : ¬ crossP (edgeA l i j n) (edgeB l i j n) p) : oddTo l p i j n = oddTo l p i j (n + 1) := by
  show _ = (_ ∨ _)
  simp [h]
noncomputable def whTo (L : List (List Pt)) (p : P2) (i j : Nat) : Nat → Int
  | 0 => -1
  | m + 1 => if insZ (L.getD m []) p i j = 1 then -(whTo L p i j m) else whTo L p i j m
noncomputable def whZ (L : List (List Pt)) (p : P2) (i j : Nat) : Int := if ∃ m, m < L.length ∧ insZ (L.getD m []) p i j = 0 then 0 else whTo L p i j L.length
end Bk


namespace Go.Proofs.YtfpjclgbieppeaaGreat
open Bk Go
set_option linter.unusedVariables false
set_option linter.unusedSimpArgs false
set_option maxRecDepth 10000

theorem o_r5_inside {w0 : World} {h0 : Mem}  (hs : MLe h0 (mem w0)) {k : Nat} {vl : Value} {l : (List (T3 Rat))} (rl : (rpS (rpT (rpQ k))).Is h0 vl l) {vp : Value} {p : (T3 Rat)} (rp : (rpT (rpQ k)).Is h0 vp p) (hcd0 : k ≤ 5000) (hcd1 : l.length ≤ 1000)  :
    Calls Tryz.prog 20 #[vl, vp] w0 (Ret w0 h0 (fun _ r => r = vI (insZ l (pr p 0 1) 0 1))) := by
 refine zR (n := 66) (e := [(0, vl), (1, vp)]) (vs := [vl, vp]) Tryz.func20 rfl rfl (Nat.le_of_ble_eq_true rfl) hs ⟨rfl, rfl, trivial⟩ (zC (zA (zP (new_boxx (ρ := (rpT (rpQ k))) rfl rp) rfl rfl rfl ?_)))
 intro v3 q3 hq3
 obtain ⟨b3, cs3, rfl, rfl, rb3⟩ := hq3
 refine asg (v := vI (0)) rfl rfl (zD (zB (zC (zA (asg rfl rfl (zD (zB (zC (zC (zA (asg (v := vI (0)) rfl rfl (zD (zB ?_)))))))))))))
 refine zQ ?_
 refine gc_loop (ι := Nat × Mem) (fun (m, ma) => MLe h0 ma ∧ (m ≤ l.length ∧ ∀ q, q < m → ¬ onS (edgeA l 0 1 q) (edgeB l 0 1 q) (pr p 0 1))) (fun (m, ma) => [(0, vl), (3, vP b3 0), (5, vB (oddTo l (pr p 0 1) 0 1 m)), (6, vI ↑m)]) (fun (m, ma) => [.var b3 33 cs3]) (fun (m, ma) => ma) (fun (m, ma) => l.length - m) (0, h0) ?_ ⟨?_, ?_, ?_, ?_, trivial⟩ rfl rfl ?_
 ·
  refine ⟨MLe.refl _, ?_⟩
  exact ⟨by omega, fun q hq => by omega⟩
 · exact rfl
 · exact rfl
 · exact congrArg some (yA id).symm
 · exact rfl
 intro x hx
 obtain ⟨m, ma⟩ := x
 obtain ⟨hmma, hinv⟩ := hx
 show GC _ _ _ _ _ _ [(0, vl), (3, vP b3 0), (5, vB (oddTo l (pr p 0 1) 0 1 m)), (6, vI ↑m)] [.var b3 33 cs3] ma
 obtain ⟨hm1, hno⟩ := hinv
 refine zC (zC (zA (mv rfl rfl (mv rfl rfl ?_))))
 replace rl := rl.mono hmma
 refine gv (ov_len_sr Tryz.underlying36 rfl rl) rfl (gv (yH rfl rfl) rfl (zD (zB ?_)))
 refine zH rfl (fun hc12 => ?_) (fun hc12 => ?_)
 ·
  refine zI (zB (zC (zQ (zC ?_))))
  refine gc_draw 16 _ [(12, (7, 33, [.bool false, .slice none 0 0, .slice none 0 0, .bool false, .slice none 0 0, .slice none 0 0, .bool false, .slice none 0 0, .slice none 0 0])), (13, (8, 33, [.bool false, .slice none 0 0, .slice none 0 0, .bool false, .slice none 0 0, .slice none 0 0, .bool false, .slice none 0 0, .slice none 0 0]))] [(0, .q), (1, .q), (2, .q), (3, .q), (4, .q), (5, .q), (6, .q), (7, .q), (8, .q), (9, .q), (10, .q), (11, .q), (12, .a), (13, .a), (14, .c), (15, .c)] mixed (AlOk.cons rfl (zero_run info33 rfl rfl) (AlOk.cons rfl (zero_run info33 rfl rfl) AlOk.nil)) (chk_of [0, 0, 3, 4, 0, 0, 32, 0, 128, 320, 528, 1024, 0, 0, 12303, 32767] [65535, 65535, 65532, 65531, 65535, 65535, 65503, 65535, 65407, 65215, 65007, 64511, 65535, 65535, 61431, 55295] (by kernel_rfl)) (hae_cons rfl rfl (hae_cons rfl rfl hae_nil)) (fun r hr => hr) (w_q rfl (fun h' L' hh hR => zF rfl) rfl (w_q rfl (fun h' L' hh hR => zF rfl) rfl (w_qx (F := fun v_ => AtP (rpT (rpQ k)) ma v_ (l.getD m (T3.mk (0 : Rat) (0 : Rat) (0 : Rat)))) rfl (ox_idx_s (T3.mk (0 : Rat) (0 : Rat) (0 : Rat)) m Tryz.underlying36 ty33 rfl rfl rl rfl (by omega) (show 0 < 9 from by decide)) mem0 rfl ?_)))
  intro v17 r17
  refine w_qx (F := fun v_ => (rpT (rpQ k)).Is ma v_ (l.getD m (T3.mk (0 : Rat) (0 : Rat) (0 : Rat)))) rfl (yK ty33 rfl r17) mem0 rfl ?_
  intro v18 r18
  refine w_q rfl (fun h' L' hh hR => zF rfl) rfl (w_q rfl (fun h' L' hh hR => zF rfl) rfl (w_q rfl (fun h' L' hh hR => zV (q := 1) rfl rfl (by omega) (by omega)) rfl (w_q rfl (fun h' L' hh hR => zF rfl) rfl (w_q rfl (fun h' L' hh hR => ov_len_sr Tryz.underlying36 rfl (rl.mono hh)) rfl (w_q rfl (fun h' L' hh hR => ov_rem_i rfl rfl (by omega) (by omega)) rfl (w_qx (F := fun v_ => AtP (rpT (rpQ k)) ma v_ (l.getD ((m + 1) % l.length) (T3.mk (0 : Rat) (0 : Rat) (0 : Rat)))) rfl (ox_idx_s (T3.mk (0 : Rat) (0 : Rat) (0 : Rat)) ((m + 1) % l.length) Tryz.underlying36 ty33 rfl rfl rl (by first | rfl | (push_cast; rfl)) (by exact Nat.mod_lt _ (by omega)) (show 0 < 9 from by decide)) mem0 rfl ?_))))))
  intro v25 r25
  refine w_qx (F := fun v_ => (rpT (rpQ k)).Is ma v_ (l.getD ((m + 1) % l.length) (T3.mk (0 : Rat) (0 : Rat) (0 : Rat)))) rfl (yK ty33 rfl r25) mem0 rfl ?_
  intro v26 r26
  refine w_a rfl (fun b7 => ?_)
  have rb7 : (rpT (rpQ (k + 1))).R ma [.bool false, .slice none 0 0, .slice none 0 0, .bool false, .slice none 0 0, .slice none 0 0, .bool false, .slice none 0 0, .slice none 0 0] (T3.mk (0 : Rat) (0 : Rat) (0 : Rat)) := (zr_t (zr_q (by omega)))
  refine w_a rfl (fun b8 => ?_)
  have rb8 : (rpT (rpQ (k + 1))).R ma [.bool false, .slice none 0 0, .slice none 0 0, .bool false, .slice none 0 0, .slice none 0 0, .bool false, .slice none 0 0, .slice none 0 0] (T3.mk (0 : Rat) (0 : Rat) (0 : Rat)) := (zr_t (zr_q (by omega)))
  refine w_c rfl (s_updx (A := [_]) (F := fun c_ => (rpT (rpQ (k + 1))).R ma c_ (l.getD m (T3.mk (0 : Rat) (0 : Rat) (0 : Rat)))) (upd_box Tryz.sizeOf33 (Pc.here _) rfl rfl rfl rb7 (r18.le (Le.t (Le.q (l := k + 1) (by omega)))) rfl) (mem_kept (by first | (simp; done) | grind)) ?_)
  intro cs_1 rb_2
  refine w_c rfl (s_updx (A := []) (F := fun c_ => (rpT (rpQ (k + 1))).R ma c_ (l.getD ((m + 1) % l.length) (T3.mk (0 : Rat) (0 : Rat) (0 : Rat)))) (upd_box Tryz.sizeOf33 (Pc.here _) rfl rfl rfl rb8 (r26.le (Le.t (Le.q (l := k + 1) (by omega)))) rfl) (mem_kept (by first | (simp; done) | grind)) ?_)
  intro cs_3 rb_4
  refine w_nil (zL (e' := [(0, _), (3, _), (5, _), (6, _), (7, _), (8, _)]) ⟨rfl, rfl, rfl, rfl, rfl, rfl, trivial⟩ (zB (zC (zC ?_))))
  refine gc_draw 7 _ [] [(0, .q), (2, .q), (4, .q), (1, .c), (3, .c), (5, .c), (6, .c)] mixed (fun x hx => by cases hx) (by kernel_rfl) (fun x hx => by cases hx) (fun r hr => hr) (w_qx (F := fun v_ => (rpT (rpQ (k + 1))).Is ma v_ (l.getD m (T3.mk (0 : Rat) (0 : Rat) (0 : Rat)))) rfl (zE ty33 (Pc.here _) rfl rfl rb_2 rfl) (mem1 (.tail _ (.head _))) rfl ?_)
  intro v27 r27
  refine w_qx (F := fun v_ => (rpT (rpQ (k + 1))).Is ma v_ (l.getD ((m + 1) % l.length) (T3.mk (0 : Rat) (0 : Rat) (0 : Rat)))) rfl (zE ty33 (Pc.here _) rfl rfl rb_4 rfl) (mem1 (.head _)) rfl ?_
  intro v29 r29
  replace rb3 := rb3.mono hmma
  refine w_qx (F := fun v_ => (rpT (rpQ k)).Is ma v_ p) rfl (zE ty33 (Pc.here _) rfl rfl rb3 rfl) (mem1 (.tail _ (.tail _ (.head _)))) rfl ?_
  intro v31 r31
  refine w_c rfl ?_
  refine yO (vs := [_]) Tryz.call43 ⟨rfl, trivial⟩ (fun w hs => o_r5_flat hs r27) rfl ?_
  intro v28 h1 hh1 r28
  change (rpT (rpQ ((k + 1) + 1))).Is h1 v28 (T3.mk ((l.getD m (T3.mk (0 : Rat) (0 : Rat) (0 : Rat))).x) ((l.getD m (T3.mk (0 : Rat) (0 : Rat) (0 : Rat))).y) (0 : Rat)) at r28
  replace r28 := Rp.Is.le r28 (Le.t (Le.q (l := k + 2) (by omega)))
  refine w_c rfl ?_
  replace r29 := r29.mono hh1
  refine yO (vs := [_]) Tryz.call43 ⟨rfl, trivial⟩ (fun w hs => o_r5_flat hs r29) rfl ?_
  intro v30 h2 hh2 r30
  change (rpT (rpQ ((k + 1) + 1))).Is h2 v30 (T3.mk ((l.getD ((m + 1) % l.length) (T3.mk (0 : Rat) (0 : Rat) (0 : Rat))).x) ((l.getD ((m + 1) % l.length) (T3.mk (0 : Rat) (0 : Rat) (0 : Rat))).y) (0 : Rat)) at r30
  replace r30 := Rp.Is.le r30 (Le.t (Le.q (l := k + 2) (by omega)))
  refine w_c rfl ?_
  replace r31 := r31.mono (hh1.trans hh2)
  refine yO (vs := [_]) Tryz.call43 ⟨rfl, trivial⟩ (fun w hs => o_r5_flat hs r31) rfl ?_
  intro v32 h3 hh3 r32
  change (rpT (rpQ (k + 1))).Is h3 v32 (T3.mk p.x p.y (0 : Rat)) at r32
  refine w_c rfl ?_
  replace r28 := r28.mono (hh2.trans hh3)
  replace r30 := r30.mono hh3
  refine yO (vs := [_, _, _]) Tryz.call42 ⟨rfl, rfl, rfl, trivial⟩ (fun w hs => o_r5_on hs r28 r30 (r32.le (Le.t (Le.q (l := k + 2) (by omega)))) (by omega)) rfl ?_
  intro v33 h4 hh4 r33
  obtain rfl : v33 = vB (onS (pr (T3.mk ((l.getD m (T3.mk (0 : Rat) (0 : Rat) (0 : Rat))).x) ((l.getD m (T3.mk (0 : Rat) (0 : Rat) (0 : Rat))).y) (0 : Rat)) 0 1) (pr (T3.mk ((l.getD ((m + 1) % l.length) (T3.mk (0 : Rat) (0 : Rat) (0 : Rat))).x) ((l.getD ((m + 1) % l.length) (T3.mk (0 : Rat) (0 : Rat) (0 : Rat))).y) (0 : Rat)) 0 1) (pr (T3.mk p.x p.y (0 : Rat)) 0 1)) := r33
  refine w_nil (zB ?_)
  refine zH rfl (fun hc33 => ?_) (fun hc33 => ?_)
  ·
   refine gc_keep (e' := []) trivial (zC (zA (asg (v := vI (0)) rfl rfl (zD (zB (zN (zO (gr_in (zO (zO (gr_in (zO (zW rfl rfl ?_)))))))))))))
   exact congrArg vI (ins_on (by omega) hc33)
  refine zI (zB ?_)
  refine gc_cut (ι := List Value × List Value × Mem) (fun (cs_5, cs_7, mc) => MLe h4 mc ∧ ((rpT (rpQ (k + 1))).R mc cs_5 (yLoT (l.getD m (T3.mk (0 : Rat) (0 : Rat) (0 : Rat))) (l.getD ((m + 1) % l.length) (T3.mk (0 : Rat) (0 : Rat) (0 : Rat)))) ∧ (rpT (rpQ (k + 1))).R mc cs_7 (yHiT (l.getD m (T3.mk (0 : Rat) (0 : Rat) (0 : Rat))) (l.getD ((m + 1) % l.length) (T3.mk (0 : Rat) (0 : Rat) (0 : Rat)))) ∧ True)) (fun (cs_5, cs_7, mc) => [(0, vl), (3, vP b3 0), (5, vB (oddTo l (pr p 0 1) 0 1 m)), (6, vI ↑m), (7, vP b7 0), (8, vP b8 0)]) (fun (cs_5, cs_7, mc) => [.var b8 33 cs_7, .var b7 33 cs_5, .var b3 33 cs3]) (fun (cs_5, cs_7, mc) => mc) ?_ ?_
  ·
   refine zC (zA (gv ((zY (sz := 3) (q := 1) 1 Tryz.underlying33 Tryz.sizeOf31 rfl rfl rfl (by decide)).cv (show _ = vP b7 3 from congrArg (vP b7) (by rfl))) rfl ?_))
   replace rb_2 := rb_2.mono (((hh1.trans hh2).trans hh3).trans hh4)
   refine gl_x (F := fun v_ => (rpQ (k + 1)).Is h4 v_ ((l.getD m (T3.mk (0 : Rat) (0 : Rat) (0 : Rat))).y)) (zE ty31 (Pc.ty (Pc.here _)) rfl rfl rb_2 rfl) (mem1 (.tail _ (.head _))) rfl ?_
   intro v35 r35
   refine gv ((zY (sz := 3) (q := 1) 1 Tryz.underlying33 Tryz.sizeOf31 rfl rfl rfl (by decide)).cv (show _ = vP b8 3 from congrArg (vP b8) (by rfl))) rfl ?_
   replace rb_4 := rb_4.mono (((hh1.trans hh2).trans hh3).trans hh4)
   refine gl_x (F := fun v_ => (rpQ (k + 1)).Is h4 v_ ((l.getD ((m + 1) % l.length) (T3.mk (0 : Rat) (0 : Rat) (0 : Rat))).y)) (zE ty31 (Pc.ty (Pc.here _)) rfl rfl rb_4 rfl) (mem1 (.head _)) rfl ?_
   intro v37 r37
   refine zJ (vs := [_, _]) rfl rfl rfl rfl Tryz.call44 ⟨rfl, rfl, trivial⟩ (fun w hs => o_rref_cmp hs r35 r37 (by omega)) ?_
   intro v38 h5 hh5 r38
   obtain rfl : v38 = vI (cmpQ ((l.getD m (T3.mk (0 : Rat) (0 : Rat) (0 : Rat))).y) ((l.getD ((m + 1) % l.length) (T3.mk (0 : Rat) (0 : Rat) (0 : Rat))).y)) := r38
   have hcr38 := cmpQ_range ((l.getD m (T3.mk (0 : Rat) (0 : Rat) (0 : Rat))).y) ((l.getD ((m + 1) % l.length) (T3.mk (0 : Rat) (0 : Rat) (0 : Rat))).y)
   refine gv (ov_gtr_i (q := 0) rfl rfl) rfl (zD (zL (e' := [(0, _), (3, _), (5, _), (6, _), (7, _), (8, _), (39, _)]) ⟨rfl, rfl, rfl, rfl, rfl, rfl, rfl, trivial⟩ (zB ?_)))
   refine zH rfl (fun hc39 => ?_) (fun hc39 => ?_)
   ·
    refine zA ?_
    replace rb_4 := rb_4.mono hh5
    refine gl_x (F := fun v_ => (rpT (rpQ (k + 1))).Is h5 v_ (l.getD ((m + 1) % l.length) (T3.mk (0 : Rat) (0 : Rat) (0 : Rat)))) (zE ty33 (Pc.here _) rfl rfl rb_4 rfl) (mem1 (.head _)) rfl ?_
    intro v40 r40
    replace rb_2 := rb_2.mono hh5
    refine gl_x (F := fun v_ => (rpT (rpQ (k + 1))).Is h5 v_ (l.getD m (T3.mk (0 : Rat) (0 : Rat) (0 : Rat)))) (zE ty33 (Pc.here _) rfl rfl rb_2 rfl) (mem1 (.tail _ (.head _))) rfl ?_
    intro v41 r41
    refine gl_updx (A := [_]) (F := fun c_ => (rpT (rpQ (k + 1))).R h5 c_ (l.getD ((m + 1) % l.length) (T3.mk (0 : Rat) (0 : Rat) (0 : Rat)))) (upd_box Tryz.sizeOf33 (Pc.here _) rfl rfl rfl rb_2 r40 rfl) ?_
    intro cs_9 rb_10
    refine gl_updx (A := []) (F := fun c_ => (rpT (rpQ (k + 1))).R h5 c_ (l.getD m (T3.mk (0 : Rat) (0 : Rat) (0 : Rat)))) (upd_box Tryz.sizeOf33 (Pc.here _) rfl rfl rfl rb_4 r41 rfl) ?_
    intro cs_11 rb_12
    refine zD ?_
    refine zU (cs_9, cs_11, h5) ?_ ⟨rfl, rfl, rfl, rfl, rfl, rfl, trivial⟩ rfl rfl
    refine ⟨hh5, ?_⟩
    refine ⟨(Rp.castR rb_10 (if_pos hc39).symm), (Rp.castR rb_12 (if_pos hc39).symm), ?_⟩
    trivial
   refine zI ?_
   refine zU (cs_1, cs_3, h5) ?_ ⟨rfl, rfl, rfl, rfl, rfl, rfl, trivial⟩ rfl rfl
   refine ⟨hh5, ?_⟩
   replace rb_2 := rb_2.mono hh5
   replace rb_4 := rb_4.mono hh5
   refine ⟨(Rp.castR rb_2 (if_neg hc39).symm), (Rp.castR rb_4 (if_neg hc39).symm), ?_⟩
   trivial
  intro x hx
  obtain ⟨cs_5, cs_7, mc⟩ := x
  obtain ⟨hmmc, hcut⟩ := hx
  show GC _ _ _ _ _ _ [(0, vl), (3, vP b3 0), (5, vB (oddTo l (pr p 0 1) 0 1 m)), (6, vI ↑m), (7, vP b7 0), (8, vP b8 0)] [.var b8 33 cs_7, .var b7 33 cs_5, .var b3 33 cs3] mc
  obtain ⟨rb_6, rb_8, hcut⟩ := hcut
  refine zC (zA (gv ((zY (sz := 3) (q := 1) 1 Tryz.underlying33 Tryz.sizeOf31 rfl rfl rfl (by decide)).cv (show _ = vP b7 3 from congrArg (vP b7) (by rfl))) rfl (gl_x (F := fun v_ => (rpQ (k + 1)).Is mc v_ ((yLoT (l.getD m (T3.mk (0 : Rat) (0 : Rat) (0 : Rat))) (l.getD ((m + 1) % l.length) (T3.mk (0 : Rat) (0 : Rat) (0 : Rat)))).y)) (zE ty31 (Pc.ty (Pc.here _)) rfl rfl rb_6 rfl) (mem1 (.tail _ (.head _))) rfl ?_)))
  intro v43 r43
  refine gv ((zY (sz := 3) (q := 1) 1 Tryz.underlying33 Tryz.sizeOf31 rfl rfl rfl (by decide)).cv (show _ = vP b3 3 from congrArg (vP b3) (by rfl))) rfl ?_
  replace rb3 := rb3.mono ((((hh1.trans hh2).trans hh3).trans hh4).trans hmmc)
  refine gl_x (F := fun v_ => (rpQ k).Is mc v_ p.y) (zE ty31 (Pc.ty (Pc.here _)) rfl rfl rb3 rfl) (mem1 (.tail _ (.tail _ (.head _)))) rfl ?_
  intro v45 r45
  refine zJ (vs := [_, _]) rfl rfl rfl rfl Tryz.call44 ⟨rfl, rfl, trivial⟩ (fun w hs => o_rref_cmp hs r43 r45 (by omega)) ?_
  intro v46 h5 hh5 r46
  obtain rfl : v46 = vI (cmpQ ((yLoT (l.getD m (T3.mk (0 : Rat) (0 : Rat) (0 : Rat))) (l.getD ((m + 1) % l.length) (T3.mk (0 : Rat) (0 : Rat) (0 : Rat)))).y) p.y) := r46
  have hcr46 := cmpQ_range ((yLoT (l.getD m (T3.mk (0 : Rat) (0 : Rat) (0 : Rat))) (l.getD ((m + 1) % l.length) (T3.mk (0 : Rat) (0 : Rat) (0 : Rat)))).y) p.y
  refine gv (ov_leq_i (q := 0) rfl rfl) rfl ?_
  refine gl_cut (ι := Mem) 8 (fun m_ => MLe h5 m_) (fun _ => [(55, vB (((cmpQ ((yLoT (l.getD m (T3.mk (0 : Rat) (0 : Rat) (0 : Rat))) (l.getD ((m + 1) % l.length) (T3.mk (0 : Rat) (0 : Rat) (0 : Rat)))).y) p.y) ≤ (0 : Int)) ∧ ((cmpQ p.y ((yHiT (l.getD m (T3.mk (0 : Rat) (0 : Rat) (0 : Rat))) (l.getD ((m + 1) % l.length) (T3.mk (0 : Rat) (0 : Rat) (0 : Rat)))).y)) < (0 : Int)))), (0, vl), (3, vP b3 0), (5, vB (oddTo l (pr p 0 1) 0 1 m)), (6, vI ↑m), (7, vP b7 0), (8, vP b8 0)]) (fun _ => [.var b8 33 cs_7, .var b7 33 cs_5, .var b3 33 cs3]) (fun m_ => m_) ?_ ?_
  ·
   refine gl_cases ((cmpQ ((yLoT (l.getD m (T3.mk (0 : Rat) (0 : Rat) (0 : Rat))) (l.getD ((m + 1) % l.length) (T3.mk (0 : Rat) (0 : Rat) (0 : Rat)))).y) p.y) ≤ (0 : Int)) (fun hg => ?_) (fun hg => ?_)
   ·
    refine yG (zF (v := .bool true) (congrArg some (yI hg))) rfl rfl rfl (zT rfl rfl rfl (gv ((zY (sz := 3) (q := 1) 1 Tryz.underlying33 Tryz.sizeOf31 rfl rfl rfl (by decide)).cv (show _ = vP b3 3 from congrArg (vP b3) (by rfl))) rfl (zT rfl rfl rfl ?_)))
    replace rb3 := rb3.mono hh5
    refine gl_x (F := fun v_ => (rpQ k).Is h5 v_ p.y) (zE ty31 (Pc.ty (Pc.here _)) rfl rfl rb3 rfl) (mem1 (.tail _ (.tail _ (.head _)))) rfl ?_
    intro v50 r50
    refine zT rfl rfl rfl (gv ((zY (sz := 3) (q := 1) 1 Tryz.underlying33 Tryz.sizeOf31 rfl rfl rfl (by decide)).cv (show _ = vP b8 3 from congrArg (vP b8) (by rfl))) rfl (zT rfl rfl rfl ?_))
    replace rb_8 := rb_8.mono hh5
    refine gl_x (F := fun v_ => (rpQ (k + 1)).Is h5 v_ ((yHiT (l.getD m (T3.mk (0 : Rat) (0 : Rat) (0 : Rat))) (l.getD ((m + 1) % l.length) (T3.mk (0 : Rat) (0 : Rat) (0 : Rat)))).y)) (zE ty31 (Pc.ty (Pc.here _)) rfl rfl rb_8 rfl) (mem1 (.head _)) rfl ?_
    intro v52 r52
    refine zT rfl rfl rfl ?_
    refine zJ (vs := [_, _]) rfl rfl rfl rfl Tryz.call44 ⟨rfl, rfl, trivial⟩ (fun w hs => o_rref_cmp hs r50 r52 (by omega)) ?_
    intro v53 h6 hh6 r53
    obtain rfl : v53 = vI (cmpQ p.y ((yHiT (l.getD m (T3.mk (0 : Rat) (0 : Rat) (0 : Rat))) (l.getD ((m + 1) % l.length) (T3.mk (0 : Rat) (0 : Rat) (0 : Rat)))).y)) := r53
    have hcr53 := cmpQ_range p.y ((yHiT (l.getD m (T3.mk (0 : Rat) (0 : Rat) (0 : Rat))) (l.getD ((m + 1) % l.length) (T3.mk (0 : Rat) (0 : Rat) (0 : Rat)))).y)
    refine zT rfl rfl rfl (gv (yH (q := 0) rfl rfl) rfl (gv (yF rfl rfl) rfl (zD ?_)))
    refine zU h6 hh6 ⟨?_, rfl, rfl, rfl, rfl, rfl, rfl, trivial⟩ rfl rfl
    exact congrArg some (vB_and_t hg)
   refine yG (zF (v := .bool false) (congrArg some (yA hg))) rfl rfl rfl (zK rfl rfl rfl rfl rfl rfl (zK rfl rfl rfl rfl rfl rfl (zK rfl rfl rfl rfl rfl rfl (zK rfl rfl rfl rfl rfl rfl (zK rfl rfl rfl rfl rfl rfl (zK rfl rfl rfl rfl rfl rfl (gv (yD rfl rfl) rfl (zD ?_))))))))
   refine zU h5 (MLe.refl _) ⟨?_, rfl, rfl, rfl, rfl, rfl, rfl, trivial⟩ rfl rfl
   exact congrArg some (vB_and_f hg)
  intro mg10_6 hmmg10_6
  show GL _ _ _ _ _ _ _ [(55, vB (((cmpQ ((yLoT (l.getD m (T3.mk (0 : Rat) (0 : Rat) (0 : Rat))) (l.getD ((m + 1) % l.length) (T3.mk (0 : Rat) (0 : Rat) (0 : Rat)))).y) p.y) ≤ (0 : Int)) ∧ ((cmpQ p.y ((yHiT (l.getD m (T3.mk (0 : Rat) (0 : Rat) (0 : Rat))) (l.getD ((m + 1) % l.length) (T3.mk (0 : Rat) (0 : Rat) (0 : Rat)))).y)) < (0 : Int)))), (0, vl), (3, vP b3 0), (5, vB (oddTo l (pr p 0 1) 0 1 m)), (6, vI ↑m), (7, vP b7 0), (8, vP b8 0)] [.var b8 33 cs_7, .var b7 33 cs_5, .var b3 33 cs3] mg10_6
  refine gl_cut (ι := Mem) 7 (fun m_ => MLe mg10_6 m_) (fun _ => [(62, vB ((((cmpQ ((yLoT (l.getD m (T3.mk (0 : Rat) (0 : Rat) (0 : Rat))) (l.getD ((m + 1) % l.length) (T3.mk (0 : Rat) (0 : Rat) (0 : Rat)))).y) p.y) ≤ (0 : Int)) ∧ ((cmpQ p.y ((yHiT (l.getD m (T3.mk (0 : Rat) (0 : Rat) (0 : Rat))) (l.getD ((m + 1) % l.length) (T3.mk (0 : Rat) (0 : Rat) (0 : Rat)))).y)) < (0 : Int))) ∧ ((0 : Int) < (orZ (pr (yLoT (l.getD m (T3.mk (0 : Rat) (0 : Rat) (0 : Rat))) (l.getD ((m + 1) % l.length) (T3.mk (0 : Rat) (0 : Rat) (0 : Rat)))) 0 1) (pr (yHiT (l.getD m (T3.mk (0 : Rat) (0 : Rat) (0 : Rat))) (l.getD ((m + 1) % l.length) (T3.mk (0 : Rat) (0 : Rat) (0 : Rat)))) 0 1) (pr p 0 1))))), (0, vl), (3, vP b3 0), (5, vB (oddTo l (pr p 0 1) 0 1 m)), (6, vI ↑m)]) (fun _ => [.var b8 33 cs_7, .var b7 33 cs_5, .var b3 33 cs3]) (fun m_ => m_) ?_ ?_
  ·
   refine gl_cases (((cmpQ ((yLoT (l.getD m (T3.mk (0 : Rat) (0 : Rat) (0 : Rat))) (l.getD ((m + 1) % l.length) (T3.mk (0 : Rat) (0 : Rat) (0 : Rat)))).y) p.y) ≤ (0 : Int)) ∧ ((cmpQ p.y ((yHiT (l.getD m (T3.mk (0 : Rat) (0 : Rat) (0 : Rat))) (l.getD ((m + 1) % l.length) (T3.mk (0 : Rat) (0 : Rat) (0 : Rat)))).y)) < (0 : Int))) (fun hg => ?_) (fun hg => ?_)
   ·
    refine yG (zF (v := .bool true) (congrArg some (yI hg))) rfl rfl rfl (zT rfl rfl rfl ?_)
    replace rb_6 := rb_6.mono (hh5.trans hmmg10_6)
    refine gl_x (F := fun v_ => (rpT (rpQ (k + 1))).Is mg10_6 v_ (yLoT (l.getD m (T3.mk (0 : Rat) (0 : Rat) (0 : Rat))) (l.getD ((m + 1) % l.length) (T3.mk (0 : Rat) (0 : Rat) (0 : Rat))))) (zE ty33 (Pc.here _) rfl rfl rb_6 rfl) (mem1 (.tail _ (.head _))) rfl ?_
    intro v57 r57
    refine zT rfl rfl rfl ?_
    replace rb_8 := rb_8.mono (hh5.trans hmmg10_6)
    refine gl_x (F := fun v_ => (rpT (rpQ (k + 1))).Is mg10_6 v_ (yHiT (l.getD m (T3.mk (0 : Rat) (0 : Rat) (0 : Rat))) (l.getD ((m + 1) % l.length) (T3.mk (0 : Rat) (0 : Rat) (0 : Rat))))) (zE ty33 (Pc.here _) rfl rfl rb_8 rfl) (mem1 (.head _)) rfl ?_
    intro v58 r58
    refine zT rfl rfl rfl ?_
    replace rb3 := rb3.mono (hh5.trans hmmg10_6)
    refine gl_x (F := fun v_ => (rpT (rpQ k)).Is mg10_6 v_ p) (zE ty33 (Pc.here _) rfl rfl rb3 rfl) (mem1 (.tail _ (.tail _ (.head _)))) rfl ?_
    intro v59 r59
    refine zT rfl rfl rfl ?_
    refine zJ (vs := [_, _, _]) rfl rfl rfl rfl Tryz.call45 ⟨rfl, rfl, rfl, trivial⟩ (fun w hs => o_r5_turn hs r57 r58 (r59.le (Le.t (Le.q (l := k + 1) (by omega)))) (by omega)) ?_
    intro v60 h6 hh6 r60
    obtain rfl : v60 = vI (orZ (pr (yLoT (l.getD m (T3.mk (0 : Rat) (0 : Rat) (0 : Rat))) (l.getD ((m + 1) % l.length) (T3.mk (0 : Rat) (0 : Rat) (0 : Rat)))) 0 1) (pr (yHiT (l.getD m (T3.mk (0 : Rat) (0 : Rat) (0 : Rat))) (l.getD ((m + 1) % l.length) (T3.mk (0 : Rat) (0 : Rat) (0 : Rat)))) 0 1) (pr p 0 1)) := r60
    have hor60 := or_range (pr (yLoT (l.getD m (T3.mk (0 : Rat) (0 : Rat) (0 : Rat))) (l.getD ((m + 1) % l.length) (T3.mk (0 : Rat) (0 : Rat) (0 : Rat)))) 0 1) (pr (yHiT (l.getD m (T3.mk (0 : Rat) (0 : Rat) (0 : Rat))) (l.getD ((m + 1) % l.length) (T3.mk (0 : Rat) (0 : Rat) (0 : Rat)))) 0 1) (pr p 0 1)
    refine zT rfl rfl rfl (gv (ov_gtr_i (q := 0) rfl rfl) rfl (gv (yF rfl rfl) rfl (zD ?_)))
    refine zU h6 hh6 ⟨?_, rfl, rfl, rfl, rfl, trivial⟩ rfl rfl
    exact congrArg some (vB_and_t hg)
   refine yG (zF (v := .bool false) (congrArg some (yA hg))) rfl rfl rfl (zK rfl rfl rfl rfl rfl rfl (zK rfl rfl rfl rfl rfl rfl (zK rfl rfl rfl rfl rfl rfl (zK rfl rfl rfl rfl rfl rfl (zK rfl rfl rfl rfl rfl rfl (gv (yD rfl rfl) rfl (zD ?_)))))))
   refine zU mg10_6 (MLe.refl _) ⟨?_, rfl, rfl, rfl, rfl, trivial⟩ rfl rfl
   exact congrArg some (vB_and_f hg)
  intro mg10_14 hmmg10_14
  show GL _ _ _ _ _ _ _ [(62, vB ((((cmpQ ((yLoT (l.getD m (T3.mk (0 : Rat) (0 : Rat) (0 : Rat))) (l.getD ((m + 1) % l.length) (T3.mk (0 : Rat) (0 : Rat) (0 : Rat)))).y) p.y) ≤ (0 : Int)) ∧ ((cmpQ p.y ((yHiT (l.getD m (T3.mk (0 : Rat) (0 : Rat) (0 : Rat))) (l.getD ((m + 1) % l.length) (T3.mk (0 : Rat) (0 : Rat) (0 : Rat)))).y)) < (0 : Int))) ∧ ((0 : Int) < (orZ (pr (yLoT (l.getD m (T3.mk (0 : Rat) (0 : Rat) (0 : Rat))) (l.getD ((m + 1) % l.length) (T3.mk (0 : Rat) (0 : Rat) (0 : Rat)))) 0 1) (pr (yHiT (l.getD m (T3.mk (0 : Rat) (0 : Rat) (0 : Rat))) (l.getD ((m + 1) % l.length) (T3.mk (0 : Rat) (0 : Rat) (0 : Rat)))) 0 1) (pr p 0 1))))), (0, vl), (3, vP b3 0), (5, vB (oddTo l (pr p 0 1) 0 1 m)), (6, vI ↑m)] [.var b8 33 cs_7, .var b7 33 cs_5, .var b3 33 cs3] mg10_14
  refine zD (zB ?_)
  refine zH rfl (fun hc62 => ?_) (fun hc62 => ?_)
  ·
   refine zA (mv rfl rfl (gv (ov_not rfl) rfl (asg rfl rfl (zD (gq_in (zB (zA (mv rfl rfl (gv (zV (q := 1) rfl rfl (by omega) (by omega)) rfl (asg rfl rfl (zD (gq_drop (A := []) (gq_drop (A := []) ?_)))))))))))))
   refine yJ ((m + 1), mg10_14) ?_ ?_ ⟨rfl, rfl, ?_, rfl, trivial⟩ rfl rfl
   ·
    refine ⟨((((((((hmma.trans hh1).trans hh2).trans hh3).trans hh4).trans hmmc).trans hh5).trans hmmg10_6).trans hmmg10_14), ?_⟩
    exact ⟨by omega, on_next hno hc33⟩
   ·
    dsimp only
    omega
   · exact congrArg (fun z => some (vB z)) (odd_by ((crossR_iff _ _ _).1 hc62))
  refine zI (gq_in (zB (zA (mv rfl rfl (gv (zV (q := 1) rfl rfl (by omega) (by omega)) rfl (asg rfl rfl (zD (gq_drop (A := []) (gq_drop (A := []) ?_)))))))))
  refine yJ ((m + 1), mg10_14) ?_ ?_ ⟨rfl, rfl, ?_, rfl, trivial⟩ rfl rfl
  ·
   refine ⟨((((((((hmma.trans hh1).trans hh2).trans hh3).trans hh4).trans hmmc).trans hh5).trans hmmg10_6).trans hmmg10_14), ?_⟩
   exact ⟨by omega, on_next hno hc33⟩
  ·
   dsimp only
   omega
  · exact congrArg (fun z => some (vB z)) (odd_not fun e => hc62 ((crossR_iff _ _ _).2 e))
 refine gc_exit (zZ (zZ (gx_here (zB (zC (zC (zA (mv rfl rfl (zD (zB ?_))))))))))
 refine zH rfl (fun hc65 => ?_) (fun hc65 => ?_)
 ·
  refine zC (zA (asg (v := vI (1)) rfl rfl (zD (zB (zN (zO (zW rfl rfl ?_)))))))
  exact congrArg vI (ins_in (by omega) hm1 hno hc65)
 refine zI (zB (zC (zA (asg (v := vI (-1)) rfl rfl (zD (zB (zN (zW rfl rfl ?_))))))))
 exact congrArg vI (ins_out (by omega) hm1 hno hc65)

end Go.Proofs.YtfpjclgbieppeaaGreat


namespace Bk
set_option linter.unusedVariables false
open Classical
def upTo (R : Nat → Nat → Prop) (q b : Nat) : Prop := ∀ p, p < b → R p q
def topTo (R : Nat → Nat → Prop) (a : Nat) : Prop := ∀ q, q < a → upTo R q q
theorem top_zero {R : Nat → Nat → Prop} : topTo R 0 := fun q h => by omega
theorem up_zero {R : Nat → Nat → Prop} {q : Nat} : upTo R q 0 := fun p h => by omega
theorem up_next {R : Nat → Nat → Prop} {q b : Nat} (h : upTo R q b) (h1 : R b q) : upTo R q (b + 1) := fun p h3 => by
  rcases Nat.lt_succ_iff_lt_or_eq.1 h3 with h4 | h4
  · exact h p h4
  · subst h4; exact h1
theorem top_next {R : Nat → Nat → Prop} {a b : Nat} (h : topTo R a) (h1 : upTo R a b) (hb : a ≤ b) : topTo R (a + 1) := fun q h2 => by
  rcases Nat.lt_succ_iff_lt_or_eq.1 h2 with h5 | h5
  · exact h q h5
  · subst h5; exact fun p hp => h1 p (by omega)
def bothR (l : List Pt) (k i : Nat) : Prop := difR l 0 1 k i ∧ okT l 0 1 k i
theorem sim_top {l : List Pt} (h3 : 3 ≤ l.length) (h : topTo (bothR l) l.length) : simP l 0 1 :=
  ⟨h3, fun p q h1 h2 h4 => (h q h4 p h2).1, fun p q h1 h2 h4 => (h q h4 p h2).2⟩
theorem ok_sym {l : List Pt} {k i : Nat} : touchR (edgeA l 0 1 i) (edgeB l 0 1 i) (edgeA l 0 1 k) (edgeB l 0 1 k) = wantZ l.length k i ↔ okT l 0 1 k i := by
  unfold okT
  rw [← touch_eq, touch_comm]
end Bk


namespace Go.Proofs.YtfpjclgbieppeaaGreat
open Bk Go
set_option linter.unusedVariables false
set_option linter.unusedSimpArgs false
set_option maxRecDepth 10000

theorem o_r5_simple {w0 : World} {h0 : Mem}  (hs : MLe h0 (mem w0)) {k : Nat} {vl : Value} {l : (List (T3 Rat))} (rl : (rpS (rpT (rpQ k))).Is h0 vl l) (hcd0 : k ≤ 5000) (hcd1 : l.length ≤ 1000)  :
    Calls Tryz.prog 27 #[vl] w0 (Ret w0 h0 (fun _ r => r = vB (simP l 0 1))) := by
 refine zR (n := 69) (e := [(0, vl)]) (vs := [vl]) Tryz.func27 rfl rfl (Nat.le_of_ble_eq_true rfl) hs ⟨rfl, trivial⟩ (zC (zA (asg rfl rfl (zD (zB (zC (zA (mv rfl rfl (gv (ov_len_sr Tryz.underlying36 rfl rl) rfl (asg rfl rfl (zD (zB (zC ?_)))))))))))))
 refine zC (zA (mv rfl rfl (gv (yH (q := 3) rfl rfl) rfl (zD (zB ?_)))))
 refine zH rfl (fun hc10 => ?_) (fun hc10 => ?_)
 ·
  refine zC (zA (asg rfl rfl (zD (zB (zN (zO (zW rfl rfl ?_)))))))
  exact (yA (fun e => by have := e.1; omega)).symm
 refine zI (zB (zC (zC (zA (asg (v := vI (0)) rfl rfl (zD (zB (zQ ?_))))))))
 refine gc_loop (ι := Nat × Mem) (fun (i, mi) => MLe h0 mi ∧ (i ≤ l.length ∧ topTo (bothR l) i)) (fun (i, mi) => [(0, vl), (3, vI (↑(l).length : Int)), (4, vI ↑i)]) (fun (i, mi) => []) (fun (i, mi) => mi) (fun (i, mi) => l.length - i) (0, h0) ?_ ⟨rfl, rfl, rfl, trivial⟩ rfl rfl ?_
 ·
  refine ⟨MLe.refl _, ?_⟩
  exact ⟨by omega, top_zero⟩
 intro x hx
 obtain ⟨i, mi⟩ := x
 obtain ⟨hmmi, hinv⟩ := hx
 show GC _ _ _ _ _ _ [(0, vl), (3, vI (↑(l).length : Int)), (4, vI ↑i)] [] mi
 obtain ⟨hi1, hi2⟩ := hinv
 refine zC (zC (zA (mv rfl rfl (mv rfl rfl (gv (yH rfl rfl) rfl (zD (zB ?_)))))))
 refine zH rfl (fun hc13 => ?_) (fun hc13 => ?_)
 ·
  refine zI (zB (zC (zQ (zC (zA (asg (v := vI (0)) rfl rfl (zD (zB (zQ ?_)))))))))
  refine gc_loop (ι := Nat × Mem) (fun (q, mq) => MLe mi mq ∧ (q ≤ i ∧ upTo (bothR l) i q)) (fun (q, mq) => [(0, vl), (3, vI (↑(l).length : Int)), (4, vI ↑i), (5, vI ↑q)]) (fun (q, mq) => []) (fun (q, mq) => mq) (fun (q, mq) => i - q) (0, mi) ?_ ⟨rfl, rfl, rfl, rfl, trivial⟩ rfl rfl ?_
  ·
   refine ⟨MLe.refl _, ?_⟩
   exact ⟨by omega, up_zero⟩
  intro x hx
  obtain ⟨q, mq⟩ := x
  obtain ⟨hmmq, hinv⟩ := hx
  show GC _ _ _ _ _ _ [(0, vl), (3, vI (↑(l).length : Int)), (4, vI ↑i), (5, vI ↑q)] [] mq
  obtain ⟨hq1, hq2⟩ := hinv
  refine zC (zC (zA (mv rfl rfl (mv rfl rfl (gv (yH rfl rfl) rfl (zD (zB ?_)))))))
  refine zH rfl (fun hc18 => ?_) (fun hc18 => ?_)
  ·
   refine zI (zB (zC (zQ (zC (zC ?_)))))
   refine gc_draw 9 _ [] [(0, .q), (1, .q), (2, .q), (3, .q), (4, .q), (5, .q), (6, .q), (7, .q), (8, .c)] mixed (fun x hx => by cases hx) (by kernel_rfl) (fun x hx => by cases hx) (fun r hr => hr) (w_q rfl (fun h' L' hh hR => zF rfl) rfl (w_q rfl (fun h' L' hh hR => zF rfl) rfl ?_))
   replace rl := rl.mono (hmmi.trans hmmq)
   refine w_qx (F := fun v_ => AtP (rpT (rpQ k)) mq v_ (l.getD i (T3.mk (0 : Rat) (0 : Rat) (0 : Rat)))) rfl (ox_idx_s (T3.mk (0 : Rat) (0 : Rat) (0 : Rat)) i Tryz.underlying36 ty33 rfl rfl rl rfl (by omega) (show 0 < 9 from by decide)) mem0 rfl ?_
   intro v23 r23
   refine w_qx (F := fun v_ => (rpT (rpQ k)).Is mq v_ (l.getD i (T3.mk (0 : Rat) (0 : Rat) (0 : Rat)))) rfl (yK ty33 rfl r23) mem0 rfl ?_
   intro v24 r24
   refine w_q rfl (fun h' L' hh hR => zF rfl) rfl (w_q rfl (fun h' L' hh hR => zF rfl) rfl (w_qx (F := fun v_ => AtP (rpT (rpQ k)) mq v_ (l.getD q (T3.mk (0 : Rat) (0 : Rat) (0 : Rat)))) rfl (ox_idx_s (T3.mk (0 : Rat) (0 : Rat) (0 : Rat)) q Tryz.underlying36 ty33 rfl rfl rl rfl (by omega) (show 0 < 9 from by decide)) mem0 rfl ?_))
   intro v27 r27
   refine w_qx (F := fun v_ => (rpT (rpQ k)).Is mq v_ (l.getD q (T3.mk (0 : Rat) (0 : Rat) (0 : Rat)))) rfl (yK ty33 rfl r27) mem0 rfl ?_
   intro v28 r28
   refine w_c rfl ?_
   refine yO (vs := [_, _]) Tryz.call50 ⟨rfl, rfl, trivial⟩ (fun w hs => o_r5_equal hs r24 r28 (by omega)) rfl ?_
   intro v29 h1 hh1 r29
   obtain rfl : v29 = vB ((pr (l.getD i (T3.mk (0 : Rat) (0 : Rat) (0 : Rat))) 0 1) = (pr (l.getD q (T3.mk (0 : Rat) (0 : Rat) (0 : Rat))) 0 1)) := r29
   refine w_nil (zL (e' := [(0, _), (3, _), (4, _), (5, _), (29, _)]) ⟨rfl, rfl, rfl, rfl, rfl, trivial⟩ (zB ?_))
   refine zH rfl (fun hc29 => ?_) (fun hc29 => ?_)
   ·
    refine zC (zA (asg rfl rfl (zD (zB (zN (zO (gr_in (zO (zO (gr_in (gr_in (zO (zO ?_)))))))))))))
    refine gr_in (zO (zW rfl rfl ?_))
    exact (yA (fun e => e.2.1 q i (by omega) (by omega) (by omega) hc29.symm)).symm
   refine zI (zB (zC (zA (asg (v := vI (0)) rfl rfl (zD (zB ?_))))))
   refine gc_cut (ι := Mem) (fun (mw : (Mem)) => MLe h1 mw ∧ (True)) (fun (mw : (Mem)) => [(0, vl), (3, vI (↑(l).length : Int)), (4, vI ↑i), (5, vI ↑q), (6, vI (wantZ l.length q i))]) (fun (mw : (Mem)) => []) (fun (mw : (Mem)) => mw) ?_ ?_
   ·
    refine zC (zA (mv rfl rfl (mv rfl rfl (gv (zV (q := 1) rfl rfl (by omega) (by omega)) rfl (gv (ov_eql_i rfl rfl) rfl ?_)))))
    refine gl_cut (ι := Unit) 10 (fun _ => True) (fun _ => [(43, vB (((↑i : Int) = ((↑q : Int) + (1 : Int))) ∨ (((↑q : Int) = (0 : Int)) ∧ ((↑i : Int) = ((↑(l).length : Int) - (1 : Int)))))), (0, vl), (3, vI (↑(l).length : Int)), (4, vI ↑i), (5, vI ↑q), (6, vI (0))]) (fun _ => []) (fun _ => h1) ?_ ?_
    ·
     refine gl_cases ((↑i : Int) = ((↑q : Int) + (1 : Int))) (fun hg => ?_) (fun hg => ?_)
     ·
      refine yG (zF (v := .bool true) (congrArg some (yI hg))) rfl rfl rfl (zK rfl rfl rfl rfl rfl rfl (zK rfl rfl rfl rfl rfl rfl (zK rfl rfl rfl rfl rfl rfl (gl_offu rfl rfl rfl rfl rfl (gl_offu rfl rfl rfl rfl rfl (gl_offu rfl rfl rfl rfl rfl (gl_offu rfl rfl rfl rfl rfl (zK rfl rfl rfl rfl rfl rfl (gv (yF rfl rfl) rfl (zD ?_))))))))))
      refine zU () trivial ⟨?_, rfl, rfl, rfl, rfl, rfl, trivial⟩ rfl rfl
      exact congrArg some (vB_or_t hg)
     refine yG (zF (v := .bool false) (congrArg some (yA hg))) rfl rfl rfl (zT rfl rfl rfl (mv rfl rfl (zT rfl rfl rfl (gv (ov_eql_i (q := 0) rfl rfl) rfl ?_))))
     refine gl_cut (ι := Unit) 6 (fun _ => True) (fun _ => [(42, vB (((↑q : Int) = (0 : Int)) ∧ ((↑i : Int) = ((↑(l).length : Int) - (1 : Int))))), (0, vl), (3, vI (↑(l).length : Int)), (4, vI ↑i), (5, vI ↑q), (6, vI (0)), (34, .bool false)]) (fun _ => []) (fun _ => h1) ?_ ?_
     ·
      refine gl_cases ((↑q : Int) = (0 : Int)) (fun hg => ?_) (fun hg => ?_)
      ·
       refine zT rfl rfl rfl (yG (zF (v := .bool true) (congrArg some (yI hg))) rfl rfl rfl (zT rfl rfl rfl (mv rfl rfl (zT rfl rfl rfl (mv rfl rfl (zT rfl rfl rfl (gv (ov_sub_i (q := 1) rfl rfl (by omega) (by omega)) rfl (zT rfl rfl rfl (gv (ov_eql_i rfl rfl) rfl (zT rfl rfl rfl (gv (yF rfl rfl) rfl (zD ?_))))))))))))
       refine zU () trivial ⟨?_, rfl, rfl, rfl, rfl, rfl, rfl, trivial⟩ rfl rfl
       exact congrArg some (vB_and_t hg)
      refine zT rfl rfl rfl (yG (zF (v := .bool false) (congrArg some (yA hg))) rfl rfl rfl (zK rfl rfl rfl rfl rfl rfl (zK rfl rfl rfl rfl rfl rfl (zK rfl rfl rfl rfl rfl rfl (zK rfl rfl rfl rfl rfl rfl (zT rfl rfl rfl (gv (yD rfl rfl) rfl (zD ?_))))))))
      refine zU () trivial ⟨?_, rfl, rfl, rfl, rfl, rfl, rfl, trivial⟩ rfl rfl
      exact congrArg some (vB_and_f hg)
     intro _ _
     show GL _ _ _ _ _ _ _ [(42, vB (((↑q : Int) = (0 : Int)) ∧ ((↑i : Int) = ((↑(l).length : Int) - (1 : Int))))), (0, vl), (3, vI (↑(l).length : Int)), (4, vI ↑i), (5, vI ↑q), (6, vI (0)), (34, .bool false)] [] h1
     refine gv (yD rfl rfl) rfl (zD ?_)
     refine zU () trivial ⟨?_, rfl, rfl, rfl, rfl, rfl, trivial⟩ rfl rfl
     exact congrArg some (vB_or_f hg)
    intro _ _
    show GL _ _ _ _ _ _ _ [(43, vB (((↑i : Int) = ((↑q : Int) + (1 : Int))) ∨ (((↑q : Int) = (0 : Int)) ∧ ((↑i : Int) = ((↑(l).length : Int) - (1 : Int)))))), (0, vl), (3, vI (↑(l).length : Int)), (4, vI ↑i), (5, vI ↑q), (6, vI (0))] [] h1
    refine zD (zB ?_)
    refine zH rfl (fun hc43 => ?_) (fun hc43 => ?_)
    ·
     refine zA (asg (v := vI (1)) rfl rfl (zD ?_))
     refine zU (h1) ?_ ⟨rfl, rfl, rfl, rfl, ?_, trivial⟩ rfl rfl
     ·
      refine ⟨MLe.refl _, ?_⟩
      trivial
     · exact congrArg (fun z => some (vI z)) (want_t (by omega))
    refine zI ?_
    refine zU (h1) ?_ ⟨rfl, rfl, rfl, rfl, ?_, trivial⟩ rfl rfl
    ·
     refine ⟨MLe.refl _, ?_⟩
     trivial
    · exact congrArg (fun z => some (vI z)) (want_f (by omega))
   intro mw hx
   obtain ⟨hmmw, hcut⟩ := hx
   show GC _ _ _ _ _ _ [(0, vl), (3, vI (↑(l).length : Int)), (4, vI ↑i), (5, vI ↑q), (6, vI (wantZ l.length q i))] [] mw
   refine zC ?_
   refine gc_draw 25 _ [] [(0, .q), (1, .q), (2, .q), (3, .q), (4, .q), (5, .q), (6, .q), (7, .q), (8, .q), (9, .q), (10, .q), (11, .q), (12, .q), (13, .q), (14, .q), (15, .q), (16, .q), (17, .q), (18, .q), (19, .q), (20, .q), (21, .q), (23, .q), (22, .c), (24, .q)] mixed (fun x hx => by cases hx) (chk_of [0, 0, 3, 4, 0, 0, 32, 0, 192, 272, 512, 0, 0, 6144, 8192, 0, 0, 65536, 0, 393216, 557056, 1048576, 2114568, 0, 12582912] [33554431, 33554431, 33554428, 33554427, 33554431, 33554431, 33554399, 33554431, 33554239, 33554159, 33553919, 33554431, 33554431, 33548287, 33546239, 33554431, 33554431, 33488895, 33554431, 33161215, 32997375, 32505855, 31439863, 33554431, 20971519] (by kernel_rfl)) (fun x hx => by cases hx) (fun r hr => hr) (w_q rfl (fun h' L' hh hR => zF rfl) rfl (w_q rfl (fun h' L' hh hR => zF rfl) rfl ?_))
   replace rl := rl.mono (hh1.trans hmmw)
   refine w_qx (F := fun v_ => AtP (rpT (rpQ k)) mw v_ (l.getD i (T3.mk (0 : Rat) (0 : Rat) (0 : Rat)))) rfl (ox_idx_s (T3.mk (0 : Rat) (0 : Rat) (0 : Rat)) i Tryz.underlying36 ty33 rfl rfl rl rfl (by omega) (show 0 < 9 from by decide)) mem0 rfl ?_
   intro v46 r46
   refine w_qx (F := fun v_ => (rpT (rpQ k)).Is mw v_ (l.getD i (T3.mk (0 : Rat) (0 : Rat) (0 : Rat)))) rfl (yK ty33 rfl r46) mem0 rfl ?_
   intro v47 r47
   refine w_q rfl (fun h' L' hh hR => zF rfl) rfl (w_q rfl (fun h' L' hh hR => zF rfl) rfl (w_q rfl (fun h' L' hh hR => zV (q := 1) rfl rfl (by omega) (by omega)) rfl (w_q rfl (fun h' L' hh hR => zF rfl) rfl (w_q rfl (fun h' L' hh hR => ov_rem_i rfl rfl (by omega) (by omega)) rfl (w_qx (F := fun v_ => AtP (rpT (rpQ k)) mw v_ (l.getD ((i + 1) % l.length) (T3.mk (0 : Rat) (0 : Rat) (0 : Rat)))) rfl (ox_idx_s (T3.mk (0 : Rat) (0 : Rat) (0 : Rat)) ((i + 1) % l.length) Tryz.underlying36 ty33 rfl rfl rl (by first | rfl | (push_cast; rfl)) (by exact Nat.mod_lt _ (by omega)) (show 0 < 9 from by decide)) mem0 rfl ?_)))))
   intro v53 r53
   refine w_qx (F := fun v_ => (rpT (rpQ k)).Is mw v_ (l.getD ((i + 1) % l.length) (T3.mk (0 : Rat) (0 : Rat) (0 : Rat)))) rfl (yK ty33 rfl r53) mem0 rfl ?_
   intro v54 r54
   refine w_q rfl (fun h' L' hh hR => zF rfl) rfl (w_q rfl (fun h' L' hh hR => zF rfl) rfl (w_qx (F := fun v_ => AtP (rpT (rpQ k)) mw v_ (l.getD q (T3.mk (0 : Rat) (0 : Rat) (0 : Rat)))) rfl (ox_idx_s (T3.mk (0 : Rat) (0 : Rat) (0 : Rat)) q Tryz.underlying36 ty33 rfl rfl rl rfl (by omega) (show 0 < 9 from by decide)) mem0 rfl ?_))
   intro v57 r57
   refine w_qx (F := fun v_ => (rpT (rpQ k)).Is mw v_ (l.getD q (T3.mk (0 : Rat) (0 : Rat) (0 : Rat)))) rfl (yK ty33 rfl r57) mem0 rfl ?_
   intro v58 r58
   refine w_q rfl (fun h' L' hh hR => zF rfl) rfl (w_q rfl (fun h' L' hh hR => zF rfl) rfl (w_q rfl (fun h' L' hh hR => zV (q := 1) rfl rfl (by omega) (by omega)) rfl (w_q rfl (fun h' L' hh hR => zF rfl) rfl (w_q rfl (fun h' L' hh hR => ov_rem_i rfl rfl (by omega) (by omega)) rfl (w_qx (F := fun v_ => AtP (rpT (rpQ k)) mw v_ (l.getD ((q + 1) % l.length) (T3.mk (0 : Rat) (0 : Rat) (0 : Rat)))) rfl (ox_idx_s (T3.mk (0 : Rat) (0 : Rat) (0 : Rat)) ((q + 1) % l.length) Tryz.underlying36 ty33 rfl rfl rl (by first | rfl | (push_cast; rfl)) (by exact Nat.mod_lt _ (by omega)) (show 0 < 9 from by decide)) mem0 rfl ?_)))))
   intro v64 r64
   refine w_qx (F := fun v_ => (rpT (rpQ k)).Is mw v_ (l.getD ((q + 1) % l.length) (T3.mk (0 : Rat) (0 : Rat) (0 : Rat)))) rfl (yK ty33 rfl r64) mem0 rfl ?_
   intro v65 r65
   refine w_q rfl (fun h' L' hh hR => zF rfl) rfl ?_
   refine w_c rfl ?_
   refine yO (vs := [_, _, _, _]) Tryz.call51 ⟨rfl, rfl, rfl, rfl, trivial⟩ (fun w hs => o_r5_touch hs r47 r54 r58 r65 (by omega)) rfl ?_
   intro v66 h2 hh2 r66
   obtain rfl : v66 = vI (touchR (pr (l.getD i (T3.mk (0 : Rat) (0 : Rat) (0 : Rat))) 0 1) (pr (l.getD ((i + 1) % l.length) (T3.mk (0 : Rat) (0 : Rat) (0 : Rat))) 0 1) (pr (l.getD q (T3.mk (0 : Rat) (0 : Rat) (0 : Rat))) 0 1) (pr (l.getD ((q + 1) % l.length) (T3.mk (0 : Rat) (0 : Rat) (0 : Rat))) 0 1)) := r66
   refine w_q rfl (fun h' L' hh hR => ov_neq_i rfl rfl) rfl (w_nil (zL (e' := [(0, _), (3, _), (4, _), (5, _), (68, _)]) ⟨rfl, rfl, rfl, rfl, rfl, trivial⟩ (zB ?_)))
   refine zH rfl (fun hc68 => ?_) (fun hc68 => ?_)
   ·
    refine zC (zA (asg rfl rfl (zD (zB (zN (gr_in (zO (zO (gr_in (gr_in (zO (zO (gr_in ?_)))))))))))))
    refine zO (zW rfl rfl ?_)
    exact (yA (fun e => hc68 (ok_sym.2 (e.2.2 q i (by omega) (by omega) (by omega))))).symm
   refine zI (gq_in (zB (zA (mv rfl rfl (gv (zV (q := 1) rfl rfl (by omega) (by omega)) rfl (asg rfl rfl (zD ?_)))))))
   refine yJ ((q + 1), h2) ?_ ?_ ⟨rfl, rfl, rfl, rfl, trivial⟩ rfl rfl
   ·
    refine ⟨(((hmmq.trans hh1).trans hmmw).trans hh2), ?_⟩
    exact ⟨by omega, up_next hq2 ⟨fun e => hc29 e.symm, ok_sym.1 (Classical.not_not.1 hc68)⟩⟩
   dsimp only
   omega
  refine gc_exit (zZ (zZ (gx_here (gq_in (zB (zA (mv rfl rfl (gv (zV (q := 1) rfl rfl (by omega) (by omega)) rfl (asg rfl rfl (zD ?_))))))))))
  refine yJ ((i + 1), mq) ?_ ?_ ⟨rfl, rfl, rfl, trivial⟩ rfl rfl
  ·
   refine ⟨(hmmi.trans hmmq), ?_⟩
   exact ⟨by omega, top_next hi2 hq2 (by omega)⟩
  dsimp only
  omega
 have ei : i = l.length := by omega
 have hT := hi2
 rw [ei] at hT
 refine gc_exit (zZ (zZ (gx_here (zB (zC (zA (asg rfl rfl (zD (zB (zN (zW rfl rfl ?_)))))))))))
 exact (yI (sim_top (by omega) hT)).symm

end Go.Proofs.YtfpjclgbieppeaaGreat


namespace Bk
set_option linter.unusedVariables false
set_option linter.unusedSimpArgs false
open Classical
def cutsP (a b : List Pt) (i j p q : Nat) : Prop := 1 < touch2 (edgeA a i j p) (edgeB a i j p) (edgeA b i j q) (edgeB b i j q)
def crossesP (a b : List Pt) (i j : Nat) : Prop := ∃ p q, p < a.length ∧ q < b.length ∧ cutsP a b i j p q
theorem row_step {Q : Nat → Nat → Prop} {p q n : Nat} (h : ∀ v, v < q → ¬ Q p v) (h1 : ¬ Q p q) : ∀ v, v < q + 1 → ¬ Q p v := fun v hv => by
  rcases Nat.lt_succ_iff_lt_or_eq.1 hv with h2 | h2
  · exact h v h2
  · subst h2; exact h1
theorem one_step {Q : Nat → Prop} {q : Nat} (h : ∀ v, v < q → Q v) (h1 : Q q) : ∀ v, v < q + 1 → Q v := fun v hv => by
  rcases Nat.lt_succ_iff_lt_or_eq.1 hv with h2 | h2
  · exact h v h2
  · subst h2; exact h1
theorem rect_step {Q : Nat → Nat → Prop} {p q n : Nat} (h : ∀ u v, u < p → v < n → ¬ Q u v) (h1 : ∀ v, v < q → ¬ Q p v) (hq : n ≤ q) : ∀ u v, u < p + 1 → v < n → ¬ Q u v := fun u v hu hv => by
  rcases Nat.lt_succ_iff_lt_or_eq.1 hu with h2 | h2
  · exact h u v h2 hv
  · subst h2; exact h1 v (by omega)
theorem tri_step {Q : Nat → Nat → Prop} {p q : Nat} (h : ∀ u v, v < p → u < v → ¬ Q u v) (h1 : ∀ u, u < q → ¬ Q u p) (hq : p ≤ q) : ∀ u v, v < p + 1 → u < v → ¬ Q u v := fun u v hv hu => by
  rcases Nat.lt_succ_iff_lt_or_eq.1 hv with h2 | h2
  · exact h u v h2 hu
  · subst h2; exact h1 u (by omega)
noncomputable def mid2 (u v : P2) : P2 := (midQ u.1 v.1, midQ u.2 v.2)
theorem mid_pr {a b : Pt} {i j : Nat} (hi : i < 3) (hj : j < 3) : pr (T3.mk (midQ a.x b.x) (midQ a.y b.y) (midQ a.z b.z)) i j = mid2 (pr a i j) (pr b i j) := by
  have e : ∀ n, n < 3 → (T3.mk (midQ a.x b.x) (midQ a.y b.y) (midQ a.z b.z)).at n = midQ (a.at n) (b.at n) := by
    intro n hn
    rcases n with _ | _ | _ | n
    · rfl
    · rfl
    · rfl
    · omega
  unfold pr mid2
  rw [e i hi, e j hj]
noncomputable def withTo (c l : List Pt) (i j : Nat) : Nat → Int
  | 0 => 0
  | m + 1 => if insZ c (mid2 (edgeA l i j m) (edgeB l i j m)) i j = 1 then withTo c l i j m + 1 else withTo c l i j m
theorem with_range (c l : List Pt) (i j : Nat) : ∀ m, 0 ≤ withTo c l i j m ∧ withTo c l i j m ≤ m
  | 0 => by unfold withTo; omega
  | m + 1 => by
    have h := with_range c l i j m
    unfold withTo
    split <;> omega
theorem with_t {c l : List Pt} {i j m : Nat} {p : P2} (hp : p = mid2 (edgeA l i j m) (edgeB l i j m)) (h : insZ c p i j = 1) : withTo c l i j m + 1 = withTo c l i j (m + 1) := by subst hp; exact (if_pos h).symm
theorem with_f {c l : List Pt} {i j m : Nat} {p : P2} (hp : p = mid2 (edgeA l i j m) (edgeB l i j m)) (h : ¬ insZ c p i j = 1) : withTo c l i j m = withTo c l i j (m + 1) := by subst hp; exact (if_neg h).symm
def arZ (l : List Pt) (i j : Nat) : Rat := areaTo l i j l.length
noncomputable def wiZ (c l : List Pt) (i j : Nat) : Int := withTo c l i j l.length
abbrev gl (L : List (List Pt)) (m : Nat) : List Pt := L.getD m []
def betP (L : List (List Pt)) (i j k m : Nat) (best : Int) : Prop :=
  (0 < sgnQ (arZ (gl L m) i j) ∧ wiZ (gl L m) (gl L k) i j = ↑(gl L k).length) ∧ (best < 0 ∨ cmpQ (arZ (gl L m) i j) (arZ (gl L best.toNat) i j) < 0)
noncomputable def parTo (L : List (List Pt)) (i j k : Nat) : Nat → Int
  | 0 => -1
  | m + 1 => if betP L i j k m (parTo L i j k m) then ↑m else parTo L i j k m
theorem par_range (L : List (List Pt)) (i j k : Nat) : ∀ m, -1 ≤ parTo L i j k m ∧ parTo L i j k m < m
  | 0 => by unfold parTo; omega
  | m + 1 => by
    have h := par_range L i j k m
    unfold parTo
    split <;> omega
noncomputable def pZ (L : List (List Pt)) (i j k : Nat) : Int := if 0 < sgnQ (arZ (gl L k) i j) then -1 else parTo L i j k L.length
def sibP (L : List (List Pt)) (i j a b : Nat) : Prop := ((¬ b = a ∧ 0 ≤ pZ L i j a) ∧ pZ L i j b = pZ L i j a) ∧ 0 < wiZ (gl L b) (gl L a) i j
def lostP (L : List (List Pt)) (i j k : Nat) : Prop := ¬ 0 < sgnQ (arZ (gl L k) i j) ∧ parTo L i j k L.length < 0
noncomputable def nestE (L : List (List Pt)) (i j : Nat) : Int :=
  if 16 < L.length ∨ ∃ m, m < L.length ∧ 64 < (gl L m).length then 2
  else if ∃ m, m < L.length ∧ ¬ simP (gl L m) i j then 8
  else if ∃ a b, a < b ∧ b < L.length ∧ crossesP (gl L a) (gl L b) i j then 32
  else if (∃ k, k < L.length ∧ lostP L i j k) ∨ ∃ a b, a < L.length ∧ b < L.length ∧ sibP L i j a b then 33 else 0
noncomputable def nestL (L : List (List Pt)) (i j : Nat) : List Int := if nestE L i j = 0 then (List.range L.length).map (pZ L i j) else []
theorem nest_2 {L : List (List Pt)} {i j : Nat} (h : 16 < L.length ∨ ∃ m, m < L.length ∧ 64 < (gl L m).length) : nestE L i j = 2 ∧ nestL L i j = [] := by
  have e : nestE L i j = 2 := if_pos h
  exact ⟨e, if_neg (by rw [e]; decide)⟩
theorem nest_8 {L : List (List Pt)} {i j : Nat} (h1 : ¬ 16 < L.length) (h2 : ∀ m, m < L.length → ¬ 64 < (gl L m).length) (h : ∃ m, m < L.length ∧ ¬ simP (gl L m) i j) : nestE L i j = 8 ∧ nestL L i j = [] := by
  have e : nestE L i j = 8 := by
    unfold nestE
    rw [if_neg (by rintro (h | ⟨m, hm, h⟩); exact h1 h; exact h2 m hm h), if_pos h]
  exact ⟨e, if_neg (by rw [e]; decide)⟩
theorem nest_32 {L : List (List Pt)} {i j : Nat} (h1 : ¬ 16 < L.length) (h2 : ∀ m, m < L.length → ¬ 64 < (gl L m).length) (h3 : ∀ m, m < L.length → simP (gl L m) i j) (h : ∃ a b, a < b ∧ b < L.length ∧ crossesP (gl L a) (gl L b) i j) : nestE L i j = 32 ∧ nestL L i j = [] := by
  have e : nestE L i j = 32 := by
    unfold nestE
    rw [if_neg (by rintro (h | ⟨m, hm, h⟩); exact h1 h; exact h2 m hm h), if_neg (by rintro ⟨m, hm, h⟩; exact h (h3 m hm)), if_pos h]
  exact ⟨e, if_neg (by rw [e]; decide)⟩
theorem nest_33 {L : List (List Pt)} {i j : Nat} (h1 : ¬ 16 < L.length) (h2 : ∀ m, m < L.length → ¬ 64 < (gl L m).length) (h3 : ∀ m, m < L.length → simP (gl L m) i j) (h4 : ∀ a b, b < L.length → a < b → ¬ crossesP (gl L a) (gl L b) i j)
    (h : (∃ k, k < L.length ∧ lostP L i j k) ∨ ∃ a b, a < L.length ∧ b < L.length ∧ sibP L i j a b) : nestE L i j = 33 ∧ nestL L i j = [] := by
  have e : nestE L i j = 33 := by
    unfold nestE
    rw [if_neg (by rintro (h | ⟨m, hm, h⟩); exact h1 h; exact h2 m hm h), if_neg (by rintro ⟨m, hm, h⟩; exact h (h3 m hm)), if_neg (by rintro ⟨a, b, ha, hb, h⟩; exact h4 a b hb ha h), if_pos h]
  exact ⟨e, if_neg (by rw [e]; decide)⟩
theorem list_map {O : List Int} {n : Nat} {f : Nat → Int} (hl : O.length = n) (h : ∀ q, q < n → O.getD q 0 = f q) : O = (List.range n).map f := by
  refine List.ext_getElem (by simp [hl]) fun q h1 h2 => ?_
  have h3 := h q (by omega)
  rw [List.getD_eq_getElem?_getD, List.getElem?_eq_getElem h1] at h3
  simp only [Option.getD_some] at h3
  simp [h3]
theorem nest_0 {L : List (List Pt)} {i j : Nat} {O : List Int} (h1 : ¬ 16 < L.length) (h2 : ∀ m, m < L.length → ¬ 64 < (gl L m).length) (h3 : ∀ m, m < L.length → simP (gl L m) i j) (h4 : ∀ a b, b < L.length → a < b → ¬ crossesP (gl L a) (gl L b) i j)
    (h5 : ∀ k, k < L.length → ¬ lostP L i j k) (h6 : ∀ a b, a < L.length → b < L.length → ¬ sibP L i j a b) (hl : O.length = L.length) (hO : ∀ q, q < L.length → O.getD q 0 = pZ L i j q) : nestE L i j = 0 ∧ nestL L i j = O := by
  have e : nestE L i j = 0 := by
    unfold nestE
    rw [if_neg (by rintro (h | ⟨m, hm, h⟩); exact h1 h; exact h2 m hm h), if_neg (by rintro ⟨m, hm, h⟩; exact h (h3 m hm)), if_neg (by rintro ⟨a, b, ha, hb, h⟩; exact h4 a b hb ha h),
      if_neg (by rintro (⟨k, hk, h⟩ | ⟨a, b, ha, hb, h⟩); exact h5 k hk h; exact h6 a b ha hb h)]
  exact ⟨e, by unfold nestL; rw [if_pos e]; exact (list_map hl hO).symm⟩
theorem getD_set {α : Type} {l : List α} {k q : Nat} {x d : α} (hk : k < l.length) : (l.set k x).getD q d = if q = k then x else l.getD q d := by
  rw [List.getD_eq_getElem?_getD, List.getD_eq_getElem?_getD, List.getElem?_set]
  by_cases h : k = q
  · rw [if_pos h, if_pos hk, if_pos h.symm]; rfl
  · rw [if_neg h, if_neg (fun e => h e.symm)]
theorem set_next {α : Type} {l : List α} {k : Nat} {x d : α} {f : Nat → α} (hk : k < l.length) (h : ∀ q, q < k → l.getD q d = f q) (hx : x = f k) : ∀ q, q < k + 1 → (l.set k x).getD q d = f q := fun q hq => by
  rw [getD_set hk]
  split
  · rename_i e; rw [e, hx]
  · exact h q (by omega)
theorem set_keep {α : Type} {l : List α} {k : Nat} {x d : α} {f : Nat → α} (hk : k < l.length) (h : ∀ q, q < k → l.getD q d = f q) : ∀ q, q < k → (l.set k x).getD q d = f q := fun q hq => by
  rw [getD_set hk, if_neg (by omega)]
  exact h q hq
theorem set_at {α : Type} {l : List α} {k : Nat} {x d : α} (hk : k < l.length) : (l.set k x).getD k d = x := by rw [getD_set hk, if_pos rfl]
end Bk


namespace Go.Proofs.YtfpjclgbieppeaaGreat
open Bk Go
set_option linter.unusedVariables false
set_option linter.unusedSimpArgs false
set_option maxRecDepth 10000

theorem o_pl_crosses {w0 : World} {h0 : Mem}  (hs : MLe h0 (mem w0)) {k : Nat} {va : Value} {a : (List (T3 Rat))} (ra : (rpS (rpT (rpQ k))).Is h0 va a) {vb : Value} {b : (List (T3 Rat))} (rb : (rpS (rpT (rpQ k))).Is h0 vb b) {i : Nat} {j : Nat} (hcd0 : i < 3) (hcd1 : j < 3) (hcd2 : k ≤ 100000) (hcd3 : a.length ≤ 1000) (hcd4 : b.length ≤ 1000)  :
    Calls Tryz.prog 77 #[va, vb, vI ↑i, vI ↑j] w0 (Ret w0 h0 (fun _ r => r = vB (crossesP a b i j))) := by
 refine zR (n := 51) (e := [(0, va), (1, vb), (2, vI ↑i), (3, vI ↑j)]) (vs := [va, vb, vI ↑i, vI ↑j]) Tryz.func77 rfl rfl (Nat.le_of_ble_eq_true rfl) hs ⟨rfl, rfl, rfl, rfl, trivial⟩ (zC (zA (asg rfl rfl (zD (zB (zC (zC (zA (mv rfl rfl (gv (ov_len_sr Tryz.underlying36 rfl ra) rfl (mv (v := vI (0)) rfl rfl (zD (zB ?_)))))))))))))
 refine zQ ?_
 refine gc_loop (ι := Nat × Mem) (fun (p, mp) => MLe h0 mp ∧ (p ≤ a.length ∧ ∀ u v, u < p → v < b.length → ¬ cutsP a b i j u v)) (fun (p, mp) => [(0, va), (1, vb), (2, vI ↑i), (3, vI ↑j), (12, vI (↑(a).length : Int)), (13, vI ↑p)]) (fun (p, mp) => []) (fun (p, mp) => mp) (fun (p, mp) => a.length - p) (0, h0) ?_ ⟨rfl, rfl, rfl, rfl, rfl, rfl, trivial⟩ rfl rfl ?_
 ·
  refine ⟨MLe.refl _, ?_⟩
  exact ⟨by omega, fun u v h => by omega⟩
 intro x hx
 obtain ⟨p, mp⟩ := x
 obtain ⟨hmmp, hinv⟩ := hx
 show GC _ _ _ _ _ _ [(0, va), (1, vb), (2, vI ↑i), (3, vI ↑j), (12, vI (↑(a).length : Int)), (13, vI ↑p)] [] mp
 obtain ⟨hp1, hp2⟩ := hinv
 refine zC (zA (gv (yH rfl rfl) rfl (zD (zB (zC ?_)))))
 refine zH rfl (fun hc14 => ?_) (fun hc14 => ?_)
 ·
  refine zI (zB (zC (zQ (zC (zA (mv rfl rfl (asg rfl rfl (zD (zB (zC (zA (mv rfl rfl ?_))))))))))))
  replace rb := rb.mono hmmp
  refine gv (ov_len_sr Tryz.underlying36 rfl rb) rfl (mv (v := vI (0)) rfl rfl (zD (zB (zQ ?_))))
  refine gc_loop (ι := Nat × Mem) (fun (q, mq) => MLe mp mq ∧ (q ≤ b.length ∧ ∀ v, v < q → ¬ cutsP a b i j p v)) (fun (q, mq) => [(0, va), (1, vb), (2, vI ↑i), (3, vI ↑j), (9, vI ↑p), (12, vI (↑(a).length : Int)), (13, vI ↑p), (17, vI (↑(b).length : Int)), (18, vI ↑q)]) (fun (q, mq) => []) (fun (q, mq) => mq) (fun (q, mq) => b.length - q) (0, mp) ?_ ⟨rfl, rfl, rfl, rfl, rfl, rfl, rfl, rfl, rfl, trivial⟩ rfl rfl ?_
  ·
   refine ⟨MLe.refl _, ?_⟩
   exact ⟨by omega, fun v h => by omega⟩
  intro x hx
  obtain ⟨q, mq⟩ := x
  obtain ⟨hmmq, hinv⟩ := hx
  show GC _ _ _ _ _ _ [(0, va), (1, vb), (2, vI ↑i), (3, vI ↑j), (9, vI ↑p), (12, vI (↑(a).length : Int)), (13, vI ↑p), (17, vI (↑(b).length : Int)), (18, vI ↑q)] [] mq
  obtain ⟨hq1, hq2⟩ := hinv
  refine zC (zA (gv (yH rfl rfl) rfl (zD (zB (zC ?_)))))
  refine zH rfl (fun hc19 => ?_) (fun hc19 => ?_)
  ·
   refine zI (zB (zC (zQ (zC (zA (mv rfl rfl (asg rfl rfl (zD (zB (zC ?_))))))))))
   refine gc_draw 28 _ [] [(0, .q), (1, .q), (2, .q), (3, .q), (4, .q), (5, .q), (6, .q), (7, .q), (8, .q), (9, .q), (10, .q), (11, .q), (12, .q), (13, .q), (14, .q), (15, .q), (16, .q), (17, .q), (18, .q), (19, .q), (20, .q), (21, .q), (22, .q), (23, .q), (24, .q), (25, .q), (26, .c), (27, .q)] mixed (fun x hx => by cases hx) (chk_of [0, 0, 3, 4, 0, 0, 32, 0, 128, 320, 528, 1024, 0, 0, 12288, 16384, 0, 0, 131072, 0, 524288, 1310720, 2162688, 4194304, 0, 0, 58755080, 67108864] [268435455, 268435455, 268435452, 268435451, 268435455, 268435455, 268435423, 268435455, 268435327, 268435135, 268434927, 268434431, 268435455, 268435455, 268423167, 268419071, 268435455, 268435455, 268304383, 268435455, 267911167, 267124735, 266272767, 264241151, 268435455, 268435455, 209680375, 201326591] (by kernel_rfl)) (fun x hx => by cases hx) (fun r hr => hr) (w_q rfl (fun h' L' hh hR => zF rfl) rfl (w_q rfl (fun h' L' hh hR => zF rfl) rfl ?_))
   replace ra := ra.mono (hmmp.trans hmmq)
   refine w_qx (F := fun v_ => AtP (rpT (rpQ k)) mq v_ (a.getD p (T3.mk (0 : Rat) (0 : Rat) (0 : Rat)))) rfl (ox_idx_s (T3.mk (0 : Rat) (0 : Rat) (0 : Rat)) p Tryz.underlying36 ty33 rfl rfl ra rfl (by omega) (show 0 < 9 from by decide)) mem0 rfl ?_
   intro v23 r23
   refine w_qx (F := fun v_ => (rpT (rpQ k)).Is mq v_ (a.getD p (T3.mk (0 : Rat) (0 : Rat) (0 : Rat)))) rfl (yK ty33 rfl r23) mem0 rfl ?_
   intro v24 r24
   refine w_q rfl (fun h' L' hh hR => zF rfl) rfl (w_q rfl (fun h' L' hh hR => zF rfl) rfl (w_q rfl (fun h' L' hh hR => zV (q := 1) rfl rfl (by omega) (by omega)) rfl (w_q rfl (fun h' L' hh hR => zF rfl) rfl (w_q rfl (fun h' L' hh hR => ov_len_sr Tryz.underlying36 rfl (ra.mono hh)) rfl (w_q rfl (fun h' L' hh hR => ov_rem_i rfl rfl (by omega) (by omega)) rfl (w_qx (F := fun v_ => AtP (rpT (rpQ k)) mq v_ (a.getD ((p + 1) % a.length) (T3.mk (0 : Rat) (0 : Rat) (0 : Rat)))) rfl (ox_idx_s (T3.mk (0 : Rat) (0 : Rat) (0 : Rat)) ((p + 1) % a.length) Tryz.underlying36 ty33 rfl rfl ra (by first | rfl | (push_cast; rfl)) (by exact Nat.mod_lt _ (by omega)) (show 0 < 9 from by decide)) mem0 rfl ?_))))))
   intro v31 r31
   refine w_qx (F := fun v_ => (rpT (rpQ k)).Is mq v_ (a.getD ((p + 1) % a.length) (T3.mk (0 : Rat) (0 : Rat) (0 : Rat)))) rfl (yK ty33 rfl r31) mem0 rfl ?_
   intro v32 r32
   refine w_q rfl (fun h' L' hh hR => zF rfl) rfl (w_q rfl (fun h' L' hh hR => zF rfl) rfl ?_)
   replace rb := rb.mono hmmq
   refine w_qx (F := fun v_ => AtP (rpT (rpQ k)) mq v_ (b.getD q (T3.mk (0 : Rat) (0 : Rat) (0 : Rat)))) rfl (ox_idx_s (T3.mk (0 : Rat) (0 : Rat) (0 : Rat)) q Tryz.underlying36 ty33 rfl rfl rb rfl (by omega) (show 0 < 9 from by decide)) mem0 rfl ?_
   intro v35 r35
   refine w_qx (F := fun v_ => (rpT (rpQ k)).Is mq v_ (b.getD q (T3.mk (0 : Rat) (0 : Rat) (0 : Rat)))) rfl (yK ty33 rfl r35) mem0 rfl ?_
   intro v36 r36
   refine w_q rfl (fun h' L' hh hR => zF rfl) rfl (w_q rfl (fun h' L' hh hR => zF rfl) rfl (w_q rfl (fun h' L' hh hR => zV (q := 1) rfl rfl (by omega) (by omega)) rfl (w_q rfl (fun h' L' hh hR => zF rfl) rfl (w_q rfl (fun h' L' hh hR => ov_len_sr Tryz.underlying36 rfl (rb.mono hh)) rfl (w_q rfl (fun h' L' hh hR => ov_rem_i rfl rfl (by omega) (by omega)) rfl (w_qx (F := fun v_ => AtP (rpT (rpQ k)) mq v_ (b.getD ((q + 1) % b.length) (T3.mk (0 : Rat) (0 : Rat) (0 : Rat)))) rfl (ox_idx_s (T3.mk (0 : Rat) (0 : Rat) (0 : Rat)) ((q + 1) % b.length) Tryz.underlying36 ty33 rfl rfl rb (by first | rfl | (push_cast; rfl)) (by exact Nat.mod_lt _ (by omega)) (show 0 < 9 from by decide)) mem0 rfl ?_))))))
   intro v43 r43
   refine w_qx (F := fun v_ => (rpT (rpQ k)).Is mq v_ (b.getD ((q + 1) % b.length) (T3.mk (0 : Rat) (0 : Rat) (0 : Rat)))) rfl (yK ty33 rfl r43) mem0 rfl ?_
   intro v44 r44
   refine w_q rfl (fun h' L' hh hR => zF rfl) rfl (w_q rfl (fun h' L' hh hR => zF rfl) rfl ?_)
   refine w_c rfl ?_
   refine yO (vs := [_, _, _, _, _, _]) Tryz.call59 ⟨rfl, rfl, rfl, rfl, rfl, rfl, trivial⟩ (fun w hs => o_pl_touch (i := i) (j := j) hs r24 r32 r36 r44 (by omega) (by omega) (by omega)) rfl ?_
   intro v47 h1 hh1 r47
   obtain rfl : v47 = vI (touch2 (pr (a.getD p (T3.mk (0 : Rat) (0 : Rat) (0 : Rat))) i j) (pr (a.getD ((p + 1) % a.length) (T3.mk (0 : Rat) (0 : Rat) (0 : Rat))) i j) (pr (b.getD q (T3.mk (0 : Rat) (0 : Rat) (0 : Rat))) i j) (pr (b.getD ((q + 1) % b.length) (T3.mk (0 : Rat) (0 : Rat) (0 : Rat))) i j)) := r47
   have htr47 := touch_range (pr (a.getD p (T3.mk (0 : Rat) (0 : Rat) (0 : Rat))) i j) (pr (a.getD ((p + 1) % a.length) (T3.mk (0 : Rat) (0 : Rat) (0 : Rat))) i j) (pr (b.getD q (T3.mk (0 : Rat) (0 : Rat) (0 : Rat))) i j) (pr (b.getD ((q + 1) % b.length) (T3.mk (0 : Rat) (0 : Rat) (0 : Rat))) i j)
   refine w_q rfl (fun h' L' hh hR => ov_gtr_i (q := 1) rfl rfl) rfl (w_nil (zL (e' := [(0, _), (1, _), (2, _), (3, _), (9, _), (12, _), (13, _), (17, _), (18, _), (48, _)]) ⟨rfl, rfl, rfl, rfl, rfl, rfl, rfl, rfl, rfl, rfl, trivial⟩ (zB ?_)))
   refine zH rfl (fun hc48 => ?_) (fun hc48 => ?_)
   ·
    refine gc_keep (e' := []) trivial (zC (zA (asg rfl rfl (zD (zB (zN (gr_in (zO (zO (gr_in (gr_in (zO (zO ?_)))))))))))))
    refine gr_in (zO (zW rfl rfl ?_))
    exact (yI ⟨p, q, by omega, by omega, hc48⟩).symm
   refine zI (gq_in (zB (zA (gv (zV (q := 1) rfl rfl (by omega) (by omega)) rfl (mv rfl rfl (zD ?_))))))
   refine yJ ((q + 1), h1) ?_ ?_ ⟨rfl, rfl, rfl, rfl, rfl, rfl, rfl, rfl, rfl, trivial⟩ rfl rfl
   ·
    refine ⟨(hmmq.trans hh1), ?_⟩
    exact ⟨by omega, row_step (n := 0) (Q := cutsP a b i j) hq2 (fun e => hc48 e)⟩
   dsimp only
   omega
  refine gc_exit (zZ (zZ (gx_here (gq_in (zB (zA (gv (zV (q := 1) rfl rfl (by omega) (by omega)) rfl (mv rfl rfl (zD ?_)))))))))
  refine yJ ((p + 1), mq) ?_ ?_ ⟨rfl, rfl, rfl, rfl, rfl, rfl, trivial⟩ rfl rfl
  ·
   refine ⟨(hmmp.trans hmmq), ?_⟩
   exact ⟨by omega, rect_step hp2 hq2 (by omega)⟩
  dsimp only
  omega
 refine gc_exit (zZ (zZ (gx_here (zB (zC (zA (asg rfl rfl (zD (zB (zN (zW rfl rfl ?_)))))))))))
 exact (yA (fun ⟨u, v, h1, h2, h3⟩ => hp2 u v (by omega) h2 h3)).symm

theorem o_pl_within {w0 : World} {h0 : Mem}  (hs : MLe h0 (mem w0)) {k : Nat} {va : Value} {a : (List (T3 Rat))} (ra : (rpS (rpT (rpQ k))).Is h0 va a) {vb : Value} {b : (List (T3 Rat))} (rb : (rpS (rpT (rpQ k))).Is h0 vb b) {i : Nat} {j : Nat} (hcd0 : i < 3) (hcd1 : j < 3) (hcd2 : k ≤ 10000) (hcd3 : a.length ≤ 1000) (hcd4 : b.length ≤ 1000)  :
    Calls Tryz.prog 79 #[va, vb, vI ↑i, vI ↑j] w0 (Ret w0 h0 (fun _ r => r = vI (wiZ a b i j))) := by
 refine zR (n := 53) (e := [(0, va), (1, vb), (2, vI ↑i), (3, vI ↑j)]) (vs := [va, vb, vI ↑i, vI ↑j]) Tryz.func79 rfl rfl (Nat.le_of_ble_eq_true rfl) hs ⟨rfl, rfl, rfl, rfl, trivial⟩ (zC (zA (asg (v := vI (0)) rfl rfl (zD (zB (zC (zA (asg (v := vI (0)) rfl rfl (zD (zB (zC (zC (zA ?_)))))))))))))
 refine mv rfl rfl (gv (ov_len_sr Tryz.underlying36 rfl rb) rfl (mv (v := vI (0)) rfl rfl (zD (zB (zQ ?_)))))
 refine gc_loop (ι := Nat × Mem) (fun (m, ma) => MLe h0 ma ∧ (m ≤ b.length)) (fun (m, ma) => [(0, va), (1, vb), (2, vI ↑i), (3, vI ↑j), (9, vI (withTo a b i j m)), (15, vb), (16, vI (↑(b).length : Int)), (17, vI ↑m)]) (fun (m, ma) => []) (fun (m, ma) => ma) (fun (m, ma) => b.length - m) (0, h0) ?_ ⟨rfl, rfl, rfl, rfl, rfl, rfl, rfl, rfl, trivial⟩ rfl rfl ?_
 ·
  refine ⟨MLe.refl _, ?_⟩
  exact (by omega)
 intro x hx
 obtain ⟨m, ma⟩ := x
 obtain ⟨hmma, hinv⟩ := hx
 show GC _ _ _ _ _ _ [(0, va), (1, vb), (2, vI ↑i), (3, vI ↑j), (9, vI (withTo a b i j m)), (15, vb), (16, vI (↑(b).length : Int)), (17, vI ↑m)] [] ma
 have hm1 := hinv
 have hwr := with_range a b i j m
 refine zC (zA (gv (yH rfl rfl) rfl (zD (zB (zC ?_)))))
 refine zH rfl (fun hc18 => ?_) (fun hc18 => ?_)
 ·
  refine zI (zB (zC (zQ (zC (zA (mv rfl rfl ?_))))))
  replace rb := rb.mono hmma
  refine gl_x (F := fun v_ => AtP (rpT (rpQ k)) ma v_ (b.getD m (T3.mk (0 : Rat) (0 : Rat) (0 : Rat)))) (ox_idx_s (T3.mk (0 : Rat) (0 : Rat) (0 : Rat)) m Tryz.underlying36 ty33 rfl rfl rb rfl (by omega) (show 0 < 9 from by decide)) mem0 rfl ?_
  intro v20 r20
  refine gl_x (F := fun v_ => (rpT (rpQ k)).Is ma v_ (b.getD m (T3.mk (0 : Rat) (0 : Rat) (0 : Rat)))) (yK ty33 rfl r20) mem0 rfl ?_
  intro v21 r21
  refine zP (new_allocx (ρ := (rpT (rpQ (k + 1)))) (X := (T3.mk (0 : Rat) (0 : Rat) (0 : Rat))) info33 rfl rfl (zr_t (zr_q (by omega)))) rfl rfl rfl ?_
  intro v11 q11 hq11
  obtain ⟨b11, cs11, rfl, rfl, rb11⟩ := hq11
  refine asg rfl rfl (gl_updx (A := []) (F := fun c_ => (rpT (rpQ (k + 1))).R ma c_ (b.getD m (T3.mk (0 : Rat) (0 : Rat) (0 : Rat)))) (upd_box Tryz.sizeOf33 (Pc.here _) rfl rfl rfl rb11 (r21.le (Le.t (Le.q (l := k + 1) (by omega)))) rfl) ?_)
  intro cs_1 rb_2
  refine zD (zB (zC (zA (mv rfl rfl (mv rfl rfl (gv (zV (q := 1) rfl rfl (by omega) (by omega)) rfl (mv rfl rfl (gv (ov_len_sr Tryz.underlying36 rfl rb) rfl (gv (ov_rem_i rfl rfl (by omega) (by omega)) rfl (gl_x (F := fun v_ => AtP (rpT (rpQ k)) ma v_ (b.getD ((m + 1) % b.length) (T3.mk (0 : Rat) (0 : Rat) (0 : Rat)))) (ox_idx_s (T3.mk (0 : Rat) (0 : Rat) (0 : Rat)) ((m + 1) % b.length) Tryz.underlying36 ty33 rfl rfl rb (by first | rfl | (push_cast; rfl)) (by exact Nat.mod_lt _ (by omega)) (show 0 < 9 from by decide)) mem0 rfl ?_))))))))))
  intro v28 r28
  refine gl_x (F := fun v_ => (rpT (rpQ k)).Is ma v_ (b.getD ((m + 1) % b.length) (T3.mk (0 : Rat) (0 : Rat) (0 : Rat)))) (yK ty33 rfl r28) mem0 rfl ?_
  intro v29 r29
  refine zP (new_allocx (ρ := (rpT (rpQ (k + 1)))) (X := (T3.mk (0 : Rat) (0 : Rat) (0 : Rat))) info33 rfl rfl (zr_t (zr_q (by omega)))) rfl rfl rfl ?_
  intro v12 q12 hq12
  obtain ⟨b12, cs12, rfl, rfl, rb12⟩ := hq12
  refine gl_updx (A := []) (F := fun c_ => (rpT (rpQ (k + 1))).R ma c_ (b.getD ((m + 1) % b.length) (T3.mk (0 : Rat) (0 : Rat) (0 : Rat)))) (upd_box Tryz.sizeOf33 (Pc.here _) rfl rfl rfl rb12 (r29.le (Le.t (Le.q (l := k + 1) (by omega)))) rfl) ?_
  intro cs_3 rb_4
  refine zD (zL (e' := [(0, _), (1, _), (2, _), (3, _), (9, _), (15, _), (16, _), (17, _), (11, _), (12, _)]) ⟨rfl, rfl, rfl, rfl, rfl, rfl, rfl, rfl, rfl, rfl, trivial⟩ (zB (zC (zA (zP (new_allocx (ρ := (rpT (rpQ (2 * k + 4)))) (X := (T3.mk (0 : Rat) (0 : Rat) (0 : Rat))) info33 rfl rfl (zr_t (zr_q (by omega)))) rfl rfl rfl ?_)))))
  intro v13 q13 hq13
  obtain ⟨b13, cs13, rfl, rfl, rb13⟩ := hq13
  refine zD (zB (zC (zC (zA (mv (v := vI (0)) rfl rfl (zD (zB (zQ (gc_loop1 (zC (zA (gv (OpV.tr (by decide) (yH (q := 3) rfl rfl)) rfl (zD ?_)))))))))))))
  refine zB (zC (gc_cond_t rfl (zI (zB (zC (zQ (zC (zA (mv rfl rfl (asg rfl rfl (zD (zB ?_))))))))))))
  refine gc_draw1 (A := []) 9 [] [(0, .q), (1, .q), (2, .q), (3, .q), (4, .q), (5, .q), (6, .q), (7, .c), (8, .q), (9, .t)] mixed (fun x hx => by cases hx) (by kernel_rfl) (fun x hx => by cases hx) (w_q rfl (fun h' L' hh hR => zF rfl) rfl (w_q rfl (fun h' L' hh hR => zF rfl) rfl (w_q rfl (fun h' L' hh hR => (zY (sz := 3) 0 Tryz.underlying33 Tryz.sizeOf31 rfl rfl rfl (by decide)).cv (show _ = vP b11 0 from congrArg (vP b11) (by rfl))) rfl (w_qx (F := fun v_ => (rpQ (k + 1)).Is ma v_ ((b.getD m (T3.mk (0 : Rat) (0 : Rat) (0 : Rat))).x)) rfl (zE ty31 (Pc.tx (Pc.here _)) rfl rfl rb_2 rfl) (mem1 (.tail _ (.head _))) rfl ?_))))
  intro v36u1 r36u1
  refine w_q rfl (fun h' L' hh hR => zF rfl) rfl (w_q rfl (fun h' L' hh hR => (zY (sz := 3) 0 Tryz.underlying33 Tryz.sizeOf31 rfl rfl rfl (by decide)).cv (show _ = vP b12 0 from congrArg (vP b12) (by rfl))) rfl (w_qx (F := fun v_ => (rpQ (k + 1)).Is ma v_ ((b.getD ((m + 1) % b.length) (T3.mk (0 : Rat) (0 : Rat) (0 : Rat))).x)) rfl (zE ty31 (Pc.tx (Pc.here _)) rfl rfl rb_4 rfl) (mem1 (.head _)) rfl ?_))
  intro v39u1 r39u1
  refine w_c rfl ?_
  refine yO (vs := [_, _]) Tryz.call100 ⟨rfl, rfl, trivial⟩ (fun w hs => o_rat_mid hs r36u1 r39u1 (by omega)) rfl ?_
  intro v40u1 h1 hh1 r40u1
  change (rpQ ((k + 1) + (k + 1) + 2)).Is h1 v40u1 (midQ ((b.getD m (T3.mk (0 : Rat) (0 : Rat) (0 : Rat))).x) ((b.getD ((m + 1) % b.length) (T3.mk (0 : Rat) (0 : Rat) (0 : Rat))).x)) at r40u1
  replace r40u1 := Rp.Is.le r40u1 (Le.q (l := 2 * k + 4) (by omega))
  refine w_q rfl (fun h' L' hh hR => (zY (sz := 3) 0 Tryz.underlying33 Tryz.sizeOf31 rfl rfl rfl (by decide)).cv (show _ = vP b13 0 from congrArg (vP b13) (by rfl))) rfl ?_
  replace rb13 := rb13.mono hh1
  refine w_tx_upd (A := []) (F := fun c_ => (rpT (rpQ (2 * k + 4))).R h1 c_ (T3.mk (midQ ((b.getD m (T3.mk (0 : Rat) (0 : Rat) (0 : Rat))).x) ((b.getD ((m + 1) % b.length) (T3.mk (0 : Rat) (0 : Rat) (0 : Rat))).x)) (0 : Rat) (0 : Rat))) rfl (upd_box Tryz.sizeOf31 (Pc.tx (Pc.here _)) rfl rfl rfl rb13 r40u1 rfl) ?_
  intro cs_5 rb_6
  refine w_nil (gq_in (zL (e' := [(0, _), (1, _), (2, _), (3, _), (9, _), (15, _), (16, _), (17, _), (11, _), (12, _), (13, _), (30, _)]) ⟨rfl, rfl, rfl, rfl, rfl, rfl, rfl, rfl, rfl, rfl, rfl, rfl, trivial⟩ (zB (zA (gv ((zV (q := 1) rfl rfl (by omega) (by omega)).cv (show _ = vI (1) from rfl)) rfl (mv rfl rfl (zD (gq_loop1 (zC (zA (gv (OpV.tr (by decide) (yH (q := 3) rfl rfl)) rfl (zD (zB ?_)))))))))))))
  refine zC (gc_cond_t rfl (zI (zB (zC (zQ (zC (zA (mv rfl rfl (asg rfl rfl (zD (zB ?_)))))))))))
  refine gc_draw1 (A := []) 9 [] [(0, .q), (1, .q), (2, .q), (3, .q), (4, .q), (5, .q), (6, .q), (7, .c), (8, .q), (9, .t)] mixed (fun x hx => by cases hx) (by kernel_rfl) (fun x hx => by cases hx) (w_q rfl (fun h' L' hh hR => zF rfl) rfl (w_q rfl (fun h' L' hh hR => zF rfl) rfl (w_q rfl (fun h' L' hh hR => (zY (sz := 3) 1 Tryz.underlying33 Tryz.sizeOf31 rfl rfl rfl (by decide)).cv (show _ = vP b11 3 from congrArg (vP b11) (by rfl))) rfl ?_)))
  replace rb_2 := rb_2.mono hh1
  refine w_qx (F := fun v_ => (rpQ (k + 1)).Is h1 v_ ((b.getD m (T3.mk (0 : Rat) (0 : Rat) (0 : Rat))).y)) rfl (zE ty31 (Pc.ty (Pc.here _)) rfl rfl rb_2 rfl) (mem1 (.tail _ (.head _))) rfl ?_
  intro v36u2 r36u2
  refine w_q rfl (fun h' L' hh hR => zF rfl) rfl (w_q rfl (fun h' L' hh hR => (zY (sz := 3) 1 Tryz.underlying33 Tryz.sizeOf31 rfl rfl rfl (by decide)).cv (show _ = vP b12 3 from congrArg (vP b12) (by rfl))) rfl ?_)
  replace rb_4 := rb_4.mono hh1
  refine w_qx (F := fun v_ => (rpQ (k + 1)).Is h1 v_ ((b.getD ((m + 1) % b.length) (T3.mk (0 : Rat) (0 : Rat) (0 : Rat))).y)) rfl (zE ty31 (Pc.ty (Pc.here _)) rfl rfl rb_4 rfl) (mem1 (.head _)) rfl ?_
  intro v39u2 r39u2
  refine w_c rfl ?_
  refine yO (vs := [_, _]) Tryz.call100 ⟨rfl, rfl, trivial⟩ (fun w hs => o_rat_mid hs r36u2 r39u2 (by omega)) rfl ?_
  intro v40u2 h2 hh2 r40u2
  change (rpQ ((k + 1) + (k + 1) + 2)).Is h2 v40u2 (midQ ((b.getD m (T3.mk (0 : Rat) (0 : Rat) (0 : Rat))).y) ((b.getD ((m + 1) % b.length) (T3.mk (0 : Rat) (0 : Rat) (0 : Rat))).y)) at r40u2
  replace r40u2 := Rp.Is.le r40u2 (Le.q (l := 2 * k + 4) (by omega))
  refine w_q rfl (fun h' L' hh hR => (zY (sz := 3) 1 Tryz.underlying33 Tryz.sizeOf31 rfl rfl rfl (by decide)).cv (show _ = vP b13 3 from congrArg (vP b13) (by rfl))) rfl ?_
  replace rb_6 := rb_6.mono hh2
  refine w_tx_upd (A := []) (F := fun c_ => (rpT (rpQ (2 * k + 4))).R h2 c_ (T3.mk (midQ ((b.getD m (T3.mk (0 : Rat) (0 : Rat) (0 : Rat))).x) ((b.getD ((m + 1) % b.length) (T3.mk (0 : Rat) (0 : Rat) (0 : Rat))).x)) (midQ ((b.getD m (T3.mk (0 : Rat) (0 : Rat) (0 : Rat))).y) ((b.getD ((m + 1) % b.length) (T3.mk (0 : Rat) (0 : Rat) (0 : Rat))).y)) (0 : Rat))) rfl (upd_box Tryz.sizeOf31 (Pc.ty (Pc.here _)) rfl rfl rfl rb_6 r40u2 rfl) ?_
  intro cs_7 rb_8
  refine w_nil (gq_in (zL (e' := [(0, _), (1, _), (2, _), (3, _), (9, _), (15, _), (16, _), (17, _), (11, _), (12, _), (13, _), (30, _)]) ⟨rfl, rfl, rfl, rfl, rfl, rfl, rfl, rfl, rfl, rfl, rfl, rfl, trivial⟩ (zB (zA (gv ((zV (q := 1) rfl rfl (by omega) (by omega)).cv (show _ = vI (2) from rfl)) rfl (mv rfl rfl (zD (gq_loop1 (zC (zA (gv (OpV.tr (by decide) (yH (q := 3) rfl rfl)) rfl (zD (zB ?_)))))))))))))
  refine zC (gc_cond_t rfl (zI (zB (zC (zQ (zC (zA (mv rfl rfl (asg rfl rfl (zD (zB ?_)))))))))))
  refine gc_draw1 (A := []) 9 [] [(0, .q), (1, .q), (2, .q), (3, .q), (4, .q), (5, .q), (6, .q), (7, .c), (8, .q), (9, .t)] mixed (fun x hx => by cases hx) (by kernel_rfl) (fun x hx => by cases hx) (w_q rfl (fun h' L' hh hR => zF rfl) rfl (w_q rfl (fun h' L' hh hR => zF rfl) rfl (w_q rfl (fun h' L' hh hR => (zY (sz := 3) 2 Tryz.underlying33 Tryz.sizeOf31 rfl rfl rfl (by decide)).cv (show _ = vP b11 6 from congrArg (vP b11) (by rfl))) rfl ?_)))
  replace rb_2 := rb_2.mono hh2
  refine w_qx (F := fun v_ => (rpQ (k + 1)).Is h2 v_ ((b.getD m (T3.mk (0 : Rat) (0 : Rat) (0 : Rat))).z)) rfl (zE ty31 (Pc.tz (Pc.here _)) rfl rfl rb_2 rfl) (mem1 (.tail _ (.head _))) rfl ?_
  intro v36u3 r36u3
  refine w_q rfl (fun h' L' hh hR => zF rfl) rfl (w_q rfl (fun h' L' hh hR => (zY (sz := 3) 2 Tryz.underlying33 Tryz.sizeOf31 rfl rfl rfl (by decide)).cv (show _ = vP b12 6 from congrArg (vP b12) (by rfl))) rfl ?_)
  replace rb_4 := rb_4.mono hh2
  refine w_qx (F := fun v_ => (rpQ (k + 1)).Is h2 v_ ((b.getD ((m + 1) % b.length) (T3.mk (0 : Rat) (0 : Rat) (0 : Rat))).z)) rfl (zE ty31 (Pc.tz (Pc.here _)) rfl rfl rb_4 rfl) (mem1 (.head _)) rfl ?_
  intro v39u3 r39u3
  refine w_c rfl ?_
  refine yO (vs := [_, _]) Tryz.call100 ⟨rfl, rfl, trivial⟩ (fun w hs => o_rat_mid hs r36u3 r39u3 (by omega)) rfl ?_
  intro v40u3 h3 hh3 r40u3
  change (rpQ ((k + 1) + (k + 1) + 2)).Is h3 v40u3 (midQ ((b.getD m (T3.mk (0 : Rat) (0 : Rat) (0 : Rat))).z) ((b.getD ((m + 1) % b.length) (T3.mk (0 : Rat) (0 : Rat) (0 : Rat))).z)) at r40u3
  replace r40u3 := Rp.Is.le r40u3 (Le.q (l := 2 * k + 4) (by omega))
  refine w_q rfl (fun h' L' hh hR => (zY (sz := 3) 2 Tryz.underlying33 Tryz.sizeOf31 rfl rfl rfl (by decide)).cv (show _ = vP b13 6 from congrArg (vP b13) (by rfl))) rfl ?_
  replace rb_8 := rb_8.mono hh3
  refine w_tx_upd (A := []) (F := fun c_ => (rpT (rpQ (2 * k + 4))).R h3 c_ (T3.mk (midQ ((b.getD m (T3.mk (0 : Rat) (0 : Rat) (0 : Rat))).x) ((b.getD ((m + 1) % b.length) (T3.mk (0 : Rat) (0 : Rat) (0 : Rat))).x)) (midQ ((b.getD m (T3.mk (0 : Rat) (0 : Rat) (0 : Rat))).y) ((b.getD ((m + 1) % b.length) (T3.mk (0 : Rat) (0 : Rat) (0 : Rat))).y)) (midQ ((b.getD m (T3.mk (0 : Rat) (0 : Rat) (0 : Rat))).z) ((b.getD ((m + 1) % b.length) (T3.mk (0 : Rat) (0 : Rat) (0 : Rat))).z)))) rfl (upd_box Tryz.sizeOf31 (Pc.tz (Pc.here _)) rfl rfl rfl rb_8 r40u3 rfl) ?_
  intro cs_9 rb_10
  refine w_nil (gq_in (zL (e' := [(0, _), (1, _), (2, _), (3, _), (9, _), (15, _), (16, _), (17, _), (11, _), (12, _), (13, _), (30, _)]) ⟨rfl, rfl, rfl, rfl, rfl, rfl, rfl, rfl, rfl, rfl, rfl, rfl, trivial⟩ (zB (zA (gv ((zV (q := 1) rfl rfl (by omega) (by omega)).cv (show _ = vI (3) from rfl)) rfl (mv rfl rfl (zD (gq_loop1 (zC (zA (gv (OpV.fa (by decide) (yH (q := 3) rfl rfl)) rfl (zD (zB ?_)))))))))))))
  refine zC (gc_cond_f rfl (gc_exit (zZ (zZ (gx_here (zB (zC (zA (mv rfl rfl (gl_x (F := fun v_ => (rpT (rpQ (2 * k + 4))).Is h3 v_ (T3.mk (midQ ((b.getD m (T3.mk (0 : Rat) (0 : Rat) (0 : Rat))).x) ((b.getD ((m + 1) % b.length) (T3.mk (0 : Rat) (0 : Rat) (0 : Rat))).x)) (midQ ((b.getD m (T3.mk (0 : Rat) (0 : Rat) (0 : Rat))).y) ((b.getD ((m + 1) % b.length) (T3.mk (0 : Rat) (0 : Rat) (0 : Rat))).y)) (midQ ((b.getD m (T3.mk (0 : Rat) (0 : Rat) (0 : Rat))).z) ((b.getD ((m + 1) % b.length) (T3.mk (0 : Rat) (0 : Rat) (0 : Rat))).z)))) (zE ty33 (Pc.here _) rfl rfl rb_10 rfl) (mem1 (.head _)) rfl ?_))))))))))
  intro v44u4 r44u4
  refine mv rfl rfl (mv rfl rfl ?_)
  replace ra := ra.mono (((hmma.trans hh1).trans hh2).trans hh3)
  refine zJ (vs := [_, _, _, _]) rfl rfl rfl rfl Tryz.call41 ⟨rfl, rfl, rfl, rfl, trivial⟩ (fun w hs => o_pl_inside (i := i) (j := j) hs (ra.le (Le.s (Le.t (Le.q (l := 2 * k + 4) (by omega))))) r44u4 (by omega) (by omega) (by omega) (by omega)) ?_
  intro v47u4 h4 hh4 r47u4
  obtain rfl : v47u4 = vI (insZ a (pr (T3.mk (midQ ((b.getD m (T3.mk (0 : Rat) (0 : Rat) (0 : Rat))).x) ((b.getD ((m + 1) % b.length) (T3.mk (0 : Rat) (0 : Rat) (0 : Rat))).x)) (midQ ((b.getD m (T3.mk (0 : Rat) (0 : Rat) (0 : Rat))).y) ((b.getD ((m + 1) % b.length) (T3.mk (0 : Rat) (0 : Rat) (0 : Rat))).y)) (midQ ((b.getD m (T3.mk (0 : Rat) (0 : Rat) (0 : Rat))).z) ((b.getD ((m + 1) % b.length) (T3.mk (0 : Rat) (0 : Rat) (0 : Rat))).z))) i j) i j) := r47u4
  refine gv (ov_eql_i (q := 1) rfl rfl) rfl (zD (zL (e' := [(0, _), (1, _), (2, _), (3, _), (9, _), (15, _), (16, _), (17, _), (48, _)]) ⟨rfl, rfl, rfl, rfl, rfl, rfl, rfl, rfl, rfl, trivial⟩ (zB ?_)))
  refine zH rfl (fun hc48 => ?_) (fun hc48 => ?_)
  ·
   refine zA (mv rfl rfl (gv (zV (q := 1) rfl rfl (by omega) (by omega)) rfl (asg rfl rfl (zD (gq_in (zB (zA (gv (zV (q := 1) rfl rfl (by omega) (by omega)) rfl (mv rfl rfl (zD (gq_drop (A := []) (gq_drop (A := []) (gq_drop (A := []) ?_)))))))))))))
   refine yJ ((m + 1), h4) ?_ ?_ ⟨rfl, rfl, rfl, rfl, ?_, rfl, rfl, rfl, trivial⟩ rfl rfl
   ·
    refine ⟨((((hmma.trans hh1).trans hh2).trans hh3).trans hh4), ?_⟩
    exact (by omega)
   ·
    dsimp only
    omega
   · exact congrArg (fun z => some (vI z)) (with_t (mid_pr hcd0 hcd1) hc48)
  refine zI (gq_in (zB (zA (gv (zV (q := 1) rfl rfl (by omega) (by omega)) rfl (mv rfl rfl (zD (gq_drop (A := []) (gq_drop (A := []) (gq_drop (A := []) ?_)))))))))
  refine yJ ((m + 1), h4) ?_ ?_ ⟨rfl, rfl, rfl, rfl, ?_, rfl, rfl, rfl, trivial⟩ rfl rfl
  ·
   refine ⟨((((hmma.trans hh1).trans hh2).trans hh3).trans hh4), ?_⟩
   exact (by omega)
  ·
   dsimp only
   omega
  · exact congrArg (fun z => some (vI z)) (with_f (mid_pr hcd0 hcd1) hc48)
 refine gc_exit (zZ (zZ (gx_here (zB (zC (zA (mv rfl rfl (asg rfl rfl (zD (zL (e' := [(8, _)]) ⟨rfl, trivial⟩ (zB (zN (zW rfl rfl ?_)))))))))))))
 have em : m = b.length := by omega
 subst em
 rfl

end Go.Proofs.YtfpjclgbieppeaaGreat
