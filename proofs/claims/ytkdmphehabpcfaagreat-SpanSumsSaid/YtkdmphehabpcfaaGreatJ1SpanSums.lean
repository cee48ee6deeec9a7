/- Texts that the proof needs, part 1. -/
import Derived.Test.YtkdmphehabpcfaaGreatK6

namespace Go.Proofs.YtkdmphehabpcfaaGreat
open Bk Go
set_option linter.unusedVariables false
set_option linter.unusedSimpArgs false
set_option maxRecDepth 10000

theorem law3_spansums {w0 : World} {h0 : Mem}  (hs : MLe h0 (mem w0)) {vl : Value} {xsl : List Int} (hl : Is h0 vl xsl)  :
    Calls Tryz.prog 4 #[vl] w0 (Ret w0 h0 (fun _ r => r = .bool true)) := by
 have hlenl := hl.lt63
 refine calls_begin (n := 84) (e := [(0, vl)]) (vs := [vl]) Tryz.func4 rfl rfl (Nat.le_of_ble_eq_true rfl) hs ⟨rfl, trivial⟩ (gc_seq (gc_region (asg rfl rfl (gl_nil (gq_then (gc_seq (gc_seq (gc_region (mv rfl rfl ?_)))))))))
 refine gl_call (vs := [_]) rfl rfl rfl rfl Tryz.call6 ⟨rfl, trivial⟩ (fun w hs => made_light hs hl) ?_
 intro v11 h1 hh1 hr11
 subst hr11
 refine gv (ov_not rfl) rfl (gl_nil (gq_then ?_))
 refine gc_cond rfl (fun hc12 => ?_) (fun hc12 => ?_)
 ·
  refine gc_seq (gc_region ?_)
  refine gl_call (vs := []) rfl rfl rfl rfl Tryz.call7 trivial (fun w hs => law3_awake hs) ?_
  intro v13 h2 hh2 hr13
  subst hr13
  refine asg rfl rfl (gl_nil (gq_then (gc_ret (gr_then (gq_body1 rfl rfl ?_)))))
  rfl
 ·
  refine gc_skip (gq_then (gc_seq (gc_region (mv rfl rfl ?_))))
  replace hl := hl.mono hh1
  refine gl_call_own (vs := [_]) rfl rfl rfl rfl Tryz.call8 ⟨rfl, trivial⟩ (fun w hs => made_roll hs hl) ?_
  intro v15 h2 L15 hh2 hr15
  obtain ⟨b15, rfl, rfl⟩ := hr15
  refine asg rfl rfl (gl_nil (gq_then (gc_seq (gc_region (mv rfl rfl ?_)))))
  replace hl := hl.mono hh2
  refine gl_call_mut2 (A := []) (vs := [_]) Tryz.call9 ⟨rfl, trivial⟩ (fun X w hs => o_dice_span hl (by first | omega | exact Nat.zero_le _) hs) rfl ?_
  intro v17 g17 q17 hg17 hr17
  obtain ⟨k17, p17, rfl, hk17, hle17, hr17⟩ := hr17
  refine mv rfl rfl ?_
  replace hl := hl.mono hg17
  refine gl_call_mut2 (A := []) (vs := [_]) Tryz.call9 ⟨rfl, trivial⟩ (fun X w hs => o_dice_span hl (by first | omega | exact Nat.zero_le _) hs) rfl ?_
  intro v19 g19 q19 hg19 hr19
  obtain ⟨k19, p19, rfl, hk19, hle19, hr19⟩ := hr19
  refine gl_newop (new_allocx (ρ := (rpP (rpQ 1) (rpQ 1))) (X := ((0 : Rat), (0 : Rat))) info31 rfl rfl (zr_p (zr_q (by decide)) (zr_q (by decide)))) rfl rfl rfl ?_
  intro v4 q4 hq4
  obtain ⟨b4, cs4, rfl, rfl, rb4⟩ := hq4
  refine gl_newop (new_allocx (ρ := (rpP (rpQ 1) (rpQ 1))) (X := ((0 : Rat), (0 : Rat))) info31 rfl rfl (zr_p (zr_q (by decide)) (zr_q (by decide)))) rfl rfl rfl ?_
  intro v5 q5 hq5
  obtain ⟨b5, cs5, rfl, rfl, rb5⟩ := hq5
  have rw_1 := (Le.p (Le.q (l := 2) (by decide)) (Le.q (l := 2) (by decide))).R rb4
  replace hr17 := hr17.mono hg19
  refine gl_updx (A := [_]) (F := fun c_ => (rpP (rpQ 2) (rpQ 2)).R g19 c_ p17) (upd_box Tryz.sizeOf31 (Pc.here _) rfl rfl rfl rw_1 hr17 rfl) ?_
  intro cs_2 rb_3
  have rw_4 := (Le.p (Le.q (l := 2) (by decide)) (Le.q (l := 2) (by decide))).R rb5
  refine gl_updx (A := []) (F := fun c_ => (rpP (rpQ 2) (rpQ 2)).R g19 c_ p19) (upd_box Tryz.sizeOf31 (Pc.here _) rfl rfl rfl rw_4 hr19 rfl) ?_
  intro cs_5 rb_6
  refine gl_nil (gq_keep (e' := [(4, _), (5, _)]) ⟨rfl, rfl, trivial⟩ (gq_then (gc_seq (gc_region (gl_x (F := fun v_ => (rpP (rpQ 2) (rpQ 2)).Is g19 v_ p17) (ox_load_box ty31 (Pc.here _) rfl rfl rb_3 rfl) (mem1 (.tail _ (.head _))) rfl ?_)))))
  intro v21 r21
  refine gl_x (F := fun v_ => (rpP (rpQ 2) (rpQ 2)).Is g19 v_ p19) (ox_load_box ty31 (Pc.here _) rfl rfl rb_6 rfl) (mem1 (.head _)) rfl ?_
  intro v22 r22
  refine gl_call (vs := [_, _]) rfl rfl rfl rfl Tryz.call36 ⟨rfl, rfl, trivial⟩ (fun w hs => o_span_quo hs r21 r22 (by decide)) ?_
  intro v23 h3 hh3 r23
  obtain ⟨v23_0, rfl, r23_0⟩ := r23
  change (rpP (rpQ (2 + 2 + 2)) (rpQ (2 + 2 + 2))).Is h3 v23_0 (quoS p17 p19) at r23_0
  replace r23_0 := Rp.Is.le r23_0 (Le.p (Le.q (l := 6) (by omega)) (Le.q (l := 6) (by omega)))
  refine mv rfl rfl (gv (ov_extract (vs := [_, _]) rfl rfl) rfl (gv (ov_extract (vs := [_, _]) rfl rfl) rfl (gl_newop (new_allocx (ρ := (rpP (rpQ 1) (rpQ 1))) (X := ((0 : Rat), (0 : Rat))) info31 rfl rfl (zr_p (zr_q (by decide)) (zr_q (by decide)))) rfl rfl rfl ?_)))
  intro v6 q6 hq6
  obtain ⟨b6, cs6, rfl, rfl, rb6⟩ := hq6
  have rw_7 := (Le.p (Le.q (l := 6) (by decide)) (Le.q (l := 6) (by decide))).R rb6
  refine gl_updx (A := []) (F := fun c_ => (rpP (rpQ 6) (rpQ 6)).R h3 c_ (quoS p17 p19)) (upd_box Tryz.sizeOf31 (Pc.here _) rfl rfl rfl rw_7 r23_0 rfl) ?_
  intro cs_8 rb_9
  refine asg rfl rfl (gl_nil (gq_then (gc_seq (gc_region ?_))))
  replace rb_3 := rb_3.mono hh3
  refine gl_x (F := fun v_ => (rpP (rpQ 2) (rpQ 2)).Is h3 v_ p17) (ox_load_box ty31 (Pc.here _) rfl rfl rb_3 rfl) (mem1 (.tail _ (.tail _ (.head _)))) rfl ?_
  intro v27 r27
  replace rb_6 := rb_6.mono hh3
  refine gl_x (F := fun v_ => (rpP (rpQ 2) (rpQ 2)).Is h3 v_ p19) (ox_load_box ty31 (Pc.here _) rfl rfl rb_6 rfl) (mem1 (.tail _ (.head _))) rfl ?_
  intro v28 r28
  refine gl_call (vs := [_, _]) rfl rfl rfl rfl Tryz.call37 ⟨rfl, rfl, trivial⟩ (fun w hs => o_sref_quo hs r27 r28 (by decide)) ?_
  intro v29 h4 hh4 r29
  obtain ⟨v29_0, rfl, r29_0⟩ := r29
  change (rpP (rpQ (2 + 2 + 2)) (rpQ (2 + 2 + 2))).Is h4 v29_0 (quoS p17 p19) at r29_0
  replace r29_0 := Rp.Is.le r29_0 (Le.p (Le.q (l := 6) (by omega)) (Le.q (l := 6) (by omega)))
  refine mv rfl rfl (gv (ov_extract (vs := [_, _]) rfl rfl) rfl (gv (ov_extract (vs := [_, _]) rfl rfl) rfl (gl_newop (new_allocx (ρ := (rpP (rpQ 1) (rpQ 1))) (X := ((0 : Rat), (0 : Rat))) info31 rfl rfl (zr_p (zr_q (by decide)) (zr_q (by decide)))) rfl rfl rfl ?_)))
  intro v8 q8 hq8
  obtain ⟨b8, cs8, rfl, rfl, rb8⟩ := hq8
  have rw_10 := (Le.p (Le.q (l := 6) (by decide)) (Le.q (l := 6) (by decide))).R rb8
  refine gl_updx (A := []) (F := fun c_ => (rpP (rpQ 6) (rpQ 6)).R h4 c_ (quoS p17 p19)) (upd_box Tryz.sizeOf31 (Pc.here _) rfl rfl rfl rw_10 r29_0 rfl) ?_
  intro cs_11 rb_12
  refine asg rfl rfl (gl_nil (gq_keep (e' := [(4, _), (5, _), (6, _), (7, _), (8, _), (9, _)]) ⟨rfl, rfl, rfl, rfl, rfl, rfl, trivial⟩ (gq_then (gc_seq ?_))))
  refine gc_draw 53 _ [] [(0, .q), (1, .q), (3, .q), (4, .q), (2, .c), (5, .c), (6, .c), (7, .q), (8, .q), (9, .q), (11, .q), (12, .q), (10, .c), (13, .c), (14, .c), (15, .q), (16, .q), (17, .q), (19, .q), (18, .c), (20, .c), (21, .c), (22, .q), (23, .q), (24, .q), (25, .q), (27, .q), (28, .q), (26, .c), (29, .c), (30, .c), (31, .q), (32, .q), (33, .q), (35, .q), (34, .c), (36, .c), (37, .c), (38, .q), (39, .q), (40, .q), (41, .q), (42, .q), (43, .q), (44, .q), (45, .q), (46, .q), (47, .c), (48, .q), (49, .q), (50, .c), (51, .q), (52, .q)] mixed (fun x hx => by cases hx) (by kernel_rfl) (fun x hx => by cases hx) (fun r hr => hr) ?_
  replace rb_3 := rb_3.mono hh4
  refine w_qx (F := fun v_ => (rpP (rpQ 2) (rpQ 2)).Is h4 v_ p17) rfl (ox_load_box ty31 (Pc.here _) rfl rfl rb_3 rfl) (mem1 (.tail _ (.tail _ (.tail _ (.head _))))) rfl ?_
  intro v32 r32
  replace rb_6 := rb_6.mono hh4
  refine w_qx (F := fun v_ => (rpP (rpQ 2) (rpQ 2)).Is h4 v_ p19) rfl (ox_load_box ty31 (Pc.here _) rfl rfl rb_6 rfl) (mem1 (.tail _ (.tail _ (.head _)))) rfl ?_
  intro v33 r33
  refine w_qx (F := fun v_ => (rpP (rpQ 2) (rpQ 2)).Is h4 v_ p17) rfl (ox_load_box ty31 (Pc.here _) rfl rfl rb_3 rfl) (mem1 (.tail _ (.tail _ (.tail _ (.head _))))) rfl ?_
  intro v35 r35
  refine w_qx (F := fun v_ => (rpP (rpQ 2) (rpQ 2)).Is h4 v_ p19) rfl (ox_load_box ty31 (Pc.here _) rfl rfl rb_6 rfl) (mem1 (.tail _ (.tail _ (.head _)))) rfl ?_
  intro v36 r36
  refine w_c rfl ?_
  refine s_call (vs := [_, _]) Tryz.call38 ⟨rfl, rfl, trivial⟩ (fun w hs => o_span_add hs r32 r33 (by decide)) rfl ?_
  intro v34 h5 hh5 r34
  change (rpP (rpQ (2 + 2 + 1)) (rpQ (2 + 2 + 1))).Is h5 v34 (addS p17 p19) at r34
  replace r34 := Rp.Is.le r34 (Le.p (Le.q (l := 5) (by omega)) (Le.q (l := 5) (by omega)))
  refine w_c rfl ?_
  replace r35 := r35.mono hh5
  replace r36 := r36.mono hh5
  refine s_call (vs := [_, _]) Tryz.call39 ⟨rfl, rfl, trivial⟩ (fun w hs => o_sref_add hs r35 r36 (by decide)) rfl ?_
  intro v37 h6 hh6 r37
  change (rpP (rpQ (2 + 2 + 1)) (rpQ (2 + 2 + 1))).Is h6 v37 (addS p17 p19) at r37
  replace r37 := Rp.Is.le r37 (Le.p (Le.q (l := 5) (by omega)) (Le.q (l := 5) (by omega)))
  refine w_c rfl ?_
  replace r34 := r34.mono hh6
  refine s_call (vs := [_, _]) Tryz.call20 ⟨rfl, rfl, trivial⟩ (fun w hs => o_sref_same hs r34 r37 (by decide)) rfl ?_
  intro v38 h7 hh7 r38
  obtain rfl : v38 = .bool true := by rw [show v38 = vB ((addS p17 p19).1 = (addS p17 p19).1 ∧ (addS p17 p19).2 = (addS p17 p19).2) from r38, vB_true (by first | rfl | exact Iff.rfl | exact ⟨rfl, rfl⟩ | exact valid_rat _ | assumption)]
  refine w_q rfl (fun h' L' hh hR => ov_move rfl) rfl ?_
  replace rb_3 := rb_3.mono ((hh5.trans hh6).trans hh7)
  refine w_qx_on (F := fun v_ => (rpP (rpQ 2) (rpQ 2)).Is h7 v_ p17) rfl rfl rfl (ox_load_box ty31 (Pc.here _) rfl rfl rb_3 rfl) (mem1 (.tail _ (.tail _ (.tail _ (.head _))))) rfl ?_
  intro v40 r40
  replace rb_6 := rb_6.mono ((hh5.trans hh6).trans hh7)
  refine w_qx_on (F := fun v_ => (rpP (rpQ 2) (rpQ 2)).Is h7 v_ p19) rfl rfl rfl (ox_load_box ty31 (Pc.here _) rfl rfl rb_6 rfl) (mem1 (.tail _ (.tail _ (.head _)))) rfl ?_
  intro v41 r41
  refine w_qx_on (F := fun v_ => (rpP (rpQ 2) (rpQ 2)).Is h7 v_ p17) rfl rfl rfl (ox_load_box ty31 (Pc.here _) rfl rfl rb_3 rfl) (mem1 (.tail _ (.tail _ (.tail _ (.head _))))) rfl ?_
  intro v43 r43
  refine w_qx_on (F := fun v_ => (rpP (rpQ 2) (rpQ 2)).Is h7 v_ p19) rfl rfl rfl (ox_load_box ty31 (Pc.here _) rfl rfl rb_6 rfl) (mem1 (.tail _ (.tail _ (.head _)))) rfl ?_
  intro v44 r44
  refine w_c rfl (s_on rfl rfl ?_)
  refine s_call (vs := [_, _]) Tryz.call40 ⟨rfl, rfl, trivial⟩ (fun w hs => o_span_sub hs r40 r41 (by decide)) rfl ?_
  intro v42 h8 hh8 r42
  change (rpP (rpQ (2 + 2 + 1)) (rpQ (2 + 2 + 1))).Is h8 v42 (subS p17 p19) at r42
  replace r42 := Rp.Is.le r42 (Le.p (Le.q (l := 5) (by omega)) (Le.q (l := 5) (by omega)))
  refine w_c rfl (s_on rfl rfl ?_)
  replace r43 := r43.mono hh8
  replace r44 := r44.mono hh8
  refine s_call (vs := [_, _]) Tryz.call41 ⟨rfl, rfl, trivial⟩ (fun w hs => o_sref_sub hs r43 r44 (by decide)) rfl ?_
  intro v45 h9 hh9 r45
  change (rpP (rpQ (2 + 2 + 1)) (rpQ (2 + 2 + 1))).Is h9 v45 (subS p17 p19) at r45
  replace r45 := Rp.Is.le r45 (Le.p (Le.q (l := 5) (by omega)) (Le.q (l := 5) (by omega)))
  refine w_c rfl (s_on rfl rfl ?_)
  replace r42 := r42.mono hh9
  refine s_call (vs := [_, _]) Tryz.call20 ⟨rfl, rfl, trivial⟩ (fun w hs => o_sref_same hs r42 r45 (by decide)) rfl ?_
  intro v46 h10 hh10 r46
  obtain rfl : v46 = .bool true := by rw [show v46 = vB ((subS p17 p19).1 = (subS p17 p19).1 ∧ (subS p17 p19).2 = (subS p17 p19).2) from r46, vB_true (by first | rfl | exact Iff.rfl | exact ⟨rfl, rfl⟩ | exact valid_rat _ | assumption)]
  refine w_q rfl (fun h' L' hh hR => ov_pick_t rfl rfl) rfl (w_q rfl (fun h' L' hh hR => ov_move rfl) rfl ?_)
  replace rb_3 := rb_3.mono ((hh8.trans hh9).trans hh10)
  refine w_qx_on (F := fun v_ => (rpP (rpQ 2) (rpQ 2)).Is h10 v_ p17) rfl rfl rfl (ox_load_box ty31 (Pc.here _) rfl rfl rb_3 rfl) (mem1 (.tail _ (.tail _ (.tail _ (.head _))))) rfl ?_
  intro v49 r49
  refine w_qx_on (F := fun v_ => (rpP (rpQ 2) (rpQ 2)).Is h10 v_ p17) rfl rfl rfl (ox_load_box ty31 (Pc.here _) rfl rfl rb_3 rfl) (mem1 (.tail _ (.tail _ (.tail _ (.head _))))) rfl ?_
  intro v51 r51
  refine w_c rfl (s_on rfl rfl ?_)
  refine s_call (vs := [_]) Tryz.call42 ⟨rfl, trivial⟩ (fun w hs => o_span_neg hs r49 (by decide)) rfl ?_
  intro v50 h11 hh11 r50
  change (rpP (rpQ 2) (rpQ 2)).Is h11 v50 (negS p17) at r50
  refine w_c rfl (s_on rfl rfl ?_)
  replace r51 := r51.mono hh11
  refine s_call (vs := [_]) Tryz.call43 ⟨rfl, trivial⟩ (fun w hs => o_sref_neg hs r51 (by decide)) rfl ?_
  intro v52 h12 hh12 r52
  change (rpP (rpQ 2) (rpQ 2)).Is h12 v52 (negS p17) at r52
  refine w_c rfl (s_on rfl rfl ?_)
  replace r50 := r50.mono hh12
  refine s_call (vs := [_, _]) Tryz.call20 ⟨rfl, rfl, trivial⟩ (fun w hs => o_sref_same hs r50 r52 (by decide)) rfl ?_
  intro v53 h13 hh13 r53
  obtain rfl : v53 = .bool true := by rw [show v53 = vB ((negS p17).1 = (negS p17).1 ∧ (negS p17).2 = (negS p17).2) from r53, vB_true (by first | rfl | exact Iff.rfl | exact ⟨rfl, rfl⟩ | exact valid_rat _ | assumption)]
  refine w_q rfl (fun h' L' hh hR => ov_pick_t rfl rfl) rfl (w_q rfl (fun h' L' hh hR => ov_move rfl) rfl ?_)
  replace rb_3 := rb_3.mono ((hh11.trans hh12).trans hh13)
  refine w_qx_on (F := fun v_ => (rpP (rpQ 2) (rpQ 2)).Is h13 v_ p17) rfl rfl rfl (ox_load_box ty31 (Pc.here _) rfl rfl rb_3 rfl) (mem1 (.tail _ (.tail _ (.tail _ (.head _))))) rfl ?_
  intro v56 r56
  replace rb_6 := rb_6.mono (((((hh8.trans hh9).trans hh10).trans hh11).trans hh12).trans hh13)
  refine w_qx_on (F := fun v_ => (rpP (rpQ 2) (rpQ 2)).Is h13 v_ p19) rfl rfl rfl (ox_load_box ty31 (Pc.here _) rfl rfl rb_6 rfl) (mem1 (.tail _ (.tail _ (.head _)))) rfl ?_
  intro v57 r57
  refine w_qx_on (F := fun v_ => (rpP (rpQ 2) (rpQ 2)).Is h13 v_ p17) rfl rfl rfl (ox_load_box ty31 (Pc.here _) rfl rfl rb_3 rfl) (mem1 (.tail _ (.tail _ (.tail _ (.head _))))) rfl ?_
  intro v59 r59
  refine w_qx_on (F := fun v_ => (rpP (rpQ 2) (rpQ 2)).Is h13 v_ p19) rfl rfl rfl (ox_load_box ty31 (Pc.here _) rfl rfl rb_6 rfl) (mem1 (.tail _ (.tail _ (.head _)))) rfl ?_
  intro v60 r60
  refine w_c rfl (s_on rfl rfl ?_)
  refine s_call (vs := [_, _]) Tryz.call44 ⟨rfl, rfl, trivial⟩ (fun w hs => o_span_mul hs r56 r57 (by decide)) rfl ?_
  intro v58 h14 hh14 r58
  change (rpP (rpQ (2 + 2)) (rpQ (2 + 2))).Is h14 v58 (mulS p17 p19) at r58
  replace r58 := Rp.Is.le r58 (Le.p (Le.q (l := 4) (by omega)) (Le.q (l := 4) (by omega)))
  refine w_c rfl (s_on rfl rfl ?_)
  replace r59 := r59.mono hh14
  replace r60 := r60.mono hh14
  refine s_call (vs := [_, _]) Tryz.call45 ⟨rfl, rfl, trivial⟩ (fun w hs => o_sref_mul hs r59 r60 (by decide)) rfl ?_
  intro v61 h15 hh15 r61
  change (rpP (rpQ (2 + 2)) (rpQ (2 + 2))).Is h15 v61 (mulS p17 p19) at r61
  replace r61 := Rp.Is.le r61 (Le.p (Le.q (l := 4) (by omega)) (Le.q (l := 4) (by omega)))
  refine w_c rfl (s_on rfl rfl ?_)
  replace r58 := r58.mono hh15
  refine s_call (vs := [_, _]) Tryz.call20 ⟨rfl, rfl, trivial⟩ (fun w hs => o_sref_same hs r58 r61 (by decide)) rfl ?_
  intro v62 h16 hh16 r62
  obtain rfl : v62 = .bool true := by rw [show v62 = vB ((mulS p17 p19).1 = (mulS p17 p19).1 ∧ (mulS p17 p19).2 = (mulS p17 p19).2) from r62, vB_true (by first | rfl | exact Iff.rfl | exact ⟨rfl, rfl⟩ | exact valid_rat _ | assumption)]
  refine w_q rfl (fun h' L' hh hR => ov_pick_t rfl rfl) rfl (w_q rfl (fun h' L' hh hR => ov_move rfl) rfl ?_)
  replace rb_3 := rb_3.mono ((hh14.trans hh15).trans hh16)
  refine w_qx_on (F := fun v_ => (rpP (rpQ 2) (rpQ 2)).Is h16 v_ p17) rfl rfl rfl (ox_load_box ty31 (Pc.here _) rfl rfl rb_3 rfl) (mem1 (.tail _ (.tail _ (.tail _ (.head _))))) rfl ?_
  intro v65 r65
  refine w_qx_on (F := fun v_ => (rpP (rpQ 2) (rpQ 2)).Is h16 v_ p17) rfl rfl rfl (ox_load_box ty31 (Pc.here _) rfl rfl rb_3 rfl) (mem1 (.tail _ (.tail _ (.tail _ (.head _))))) rfl ?_
  intro v67 r67
  refine w_c rfl (s_on rfl rfl ?_)
  refine s_call (vs := [_]) Tryz.call46 ⟨rfl, trivial⟩ (fun w hs => o_span_sqr hs r65 (by decide)) rfl ?_
  intro v66 h17 hh17 r66
  change (rpP (rpQ (2 + 2)) (rpQ (2 + 2))).Is h17 v66 (sqrS p17) at r66
  replace r66 := Rp.Is.le r66 (Le.p (Le.q (l := 4) (by omega)) (Le.q (l := 4) (by omega)))
  refine w_c rfl (s_on rfl rfl ?_)
  replace r67 := r67.mono hh17
  refine s_call (vs := [_]) Tryz.call47 ⟨rfl, trivial⟩ (fun w hs => o_sref_sqr hs r67 (by decide)) rfl ?_
  intro v68 h18 hh18 r68
  change (rpP (rpQ (2 + 2)) (rpQ (2 + 2))).Is h18 v68 (sqrS p17) at r68
  replace r68 := Rp.Is.le r68 (Le.p (Le.q (l := 4) (by omega)) (Le.q (l := 4) (by omega)))
  refine w_c rfl (s_on rfl rfl ?_)
  replace r66 := r66.mono hh18
  refine s_call (vs := [_, _]) Tryz.call20 ⟨rfl, rfl, trivial⟩ (fun w hs => o_sref_same hs r66 r68 (by decide)) rfl ?_
  intro v69 h19 hh19 r69
  obtain rfl : v69 = .bool true := by rw [show v69 = vB ((sqrS p17).1 = (sqrS p17).1 ∧ (sqrS p17).2 = (sqrS p17).2) from r69, vB_true (by first | rfl | exact Iff.rfl | exact ⟨rfl, rfl⟩ | exact valid_rat _ | assumption)]
  refine w_q rfl (fun h' L' hh hR => ov_pick_t rfl rfl) rfl (w_q rfl (fun h' L' hh hR => ov_move rfl) rfl (w_q_on rfl rfl rfl (fun h' L' hh hR => ov_move rfl) rfl (w_q_on rfl rfl rfl (fun h' L' hh hR => ov_move rfl) rfl (w_q_on rfl rfl rfl (fun h' L' hh hR => OpV.tr (by first | rfl | exact Iff.rfl | exact ⟨rfl, rfl⟩ | exact valid_rat _ | assumption) (ov_eql_i rfl rfl)) rfl (w_q rfl (fun h' L' hh hR => ov_pick_t rfl rfl) rfl (w_q rfl (fun h' L' hh hR => ov_move rfl) rfl ?_))))))
  replace rb_9 := rb_9.mono (((((((((((((((hh4.trans hh5).trans hh6).trans hh7).trans hh8).trans hh9).trans hh10).trans hh11).trans hh12).trans hh13).trans hh14).trans hh15).trans hh16).trans hh17).trans hh18).trans hh19)
  refine w_qx_on (F := fun v_ => (rpP (rpQ 6) (rpQ 6)).Is h19 v_ (quoS p17 p19)) rfl rfl rfl (ox_load_box ty31 (Pc.here _) rfl rfl rb_9 rfl) (mem1 (.tail _ (.head _))) rfl ?_
  intro v77 r77
  replace rb_12 := rb_12.mono ((((((((((((((hh5.trans hh6).trans hh7).trans hh8).trans hh9).trans hh10).trans hh11).trans hh12).trans hh13).trans hh14).trans hh15).trans hh16).trans hh17).trans hh18).trans hh19)
  refine w_qx_on (F := fun v_ => (rpP (rpQ 6) (rpQ 6)).Is h19 v_ (quoS p17 p19)) rfl rfl rfl (ox_load_box ty31 (Pc.here _) rfl rfl rb_12 rfl) (mem1 (.head _)) rfl ?_
  intro v78 r78
  refine w_c rfl (s_on rfl rfl ?_)
  refine s_call (vs := [_, _]) Tryz.call20 ⟨rfl, rfl, trivial⟩ (fun w hs => o_sref_same hs r77 r78 (by decide)) rfl ?_
  intro v79 h20 hh20 r79
  obtain rfl : v79 = .bool true := by rw [show v79 = vB ((quoS p17 p19).1 = (quoS p17 p19).1 ∧ (quoS p17 p19).2 = (quoS p17 p19).2) from r79, vB_true (by first | rfl | exact Iff.rfl | exact ⟨rfl, rfl⟩ | exact valid_rat _ | assumption)]
  refine w_q rfl (fun h' L' hh hR => ov_pick_t rfl rfl) rfl (w_q rfl (fun h' L' hh hR => ov_move rfl) rfl ?_)
  refine w_c rfl (s_on rfl rfl ?_)
  refine s_call (vs := []) Tryz.call7 trivial (fun w hs => law3_awake hs) rfl ?_
  intro v82 h21 hh21 hr82
  subst hr82
  refine w_q rfl (fun h' L' hh hR => ov_pick_t rfl rfl) rfl (w_q rfl (fun h' L' hh hR => ov_assign rfl) rfl (w_nil (gq_keep (e' := [(2, _)]) ⟨rfl, trivial⟩ (gq_then (gc_ret (gq_body1 rfl rfl ?_))))))
  rfl

end Go.Proofs.YtkdmphehabpcfaaGreat
