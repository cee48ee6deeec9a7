/- Texts that the proof needs, part 1. -/
import Derived.Test.YtkdmphehabpcfaaK5

namespace Go.Proofs.Ytkdmphehabpcfaa
open Bk Go
set_option linter.unusedVariables false
set_option linter.unusedSimpArgs false
set_option maxRecDepth 10000

theorem law3_spannarrow {w0 : World} {h0 : Mem}  (hs : MLe h0 (mem w0)) {vl : Value} {xsl : List Int} (hl : Is h0 vl xsl) {i : Int} (hi1 : -9223372036854775808 ≤ i) (hi2 : i < 9223372036854775808) {j : Int} (hj1 : -9223372036854775808 ≤ j) (hj2 : j < 9223372036854775808) :
    Calls Try.prog 6 #[vl, vI i, vI j] w0 (Ret w0 h0 (fun _ r => r = .bool true)) := by
 have hlenl := hl.lt63
 refine calls_begin (n := 91) (e := [(0, vl), (1, vI i), (2, vI j)]) (vs := [vl, vI i, vI j]) Try.func6 rfl rfl (Nat.le_of_ble_eq_true rfl) hs ⟨rfl, rfl, rfl, trivial⟩ (gc_seq (gc_region (asg rfl rfl (gl_nil (gq_then (gc_seq (gc_seq (gc_region (mv rfl rfl ?_)))))))))
 refine gl_call (vs := [_]) rfl rfl rfl rfl Try.call7 ⟨rfl, trivial⟩ (fun w hs => made_light hs hl) ?_
 intro v16 h1 hh1 hr16
 subst hr16
 refine gv (ov_not rfl) rfl (gl_nil (gq_then ?_))
 refine gc_cond rfl (fun hc17 => ?_) (fun hc17 => ?_)
 ·
  refine gc_seq (gc_region ?_)
  refine gl_call (vs := []) rfl rfl rfl rfl Try.call8 trivial (fun w hs => law3_awake hs) ?_
  intro v18 h2 hh2 hr18
  subst hr18
  refine asg rfl rfl (gl_nil (gq_then (gc_ret (gr_then (gq_body1 rfl rfl ?_)))))
  rfl
 ·
  refine gc_skip (gq_then (gc_seq (gc_region (mv rfl rfl ?_))))
  replace hl := hl.mono hh1
  refine gl_call_own (vs := [_]) rfl rfl rfl rfl Try.call9 ⟨rfl, trivial⟩ (fun w hs => made_roll hs hl) ?_
  intro v20 h2 L20 hh2 hr20
  obtain ⟨b20, rfl, rfl⟩ := hr20
  refine asg rfl rfl (gl_nil (gq_then (gc_seq (gc_region (mv rfl rfl ?_)))))
  replace hl := hl.mono hh2
  refine gl_call_mut2 (A := []) (vs := [_]) Try.call10 ⟨rfl, trivial⟩ (fun X w hs => o_dice_span hl (by first | omega | exact Nat.zero_le _) hs) rfl ?_
  intro v22 g22 q22 hg22 hr22
  obtain ⟨k22, p22, rfl, hk22, hle22, hr22⟩ := hr22
  refine mv rfl rfl ?_
  replace hl := hl.mono hg22
  refine gl_call_mut2 (A := []) (vs := [_]) Try.call10 ⟨rfl, trivial⟩ (fun X w hs => o_dice_span hl (by first | omega | exact Nat.zero_le _) hs) rfl ?_
  intro v24 g24 q24 hg24 hr24
  obtain ⟨k24, p24, rfl, hk24, hle24, hr24⟩ := hr24
  refine gl_newop (new_allocx (ρ := (rpP (rpQ 1) (rpQ 1))) (X := ((0 : Rat), (0 : Rat))) info29 rfl rfl (zr_p (zr_q (by decide)) (zr_q (by decide)))) rfl rfl rfl ?_
  intro v8 q8 hq8
  obtain ⟨b8, cs8, rfl, rfl, rb8⟩ := hq8
  refine gl_newop (new_allocx (ρ := (rpP (rpQ 1) (rpQ 1))) (X := ((0 : Rat), (0 : Rat))) info29 rfl rfl (zr_p (zr_q (by decide)) (zr_q (by decide)))) rfl rfl rfl ?_
  intro v9 q9 hq9
  obtain ⟨b9, cs9, rfl, rfl, rb9⟩ := hq9
  have rw_1 := (Le.p (Le.q (l := 2) (by decide)) (Le.q (l := 2) (by decide))).R rb8
  replace hr22 := hr22.mono hg24
  refine gl_updx (A := [_]) (F := fun c_ => (rpP (rpQ 2) (rpQ 2)).R g24 c_ p22) (upd_box Try.sizeOf29 (Pc.here _) rfl rfl rfl rw_1 hr22 rfl) ?_
  intro cs_2 rb_3
  have rw_4 := (Le.p (Le.q (l := 2) (by decide)) (Le.q (l := 2) (by decide))).R rb9
  refine gl_updx (A := []) (F := fun c_ => (rpP (rpQ 2) (rpQ 2)).R g24 c_ p24) (upd_box Try.sizeOf29 (Pc.here _) rfl rfl rfl rw_4 hr24 rfl) ?_
  intro cs_5 rb_6
  refine gl_nil (gq_keep (e' := [(1, _), (2, _), (8, _), (9, _)]) ⟨rfl, rfl, rfl, rfl, trivial⟩ (gq_then (gc_seq ?_)))
  refine gc_draw 8 _ [(7, (10, 29, [.bool false, .slice none 0 0, .slice none 0 0, .bool false, .slice none 0 0, .slice none 0 0]))] [(0, .q), (1, .q), (3, .q), (4, .q), (2, .c), (5, .c), (6, .c), (7, .a), (8, .t)] mixed (AlOk.cons rfl (zero_run info29 rfl rfl) AlOk.nil) (by kernel_rfl) (hae_cons rfl rfl hae_nil) (fun r hr => hr) (w_qx (F := fun v_ => (rpP (rpQ 2) (rpQ 2)).Is g24 v_ p22) rfl (ox_load_box ty29 (Pc.here _) rfl rfl rb_3 rfl) (mem1 (.tail _ (.head _))) rfl ?_)
  intro v25 r25
  refine w_q rfl (fun h' L' hh hR => ov_move rfl) rfl (w_qx (F := fun v_ => (rpP (rpQ 2) (rpQ 2)).Is g24 v_ p22) rfl (ox_load_box ty29 (Pc.here _) rfl rfl rb_3 rfl) (mem1 (.tail _ (.head _))) rfl ?_)
  intro v28 r28
  refine w_q rfl (fun h' L' hh hR => ov_move rfl) rfl ?_
  refine w_c rfl ?_
  refine s_call (vs := [_, _]) Try.call21 ⟨rfl, rfl, trivial⟩ (fun w hs => o_made_within hs r25 (by omega) (by omega) (by decide)) rfl ?_
  intro v27 h3 hh3 r27
  change (rpQ (3 * 2 + 4)).Is h3 v27 (withinQ p22 i) at r27
  replace r27 := Rp.Is.le r27 (Le.q (l := 10) (by omega))
  refine w_c rfl ?_
  replace r28 := r28.mono hh3
  refine s_call (vs := [_, _]) Try.call21 ⟨rfl, rfl, trivial⟩ (fun w hs => o_made_within hs r28 (by omega) (by omega) (by decide)) rfl ?_
  intro v30 h4 hh4 r30
  change (rpQ (3 * 2 + 4)).Is h4 v30 (withinQ p22 j) at r30
  replace r30 := Rp.Is.le r30 (Le.q (l := 10) (by omega))
  refine w_c rfl ?_
  replace r27 := r27.mono hh4
  refine s_call (vs := [_, _]) Try.call26 ⟨rfl, rfl, trivial⟩ (fun w hs => o_span_of hs r27 r30 (by decide)) rfl ?_
  intro v31 h5 hh5 r31
  change (rpP (rpQ 10) (rpQ 10)).Is h5 v31 (ofS (withinQ p22 i) (withinQ p22 j)) at r31
  refine w_a rfl (fun b10 => ?_)
  have rb10 : (rpP (rpQ 1) (rpQ 1)).R h5 [.bool false, .slice none 0 0, .slice none 0 0, .bool false, .slice none 0 0, .slice none 0 0] ((0 : Rat), (0 : Rat)) := (zr_p (zr_q (by decide)) (zr_q (by decide)))
  have rw_7 := (Le.p (Le.q (l := 10) (by decide)) (Le.q (l := 10) (by decide))).R rb10
  refine w_tx_upd (A := []) (F := fun c_ => (rpP (rpQ 10) (rpQ 10)).R h5 c_ (ofS (withinQ p22 i) (withinQ p22 j))) rfl (upd_box Try.sizeOf29 (Pc.here _) rfl rfl rfl rw_7 r31 rfl) ?_
  intro cs_8 rb_9
  refine w_nil (gq_then (gc_seq (gc_region (gl_x (F := fun v_ => (rpP (rpQ 10) (rpQ 10)).Is h5 v_ (ofS (withinQ p22 i) (withinQ p22 j))) (ox_load_box ty29 (Pc.here _) rfl rfl rb_9 rfl) (mem1 (.head _)) rfl ?_))))
  intro v33 r33
  replace rb_6 := rb_6.mono ((hh3.trans hh4).trans hh5)
  refine gl_x (F := fun v_ => (rpP (rpQ 2) (rpQ 2)).Is h5 v_ p24) (ox_load_box ty29 (Pc.here _) rfl rfl rb_6 rfl) (mem1 (.tail _ (.head _))) rfl ?_
  intro v34 r34
  refine gl_call (vs := [_, _]) rfl rfl rfl rfl Try.call27 ⟨rfl, rfl, trivial⟩ (fun w hs => o_span_quo hs r33 r34 (by decide)) ?_
  intro v35 h6 hh6 r35
  obtain ⟨v35_0, rfl, r35_0⟩ := r35
  change (rpP (rpQ (10 + 2 + 2)) (rpQ (10 + 2 + 2))).Is h6 v35_0 (quoS (ofS (withinQ p22 i) (withinQ p22 j)) p24) at r35_0
  replace r35_0 := Rp.Is.le r35_0 (Le.p (Le.q (l := 14) (by omega)) (Le.q (l := 14) (by omega)))
  refine mv rfl rfl (gv (ov_extract (vs := [_, _]) rfl rfl) rfl (gv (ov_extract (vs := [_, _]) rfl rfl) rfl (gl_newop (new_allocx (ρ := (rpP (rpQ 1) (rpQ 1))) (X := ((0 : Rat), (0 : Rat))) info29 rfl rfl (zr_p (zr_q (by decide)) (zr_q (by decide)))) rfl rfl rfl ?_)))
  intro v11 q11 hq11
  obtain ⟨b11, cs11, rfl, rfl, rb11⟩ := hq11
  have rw_10 := (Le.p (Le.q (l := 14) (by decide)) (Le.q (l := 14) (by decide))).R rb11
  refine gl_updx (A := []) (F := fun c_ => (rpP (rpQ 14) (rpQ 14)).R h6 c_ (quoS (ofS (withinQ p22 i) (withinQ p22 j)) p24)) (upd_box Try.sizeOf29 (Pc.here _) rfl rfl rfl rw_10 r35_0 rfl) ?_
  intro cs_11 rb_12
  refine asg rfl rfl (gl_nil (gq_keep (e' := [(8, _), (9, _), (10, _), (11, _), (12, _)]) ⟨rfl, rfl, rfl, rfl, rfl, trivial⟩ (gq_then (gc_seq (gc_region ?_)))))
  replace rb_3 := rb_3.mono (((hh3.trans hh4).trans hh5).trans hh6)
  refine gl_x (F := fun v_ => (rpP (rpQ 2) (rpQ 2)).Is h6 v_ p22) (ox_load_box ty29 (Pc.here _) rfl rfl rb_3 rfl) (mem1 (.tail _ (.tail _ (.tail _ (.head _))))) rfl ?_
  intro v39 r39
  replace rb_6 := rb_6.mono hh6
  refine gl_x (F := fun v_ => (rpP (rpQ 2) (rpQ 2)).Is h6 v_ p24) (ox_load_box ty29 (Pc.here _) rfl rfl rb_6 rfl) (mem1 (.tail _ (.tail _ (.head _)))) rfl ?_
  intro v40 r40
  refine gl_call (vs := [_, _]) rfl rfl rfl rfl Try.call27 ⟨rfl, rfl, trivial⟩ (fun w hs => o_span_quo hs r39 r40 (by decide)) ?_
  intro v41 h7 hh7 r41
  obtain ⟨v41_0, rfl, r41_0⟩ := r41
  change (rpP (rpQ (2 + 2 + 2)) (rpQ (2 + 2 + 2))).Is h7 v41_0 (quoS p22 p24) at r41_0
  replace r41_0 := Rp.Is.le r41_0 (Le.p (Le.q (l := 6) (by omega)) (Le.q (l := 6) (by omega)))
  refine mv rfl rfl (gv (ov_extract (vs := [_, _]) rfl rfl) rfl (gv (ov_extract (vs := [_, _]) rfl rfl) rfl (gl_newop (new_allocx (ρ := (rpP (rpQ 1) (rpQ 1))) (X := ((0 : Rat), (0 : Rat))) info29 rfl rfl (zr_p (zr_q (by decide)) (zr_q (by decide)))) rfl rfl rfl ?_)))
  intro v13 q13 hq13
  obtain ⟨b13, cs13, rfl, rfl, rb13⟩ := hq13
  have rw_13 := (Le.p (Le.q (l := 6) (by decide)) (Le.q (l := 6) (by decide))).R rb13
  refine gl_updx (A := []) (F := fun c_ => (rpP (rpQ 6) (rpQ 6)).R h7 c_ (quoS p22 p24)) (upd_box Try.sizeOf29 (Pc.here _) rfl rfl rfl rw_13 r41_0 rfl) ?_
  intro cs_14 rb_15
  refine asg rfl rfl (gl_nil (gq_then (gc_seq ?_)))
  refine gc_cases (hasP p24.1 p24.2 0) (fun hg => ?_) (fun hg => ?_)
  ·
   refine gc_draw 48 _ [] [(0, .q), (1, .q), (2, .q), (3, .q), (4, .q), (5, .q), (6, .q), (7, .q), (8, .q), (9, .c), (10, .q), (11, .q), (12, .q), (13, .q), (14, .q), (16, .q), (17, .q), (15, .c), (18, .c), (19, .c), (20, .q), (21, .q), (22, .q), (23, .q), (25, .q), (26, .q), (24, .c), (27, .c), (28, .c), (29, .q), (30, .q), (31, .q), (33, .q), (32, .c), (34, .c), (35, .c), (36, .q), (37, .q), (38, .q), (40, .q), (39, .c), (41, .c), (42, .c), (43, .q), (44, .q), (45, .c), (46, .q), (47, .q)] mixed (fun x hx => by cases hx) (by kernel_rfl) (fun x hx => by cases hx) (fun r hr => hr) (w_q rfl (fun h' L' hh hR => ov_move rfl) rfl (w_q rfl (fun h' L' hh hR => ov_move rfl) rfl (w_q rfl (fun h' L' hh hR => OpV.tr (by rfl) (ov_eql_i rfl rfl)) rfl (w_q rfl (fun h' L' hh hR => ov_move rfl) rfl (w_q_on rfl rfl rfl (fun h' L' hh hR => ov_move rfl) rfl (w_q_on rfl rfl rfl (fun h' L' hh hR => OpV.tr (by intro e; exact quoE_zero.1 e hg) (ov_neq_i (q := 0) rfl rfl)) rfl (w_q_on rfl rfl rfl (fun h' L' hh hR => ov_move rfl) rfl (w_q_off rfl rfl rfl rfl rfl (w_q_off rfl rfl rfl rfl rfl ?_)))))))))
   refine w_c rfl (s_off rfl rfl rfl rfl (w_q_on rfl rfl rfl (fun h' L' hh hR => ov_pick_t rfl rfl) rfl (w_q rfl (fun h' L' hh hR => ov_pick_t rfl rfl) rfl (w_q rfl (fun h' L' hh hR => ov_move rfl) rfl ?_))))
   replace rb_9 := rb_9.mono (hh6.trans hh7)
   refine w_qx_on (F := fun v_ => (rpP (rpQ 10) (rpQ 10)).Is h7 v_ (ofS (withinQ p22 i) (withinQ p22 j))) rfl rfl rfl (ox_load_box ty29 (Pc.here _) rfl rfl rb_9 rfl) (mem1 (.tail _ (.tail _ (.head _)))) rfl ?_
   intro v57 r57
   replace rb_6 := rb_6.mono hh7
   refine w_qx_on (F := fun v_ => (rpP (rpQ 2) (rpQ 2)).Is h7 v_ p24) rfl rfl rfl (ox_load_box ty29 (Pc.here _) rfl rfl rb_6 rfl) (mem1 (.tail _ (.tail _ (.tail _ (.head _))))) rfl ?_
   intro v58 r58
   replace rb_3 := rb_3.mono hh7
   refine w_qx_on (F := fun v_ => (rpP (rpQ 2) (rpQ 2)).Is h7 v_ p22) rfl rfl rfl (ox_load_box ty29 (Pc.here _) rfl rfl rb_3 rfl) (mem1 (.tail _ (.tail _ (.tail _ (.tail _ (.head _)))))) rfl ?_
   intro v60 r60
   refine w_qx_on (F := fun v_ => (rpP (rpQ 2) (rpQ 2)).Is h7 v_ p24) rfl rfl rfl (ox_load_box ty29 (Pc.here _) rfl rfl rb_6 rfl) (mem1 (.tail _ (.tail _ (.tail _ (.head _))))) rfl ?_
   intro v61 r61
   refine w_c rfl (s_on rfl rfl ?_)
   refine s_call (vs := [_, _]) Try.call29 ⟨rfl, rfl, trivial⟩ (fun w hs => o_span_add hs r57 r58 (by decide)) rfl ?_
   intro v59 h8 hh8 r59
   change (rpP (rpQ (10 + 2 + 1)) (rpQ (10 + 2 + 1))).Is h8 v59 (addS (ofS (withinQ p22 i) (withinQ p22 j)) p24) at r59
   replace r59 := Rp.Is.le r59 (Le.p (Le.q (l := 13) (by omega)) (Le.q (l := 13) (by omega)))
   refine w_c rfl (s_on rfl rfl ?_)
   replace r60 := r60.mono hh8
   replace r61 := r61.mono hh8
   refine s_call (vs := [_, _]) Try.call29 ⟨rfl, rfl, trivial⟩ (fun w hs => o_span_add hs r60 r61 (by decide)) rfl ?_
   intro v62 h9 hh9 r62
   change (rpP (rpQ (2 + 2 + 1)) (rpQ (2 + 2 + 1))).Is h9 v62 (addS p22 p24) at r62
   replace r62 := Rp.Is.le r62 (Le.p (Le.q (l := 5) (by omega)) (Le.q (l := 5) (by omega)))
   refine w_c rfl (s_on rfl rfl ?_)
   replace r59 := r59.mono hh9
   refine s_call (vs := [_, _]) Try.call28 ⟨rfl, rfl, trivial⟩ (fun w hs => o_span_inside hs r59 r62 (by decide)) rfl ?_
   intro v63 h10 hh10 r63
   obtain rfl : v63 = .bool true := by rw [show v63 = vB (hasP (addS p22 p24).1 (addS p22 p24).2 (addS (ofS (withinQ p22 i) (withinQ p22 j)) p24).1 ∧ hasP (addS p22 p24).1 (addS p22 p24).2 (addS (ofS (withinQ p22 i) (withinQ p22 j)) p24).2) from r63, vB_true (by exact narrow_add (of_sub (within_has hle22 i) (within_has hle22 j)) hle24)]
   refine w_q rfl (fun h' L' hh hR => ov_pick_t rfl rfl) rfl (w_q rfl (fun h' L' hh hR => ov_move rfl) rfl ?_)
   replace rb_9 := rb_9.mono ((hh8.trans hh9).trans hh10)
   refine w_qx_on (F := fun v_ => (rpP (rpQ 10) (rpQ 10)).Is h10 v_ (ofS (withinQ p22 i) (withinQ p22 j))) rfl rfl rfl (ox_load_box ty29 (Pc.here _) rfl rfl rb_9 rfl) (mem1 (.tail _ (.tail _ (.head _)))) rfl ?_
   intro v66 r66
   replace rb_6 := rb_6.mono ((hh8.trans hh9).trans hh10)
   refine w_qx_on (F := fun v_ => (rpP (rpQ 2) (rpQ 2)).Is h10 v_ p24) rfl rfl rfl (ox_load_box ty29 (Pc.here _) rfl rfl rb_6 rfl) (mem1 (.tail _ (.tail _ (.tail _ (.head _))))) rfl ?_
   intro v67 r67
   replace rb_3 := rb_3.mono ((hh8.trans hh9).trans hh10)
   refine w_qx_on (F := fun v_ => (rpP (rpQ 2) (rpQ 2)).Is h10 v_ p22) rfl rfl rfl (ox_load_box ty29 (Pc.here _) rfl rfl rb_3 rfl) (mem1 (.tail _ (.tail _ (.tail _ (.tail _ (.head _)))))) rfl ?_
   intro v69 r69
   refine w_qx_on (F := fun v_ => (rpP (rpQ 2) (rpQ 2)).Is h10 v_ p24) rfl rfl rfl (ox_load_box ty29 (Pc.here _) rfl rfl rb_6 rfl) (mem1 (.tail _ (.tail _ (.tail _ (.head _))))) rfl ?_
   intro v70 r70
   refine w_c rfl (s_on rfl rfl ?_)
   refine s_call (vs := [_, _]) Try.call30 ⟨rfl, rfl, trivial⟩ (fun w hs => o_span_mul hs r66 r67 (by decide)) rfl ?_
   intro v68 h11 hh11 r68
   change (rpP (rpQ (10 + 2)) (rpQ (10 + 2))).Is h11 v68 (mulS (ofS (withinQ p22 i) (withinQ p22 j)) p24) at r68
   replace r68 := Rp.Is.le r68 (Le.p (Le.q (l := 12) (by omega)) (Le.q (l := 12) (by omega)))
   refine w_c rfl (s_on rfl rfl ?_)
   replace r69 := r69.mono hh11
   replace r70 := r70.mono hh11
   refine s_call (vs := [_, _]) Try.call30 ⟨rfl, rfl, trivial⟩ (fun w hs => o_span_mul hs r69 r70 (by decide)) rfl ?_
   intro v71 h12 hh12 r71
   change (rpP (rpQ (2 + 2)) (rpQ (2 + 2))).Is h12 v71 (mulS p22 p24) at r71
   replace r71 := Rp.Is.le r71 (Le.p (Le.q (l := 4) (by omega)) (Le.q (l := 4) (by omega)))
   refine w_c rfl (s_on rfl rfl ?_)
   replace r68 := r68.mono hh12
   refine s_call (vs := [_, _]) Try.call28 ⟨rfl, rfl, trivial⟩ (fun w hs => o_span_inside hs r68 r71 (by decide)) rfl ?_
   intro v72 h13 hh13 r72
   obtain rfl : v72 = .bool true := by rw [show v72 = vB (hasP (mulS p22 p24).1 (mulS p22 p24).2 (mulS (ofS (withinQ p22 i) (withinQ p22 j)) p24).1 ∧ hasP (mulS p22 p24).1 (mulS p22 p24).2 (mulS (ofS (withinQ p22 i) (withinQ p22 j)) p24).2) from r72, vB_true (by exact narrow_mul (of_sub (within_has hle22 i) (within_has hle22 j)) hle24)]
   refine w_q rfl (fun h' L' hh hR => ov_pick_t rfl rfl) rfl (w_q rfl (fun h' L' hh hR => ov_move rfl) rfl ?_)
   replace rb_9 := rb_9.mono ((hh11.trans hh12).trans hh13)
   refine w_qx_on (F := fun v_ => (rpP (rpQ 10) (rpQ 10)).Is h13 v_ (ofS (withinQ p22 i) (withinQ p22 j))) rfl rfl rfl (ox_load_box ty29 (Pc.here _) rfl rfl rb_9 rfl) (mem1 (.tail _ (.tail _ (.head _)))) rfl ?_
   intro v75 r75
   replace rb_3 := rb_3.mono ((hh11.trans hh12).trans hh13)
   refine w_qx_on (F := fun v_ => (rpP (rpQ 2) (rpQ 2)).Is h13 v_ p22) rfl rfl rfl (ox_load_box ty29 (Pc.here _) rfl rfl rb_3 rfl) (mem1 (.tail _ (.tail _ (.tail _ (.tail _ (.head _)))))) rfl ?_
   intro v77 r77
   refine w_c rfl (s_on rfl rfl ?_)
   refine s_call (vs := [_]) Try.call31 ⟨rfl, trivial⟩ (fun w hs => o_span_sqr hs r75 (by decide)) rfl ?_
   intro v76 h14 hh14 r76
   change (rpP (rpQ (10 + 10)) (rpQ (10 + 10))).Is h14 v76 (sqrS (ofS (withinQ p22 i) (withinQ p22 j))) at r76
   replace r76 := Rp.Is.le r76 (Le.p (Le.q (l := 20) (by omega)) (Le.q (l := 20) (by omega)))
   refine w_c rfl (s_on rfl rfl ?_)
   replace r77 := r77.mono hh14
   refine s_call (vs := [_]) Try.call31 ⟨rfl, trivial⟩ (fun w hs => o_span_sqr hs r77 (by decide)) rfl ?_
   intro v78 h15 hh15 r78
   change (rpP (rpQ (2 + 2)) (rpQ (2 + 2))).Is h15 v78 (sqrS p22) at r78
   replace r78 := Rp.Is.le r78 (Le.p (Le.q (l := 4) (by omega)) (Le.q (l := 4) (by omega)))
   refine w_c rfl (s_on rfl rfl ?_)
   replace r76 := r76.mono hh15
   refine s_call (vs := [_, _]) Try.call28 ⟨rfl, rfl, trivial⟩ (fun w hs => o_span_inside hs r76 r78 (by decide)) rfl ?_
   intro v79 h16 hh16 r79
   obtain rfl : v79 = .bool true := by rw [show v79 = vB (hasP (sqrS p22).1 (sqrS p22).2 (sqrS (ofS (withinQ p22 i) (withinQ p22 j))).1 ∧ hasP (sqrS p22).1 (sqrS p22).2 (sqrS (ofS (withinQ p22 i) (withinQ p22 j))).2) from r79, vB_true (by exact narrow_sqr (of_sub (within_has hle22 i) (within_has hle22 j)) (of_ends _ _))]
   refine w_q rfl (fun h' L' hh hR => ov_pick_t rfl rfl) rfl (w_q rfl (fun h' L' hh hR => ov_move rfl) rfl ?_)
   replace rb_9 := rb_9.mono ((hh14.trans hh15).trans hh16)
   refine w_qx_on (F := fun v_ => (rpP (rpQ 10) (rpQ 10)).Is h16 v_ (ofS (withinQ p22 i) (withinQ p22 j))) rfl rfl rfl (ox_load_box ty29 (Pc.here _) rfl rfl rb_9 rfl) (mem1 (.tail _ (.tail _ (.head _)))) rfl ?_
   intro v82 r82
   replace rb_3 := rb_3.mono ((hh14.trans hh15).trans hh16)
   refine w_qx_on (F := fun v_ => (rpP (rpQ 2) (rpQ 2)).Is h16 v_ p22) rfl rfl rfl (ox_load_box ty29 (Pc.here _) rfl rfl rb_3 rfl) (mem1 (.tail _ (.tail _ (.tail _ (.tail _ (.head _)))))) rfl ?_
   intro v84 r84
   refine w_c rfl (s_on rfl rfl ?_)
   refine s_call (vs := [_, vI (2)]) Try.call12 ⟨rfl, rfl, trivial⟩ (fun w hs => o_span_round hs r82 (by decide) (by decide) (by decide)) rfl ?_
   intro v83 h17 hh17 r83
   change (rpP (rpQ (10 + 130)) (rpQ (10 + 130))).Is h17 v83 (roundS (ofS (withinQ p22 i) (withinQ p22 j)) (2 : Int)) at r83
   replace r83 := Rp.Is.le r83 (Le.p (Le.q (l := 140) (by omega)) (Le.q (l := 140) (by omega)))
   refine w_c rfl (s_on rfl rfl ?_)
   replace r84 := r84.mono hh17
   refine s_call (vs := [_, vI (2)]) Try.call12 ⟨rfl, rfl, trivial⟩ (fun w hs => o_span_round hs r84 (by decide) (by decide) (by decide)) rfl ?_
   intro v85 h18 hh18 r85
   change (rpP (rpQ (2 + 130)) (rpQ (2 + 130))).Is h18 v85 (roundS p22 (2 : Int)) at r85
   replace r85 := Rp.Is.le r85 (Le.p (Le.q (l := 132) (by omega)) (Le.q (l := 132) (by omega)))
   refine w_c rfl (s_on rfl rfl ?_)
   replace r83 := r83.mono hh18
   refine s_call (vs := [_, _]) Try.call28 ⟨rfl, rfl, trivial⟩ (fun w hs => o_span_inside hs r83 r85 (by decide)) rfl ?_
   intro v86 h19 hh19 r86
   obtain rfl : v86 = .bool true := by rw [show v86 = vB (hasP (roundS p22 (2 : Int)).1 (roundS p22 (2 : Int)).2 (roundS (ofS (withinQ p22 i) (withinQ p22 j)) (2 : Int)).1 ∧ hasP (roundS p22 (2 : Int)).1 (roundS p22 (2 : Int)).2 (roundS (ofS (withinQ p22 i) (withinQ p22 j)) (2 : Int)).2) from r86, vB_true (by exact narrow_round (of_sub (within_has hle22 i) (within_has hle22 j)) (of_ends _ _) 2)]
   refine w_q rfl (fun h' L' hh hR => ov_pick_t rfl rfl) rfl (w_q rfl (fun h' L' hh hR => ov_move rfl) rfl ?_)
   refine w_c rfl (s_on rfl rfl ?_)
   refine s_call (vs := []) Try.call8 trivial (fun w hs => law3_awake hs) rfl ?_
   intro v89 h20 hh20 hr89
   subst hr89
   refine w_q rfl (fun h' L' hh hR => ov_pick_t rfl rfl) rfl (w_q rfl (fun h' L' hh hR => ov_assign rfl) rfl (w_nil (gq_keep (e' := [(6, _)]) ⟨rfl, trivial⟩ (gq_then (gc_ret (gq_body1 rfl rfl ?_))))))
   rfl
  ·
   refine gc_draw 48 _ [] [(0, .q), (1, .q), (2, .q), (3, .q), (4, .q), (5, .q), (6, .q), (7, .q), (8, .q), (9, .c), (10, .q), (11, .q), (12, .q), (13, .q), (14, .q), (16, .q), (17, .q), (15, .c), (18, .c), (19, .c), (20, .q), (21, .q), (22, .q), (23, .q), (25, .q), (26, .q), (24, .c), (27, .c), (28, .c), (29, .q), (30, .q), (31, .q), (33, .q), (32, .c), (34, .c), (35, .c), (36, .q), (37, .q), (38, .q), (40, .q), (39, .c), (41, .c), (42, .c), (43, .q), (44, .q), (45, .c), (46, .q), (47, .q)] mixed (fun x hx => by cases hx) (by kernel_rfl) (fun x hx => by cases hx) (fun r hr => hr) (w_q rfl (fun h' L' hh hR => ov_move rfl) rfl (w_q rfl (fun h' L' hh hR => ov_move rfl) rfl (w_q rfl (fun h' L' hh hR => OpV.tr (by rfl) (ov_eql_i rfl rfl)) rfl (w_q rfl (fun h' L' hh hR => ov_move rfl) rfl (w_q_on rfl rfl rfl (fun h' L' hh hR => ov_move rfl) rfl (w_q_on rfl rfl rfl (fun h' L' hh hR => OpV.fa (by exact fun e => e (quoE_zero.2 hg)) (ov_neq_i (q := 0) rfl rfl)) rfl (w_q_on rfl rfl rfl (fun h' L' hh hR => ov_move rfl) rfl ?_)))))))
   replace rb_12 := rb_12.mono hh7
   refine w_qx_on (F := fun v_ => (rpP (rpQ 14) (rpQ 14)).Is h7 v_ (quoS (ofS (withinQ p22 i) (withinQ p22 j)) p24)) rfl rfl rfl (ox_load_box ty29 (Pc.here _) rfl rfl rb_12 rfl) (mem1 (.tail _ (.head _))) rfl ?_
   intro v51 r51
   refine w_qx_on (F := fun v_ => (rpP (rpQ 6) (rpQ 6)).Is h7 v_ (quoS p22 p24)) rfl rfl rfl (ox_load_box ty29 (Pc.here _) rfl rfl rb_15 rfl) (mem1 (.head _)) rfl ?_
   intro v52 r52
   refine w_c rfl (s_on rfl rfl ?_)
   refine s_call (vs := [_, _]) Try.call28 ⟨rfl, rfl, trivial⟩ (fun w hs => o_span_inside hs r51 r52 (by decide)) rfl ?_
   intro v53 h8 hh8 r53
   obtain rfl : v53 = .bool true := by rw [show v53 = vB (hasP (quoS p22 p24).1 (quoS p22 p24).2 (quoS (ofS (withinQ p22 i) (withinQ p22 j)) p24).1 ∧ hasP (quoS p22 p24).1 (quoS p22 p24).2 (quoS (ofS (withinQ p22 i) (withinQ p22 j)) p24).2) from r53, vB_true (by exact narrow_quo (of_sub (within_has hle22 i) (within_has hle22 j)) hg)]
   refine w_q_on rfl rfl rfl (fun h' L' hh hR => ov_pick_f rfl rfl) rfl (w_q rfl (fun h' L' hh hR => ov_pick_t rfl rfl) rfl (w_q rfl (fun h' L' hh hR => ov_move rfl) rfl ?_))
   replace rb_9 := rb_9.mono ((hh6.trans hh7).trans hh8)
   refine w_qx_on (F := fun v_ => (rpP (rpQ 10) (rpQ 10)).Is h8 v_ (ofS (withinQ p22 i) (withinQ p22 j))) rfl rfl rfl (ox_load_box ty29 (Pc.here _) rfl rfl rb_9 rfl) (mem1 (.tail _ (.tail _ (.head _)))) rfl ?_
   intro v57 r57
   replace rb_6 := rb_6.mono (hh7.trans hh8)
   refine w_qx_on (F := fun v_ => (rpP (rpQ 2) (rpQ 2)).Is h8 v_ p24) rfl rfl rfl (ox_load_box ty29 (Pc.here _) rfl rfl rb_6 rfl) (mem1 (.tail _ (.tail _ (.tail _ (.head _))))) rfl ?_
   intro v58 r58
   replace rb_3 := rb_3.mono (hh7.trans hh8)
   refine w_qx_on (F := fun v_ => (rpP (rpQ 2) (rpQ 2)).Is h8 v_ p22) rfl rfl rfl (ox_load_box ty29 (Pc.here _) rfl rfl rb_3 rfl) (mem1 (.tail _ (.tail _ (.tail _ (.tail _ (.head _)))))) rfl ?_
   intro v60 r60
   refine w_qx_on (F := fun v_ => (rpP (rpQ 2) (rpQ 2)).Is h8 v_ p24) rfl rfl rfl (ox_load_box ty29 (Pc.here _) rfl rfl rb_6 rfl) (mem1 (.tail _ (.tail _ (.tail _ (.head _))))) rfl ?_
   intro v61 r61
   refine w_c rfl (s_on rfl rfl ?_)
   refine s_call (vs := [_, _]) Try.call29 ⟨rfl, rfl, trivial⟩ (fun w hs => o_span_add hs r57 r58 (by decide)) rfl ?_
   intro v59 h9 hh9 r59
   change (rpP (rpQ (10 + 2 + 1)) (rpQ (10 + 2 + 1))).Is h9 v59 (addS (ofS (withinQ p22 i) (withinQ p22 j)) p24) at r59
   replace r59 := Rp.Is.le r59 (Le.p (Le.q (l := 13) (by omega)) (Le.q (l := 13) (by omega)))
   refine w_c rfl (s_on rfl rfl ?_)
   replace r60 := r60.mono hh9
   replace r61 := r61.mono hh9
   refine s_call (vs := [_, _]) Try.call29 ⟨rfl, rfl, trivial⟩ (fun w hs => o_span_add hs r60 r61 (by decide)) rfl ?_
   intro v62 h10 hh10 r62
   change (rpP (rpQ (2 + 2 + 1)) (rpQ (2 + 2 + 1))).Is h10 v62 (addS p22 p24) at r62
   replace r62 := Rp.Is.le r62 (Le.p (Le.q (l := 5) (by omega)) (Le.q (l := 5) (by omega)))
   refine w_c rfl (s_on rfl rfl ?_)
   replace r59 := r59.mono hh10
   refine s_call (vs := [_, _]) Try.call28 ⟨rfl, rfl, trivial⟩ (fun w hs => o_span_inside hs r59 r62 (by decide)) rfl ?_
   intro v63 h11 hh11 r63
   obtain rfl : v63 = .bool true := by rw [show v63 = vB (hasP (addS p22 p24).1 (addS p22 p24).2 (addS (ofS (withinQ p22 i) (withinQ p22 j)) p24).1 ∧ hasP (addS p22 p24).1 (addS p22 p24).2 (addS (ofS (withinQ p22 i) (withinQ p22 j)) p24).2) from r63, vB_true (by exact narrow_add (of_sub (within_has hle22 i) (within_has hle22 j)) hle24)]
   refine w_q rfl (fun h' L' hh hR => ov_pick_t rfl rfl) rfl (w_q rfl (fun h' L' hh hR => ov_move rfl) rfl ?_)
   replace rb_9 := rb_9.mono ((hh9.trans hh10).trans hh11)
   refine w_qx_on (F := fun v_ => (rpP (rpQ 10) (rpQ 10)).Is h11 v_ (ofS (withinQ p22 i) (withinQ p22 j))) rfl rfl rfl (ox_load_box ty29 (Pc.here _) rfl rfl rb_9 rfl) (mem1 (.tail _ (.tail _ (.head _)))) rfl ?_
   intro v66 r66
   replace rb_6 := rb_6.mono ((hh9.trans hh10).trans hh11)
   refine w_qx_on (F := fun v_ => (rpP (rpQ 2) (rpQ 2)).Is h11 v_ p24) rfl rfl rfl (ox_load_box ty29 (Pc.here _) rfl rfl rb_6 rfl) (mem1 (.tail _ (.tail _ (.tail _ (.head _))))) rfl ?_
   intro v67 r67
   replace rb_3 := rb_3.mono ((hh9.trans hh10).trans hh11)
   refine w_qx_on (F := fun v_ => (rpP (rpQ 2) (rpQ 2)).Is h11 v_ p22) rfl rfl rfl (ox_load_box ty29 (Pc.here _) rfl rfl rb_3 rfl) (mem1 (.tail _ (.tail _ (.tail _ (.tail _ (.head _)))))) rfl ?_
   intro v69 r69
   refine w_qx_on (F := fun v_ => (rpP (rpQ 2) (rpQ 2)).Is h11 v_ p24) rfl rfl rfl (ox_load_box ty29 (Pc.here _) rfl rfl rb_6 rfl) (mem1 (.tail _ (.tail _ (.tail _ (.head _))))) rfl ?_
   intro v70 r70
   refine w_c rfl (s_on rfl rfl ?_)
   refine s_call (vs := [_, _]) Try.call30 ⟨rfl, rfl, trivial⟩ (fun w hs => o_span_mul hs r66 r67 (by decide)) rfl ?_
   intro v68 h12 hh12 r68
   change (rpP (rpQ (10 + 2)) (rpQ (10 + 2))).Is h12 v68 (mulS (ofS (withinQ p22 i) (withinQ p22 j)) p24) at r68
   replace r68 := Rp.Is.le r68 (Le.p (Le.q (l := 12) (by omega)) (Le.q (l := 12) (by omega)))
   refine w_c rfl (s_on rfl rfl ?_)
   replace r69 := r69.mono hh12
   replace r70 := r70.mono hh12
   refine s_call (vs := [_, _]) Try.call30 ⟨rfl, rfl, trivial⟩ (fun w hs => o_span_mul hs r69 r70 (by decide)) rfl ?_
   intro v71 h13 hh13 r71
   change (rpP (rpQ (2 + 2)) (rpQ (2 + 2))).Is h13 v71 (mulS p22 p24) at r71
   replace r71 := Rp.Is.le r71 (Le.p (Le.q (l := 4) (by omega)) (Le.q (l := 4) (by omega)))
   refine w_c rfl (s_on rfl rfl ?_)
   replace r68 := r68.mono hh13
   refine s_call (vs := [_, _]) Try.call28 ⟨rfl, rfl, trivial⟩ (fun w hs => o_span_inside hs r68 r71 (by decide)) rfl ?_
   intro v72 h14 hh14 r72
   obtain rfl : v72 = .bool true := by rw [show v72 = vB (hasP (mulS p22 p24).1 (mulS p22 p24).2 (mulS (ofS (withinQ p22 i) (withinQ p22 j)) p24).1 ∧ hasP (mulS p22 p24).1 (mulS p22 p24).2 (mulS (ofS (withinQ p22 i) (withinQ p22 j)) p24).2) from r72, vB_true (by exact narrow_mul (of_sub (within_has hle22 i) (within_has hle22 j)) hle24)]
   refine w_q rfl (fun h' L' hh hR => ov_pick_t rfl rfl) rfl (w_q rfl (fun h' L' hh hR => ov_move rfl) rfl ?_)
   replace rb_9 := rb_9.mono ((hh12.trans hh13).trans hh14)
   refine w_qx_on (F := fun v_ => (rpP (rpQ 10) (rpQ 10)).Is h14 v_ (ofS (withinQ p22 i) (withinQ p22 j))) rfl rfl rfl (ox_load_box ty29 (Pc.here _) rfl rfl rb_9 rfl) (mem1 (.tail _ (.tail _ (.head _)))) rfl ?_
   intro v75 r75
   replace rb_3 := rb_3.mono ((hh12.trans hh13).trans hh14)
   refine w_qx_on (F := fun v_ => (rpP (rpQ 2) (rpQ 2)).Is h14 v_ p22) rfl rfl rfl (ox_load_box ty29 (Pc.here _) rfl rfl rb_3 rfl) (mem1 (.tail _ (.tail _ (.tail _ (.tail _ (.head _)))))) rfl ?_
   intro v77 r77
   refine w_c rfl (s_on rfl rfl ?_)
   refine s_call (vs := [_]) Try.call31 ⟨rfl, trivial⟩ (fun w hs => o_span_sqr hs r75 (by decide)) rfl ?_
   intro v76 h15 hh15 r76
   change (rpP (rpQ (10 + 10)) (rpQ (10 + 10))).Is h15 v76 (sqrS (ofS (withinQ p22 i) (withinQ p22 j))) at r76
   replace r76 := Rp.Is.le r76 (Le.p (Le.q (l := 20) (by omega)) (Le.q (l := 20) (by omega)))
   refine w_c rfl (s_on rfl rfl ?_)
   replace r77 := r77.mono hh15
   refine s_call (vs := [_]) Try.call31 ⟨rfl, trivial⟩ (fun w hs => o_span_sqr hs r77 (by decide)) rfl ?_
   intro v78 h16 hh16 r78
   change (rpP (rpQ (2 + 2)) (rpQ (2 + 2))).Is h16 v78 (sqrS p22) at r78
   replace r78 := Rp.Is.le r78 (Le.p (Le.q (l := 4) (by omega)) (Le.q (l := 4) (by omega)))
   refine w_c rfl (s_on rfl rfl ?_)
   replace r76 := r76.mono hh16
   refine s_call (vs := [_, _]) Try.call28 ⟨rfl, rfl, trivial⟩ (fun w hs => o_span_inside hs r76 r78 (by decide)) rfl ?_
   intro v79 h17 hh17 r79
   obtain rfl : v79 = .bool true := by rw [show v79 = vB (hasP (sqrS p22).1 (sqrS p22).2 (sqrS (ofS (withinQ p22 i) (withinQ p22 j))).1 ∧ hasP (sqrS p22).1 (sqrS p22).2 (sqrS (ofS (withinQ p22 i) (withinQ p22 j))).2) from r79, vB_true (by exact narrow_sqr (of_sub (within_has hle22 i) (within_has hle22 j)) (of_ends _ _))]
   refine w_q rfl (fun h' L' hh hR => ov_pick_t rfl rfl) rfl (w_q rfl (fun h' L' hh hR => ov_move rfl) rfl ?_)
   replace rb_9 := rb_9.mono ((hh15.trans hh16).trans hh17)
   refine w_qx_on (F := fun v_ => (rpP (rpQ 10) (rpQ 10)).Is h17 v_ (ofS (withinQ p22 i) (withinQ p22 j))) rfl rfl rfl (ox_load_box ty29 (Pc.here _) rfl rfl rb_9 rfl) (mem1 (.tail _ (.tail _ (.head _)))) rfl ?_
   intro v82 r82
   replace rb_3 := rb_3.mono ((hh15.trans hh16).trans hh17)
   refine w_qx_on (F := fun v_ => (rpP (rpQ 2) (rpQ 2)).Is h17 v_ p22) rfl rfl rfl (ox_load_box ty29 (Pc.here _) rfl rfl rb_3 rfl) (mem1 (.tail _ (.tail _ (.tail _ (.tail _ (.head _)))))) rfl ?_
   intro v84 r84
   refine w_c rfl (s_on rfl rfl ?_)
   refine s_call (vs := [_, vI (2)]) Try.call12 ⟨rfl, rfl, trivial⟩ (fun w hs => o_span_round hs r82 (by decide) (by decide) (by decide)) rfl ?_
   intro v83 h18 hh18 r83
   change (rpP (rpQ (10 + 130)) (rpQ (10 + 130))).Is h18 v83 (roundS (ofS (withinQ p22 i) (withinQ p22 j)) (2 : Int)) at r83
   replace r83 := Rp.Is.le r83 (Le.p (Le.q (l := 140) (by omega)) (Le.q (l := 140) (by omega)))
   refine w_c rfl (s_on rfl rfl ?_)
   replace r84 := r84.mono hh18
   refine s_call (vs := [_, vI (2)]) Try.call12 ⟨rfl, rfl, trivial⟩ (fun w hs => o_span_round hs r84 (by decide) (by decide) (by decide)) rfl ?_
   intro v85 h19 hh19 r85
   change (rpP (rpQ (2 + 130)) (rpQ (2 + 130))).Is h19 v85 (roundS p22 (2 : Int)) at r85
   replace r85 := Rp.Is.le r85 (Le.p (Le.q (l := 132) (by omega)) (Le.q (l := 132) (by omega)))
   refine w_c rfl (s_on rfl rfl ?_)
   replace r83 := r83.mono hh19
   refine s_call (vs := [_, _]) Try.call28 ⟨rfl, rfl, trivial⟩ (fun w hs => o_span_inside hs r83 r85 (by decide)) rfl ?_
   intro v86 h20 hh20 r86
   obtain rfl : v86 = .bool true := by rw [show v86 = vB (hasP (roundS p22 (2 : Int)).1 (roundS p22 (2 : Int)).2 (roundS (ofS (withinQ p22 i) (withinQ p22 j)) (2 : Int)).1 ∧ hasP (roundS p22 (2 : Int)).1 (roundS p22 (2 : Int)).2 (roundS (ofS (withinQ p22 i) (withinQ p22 j)) (2 : Int)).2) from r86, vB_true (by exact narrow_round (of_sub (within_has hle22 i) (within_has hle22 j)) (of_ends _ _) 2)]
   refine w_q rfl (fun h' L' hh hR => ov_pick_t rfl rfl) rfl (w_q rfl (fun h' L' hh hR => ov_move rfl) rfl ?_)
   refine w_c rfl (s_on rfl rfl ?_)
   refine s_call (vs := []) Try.call8 trivial (fun w hs => law3_awake hs) rfl ?_
   intro v89 h21 hh21 hr89
   subst hr89
   refine w_q rfl (fun h' L' hh hR => ov_pick_t rfl rfl) rfl (w_q rfl (fun h' L' hh hR => ov_assign rfl) rfl (w_nil (gq_keep (e' := [(6, _)]) ⟨rfl, trivial⟩ (gq_then (gc_ret (gq_body1 rfl rfl ?_))))))
   rfl

end Go.Proofs.Ytkdmphehabpcfaa
