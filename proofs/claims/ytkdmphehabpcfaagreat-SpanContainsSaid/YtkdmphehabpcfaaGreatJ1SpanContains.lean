/- Texts that the proof needs, part 1. -/
import Derived.Test.YtkdmphehabpcfaaGreatK6

namespace Go.Proofs.YtkdmphehabpcfaaGreat
open Bk Go
set_option linter.unusedVariables false
set_option linter.unusedSimpArgs false
set_option maxRecDepth 10000

theorem law3_spancontains {w0 : World} {h0 : Mem}  (hs : MLe h0 (mem w0)) {vl : Value} {xsl : List Int} (hl : Is h0 vl xsl) {i : Int} (hi1 : -9223372036854775808 ≤ i) (hi2 : i < 9223372036854775808) {j : Int} (hj1 : -9223372036854775808 ≤ j) (hj2 : j < 9223372036854775808) :
    Calls Tryz.prog 5 #[vl, vI i, vI j] w0 (Ret w0 h0 (fun _ r => r = .bool true)) := by
 have hlenl := hl.lt63
 refine calls_begin (n := 116) (e := [(0, vl), (1, vI i), (2, vI j)]) (vs := [vl, vI i, vI j]) Tryz.func5 rfl rfl (Nat.le_of_ble_eq_true rfl) hs ⟨rfl, rfl, rfl, trivial⟩ (gc_seq (gc_region (asg rfl rfl (gl_nil (gq_then (gc_seq (gc_seq (gc_region (mv rfl rfl ?_)))))))))
 refine gl_call (vs := [_]) rfl rfl rfl rfl Tryz.call6 ⟨rfl, trivial⟩ (fun w hs => made_light hs hl) ?_
 intro v17 h1 hh1 hr17
 subst hr17
 refine gv (ov_not rfl) rfl (gl_nil (gq_then ?_))
 refine gc_cond rfl (fun hc18 => ?_) (fun hc18 => ?_)
 ·
  refine gc_seq (gc_region ?_)
  refine gl_call (vs := []) rfl rfl rfl rfl Tryz.call7 trivial (fun w hs => law3_awake hs) ?_
  intro v19 h2 hh2 hr19
  subst hr19
  refine asg rfl rfl (gl_nil (gq_then (gc_ret (gr_then (gq_body1 rfl rfl ?_)))))
  rfl
 ·
  refine gc_skip (gq_then (gc_seq (gc_region (mv rfl rfl ?_))))
  replace hl := hl.mono hh1
  refine gl_call_own (vs := [_]) rfl rfl rfl rfl Tryz.call8 ⟨rfl, trivial⟩ (fun w hs => made_roll hs hl) ?_
  intro v21 h2 L21 hh2 hr21
  obtain ⟨b21, rfl, rfl⟩ := hr21
  refine asg rfl rfl (gl_nil (gq_then (gc_seq (gc_region (mv rfl rfl ?_)))))
  replace hl := hl.mono hh2
  refine gl_call_mut2 (A := []) (vs := [_]) Tryz.call9 ⟨rfl, trivial⟩ (fun X w hs => o_dice_span hl (by first | omega | exact Nat.zero_le _) hs) rfl ?_
  intro v23 g23 q23 hg23 hr23
  obtain ⟨k23, p23, rfl, hk23, hle23, hr23⟩ := hr23
  refine mv rfl rfl ?_
  replace hl := hl.mono hg23
  refine gl_call_mut2 (A := []) (vs := [_]) Tryz.call9 ⟨rfl, trivial⟩ (fun X w hs => o_dice_span hl (by first | omega | exact Nat.zero_le _) hs) rfl ?_
  intro v25 g25 q25 hg25 hr25
  obtain ⟨k25, p25, rfl, hk25, hle25, hr25⟩ := hr25
  refine gl_newop (new_allocx (ρ := (rpP (rpQ 1) (rpQ 1))) (X := ((0 : Rat), (0 : Rat))) info31 rfl rfl (zr_p (zr_q (by decide)) (zr_q (by decide)))) rfl rfl rfl ?_
  intro v8 q8 hq8
  obtain ⟨b8, cs8, rfl, rfl, rb8⟩ := hq8
  refine gl_newop (new_allocx (ρ := (rpP (rpQ 1) (rpQ 1))) (X := ((0 : Rat), (0 : Rat))) info31 rfl rfl (zr_p (zr_q (by decide)) (zr_q (by decide)))) rfl rfl rfl ?_
  intro v9 q9 hq9
  obtain ⟨b9, cs9, rfl, rfl, rb9⟩ := hq9
  have rw_1 := (Le.p (Le.q (l := 2) (by decide)) (Le.q (l := 2) (by decide))).R rb8
  replace hr23 := hr23.mono hg25
  refine gl_updx (A := [_]) (F := fun c_ => (rpP (rpQ 2) (rpQ 2)).R g25 c_ p23) (upd_box Tryz.sizeOf31 (Pc.here _) rfl rfl rfl rw_1 hr23 rfl) ?_
  intro cs_2 rb_3
  have rw_4 := (Le.p (Le.q (l := 2) (by decide)) (Le.q (l := 2) (by decide))).R rb9
  refine gl_updx (A := []) (F := fun c_ => (rpP (rpQ 2) (rpQ 2)).R g25 c_ p25) (upd_box Tryz.sizeOf31 (Pc.here _) rfl rfl rfl rw_4 hr25 rfl) ?_
  intro cs_5 rb_6
  refine gl_nil (gq_keep (e' := [(1, _), (2, _), (8, _), (9, _)]) ⟨rfl, rfl, rfl, rfl, trivial⟩ (gq_then (gc_seq ?_)))
  refine gc_draw 8 _ [(6, (10, 29, [.bool false, .slice none 0 0, .slice none 0 0])), (7, (11, 29, [.bool false, .slice none 0 0, .slice none 0 0]))] [(0, .q), (1, .q), (3, .q), (4, .q), (2, .c), (5, .c), (6, .a), (7, .a), (8, .t), (9, .t)] mixed (AlOk.cons rfl (zero_run info29 rfl rfl) (AlOk.cons rfl (zero_run info29 rfl rfl) AlOk.nil)) (by kernel_rfl) (hae_cons rfl rfl (hae_cons rfl rfl hae_nil)) (fun r hr => hr) (w_qx (F := fun v_ => (rpP (rpQ 2) (rpQ 2)).Is g25 v_ p23) rfl (ox_load_box ty31 (Pc.here _) rfl rfl rb_3 rfl) (mem1 (.tail _ (.head _))) rfl ?_)
  intro v26 r26
  refine w_q rfl (fun h' L' hh hR => ov_move rfl) rfl (w_qx (F := fun v_ => (rpP (rpQ 2) (rpQ 2)).Is g25 v_ p25) rfl (ox_load_box ty31 (Pc.here _) rfl rfl rb_6 rfl) (mem1 (.head _)) rfl ?_)
  intro v29 r29
  refine w_q rfl (fun h' L' hh hR => ov_move rfl) rfl ?_
  refine w_c rfl ?_
  refine s_call (vs := [_, _]) Tryz.call48 ⟨rfl, rfl, trivial⟩ (fun w hs => o_made_within hs r26 (by omega) (by omega) (by decide)) rfl ?_
  intro v28 h3 hh3 r28
  change (rpQ (3 * 2 + 4)).Is h3 v28 (withinQ p23 i) at r28
  replace r28 := Rp.Is.le r28 (Le.q (l := 10) (by omega))
  refine w_c rfl ?_
  replace r29 := r29.mono hh3
  refine s_call (vs := [_, _]) Tryz.call48 ⟨rfl, rfl, trivial⟩ (fun w hs => o_made_within hs r29 (by omega) (by omega) (by decide)) rfl ?_
  intro v31 h4 hh4 r31
  change (rpQ (3 * 2 + 4)).Is h4 v31 (withinQ p25 j) at r31
  replace r31 := Rp.Is.le r31 (Le.q (l := 10) (by omega))
  refine w_a rfl (fun b10 => ?_)
  have rb10 : (rpQ 1).R h4 [.bool false, .slice none 0 0, .slice none 0 0] (0 : Rat) := (zr_q (by decide))
  refine w_a rfl (fun b11 => ?_)
  have rb11 : (rpQ 1).R h4 [.bool false, .slice none 0 0, .slice none 0 0] (0 : Rat) := (zr_q (by decide))
  have rw_7 := (Le.q (l := 10) (by decide)).R rb10
  replace r28 := r28.mono hh4
  refine w_tx_upd (A := [_]) (F := fun c_ => (rpQ 10).R h4 c_ (withinQ p23 i)) rfl (upd_box Tryz.sizeOf29 (Pc.here _) rfl rfl rfl rw_7 r28 rfl) ?_
  intro cs_8 rb_9
  have rw_10 := (Le.q (l := 10) (by decide)).R rb11
  refine w_tx_upd (A := []) (F := fun c_ => (rpQ 10).R h4 c_ (withinQ p25 j)) rfl (upd_box Tryz.sizeOf29 (Pc.here _) rfl rfl rfl rw_10 r31 rfl) ?_
  intro cs_11 rb_12
  refine w_nil (gq_then (gc_seq (gc_region ?_)))
  replace rb_3 := rb_3.mono (hh3.trans hh4)
  refine gl_x (F := fun v_ => (rpP (rpQ 2) (rpQ 2)).Is h4 v_ p23) (ox_load_box ty31 (Pc.here _) rfl rfl rb_3 rfl) (mem1 (.tail _ (.tail _ (.tail _ (.head _))))) rfl ?_
  intro v33 r33
  replace rb_6 := rb_6.mono (hh3.trans hh4)
  refine gl_x (F := fun v_ => (rpP (rpQ 2) (rpQ 2)).Is h4 v_ p25) (ox_load_box ty31 (Pc.here _) rfl rfl rb_6 rfl) (mem1 (.tail _ (.tail _ (.head _)))) rfl ?_
  intro v34 r34
  refine gl_call (vs := [_, _]) rfl rfl rfl rfl Tryz.call36 ⟨rfl, rfl, trivial⟩ (fun w hs => o_span_quo hs r33 r34 (by decide)) ?_
  intro v35 h5 hh5 r35
  obtain ⟨v35_0, rfl, r35_0⟩ := r35
  change (rpP (rpQ (2 + 2 + 2)) (rpQ (2 + 2 + 2))).Is h5 v35_0 (quoS p23 p25) at r35_0
  replace r35_0 := Rp.Is.le r35_0 (Le.p (Le.q (l := 6) (by omega)) (Le.q (l := 6) (by omega)))
  refine mv rfl rfl (gv (ov_extract (vs := [_, _]) rfl rfl) rfl (gv (ov_extract (vs := [_, _]) rfl rfl) rfl (gl_newop (new_allocx (ρ := (rpP (rpQ 1) (rpQ 1))) (X := ((0 : Rat), (0 : Rat))) info31 rfl rfl (zr_p (zr_q (by decide)) (zr_q (by decide)))) rfl rfl rfl ?_)))
  intro v12 q12 hq12
  obtain ⟨b12, cs12, rfl, rfl, rb12⟩ := hq12
  have rw_13 := (Le.p (Le.q (l := 6) (by decide)) (Le.q (l := 6) (by decide))).R rb12
  refine gl_updx (A := []) (F := fun c_ => (rpP (rpQ 6) (rpQ 6)).R h5 c_ (quoS p23 p25)) (upd_box Tryz.sizeOf31 (Pc.here _) rfl rfl rfl rw_13 r35_0 rfl) ?_
  intro cs_14 rb_15
  refine asg rfl rfl (gl_nil (gq_keep (e' := [(8, _), (9, _), (10, _), (11, _), (12, _), (13, _)]) ⟨rfl, rfl, rfl, rfl, rfl, rfl, trivial⟩ (gq_then ?_)))
  refine gc_cut (ι := Nat × Mem) (fun (x_ : (Nat × Mem)) => match x_ with | (kd_16, mc1) => MLe h5 mc1 ∧ (kd_16 ≤ xsl.length ∧ True)) (fun (x_ : (Nat × Mem)) => match x_ with | (kd_16, mc1) => [(8, vP b8 0), (9, vP b9 0), (10, vP b10 0), (11, vP b11 0)]) (fun (x_ : (Nat × Mem)) => match x_ with | (kd_16, mc1) => [.var b12 31 cs_14, .var b11 29 cs_11, .var b10 29 cs_8, .var b9 31 cs_5, .var b8 31 cs_2, .var b21 61 [vl, vI ↑kd_16]]) (fun (x_ : (Nat × Mem)) => match x_ with | (kd_16, mc1) => mc1) ?_ ?_
  ·
   refine gc_seq ?_
   refine gc_cases (hasP p25.1 p25.2 0) (fun hg => ?_) (fun hg => ?_)
   ·
    refine gc_draw 10 _ [] [(0, .q), (1, .q), (2, .q), (3, .q), (4, .q), (5, .q), (6, .c), (7, .c), (8, .q), (9, .q)] mixed (fun x hx => by cases hx) (by kernel_rfl) (fun x hx => by cases hx) (fun r hr => hr) (w_q rfl (fun h' L' hh hR => ov_move rfl) rfl (w_q rfl (fun h' L' hh hR => OpV.fa (by intro e; exact quoE_zero.1 e hg) (ov_eql_i (q := 0) rfl rfl)) rfl (w_q rfl (fun h' L' hh hR => ov_move rfl) rfl (w_q_off rfl rfl rfl rfl rfl (w_q_off rfl rfl rfl rfl rfl (w_q_off rfl rfl rfl rfl rfl ?_))))))
    refine w_c rfl (s_off rfl rfl rfl rfl ?_)
    refine w_c rfl (s_off rfl rfl rfl rfl (w_q_off rfl rfl rfl rfl rfl (w_q rfl (fun h' L' hh hR => ov_pick_f rfl rfl) rfl (w_nil (gq_keep (e' := [(8, _), (9, _), (10, _), (11, _), (47, _)]) ⟨rfl, rfl, rfl, rfl, rfl, trivial⟩ (gq_then (gc_cond_f rfl (gc_skip ?_))))))))
    refine gq_cut (k25, h5) ?_ ⟨?_, ?_, ?_, ?_, trivial⟩ ?_ rfl
    ·
     refine ⟨MLe.refl _, ?_⟩
     refine ⟨(by omega), ?_⟩
     trivial
    · exact rfl
    · exact rfl
    · exact rfl
    · exact rfl
    · exact rfl
   ·
    refine gc_draw 10 _ [] [(0, .q), (1, .q), (2, .q), (3, .q), (4, .q), (5, .q), (6, .c), (7, .c), (8, .q), (9, .q)] mixed (fun x hx => by cases hx) (by kernel_rfl) (fun x hx => by cases hx) (fun r hr => hr) (w_q rfl (fun h' L' hh hR => ov_move rfl) rfl (w_q rfl (fun h' L' hh hR => OpV.tr (by exact quoE_zero.2 hg) (ov_eql_i (q := 0) rfl rfl)) rfl (w_q rfl (fun h' L' hh hR => ov_move rfl) rfl (w_qx_on (F := fun v_ => (rpP (rpQ 6) (rpQ 6)).Is h5 v_ (quoS p23 p25)) rfl rfl rfl (ox_load_box ty31 (Pc.here _) rfl rfl rb_15 rfl) (mem1 (.head _)) rfl ?_))))
    intro v41 r41
    replace rb_9 := rb_9.mono hh5
    refine w_qx_on (F := fun v_ => (rpQ 10).Is h5 v_ (withinQ p23 i)) rfl rfl rfl (ox_load_box ty29 (Pc.here _) rfl rfl rb_9 rfl) (mem1 (.tail _ (.tail _ (.head _)))) rfl ?_
    intro v42 r42
    replace rb_12 := rb_12.mono hh5
    refine w_qx_on (F := fun v_ => (rpQ 10).Is h5 v_ (withinQ p25 j)) rfl rfl rfl (ox_load_box ty29 (Pc.here _) rfl rfl rb_12 rfl) (mem1 (.tail _ (.head _))) rfl ?_
    intro v43 r43
    refine w_c rfl (s_on rfl rfl ?_)
    refine s_call (vs := [_, _]) Tryz.call49 ⟨rfl, rfl, trivial⟩ (fun w hs => o_rref_over hs r42 r43 (by decide)) rfl ?_
    intro v44 h6 hh6 r44
    change (rpQ (10 + 10)).Is h6 v44 (if (withinQ p25 j) = 0 then 0 else (withinQ p23 i) / (withinQ p25 j)) at r44
    replace r44 := Rp.Is.le r44 (Le.q (l := 20) (by omega))
    refine w_c rfl (s_on rfl rfl ?_)
    replace r41 := r41.mono hh6
    refine s_call (vs := [_, _]) Tryz.call23 ⟨rfl, rfl, trivial⟩ (fun w hs => o_span_has hs r41 r44 (by decide)) rfl ?_
    intro v45 h7 hh7 r45
    obtain rfl : v45 = .bool true := by rw [show v45 = vB (hasP (quoS p23 p25).1 (quoS p23 p25).2 (if (withinQ p25 j) = 0 then 0 else (withinQ p23 i) / (withinQ p25 j))) from r45, vB_true (by exact quo_has hg (within_has hle23 i) (within_has hle25 j))]
    refine w_q_on rfl rfl rfl (fun h' L' hh hR => ov_not_b rfl) rfl (w_q rfl (fun h' L' hh hR => ov_pick_t rfl rfl) rfl (w_nil (gq_keep (e' := [(8, _), (9, _), (10, _), (11, _), (47, _)]) ⟨rfl, rfl, rfl, rfl, rfl, trivial⟩ (gq_then (gc_cond_f rfl (gc_skip ?_))))))
    refine gq_cut (k25, h7) ?_ ⟨?_, ?_, ?_, ?_, trivial⟩ ?_ rfl
    ·
     refine ⟨(hh6.trans hh7), ?_⟩
     refine ⟨(by omega), ?_⟩
     trivial
    · exact rfl
    · exact rfl
    · exact rfl
    · exact rfl
    · exact rfl
  ·
   intro x hx
   obtain ⟨kd_16, mc1⟩ := x
   obtain ⟨hmmc1, hcut⟩ := hx
   show GC _ _ _ _ _ _ [(8, vP b8 0), (9, vP b9 0), (10, vP b10 0), (11, vP b11 0)] [.var b12 31 cs_14, .var b11 29 cs_11, .var b10 29 cs_8, .var b9 31 cs_5, .var b8 31 cs_2, .var b21 61 [vl, vI ↑kd_16]] mc1
   obtain ⟨hkd_17, hcut⟩ := hcut
   refine gc_seq (gc_region ?_)
   replace rb_3 := rb_3.mono (hh5.trans hmmc1)
   refine gl_x (F := fun v_ => (rpP (rpQ 2) (rpQ 2)).Is mc1 v_ p23) (ox_load_box ty31 (Pc.here _) rfl rfl rb_3 rfl) (mem1 (.tail _ (.tail _ (.tail _ (.tail _ (.head _)))))) rfl ?_
   intro v49 r49
   refine gl_call (vs := [_, vI (8)]) rfl rfl rfl rfl Tryz.call50 ⟨rfl, rfl, trivial⟩ (fun w hs => span_rootS hs r49 (by decide) (by decide) (by decide)) ?_
   intro v50 h6 hh6 r50
   obtain ⟨v50_0, rfl, r50_0⟩ := r50
   change (rpP (rpQ (2 + 140)) (rpQ (2 + 140))).Is h6 v50_0 (rtLo p23.1 p23.2 (8 : Int), rtHi p23.2 (8 : Int)) at r50_0
   replace r50_0 := Rp.Is.le r50_0 (Le.p (Le.q (l := 142) (by omega)) (Le.q (l := 142) (by omega)))
   refine mv rfl rfl (gv (ov_extract (vs := [_, _]) rfl rfl) rfl (gv (ov_extract (vs := [_, _]) rfl rfl) rfl (gl_newop (new_allocx (ρ := (rpP (rpQ 1) (rpQ 1))) (X := ((0 : Rat), (0 : Rat))) info31 rfl rfl (zr_p (zr_q (by decide)) (zr_q (by decide)))) rfl rfl rfl ?_)))
   intro v14 q14 hq14
   obtain ⟨b14, cs14, rfl, rfl, rb14⟩ := hq14
   have rw_18 := (Le.p (Le.q (l := 142) (by decide)) (Le.q (l := 142) (by decide))).R rb14
   refine gl_updx (A := []) (F := fun c_ => (rpP (rpQ 142) (rpQ 142)).R h6 c_ (rtLo p23.1 p23.2 (8 : Int), rtHi p23.2 (8 : Int))) (upd_box Tryz.sizeOf31 (Pc.here _) rfl rfl rfl rw_18 r50_0 rfl) ?_
   intro cs_19 rb_20
   refine asg rfl rfl (gl_nil (gq_then ?_))
   refine gc_cut (ι := Nat × Mem) (fun (x_ : (Nat × Mem)) => match x_ with | (kd_21, mc2) => MLe h6 mc2 ∧ (kd_21 ≤ xsl.length ∧ True)) (fun (x_ : (Nat × Mem)) => match x_ with | (kd_21, mc2) => [(8, vP b8 0), (9, vP b9 0), (10, vP b10 0), (11, vP b11 0)]) (fun (x_ : (Nat × Mem)) => match x_ with | (kd_21, mc2) => [.var b14 31 cs_19, .var b12 31 cs_14, .var b11 29 cs_11, .var b10 29 cs_8, .var b9 31 cs_5, .var b8 31 cs_2, .var b21 61 [vl, vI ↑kd_21]]) (fun (x_ : (Nat × Mem)) => match x_ with | (kd_21, mc2) => mc2) ?_ ?_
   ·
    refine gc_seq ?_
    refine gc_cases (rtE p23.2 = 0) (fun hg => ?_) (fun hg => ?_)
    ·
     refine gc_cases (hasP (sqrS (rtLo p23.1 p23.2 8, rtHi p23.2 8)).1 (sqrS (rtLo p23.1 p23.2 8, rtHi p23.2 8)).2 p23.1 ∧ hasP (sqrS (rtLo p23.1 p23.2 8, rtHi p23.2 8)).1 (sqrS (rtLo p23.1 p23.2 8, rtHi p23.2 8)).2 p23.2) (fun hg2 => ?_) (fun hg2 => ?_)
     ·
      refine gc_draw 21 _ [] [(0, .q), (1, .q), (2, .q), (3, .q), (4, .q), (5, .c), (6, .c), (7, .q), (8, .q), (9, .q), (10, .q), (11, .c), (12, .q), (13, .q), (14, .q), (15, .q), (16, .q), (17, .c), (18, .q), (19, .q), (20, .q)] mixed (fun x hx => by cases hx) (by kernel_rfl) (fun x hx => by cases hx) (fun r hr => hr) (w_q rfl (fun h' L' hh hR => ov_move rfl) rfl (w_q rfl (fun h' L' hh hR => OpV.tr (by exact hg) (ov_eql_i (q := 0) rfl rfl)) rfl (w_q rfl (fun h' L' hh hR => ov_move rfl) rfl ?_)))
      replace rb_3 := rb_3.mono hh6
      refine w_qx_on (F := fun v_ => (rpP (rpQ 2) (rpQ 2)).Is h6 v_ p23) rfl rfl rfl (ox_load_box ty31 (Pc.here _) rfl rfl rb_3 rfl) (mem1 (.tail _ (.tail _ (.tail _ (.tail _ (.tail _ (.head _))))))) rfl ?_
      intro v56 r56
      refine w_qx_on (F := fun v_ => (rpP (rpQ 142) (rpQ 142)).Is h6 v_ (rtLo p23.1 p23.2 (8 : Int), rtHi p23.2 (8 : Int))) rfl rfl rfl (ox_load_box ty31 (Pc.here _) rfl rfl rb_20 rfl) (mem1 (.head _)) rfl ?_
      intro v57 r57
      refine w_c rfl (s_on rfl rfl ?_)
      refine s_call (vs := [_]) Tryz.call46 ⟨rfl, trivial⟩ (fun w hs => o_span_sqr hs r57 (by decide)) rfl ?_
      intro v58 h7 hh7 r58
      change (rpP (rpQ (142 + 142)) (rpQ (142 + 142))).Is h7 v58 (sqrS (rtLo p23.1 p23.2 (8 : Int), rtHi p23.2 (8 : Int))) at r58
      replace r58 := Rp.Is.le r58 (Le.p (Le.q (l := 284) (by omega)) (Le.q (l := 284) (by omega)))
      refine w_c rfl (s_on rfl rfl ?_)
      replace r56 := r56.mono hh7
      refine s_call (vs := [_, _]) Tryz.call25 ⟨rfl, rfl, trivial⟩ (fun w hs => o_span_inside hs r56 r58 (by decide)) rfl ?_
      intro v59 h8 hh8 r59
      obtain rfl : v59 = .bool true := by rw [show v59 = vB (hasP (sqrS (rtLo p23.1 p23.2 (8 : Int), rtHi p23.2 (8 : Int))).1 (sqrS (rtLo p23.1 p23.2 (8 : Int), rtHi p23.2 (8 : Int))).2 p23.1 ∧ hasP (sqrS (rtLo p23.1 p23.2 (8 : Int), rtHi p23.2 (8 : Int))).1 (sqrS (rtLo p23.1 p23.2 (8 : Int), rtHi p23.2 (8 : Int))).2 p23.2) from r59, vB_true (by exact hg2)]
      refine w_q_on rfl rfl rfl (fun h' L' hh hR => ov_not_b rfl) rfl (w_q_on rfl rfl rfl (fun h' L' hh hR => ov_move rfl) rfl (w_q_off rfl rfl rfl rfl rfl (w_q_off rfl rfl rfl rfl rfl ?_)))
      refine w_c rfl (s_off rfl rfl rfl rfl (w_q_off rfl rfl rfl rfl rfl (w_q_on rfl rfl rfl (fun h' L' hh hR => ov_pick_f rfl rfl) rfl (w_q_on rfl rfl rfl (fun h' L' hh hR => ov_move rfl) rfl (w_q_on rfl rfl rfl (fun h' L' hh hR => (ov_field_addr Tryz.underlying31 rfl Tryz.sizeOf29 rfl).cv (show _ = vP b14 0 from congrArg (vP b14) (by rfl))) rfl ?_)))))
      replace rb_20 := rb_20.mono (hh7.trans hh8)
      refine w_qx_on (F := fun v_ => (rpQ 142).Is h8 v_ (rtLo p23.1 p23.2 (8 : Int))) rfl rfl rfl (ox_load_box ty29 (Pc.fst (Pc.here _)) rfl rfl rb_20 rfl) (mem1 (.head _)) rfl ?_
      intro v69 r69
      refine w_c rfl (s_on rfl rfl ?_)
      refine s_call (vs := [_]) Tryz.call51 ⟨rfl, trivial⟩ (fun w hs => o_rref_sign hs r69 (by decide)) rfl ?_
      intro v70 h9 hh9 r70
      obtain rfl : v70 = vI (sgnQ (rtLo p23.1 p23.2 (8 : Int))) := r70
      have hsr70 := sgnQ_range (rtLo p23.1 p23.2 (8 : Int))
      refine w_q_on rfl rfl rfl (fun h' L' hh hR => OpV.fa (by intro e; have h1 := sgn_neg.1 e; have h2 := rtLo_nonneg p23.1 p23.2 8; grind) (ov_lss_i (q := 0) rfl rfl)) rfl (w_q_on rfl rfl rfl (fun h' L' hh hR => ov_pick_f rfl rfl) rfl (w_q rfl (fun h' L' hh hR => ov_pick_t rfl rfl) rfl (w_nil (gq_keep (e' := [(8, _), (9, _), (10, _), (11, _), (73, _)]) ⟨rfl, rfl, rfl, rfl, rfl, trivial⟩ (gq_then (gc_cond_f rfl (gc_skip ?_)))))))
      refine gq_cut (kd_16, h9) ?_ ⟨?_, ?_, ?_, ?_, trivial⟩ ?_ rfl
      ·
       refine ⟨((hh7.trans hh8).trans hh9), ?_⟩
       refine ⟨(by omega), ?_⟩
       trivial
      · exact rfl
      · exact rfl
      · exact rfl
      · exact rfl
      · exact rfl
     ·
      refine gc_draw 21 _ [] [(0, .q), (1, .q), (2, .q), (3, .q), (4, .q), (5, .c), (6, .c), (7, .q), (8, .q), (9, .q), (10, .q), (11, .c), (12, .q), (13, .q), (14, .q), (15, .q), (16, .q), (17, .c), (18, .q), (19, .q), (20, .q)] mixed (fun x hx => by cases hx) (by kernel_rfl) (fun x hx => by cases hx) (fun r hr => hr) (w_q rfl (fun h' L' hh hR => ov_move rfl) rfl (w_q rfl (fun h' L' hh hR => OpV.tr (by exact hg) (ov_eql_i (q := 0) rfl rfl)) rfl (w_q rfl (fun h' L' hh hR => ov_move rfl) rfl ?_)))
      replace rb_3 := rb_3.mono hh6
      refine w_qx_on (F := fun v_ => (rpP (rpQ 2) (rpQ 2)).Is h6 v_ p23) rfl rfl rfl (ox_load_box ty31 (Pc.here _) rfl rfl rb_3 rfl) (mem1 (.tail _ (.tail _ (.tail _ (.tail _ (.tail _ (.head _))))))) rfl ?_
      intro v56 r56
      refine w_qx_on (F := fun v_ => (rpP (rpQ 142) (rpQ 142)).Is h6 v_ (rtLo p23.1 p23.2 (8 : Int), rtHi p23.2 (8 : Int))) rfl rfl rfl (ox_load_box ty31 (Pc.here _) rfl rfl rb_20 rfl) (mem1 (.head _)) rfl ?_
      intro v57 r57
      refine w_c rfl (s_on rfl rfl ?_)
      refine s_call (vs := [_]) Tryz.call46 ⟨rfl, trivial⟩ (fun w hs => o_span_sqr hs r57 (by decide)) rfl ?_
      intro v58 h7 hh7 r58
      change (rpP (rpQ (142 + 142)) (rpQ (142 + 142))).Is h7 v58 (sqrS (rtLo p23.1 p23.2 (8 : Int), rtHi p23.2 (8 : Int))) at r58
      replace r58 := Rp.Is.le r58 (Le.p (Le.q (l := 284) (by omega)) (Le.q (l := 284) (by omega)))
      refine w_c rfl (s_on rfl rfl ?_)
      replace r56 := r56.mono hh7
      refine s_call (vs := [_, _]) Tryz.call25 ⟨rfl, rfl, trivial⟩ (fun w hs => o_span_inside hs r56 r58 (by decide)) rfl ?_
      intro v59 h8 hh8 r59
      obtain rfl : v59 = .bool false := by rw [show v59 = vB (hasP (sqrS (rtLo p23.1 p23.2 (8 : Int), rtHi p23.2 (8 : Int))).1 (sqrS (rtLo p23.1 p23.2 (8 : Int), rtHi p23.2 (8 : Int))).2 p23.1 ∧ hasP (sqrS (rtLo p23.1 p23.2 (8 : Int), rtHi p23.2 (8 : Int))).1 (sqrS (rtLo p23.1 p23.2 (8 : Int), rtHi p23.2 (8 : Int))).2 p23.2) from r59, vB_false (by exact hg2)]
      refine w_q_on rfl rfl rfl (fun h' L' hh hR => ov_not_b rfl) rfl (w_q_on rfl rfl rfl (fun h' L' hh hR => ov_move rfl) rfl (w_q_on rfl rfl rfl (fun h' L' hh hR => (ov_field_addr Tryz.underlying31 rfl Tryz.sizeOf29 rfl).cv (show _ = vP b8 0 from congrArg (vP b8) (by rfl))) rfl ?_))
      replace rb_3 := rb_3.mono (hh7.trans hh8)
      refine w_qx_on (F := fun v_ => (rpQ 2).Is h8 v_ p23.1) rfl rfl rfl (ox_load_box ty29 (Pc.fst (Pc.here _)) rfl rfl rb_3 rfl) (mem1 (.tail _ (.tail _ (.tail _ (.tail _ (.tail _ (.head _))))))) rfl ?_
      intro v63 r63
      refine w_c rfl (s_on rfl rfl ?_)
      refine s_call (vs := [_]) Tryz.call51 ⟨rfl, trivial⟩ (fun w hs => o_rref_sign hs r63 (by decide)) rfl ?_
      intro v64 h9 hh9 r64
      obtain rfl : v64 = vI (sgnQ p23.1) := r64
      have hsr64 := sgnQ_range p23.1
      refine w_q_on rfl rfl rfl (fun h' L' hh hR => OpV.fa (by intro e; exact contains_root hle23 ⟨hg, .inl ⟨hg2, e⟩⟩) (ov_geq_i (q := 0) rfl rfl)) rfl (w_q_on rfl rfl rfl (fun h' L' hh hR => ov_pick_t rfl rfl) rfl (w_q_on rfl rfl rfl (fun h' L' hh hR => ov_move rfl) rfl (w_q_on rfl rfl rfl (fun h' L' hh hR => (ov_field_addr Tryz.underlying31 rfl Tryz.sizeOf29 rfl).cv (show _ = vP b14 0 from congrArg (vP b14) (by rfl))) rfl ?_)))
      replace rb_20 := rb_20.mono ((hh7.trans hh8).trans hh9)
      refine w_qx_on (F := fun v_ => (rpQ 142).Is h9 v_ (rtLo p23.1 p23.2 (8 : Int))) rfl rfl rfl (ox_load_box ty29 (Pc.fst (Pc.here _)) rfl rfl rb_20 rfl) (mem1 (.head _)) rfl ?_
      intro v69 r69
      refine w_c rfl (s_on rfl rfl ?_)
      refine s_call (vs := [_]) Tryz.call51 ⟨rfl, trivial⟩ (fun w hs => o_rref_sign hs r69 (by decide)) rfl ?_
      intro v70 h10 hh10 r70
      obtain rfl : v70 = vI (sgnQ (rtLo p23.1 p23.2 (8 : Int))) := r70
      have hsr70 := sgnQ_range (rtLo p23.1 p23.2 (8 : Int))
      refine w_q_on rfl rfl rfl (fun h' L' hh hR => OpV.fa (by intro e; have h1 := sgn_neg.1 e; have h2 := rtLo_nonneg p23.1 p23.2 8; grind) (ov_lss_i (q := 0) rfl rfl)) rfl (w_q_on rfl rfl rfl (fun h' L' hh hR => ov_pick_f rfl rfl) rfl (w_q rfl (fun h' L' hh hR => ov_pick_t rfl rfl) rfl (w_nil (gq_keep (e' := [(8, _), (9, _), (10, _), (11, _), (73, _)]) ⟨rfl, rfl, rfl, rfl, rfl, trivial⟩ (gq_then (gc_cond_f rfl (gc_skip ?_)))))))
      refine gq_cut (kd_16, h10) ?_ ⟨?_, ?_, ?_, ?_, trivial⟩ ?_ rfl
      ·
       refine ⟨(((hh7.trans hh8).trans hh9).trans hh10), ?_⟩
       refine ⟨(by omega), ?_⟩
       trivial
      · exact rfl
      · exact rfl
      · exact rfl
      · exact rfl
      · exact rfl
    ·
     refine gc_draw 21 _ [] [(0, .q), (1, .q), (2, .q), (3, .q), (4, .q), (5, .c), (6, .c), (7, .q), (8, .q), (9, .q), (10, .q), (11, .c), (12, .q), (13, .q), (14, .q), (15, .q), (16, .q), (17, .c), (18, .q), (19, .q), (20, .q)] mixed (fun x hx => by cases hx) (by kernel_rfl) (fun x hx => by cases hx) (fun r hr => hr) (w_q rfl (fun h' L' hh hR => ov_move rfl) rfl (w_q rfl (fun h' L' hh hR => OpV.fa (by exact hg) (ov_eql_i (q := 0) rfl rfl)) rfl (w_q rfl (fun h' L' hh hR => ov_move rfl) rfl (w_q_off rfl rfl rfl rfl rfl (w_q_off rfl rfl rfl rfl rfl ?_)))))
     refine w_c rfl (s_off rfl rfl rfl rfl ?_)
     refine w_c rfl (s_off rfl rfl rfl rfl (w_q_off rfl rfl rfl rfl rfl (w_q_off rfl rfl rfl rfl rfl (w_q_offu rfl rfl rfl rfl (w_q_offu rfl rfl rfl rfl ?_)))))
     refine w_c rfl (s_offu rfl rfl rfl (w_q_offu rfl rfl rfl rfl (w_q_off rfl rfl rfl rfl rfl (w_q_off rfl rfl rfl rfl rfl (w_q_offu rfl rfl rfl rfl (w_q_offu rfl rfl rfl rfl ?_))))))
     refine w_c rfl (s_offu rfl rfl rfl (w_q_offu rfl rfl rfl rfl (w_q_off rfl rfl rfl rfl rfl (w_q rfl (fun h' L' hh hR => ov_pick_f rfl rfl) rfl (w_nil (gq_keep (e' := [(8, _), (9, _), (10, _), (11, _), (73, _)]) ⟨rfl, rfl, rfl, rfl, rfl, trivial⟩ (gq_then (gc_cond_f rfl (gc_skip ?_)))))))))
     refine gq_cut (kd_16, h6) ?_ ⟨?_, ?_, ?_, ?_, trivial⟩ ?_ rfl
     ·
      refine ⟨MLe.refl _, ?_⟩
      refine ⟨(by omega), ?_⟩
      trivial
     · exact rfl
     · exact rfl
     · exact rfl
     · exact rfl
     · exact rfl
   ·
    intro x hx
    obtain ⟨kd_21, mc2⟩ := x
    obtain ⟨hmmc2, hcut⟩ := hx
    show GC _ _ _ _ _ _ [(8, vP b8 0), (9, vP b9 0), (10, vP b10 0), (11, vP b11 0)] [.var b14 31 cs_19, .var b12 31 cs_14, .var b11 29 cs_11, .var b10 29 cs_8, .var b9 31 cs_5, .var b8 31 cs_2, .var b21 61 [vl, vI ↑kd_21]] mc2
    obtain ⟨hkd_22, hcut⟩ := hcut
    refine gc_seq ?_
    refine gc_draw 43 _ [] [(0, .q), (1, .q), (3, .q), (4, .q), (2, .c), (5, .c), (6, .c), (7, .q), (8, .q), (9, .q), (11, .q), (12, .q), (10, .c), (13, .c), (14, .c), (15, .q), (16, .q), (17, .q), (18, .q), (20, .q), (21, .q), (19, .c), (22, .c), (23, .c), (24, .q), (25, .q), (26, .q), (28, .q), (29, .q), (27, .c), (30, .c), (31, .c), (32, .q), (33, .q), (34, .q), (36, .q), (35, .c), (37, .c), (38, .q), (39, .q), (40, .c), (41, .q), (42, .q)] mixed (fun x hx => by cases hx) (by kernel_rfl) (fun x hx => by cases hx) (fun r hr => hr) ?_
    replace rb_3 := rb_3.mono (hh6.trans hmmc2)
    refine w_qx (F := fun v_ => (rpP (rpQ 2) (rpQ 2)).Is mc2 v_ p23) rfl (ox_load_box ty31 (Pc.here _) rfl rfl rb_3 rfl) (mem1 (.tail _ (.tail _ (.tail _ (.tail _ (.tail _ (.head _))))))) rfl ?_
    intro v74 r74
    replace rb_6 := rb_6.mono (((hh5.trans hmmc1).trans hh6).trans hmmc2)
    refine w_qx (F := fun v_ => (rpP (rpQ 2) (rpQ 2)).Is mc2 v_ p25) rfl (ox_load_box ty31 (Pc.here _) rfl rfl rb_6 rfl) (mem1 (.tail _ (.tail _ (.tail _ (.tail _ (.head _)))))) rfl ?_
    intro v75 r75
    replace rb_9 := rb_9.mono (((hh5.trans hmmc1).trans hh6).trans hmmc2)
    refine w_qx (F := fun v_ => (rpQ 10).Is mc2 v_ (withinQ p23 i)) rfl (ox_load_box ty29 (Pc.here _) rfl rfl rb_9 rfl) (mem1 (.tail _ (.tail _ (.tail _ (.head _))))) rfl ?_
    intro v77 r77
    replace rb_12 := rb_12.mono (((hh5.trans hmmc1).trans hh6).trans hmmc2)
    refine w_qx (F := fun v_ => (rpQ 10).Is mc2 v_ (withinQ p25 j)) rfl (ox_load_box ty29 (Pc.here _) rfl rfl rb_12 rfl) (mem1 (.tail _ (.tail _ (.head _)))) rfl ?_
    intro v78 r78
    refine w_c rfl ?_
    refine s_call (vs := [_, _]) Tryz.call38 ⟨rfl, rfl, trivial⟩ (fun w hs => o_span_add hs r74 r75 (by decide)) rfl ?_
    intro v76 h7 hh7 r76
    change (rpP (rpQ (2 + 2 + 1)) (rpQ (2 + 2 + 1))).Is h7 v76 (addS p23 p25) at r76
    replace r76 := Rp.Is.le r76 (Le.p (Le.q (l := 5) (by omega)) (Le.q (l := 5) (by omega)))
    refine w_c rfl ?_
    replace r77 := r77.mono hh7
    replace r78 := r78.mono hh7
    refine s_call (vs := [_, _]) Tryz.call52 ⟨rfl, rfl, trivial⟩ (fun w hs => o_rref_add hs r77 r78 (by decide)) rfl ?_
    intro v79 h8 hh8 r79
    change (rpQ (10 + 10 + 1)).Is h8 v79 ((withinQ p23 i) + (withinQ p25 j)) at r79
    replace r79 := Rp.Is.le r79 (Le.q (l := 21) (by omega))
    refine w_c rfl ?_
    replace r76 := r76.mono hh8
    refine s_call (vs := [_, _]) Tryz.call23 ⟨rfl, rfl, trivial⟩ (fun w hs => o_span_has hs r76 r79 (by decide)) rfl ?_
    intro v80 h9 hh9 r80
    obtain rfl : v80 = .bool true := by rw [show v80 = vB (hasP (addS p23 p25).1 (addS p23 p25).2 ((withinQ p23 i) + (withinQ p25 j))) from r80, vB_true (by exact add_has (within_has hle23 i) (within_has hle25 j))]
    refine w_q rfl (fun h' L' hh hR => ov_move rfl) rfl ?_
    replace rb_3 := rb_3.mono ((hh7.trans hh8).trans hh9)
    refine w_qx_on (F := fun v_ => (rpP (rpQ 2) (rpQ 2)).Is h9 v_ p23) rfl rfl rfl (ox_load_box ty31 (Pc.here _) rfl rfl rb_3 rfl) (mem1 (.tail _ (.tail _ (.tail _ (.tail _ (.tail _ (.head _))))))) rfl ?_
    intro v82 r82
    replace rb_6 := rb_6.mono ((hh7.trans hh8).trans hh9)
    refine w_qx_on (F := fun v_ => (rpP (rpQ 2) (rpQ 2)).Is h9 v_ p25) rfl rfl rfl (ox_load_box ty31 (Pc.here _) rfl rfl rb_6 rfl) (mem1 (.tail _ (.tail _ (.tail _ (.tail _ (.head _)))))) rfl ?_
    intro v83 r83
    replace rb_9 := rb_9.mono ((hh7.trans hh8).trans hh9)
    refine w_qx_on (F := fun v_ => (rpQ 10).Is h9 v_ (withinQ p23 i)) rfl rfl rfl (ox_load_box ty29 (Pc.here _) rfl rfl rb_9 rfl) (mem1 (.tail _ (.tail _ (.tail _ (.head _))))) rfl ?_
    intro v85 r85
    replace rb_12 := rb_12.mono ((hh7.trans hh8).trans hh9)
    refine w_qx_on (F := fun v_ => (rpQ 10).Is h9 v_ (withinQ p25 j)) rfl rfl rfl (ox_load_box ty29 (Pc.here _) rfl rfl rb_12 rfl) (mem1 (.tail _ (.tail _ (.head _)))) rfl ?_
    intro v86 r86
    refine w_c rfl (s_on rfl rfl ?_)
    refine s_call (vs := [_, _]) Tryz.call40 ⟨rfl, rfl, trivial⟩ (fun w hs => o_span_sub hs r82 r83 (by decide)) rfl ?_
    intro v84 h10 hh10 r84
    change (rpP (rpQ (2 + 2 + 1)) (rpQ (2 + 2 + 1))).Is h10 v84 (subS p23 p25) at r84
    replace r84 := Rp.Is.le r84 (Le.p (Le.q (l := 5) (by omega)) (Le.q (l := 5) (by omega)))
    refine w_c rfl (s_on rfl rfl ?_)
    replace r85 := r85.mono hh10
    replace r86 := r86.mono hh10
    refine s_call (vs := [_, _]) Tryz.call53 ⟨rfl, rfl, trivial⟩ (fun w hs => o_rref_sub hs r85 r86 (by decide)) rfl ?_
    intro v87 h11 hh11 r87
    change (rpQ (10 + 10 + 1)).Is h11 v87 ((withinQ p23 i) - (withinQ p25 j)) at r87
    replace r87 := Rp.Is.le r87 (Le.q (l := 21) (by omega))
    refine w_c rfl (s_on rfl rfl ?_)
    replace r84 := r84.mono hh11
    refine s_call (vs := [_, _]) Tryz.call23 ⟨rfl, rfl, trivial⟩ (fun w hs => o_span_has hs r84 r87 (by decide)) rfl ?_
    intro v88 h12 hh12 r88
    obtain rfl : v88 = .bool true := by rw [show v88 = vB (hasP (subS p23 p25).1 (subS p23 p25).2 ((withinQ p23 i) - (withinQ p25 j))) from r88, vB_true (by exact sub_has (within_has hle23 i) (within_has hle25 j))]
    refine w_q rfl (fun h' L' hh hR => ov_pick_t rfl rfl) rfl (w_q rfl (fun h' L' hh hR => ov_move rfl) rfl ?_)
    replace rb_3 := rb_3.mono ((hh10.trans hh11).trans hh12)
    refine w_qx_on (F := fun v_ => (rpP (rpQ 2) (rpQ 2)).Is h12 v_ p23) rfl rfl rfl (ox_load_box ty31 (Pc.here _) rfl rfl rb_3 rfl) (mem1 (.tail _ (.tail _ (.tail _ (.tail _ (.tail _ (.head _))))))) rfl ?_
    intro v91 r91
    replace rb_6 := rb_6.mono ((hh10.trans hh11).trans hh12)
    refine w_qx_on (F := fun v_ => (rpP (rpQ 2) (rpQ 2)).Is h12 v_ p25) rfl rfl rfl (ox_load_box ty31 (Pc.here _) rfl rfl rb_6 rfl) (mem1 (.tail _ (.tail _ (.tail _ (.tail _ (.head _)))))) rfl ?_
    intro v92 r92
    replace rb_9 := rb_9.mono ((hh10.trans hh11).trans hh12)
    refine w_qx_on (F := fun v_ => (rpQ 10).Is h12 v_ (withinQ p23 i)) rfl rfl rfl (ox_load_box ty29 (Pc.here _) rfl rfl rb_9 rfl) (mem1 (.tail _ (.tail _ (.tail _ (.head _))))) rfl ?_
    intro v94 r94
    replace rb_12 := rb_12.mono ((hh10.trans hh11).trans hh12)
    refine w_qx_on (F := fun v_ => (rpQ 10).Is h12 v_ (withinQ p25 j)) rfl rfl rfl (ox_load_box ty29 (Pc.here _) rfl rfl rb_12 rfl) (mem1 (.tail _ (.tail _ (.head _)))) rfl ?_
    intro v95 r95
    refine w_c rfl (s_on rfl rfl ?_)
    refine s_call (vs := [_, _]) Tryz.call44 ⟨rfl, rfl, trivial⟩ (fun w hs => o_span_mul hs r91 r92 (by decide)) rfl ?_
    intro v93 h13 hh13 r93
    change (rpP (rpQ (2 + 2)) (rpQ (2 + 2))).Is h13 v93 (mulS p23 p25) at r93
    replace r93 := Rp.Is.le r93 (Le.p (Le.q (l := 4) (by omega)) (Le.q (l := 4) (by omega)))
    refine w_c rfl (s_on rfl rfl ?_)
    replace r94 := r94.mono hh13
    replace r95 := r95.mono hh13
    refine s_call (vs := [_, _]) Tryz.call54 ⟨rfl, rfl, trivial⟩ (fun w hs => o_rref_mul hs r94 r95 (by decide)) rfl ?_
    intro v96 h14 hh14 r96
    change (rpQ (10 + 10)).Is h14 v96 ((withinQ p23 i) * (withinQ p25 j)) at r96
    replace r96 := Rp.Is.le r96 (Le.q (l := 20) (by omega))
    refine w_c rfl (s_on rfl rfl ?_)
    replace r93 := r93.mono hh14
    refine s_call (vs := [_, _]) Tryz.call23 ⟨rfl, rfl, trivial⟩ (fun w hs => o_span_has hs r93 r96 (by decide)) rfl ?_
    intro v97 h15 hh15 r97
    obtain rfl : v97 = .bool true := by rw [show v97 = vB (hasP (mulS p23 p25).1 (mulS p23 p25).2 ((withinQ p23 i) * (withinQ p25 j))) from r97, vB_true (by exact mul_has (within_has hle23 i) (within_has hle25 j))]
    refine w_q rfl (fun h' L' hh hR => ov_pick_t rfl rfl) rfl (w_q rfl (fun h' L' hh hR => ov_move rfl) rfl ?_)
    replace rb_3 := rb_3.mono ((hh13.trans hh14).trans hh15)
    refine w_qx_on (F := fun v_ => (rpP (rpQ 2) (rpQ 2)).Is h15 v_ p23) rfl rfl rfl (ox_load_box ty31 (Pc.here _) rfl rfl rb_3 rfl) (mem1 (.tail _ (.tail _ (.tail _ (.tail _ (.tail _ (.head _))))))) rfl ?_
    intro v100 r100
    replace rb_9 := rb_9.mono ((hh13.trans hh14).trans hh15)
    refine w_qx_on (F := fun v_ => (rpQ 10).Is h15 v_ (withinQ p23 i)) rfl rfl rfl (ox_load_box ty29 (Pc.here _) rfl rfl rb_9 rfl) (mem1 (.tail _ (.tail _ (.tail _ (.head _))))) rfl ?_
    intro v102 r102
    refine w_qx_on (F := fun v_ => (rpQ 10).Is h15 v_ (withinQ p23 i)) rfl rfl rfl (ox_load_box ty29 (Pc.here _) rfl rfl rb_9 rfl) (mem1 (.tail _ (.tail _ (.tail _ (.head _))))) rfl ?_
    intro v103 r103
    refine w_c rfl (s_on rfl rfl ?_)
    refine s_call (vs := [_]) Tryz.call46 ⟨rfl, trivial⟩ (fun w hs => o_span_sqr hs r100 (by decide)) rfl ?_
    intro v101 h16 hh16 r101
    change (rpP (rpQ (2 + 2)) (rpQ (2 + 2))).Is h16 v101 (sqrS p23) at r101
    replace r101 := Rp.Is.le r101 (Le.p (Le.q (l := 4) (by omega)) (Le.q (l := 4) (by omega)))
    refine w_c rfl (s_on rfl rfl ?_)
    replace r102 := r102.mono hh16
    replace r103 := r103.mono hh16
    refine s_call (vs := [_, _]) Tryz.call54 ⟨rfl, rfl, trivial⟩ (fun w hs => o_rref_mul hs r102 r103 (by decide)) rfl ?_
    intro v104 h17 hh17 r104
    change (rpQ (10 + 10)).Is h17 v104 ((withinQ p23 i) * (withinQ p23 i)) at r104
    replace r104 := Rp.Is.le r104 (Le.q (l := 20) (by omega))
    refine w_c rfl (s_on rfl rfl ?_)
    replace r101 := r101.mono hh17
    refine s_call (vs := [_, _]) Tryz.call23 ⟨rfl, rfl, trivial⟩ (fun w hs => o_span_has hs r101 r104 (by decide)) rfl ?_
    intro v105 h18 hh18 r105
    obtain rfl : v105 = .bool true := by rw [show v105 = vB (hasP (sqrS p23).1 (sqrS p23).2 ((withinQ p23 i) * (withinQ p23 i))) from r105, vB_true (by exact sqr_has (within_has hle23 i))]
    refine w_q rfl (fun h' L' hh hR => ov_pick_t rfl rfl) rfl (w_q rfl (fun h' L' hh hR => ov_move rfl) rfl ?_)
    replace rb_3 := rb_3.mono ((hh16.trans hh17).trans hh18)
    refine w_qx_on (F := fun v_ => (rpP (rpQ 2) (rpQ 2)).Is h18 v_ p23) rfl rfl rfl (ox_load_box ty31 (Pc.here _) rfl rfl rb_3 rfl) (mem1 (.tail _ (.tail _ (.tail _ (.tail _ (.tail _ (.head _))))))) rfl ?_
    intro v108 r108
    replace rb_9 := rb_9.mono ((hh16.trans hh17).trans hh18)
    refine w_qx_on (F := fun v_ => (rpQ 10).Is h18 v_ (withinQ p23 i)) rfl rfl rfl (ox_load_box ty29 (Pc.here _) rfl rfl rb_9 rfl) (mem1 (.tail _ (.tail _ (.tail _ (.head _))))) rfl ?_
    intro v110 r110
    refine w_c rfl (s_on rfl rfl ?_)
    refine s_call (vs := [_, vI (3)]) Tryz.call55 ⟨rfl, rfl, trivial⟩ (fun w hs => o_span_round hs r108 (by decide) (by decide) (by decide)) rfl ?_
    intro v109 h19 hh19 r109
    change (rpP (rpQ (2 + 130)) (rpQ (2 + 130))).Is h19 v109 (roundS p23 (3 : Int)) at r109
    replace r109 := Rp.Is.le r109 (Le.p (Le.q (l := 132) (by omega)) (Le.q (l := 132) (by omega)))
    refine w_c rfl (s_on rfl rfl ?_)
    replace r110 := r110.mono hh19
    refine s_call (vs := [_, _]) Tryz.call23 ⟨rfl, rfl, trivial⟩ (fun w hs => o_span_has hs r109 r110 (by decide)) rfl ?_
    intro v111 h20 hh20 r111
    obtain rfl : v111 = .bool true := by rw [show v111 = vB (hasP (roundS p23 (3 : Int)).1 (roundS p23 (3 : Int)).2 (withinQ p23 i)) from r111, vB_true (by exact round_has (within_has hle23 i) 3)]
    refine w_q rfl (fun h' L' hh hR => ov_pick_t rfl rfl) rfl (w_q rfl (fun h' L' hh hR => ov_move rfl) rfl ?_)
    refine w_c rfl (s_on rfl rfl ?_)
    refine s_call (vs := []) Tryz.call7 trivial (fun w hs => law3_awake hs) rfl ?_
    intro v114 h21 hh21 hr114
    subst hr114
    refine w_q rfl (fun h' L' hh hR => ov_pick_t rfl rfl) rfl (w_q rfl (fun h' L' hh hR => ov_assign rfl) rfl (w_nil (gq_keep (e' := [(6, _)]) ⟨rfl, trivial⟩ (gq_then (gc_ret (gq_body1 rfl rfl ?_))))))
    rfl

end Go.Proofs.YtkdmphehabpcfaaGreat
