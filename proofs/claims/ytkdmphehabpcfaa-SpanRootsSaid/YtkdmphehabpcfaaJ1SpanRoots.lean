/- Texts that the proof needs, part 1. -/
import Derived.Test.YtkdmphehabpcfaaK5

namespace Go.Proofs.Ytkdmphehabpcfaa
open Bk Go
set_option linter.unusedVariables false
set_option linter.unusedSimpArgs false
set_option maxRecDepth 10000

theorem law3_spanroots {w0 : World} {h0 : Mem}  (hs : MLe h0 (mem w0)) {vl : Value} {xsl : List Int} (hl : Is h0 vl xsl) {k : Int} (hk1 : -9223372036854775808 ≤ k) (hk2 : k < 9223372036854775808) :
    Calls Try.prog 3 #[vl, vI k] w0 (Ret w0 h0 (fun _ r => r = .bool true)) := by
 have hlenl := hl.lt63
 refine calls_begin (n := 69) (e := [(0, vl), (1, vI k)]) (vs := [vl, vI k]) Try.func3 rfl rfl (Nat.le_of_ble_eq_true rfl) hs ⟨rfl, rfl, trivial⟩ (gc_seq (gc_region (asg rfl rfl (gl_nil (gq_then (gc_seq (gc_seq (gc_region (mv rfl rfl ?_)))))))))
 refine gl_call (vs := [_]) rfl rfl rfl rfl Try.call7 ⟨rfl, trivial⟩ (fun w hs => made_light hs hl) ?_
 intro v11 h1 hh1 hr11
 subst hr11
 refine gv (ov_not rfl) rfl ?_
 refine gl_cut (ι := Unit) 8 (fun _ => True) (fun _ => [(20, vB ((¬ ((↑((xsl)).length : Int) ≤ 500)) ∨ (((60 : Int) < k) ∧ (k ≤ (4096 : Int))))), (0, vl), (1, vI k)]) (fun _ => []) (fun _ => h1) ?_ ?_
 ·
  refine gl_cases (¬ ((↑((xsl)).length : Int) ≤ 500)) (fun hg => ?_) (fun hg => ?_)
  ·
   refine gl_val (ov_move (v := .bool true) (congrArg some (vB_true hg))) rfl rfl rfl (gl_off rfl rfl rfl rfl rfl rfl (gl_off rfl rfl rfl rfl rfl rfl (gl_off rfl rfl rfl rfl rfl rfl (gl_offu rfl rfl rfl rfl rfl (gl_offu rfl rfl rfl rfl rfl (gl_off rfl rfl rfl rfl rfl rfl (gv (ov_pick_t rfl rfl) rfl (gl_nil ?_))))))))
   refine gq_cut () trivial ⟨?_, rfl, rfl, trivial⟩ rfl rfl
   exact congrArg some (vB_or_t hg)
  ·
   refine gl_val (ov_move (v := .bool false) (congrArg some (vB_false hg))) rfl rfl rfl (gl_on rfl rfl rfl (mv rfl rfl (gl_on rfl rfl rfl (gv (ov_gtr_i (q := 60) rfl rfl) rfl ?_))))
   refine gl_cut (ι := Unit) 4 (fun _ => True) (fun _ => [(19, vB (((60 : Int) < k) ∧ (k ≤ (4096 : Int)))), (0, vl), (1, vI k), (13, .bool false)]) (fun _ => []) (fun _ => h1) ?_ ?_
   ·
    refine gl_cases ((60 : Int) < k) (fun hg => ?_) (fun hg => ?_)
    ·
     refine gl_on rfl rfl rfl (gl_val (ov_move (v := .bool true) (congrArg some (vB_true hg))) rfl rfl rfl (gl_on rfl rfl rfl (mv rfl rfl (gl_on rfl rfl rfl (gv (ov_leq_i (q := 4096) rfl rfl) rfl (gl_on rfl rfl rfl (gv (ov_pick_t rfl rfl) rfl (gl_nil ?_))))))))
     refine gq_cut () trivial ⟨?_, rfl, rfl, rfl, trivial⟩ rfl rfl
     exact congrArg some (vB_and_t hg)
    ·
     refine gl_on rfl rfl rfl (gl_val (ov_move (v := .bool false) (congrArg some (vB_false hg))) rfl rfl rfl (gl_off rfl rfl rfl rfl rfl rfl (gl_off rfl rfl rfl rfl rfl rfl (gl_on rfl rfl rfl (gv (ov_pick_f rfl rfl) rfl (gl_nil ?_))))))
     refine gq_cut () trivial ⟨?_, rfl, rfl, rfl, trivial⟩ rfl rfl
     exact congrArg some (vB_and_f hg)
   ·
    intro _ _
    show GL _ _ _ _ _ _ _ [(19, vB (((60 : Int) < k) ∧ (k ≤ (4096 : Int)))), (0, vl), (1, vI k), (13, .bool false)] [] h1
    refine gv (ov_pick_f rfl rfl) rfl (gl_nil ?_)
    refine gq_cut () trivial ⟨?_, rfl, rfl, trivial⟩ rfl rfl
    exact congrArg some (vB_or_f hg)
 ·
  intro _ _
  show GL _ _ _ _ _ _ _ [(20, vB ((¬ ((↑((xsl)).length : Int) ≤ 500)) ∨ (((60 : Int) < k) ∧ (k ≤ (4096 : Int))))), (0, vl), (1, vI k)] [] h1
  refine gl_nil (gq_then ?_)
  refine gc_cond rfl (fun hc20 => ?_) (fun hc20 => ?_)
  ·
   refine gc_seq (gc_region ?_)
   refine gl_call (vs := []) rfl rfl rfl rfl Try.call8 trivial (fun w hs => law3_awake hs) ?_
   intro v21 h2 hh2 hr21
   subst hr21
   refine asg rfl rfl (gl_nil (gq_then (gc_ret (gr_then (gq_body1 rfl rfl ?_)))))
   rfl
  ·
   refine gc_skip (gq_then (gc_seq (gc_region (mv rfl rfl ?_))))
   replace hl := hl.mono hh1
   refine gl_call_own (vs := [_]) rfl rfl rfl rfl Try.call9 ⟨rfl, trivial⟩ (fun w hs => made_roll hs hl) ?_
   intro v23 h2 L23 hh2 hr23
   obtain ⟨b23, rfl, rfl⟩ := hr23
   replace hl := hl.mono hh2
   refine gl_call_mut2 (A := []) (vs := [_]) Try.call10 ⟨rfl, trivial⟩ (fun X w hs => o_dice_span hl (by first | omega | exact Nat.zero_le _) hs) rfl ?_
   intro v24 g24 q24 hg24 hr24
   obtain ⟨k24, p24, rfl, hk24, hle24, hr24⟩ := hr24
   refine gl_newop (new_allocx (ρ := (rpP (rpQ 1) (rpQ 1))) (X := ((0 : Rat), (0 : Rat))) info29 rfl rfl (zr_p (zr_q (by decide)) (zr_q (by decide)))) rfl rfl rfl ?_
   intro v5 q5 hq5
   obtain ⟨b5, cs5, rfl, rfl, rb5⟩ := hq5
   have rw_1 := (Le.p (Le.q (l := 2) (by decide)) (Le.q (l := 2) (by decide))).R rb5
   refine gl_updx (A := []) (F := fun c_ => (rpP (rpQ 2) (rpQ 2)).R g24 c_ p24) (upd_box Try.sizeOf29 (Pc.here _) rfl rfl rfl rw_1 hr24 rfl) ?_
   intro cs_2 rb_3
   refine gl_nil (gq_then (gc_seq (gc_seq (gc_region (mv rfl rfl (gv (ov_gtr_i (q := 4096) rfl rfl) rfl (gl_nil (gq_then ?_))))))))
   refine gc_cond rfl (fun hc26 => ?_) (fun hc26 => ?_)
   ·
    refine gc_seq ?_
    refine gc_draw 11 _ [] [(0, .q), (1, .q), (3, .q), (4, .q), (2, .c), (5, .c), (6, .c), (7, .q), (8, .c), (9, .q), (10, .q)] mixed (fun x hx => by cases hx) (by kernel_rfl) (fun x hx => by cases hx) (fun r hr => hr) (w_qx (F := fun v_ => (rpP (rpQ 2) (rpQ 2)).Is g24 v_ p24) rfl (ox_load_box ty29 (Pc.here _) rfl rfl rb_3 rfl) (mem1 (.head _)) rfl ?_)
    intro v27 r27
    refine w_q rfl (fun h' L' hh hR => ov_move rfl) rfl (w_qx (F := fun v_ => (rpP (rpQ 2) (rpQ 2)).Is g24 v_ p24) rfl (ox_load_box ty29 (Pc.here _) rfl rfl rb_3 rfl) (mem1 (.head _)) rfl ?_)
    intro v30 r30
    refine w_q rfl (fun h' L' hh hR => ov_move rfl) rfl ?_
    refine w_c rfl ?_
    refine s_call (vs := [_, _]) Try.call12 ⟨rfl, rfl, trivial⟩ (fun w hs => o_span_round hs r27 (by omega) (by omega) (by decide)) rfl ?_
    intro v29 h3 hh3 r29
    change (rpP (rpQ (2 + 130)) (rpQ (2 + 130))).Is h3 v29 (roundS p24 k) at r29
    replace r29 := Rp.Is.le r29 (Le.p (Le.q (l := 132) (by omega)) (Le.q (l := 132) (by omega)))
    refine w_c rfl ?_
    replace r30 := r30.mono hh3
    refine s_call (vs := [_, _]) Try.call13 ⟨rfl, rfl, trivial⟩ (fun w hs => o_sref_round hs r30 (by omega) (by omega) (by decide)) rfl ?_
    intro v32 h4 hh4 r32
    change (rpP (rpQ (2 + 130)) (rpQ (2 + 130))).Is h4 v32 (roundS p24 k) at r32
    replace r32 := Rp.Is.le r32 (Le.p (Le.q (l := 132) (by omega)) (Le.q (l := 132) (by omega)))
    refine w_c rfl ?_
    replace r29 := r29.mono hh4
    refine s_call (vs := [_, _]) Try.call11 ⟨rfl, rfl, trivial⟩ (fun w hs => o_sref_same hs r29 r32 (by decide)) rfl ?_
    intro v33 h5 hh5 r33
    obtain rfl : v33 = .bool true := by rw [show v33 = vB ((roundS p24 k).1 = (roundS p24 k).1 ∧ (roundS p24 k).2 = (roundS p24 k).2) from r33, vB_true (by first | rfl | exact Iff.rfl | exact ⟨rfl, rfl⟩ | exact valid_rat _ | assumption)]
    refine w_q rfl (fun h' L' hh hR => ov_move rfl) rfl ?_
    refine w_c rfl (s_on rfl rfl ?_)
    refine s_call (vs := []) Try.call8 trivial (fun w hs => law3_awake hs) rfl ?_
    intro v35 h6 hh6 hr35
    subst hr35
    refine w_q rfl (fun h' L' hh hR => ov_pick_t rfl rfl) rfl (w_q rfl (fun h' L' hh hR => ov_assign rfl) rfl (w_nil (gq_keep (e' := [(4, _)]) ⟨rfl, trivial⟩ (gq_then (gc_ret (gr_then (gq_body1 rfl rfl ?_)))))))
    rfl
   ·
    refine gc_skip (gq_then (gc_seq (gc_region (gl_x (F := fun v_ => (rpP (rpQ 2) (rpQ 2)).Is g24 v_ p24) (ox_load_box ty29 (Pc.here _) rfl rfl rb_3 rfl) (mem1 (.head _)) rfl ?_))))
    intro v38 r38
    refine mv rfl rfl ?_
    refine gl_call (vs := [_, _]) rfl rfl rfl rfl Try.call14 ⟨rfl, rfl, trivial⟩ (fun w hs => span_rootS hs r38 (by omega) (by omega) (by decide)) ?_
    intro v40 h3 hh3 r40
    obtain ⟨v40_0, rfl, r40_0⟩ := r40
    change (rpP (rpQ (2 + 140)) (rpQ (2 + 140))).Is h3 v40_0 (rtLo p24.1 p24.2 k, rtHi p24.2 k) at r40_0
    replace r40_0 := Rp.Is.le r40_0 (Le.p (Le.q (l := 142) (by omega)) (Le.q (l := 142) (by omega)))
    refine mv rfl rfl (gv (ov_extract (vs := [_, _]) rfl rfl) rfl (gv (ov_extract (vs := [_, _]) rfl rfl) rfl (gl_newop (new_allocx (ρ := (rpP (rpQ 1) (rpQ 1))) (X := ((0 : Rat), (0 : Rat))) info29 rfl rfl (zr_p (zr_q (by decide)) (zr_q (by decide)))) rfl rfl rfl ?_)))
    intro v6 q6 hq6
    obtain ⟨b6, cs6, rfl, rfl, rb6⟩ := hq6
    have rw_4 := (Le.p (Le.q (l := 142) (by decide)) (Le.q (l := 142) (by decide))).R rb6
    refine gl_updx (A := []) (F := fun c_ => (rpP (rpQ 142) (rpQ 142)).R h3 c_ (rtLo p24.1 p24.2 k, rtHi p24.2 k)) (upd_box Try.sizeOf29 (Pc.here _) rfl rfl rfl rw_4 r40_0 rfl) ?_
    intro cs_5 rb_6
    refine asg rfl rfl (gl_nil (gq_keep (e' := [(1, _), (5, _), (6, _), (7, _)]) ⟨rfl, rfl, rfl, rfl, trivial⟩ (gq_then (gc_seq (gc_region ?_)))))
    replace rb_3 := rb_3.mono hh3
    refine gl_x (F := fun v_ => (rpP (rpQ 2) (rpQ 2)).Is h3 v_ p24) (ox_load_box ty29 (Pc.here _) rfl rfl rb_3 rfl) (mem1 (.tail _ (.head _))) rfl ?_
    intro v44 r44
    refine mv rfl rfl ?_
    refine gl_call (vs := [_, _]) rfl rfl rfl rfl Try.call15 ⟨rfl, rfl, trivial⟩ (fun w hs => sref_rootS hs r44 (by omega) (by omega) (by decide)) ?_
    intro v46 h4 hh4 r46
    obtain ⟨v46_0, rfl, r46_0⟩ := r46
    change (rpP (rpQ (2 + 140)) (rpQ (2 + 140))).Is h4 v46_0 (rtLo p24.1 p24.2 k, rtHi p24.2 k) at r46_0
    replace r46_0 := Rp.Is.le r46_0 (Le.p (Le.q (l := 142) (by omega)) (Le.q (l := 142) (by omega)))
    refine mv rfl rfl (gv (ov_extract (vs := [_, _]) rfl rfl) rfl (gv (ov_extract (vs := [_, _]) rfl rfl) rfl (gl_newop (new_allocx (ρ := (rpP (rpQ 1) (rpQ 1))) (X := ((0 : Rat), (0 : Rat))) info29 rfl rfl (zr_p (zr_q (by decide)) (zr_q (by decide)))) rfl rfl rfl ?_)))
    intro v8 q8 hq8
    obtain ⟨b8, cs8, rfl, rfl, rb8⟩ := hq8
    have rw_7 := (Le.p (Le.q (l := 142) (by decide)) (Le.q (l := 142) (by decide))).R rb8
    refine gl_updx (A := []) (F := fun c_ => (rpP (rpQ 142) (rpQ 142)).R h4 c_ (rtLo p24.1 p24.2 k, rtHi p24.2 k)) (upd_box Try.sizeOf29 (Pc.here _) rfl rfl rfl rw_7 r46_0 rfl) ?_
    intro cs_8 rb_9
    refine asg rfl rfl (gl_nil (gq_then (gc_seq ?_)))
    refine gc_draw 21 _ [] [(0, .q), (1, .q), (3, .q), (4, .q), (2, .c), (5, .c), (6, .c), (7, .q), (8, .q), (9, .q), (10, .q), (11, .q), (12, .q), (13, .q), (14, .q), (15, .c), (16, .q), (17, .q), (18, .c), (19, .q), (20, .q)] mixed (fun x hx => by cases hx) (by kernel_rfl) (fun x hx => by cases hx) (fun r hr => hr) ?_
    replace rb_3 := rb_3.mono hh4
    refine w_qx (F := fun v_ => (rpP (rpQ 2) (rpQ 2)).Is h4 v_ p24) rfl (ox_load_box ty29 (Pc.here _) rfl rfl rb_3 rfl) (mem1 (.tail _ (.tail _ (.head _)))) rfl ?_
    intro v49 r49
    refine w_q rfl (fun h' L' hh hR => ov_move rfl) rfl (w_qx (F := fun v_ => (rpP (rpQ 2) (rpQ 2)).Is h4 v_ p24) rfl (ox_load_box ty29 (Pc.here _) rfl rfl rb_3 rfl) (mem1 (.tail _ (.tail _ (.head _)))) rfl ?_)
    intro v52 r52
    refine w_q rfl (fun h' L' hh hR => ov_move rfl) rfl ?_
    refine w_c rfl ?_
    refine s_call (vs := [_, _]) Try.call12 ⟨rfl, rfl, trivial⟩ (fun w hs => o_span_round hs r49 (by omega) (by omega) (by decide)) rfl ?_
    intro v51 h5 hh5 r51
    change (rpP (rpQ (2 + 130)) (rpQ (2 + 130))).Is h5 v51 (roundS p24 k) at r51
    replace r51 := Rp.Is.le r51 (Le.p (Le.q (l := 132) (by omega)) (Le.q (l := 132) (by omega)))
    refine w_c rfl ?_
    replace r52 := r52.mono hh5
    refine s_call (vs := [_, _]) Try.call13 ⟨rfl, rfl, trivial⟩ (fun w hs => o_sref_round hs r52 (by omega) (by omega) (by decide)) rfl ?_
    intro v54 h6 hh6 r54
    change (rpP (rpQ (2 + 130)) (rpQ (2 + 130))).Is h6 v54 (roundS p24 k) at r54
    replace r54 := Rp.Is.le r54 (Le.p (Le.q (l := 132) (by omega)) (Le.q (l := 132) (by omega)))
    refine w_c rfl ?_
    replace r51 := r51.mono hh6
    refine s_call (vs := [_, _]) Try.call11 ⟨rfl, rfl, trivial⟩ (fun w hs => o_sref_same hs r51 r54 (by decide)) rfl ?_
    intro v55 h7 hh7 r55
    obtain rfl : v55 = .bool true := by rw [show v55 = vB ((roundS p24 k).1 = (roundS p24 k).1 ∧ (roundS p24 k).2 = (roundS p24 k).2) from r55, vB_true (by first | rfl | exact Iff.rfl | exact ⟨rfl, rfl⟩ | exact valid_rat _ | assumption)]
    refine w_q rfl (fun h' L' hh hR => ov_move rfl) rfl (w_q_on rfl rfl rfl (fun h' L' hh hR => ov_move rfl) rfl (w_q_on rfl rfl rfl (fun h' L' hh hR => ov_move rfl) rfl (w_q_on rfl rfl rfl (fun h' L' hh hR => OpV.tr (by rfl) (ov_eql_i rfl rfl)) rfl (w_q rfl (fun h' L' hh hR => ov_pick_t rfl rfl) rfl (w_q rfl (fun h' L' hh hR => ov_move rfl) rfl ?_)))))
    replace rb_6 := rb_6.mono (((hh4.trans hh5).trans hh6).trans hh7)
    refine w_qx_on (F := fun v_ => (rpP (rpQ 142) (rpQ 142)).Is h7 v_ (rtLo p24.1 p24.2 k, rtHi p24.2 k)) rfl rfl rfl (ox_load_box ty29 (Pc.here _) rfl rfl rb_6 rfl) (mem1 (.tail _ (.head _))) rfl ?_
    intro v62 r62
    replace rb_9 := rb_9.mono ((hh5.trans hh6).trans hh7)
    refine w_qx_on (F := fun v_ => (rpP (rpQ 142) (rpQ 142)).Is h7 v_ (rtLo p24.1 p24.2 k, rtHi p24.2 k)) rfl rfl rfl (ox_load_box ty29 (Pc.here _) rfl rfl rb_9 rfl) (mem1 (.head _)) rfl ?_
    intro v63 r63
    refine w_c rfl (s_on rfl rfl ?_)
    refine s_call (vs := [_, _]) Try.call11 ⟨rfl, rfl, trivial⟩ (fun w hs => o_sref_same hs r62 r63 (by decide)) rfl ?_
    intro v64 h8 hh8 r64
    obtain rfl : v64 = .bool true := by rw [show v64 = vB ((rtLo p24.1 p24.2 k) = (rtLo p24.1 p24.2 k) ∧ (rtHi p24.2 k) = (rtHi p24.2 k)) from r64, vB_true (by first | rfl | exact Iff.rfl | exact ⟨rfl, rfl⟩ | exact valid_rat _ | assumption)]
    refine w_q rfl (fun h' L' hh hR => ov_pick_t rfl rfl) rfl (w_q rfl (fun h' L' hh hR => ov_move rfl) rfl ?_)
    refine w_c rfl (s_on rfl rfl ?_)
    refine s_call (vs := []) Try.call8 trivial (fun w hs => law3_awake hs) rfl ?_
    intro v67 h9 hh9 hr67
    subst hr67
    refine w_q rfl (fun h' L' hh hR => ov_pick_t rfl rfl) rfl (w_q rfl (fun h' L' hh hR => ov_assign rfl) rfl (w_nil (gq_keep (e' := [(4, _)]) ⟨rfl, trivial⟩ (gq_then (gc_ret (gq_body1 rfl rfl ?_))))))
    rfl

end Go.Proofs.Ytkdmphehabpcfaa
