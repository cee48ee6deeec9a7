/- Texts that the proof needs, part 6. -/
import Derived.Test.YtkdmphehabpcfaaGreatK5

namespace Go.Proofs.YtkdmphehabpcfaaGreat
open Bk Go
set_option linter.unusedVariables false
set_option linter.unusedSimpArgs false
set_option maxRecDepth 10000

theorem law3_awake {w0 : World} {h0 : Mem}  (hs : MLe h0 (mem w0))  :
    Calls Tryz.prog 7 #[] w0 (Ret w0 h0 (fun _ r => r = .bool true)) := by
 refine calls_begin (n := 46) (e := []) (vs := []) Tryz.func7 rfl rfl (Nat.le_of_ble_eq_true rfl) hs trivial (gc_seq (gc_region (asg rfl rfl (gl_nil (gq_then (gc_seq (gc_region ?_)))))))
 refine gl_call (vs := [vI (2)]) rfl rfl rfl rfl Tryz.call18 ⟨rfl, trivial⟩ (fun w hs => o_rref_int hs (by decide) (by decide)) ?_
 intro v5 h1 hh1 r5
 change (rpQ 2).Is h1 v5 ((2 : Int) : Rat) at r5
 refine gl_call (vs := [vI (-1)]) rfl rfl rfl rfl Tryz.call18 ⟨rfl, trivial⟩ (fun w hs => o_rref_int hs (by decide) (by decide)) ?_
 intro v6 h2 hh2 r6
 change (rpQ 2).Is h2 v6 ((-1 : Int) : Rat) at r6
 replace r5 := r5.mono hh2
 refine gl_call (vs := [_, _]) rfl rfl rfl rfl Tryz.call32 ⟨rfl, rfl, trivial⟩ (fun w hs => o_span_of hs r5 r6 (by decide)) ?_
 intro v7 h3 hh3 r7
 change (rpP (rpQ 2) (rpQ 2)).Is h3 v7 (ofS ((2 : Int) : Rat) ((-1 : Int) : Rat)) at r7
 refine gl_newop (new_allocx (ρ := (rpP (rpQ 1) (rpQ 1))) (X := ((0 : Rat), (0 : Rat))) info31 rfl rfl (zr_p (zr_q (by decide)) (zr_q (by decide)))) rfl rfl rfl ?_
 intro v1 q1 hq1
 obtain ⟨b1, cs1, rfl, rfl, rb1⟩ := hq1
 have rw_1 := (Le.p (Le.q (l := 2) (by decide)) (Le.q (l := 2) (by decide))).R rb1
 refine gl_updx (A := []) (F := fun c_ => (rpP (rpQ 2) (rpQ 2)).R h3 c_ (ofS ((2 : Int) : Rat) ((-1 : Int) : Rat))) (upd_box Tryz.sizeOf31 (Pc.here _) rfl rfl rfl rw_1 r7 rfl) ?_
 intro cs_2 rb_3
 refine gl_nil (gq_then (gc_seq (gc_region ?_)))
 refine gl_call (vs := [vI (3)]) rfl rfl rfl rfl Tryz.call18 ⟨rfl, trivial⟩ (fun w hs => o_rref_int hs (by decide) (by decide)) ?_
 intro v8 h4 hh4 r8
 change (rpQ 2).Is h4 v8 ((3 : Int) : Rat) at r8
 refine gl_call (vs := [vI (4)]) rfl rfl rfl rfl Tryz.call18 ⟨rfl, trivial⟩ (fun w hs => o_rref_int hs (by decide) (by decide)) ?_
 intro v9 h5 hh5 r9
 change (rpQ 2).Is h5 v9 ((4 : Int) : Rat) at r9
 replace r8 := r8.mono hh5
 refine gl_call (vs := [_, _]) rfl rfl rfl rfl Tryz.call32 ⟨rfl, rfl, trivial⟩ (fun w hs => o_span_of hs r8 r9 (by decide)) ?_
 intro v10 h6 hh6 r10
 change (rpP (rpQ 2) (rpQ 2)).Is h6 v10 (ofS ((3 : Int) : Rat) ((4 : Int) : Rat)) at r10
 refine gl_newop (new_allocx (ρ := (rpP (rpQ 1) (rpQ 1))) (X := ((0 : Rat), (0 : Rat))) info31 rfl rfl (zr_p (zr_q (by decide)) (zr_q (by decide)))) rfl rfl rfl ?_
 intro v2 q2 hq2
 obtain ⟨b2, cs2, rfl, rfl, rb2⟩ := hq2
 have rw_4 := (Le.p (Le.q (l := 2) (by decide)) (Le.q (l := 2) (by decide))).R rb2
 refine gl_updx (A := []) (F := fun c_ => (rpP (rpQ 2) (rpQ 2)).R h6 c_ (ofS ((3 : Int) : Rat) ((4 : Int) : Rat))) (upd_box Tryz.sizeOf31 (Pc.here _) rfl rfl rfl rw_4 r10 rfl) ?_
 intro cs_5 rb_6
 refine gl_nil (gq_then (gc_seq (gc_region ?_)))
 refine gl_call (vs := [vI (2)]) rfl rfl rfl rfl Tryz.call18 ⟨rfl, trivial⟩ (fun w hs => o_rref_int hs (by decide) (by decide)) ?_
 intro v12 h7 hh7 r12
 change (rpQ 2).Is h7 v12 ((2 : Int) : Rat) at r12
 refine gl_call (vs := [_]) rfl rfl rfl rfl Tryz.call34 ⟨rfl, trivial⟩ (fun w hs => o_span_point hs r12 (by decide)) ?_
 intro v13 h8 hh8 r13
 change (rpP (rpQ 2) (rpQ 2)).Is h8 v13 (((2 : Int) : Rat), ((2 : Int) : Rat)) at r13
 refine gl_call (vs := [_, vI (2)]) rfl rfl rfl rfl Tryz.call50 ⟨rfl, rfl, trivial⟩ (fun w hs => span_rootS hs r13 (by decide) (by decide) (by decide)) ?_
 intro v14 h9 hh9 r14
 obtain ⟨v14_0, rfl, r14_0⟩ := r14
 change (rpP (rpQ (2 + 140)) (rpQ (2 + 140))).Is h9 v14_0 (rtLo (((2 : Int) : Rat), ((2 : Int) : Rat)).1 (((2 : Int) : Rat), ((2 : Int) : Rat)).2 (2 : Int), rtHi (((2 : Int) : Rat), ((2 : Int) : Rat)).2 (2 : Int)) at r14_0
 replace r14_0 := Rp.Is.le r14_0 (Le.p (Le.q (l := 142) (by omega)) (Le.q (l := 142) (by omega)))
 refine mv rfl rfl (gv (ov_extract (vs := [_, _]) rfl rfl) rfl (gv (ov_extract (vs := [_, _]) rfl rfl) rfl (gl_newop (new_allocx (ρ := (rpP (rpQ 1) (rpQ 1))) (X := ((0 : Rat), (0 : Rat))) info31 rfl rfl (zr_p (zr_q (by decide)) (zr_q (by decide)))) rfl rfl rfl ?_)))
 intro v3 q3 hq3
 obtain ⟨b3, cs3, rfl, rfl, rb3⟩ := hq3
 have rw_7 := (Le.p (Le.q (l := 142) (by decide)) (Le.q (l := 142) (by decide))).R rb3
 refine gl_updx (A := []) (F := fun c_ => (rpP (rpQ 142) (rpQ 142)).R h9 c_ (rtLo (((2 : Int) : Rat), ((2 : Int) : Rat)).1 (((2 : Int) : Rat), ((2 : Int) : Rat)).2 (2 : Int), rtHi (((2 : Int) : Rat), ((2 : Int) : Rat)).2 (2 : Int))) (upd_box Tryz.sizeOf31 (Pc.here _) rfl rfl rfl rw_7 r14_0 rfl) ?_
 intro cs_8 rb_9
 refine asg rfl rfl (gl_nil (gq_keep (e' := [(1, _), (2, _), (3, _), (4, _)]) ⟨rfl, rfl, rfl, rfl, trivial⟩ (gq_then (gc_seq (gc_region ?_)))))
 replace rb_3 := rb_3.mono (((((hh4.trans hh5).trans hh6).trans hh7).trans hh8).trans hh9)
 refine gl_x (F := fun v_ => (rpP (rpQ 2) (rpQ 2)).Is h9 v_ (ofS ((2 : Int) : Rat) ((-1 : Int) : Rat))) (ox_load_box ty31 (Pc.here _) rfl rfl rb_3 rfl) (mem1 (.tail _ (.tail _ (.head _)))) rfl ?_
 intro v17 r17
 replace rb_6 := rb_6.mono ((hh7.trans hh8).trans hh9)
 refine gl_x (F := fun v_ => (rpP (rpQ 2) (rpQ 2)).Is h9 v_ (ofS ((3 : Int) : Rat) ((4 : Int) : Rat))) (ox_load_box ty31 (Pc.here _) rfl rfl rb_6 rfl) (mem1 (.tail _ (.head _))) rfl ?_
 intro v18 r18
 refine gl_call (vs := [_, _]) rfl rfl rfl rfl Tryz.call44 ⟨rfl, rfl, trivial⟩ (fun w hs => o_span_mul hs r17 r18 (by decide)) ?_
 intro v19 h10 hh10 r19
 change (rpP (rpQ (2 + 2)) (rpQ (2 + 2))).Is h10 v19 (mulS (ofS ((2 : Int) : Rat) ((-1 : Int) : Rat)) (ofS ((3 : Int) : Rat) ((4 : Int) : Rat))) at r19
 replace r19 := Rp.Is.le r19 (Le.p (Le.q (l := 4) (by omega)) (Le.q (l := 4) (by omega)))
 refine gl_x (F := fun v_ => (rpQ 4).Is h10 v_ ((mulS (ofS ((2 : Int) : Rat) ((-1 : Int) : Rat)) (ofS ((3 : Int) : Rat) ((4 : Int) : Rat))).1)) (ox_field Tryz.underlying31 rfl ty29 (Pc.fst (Pc.here _)) rfl rfl rfl r19 rfl) mem0 rfl ?_
 intro v20 r20
 obtain ⟨vn20_10, vd20_10, hv20_10, hn20_10, hd20_10, hlq20_10⟩ := open_q r20
 subst hv20_10
 refine gl_call (vs := [_]) rfl rfl rfl rfl Tryz.call56 ⟨rfl, trivial⟩ (fun w hs => rref_text hs hn20_10 hd20_10 (by omega)) ?_
 intro v21 h11 hh11 hr21
 subst hr21
 have htl21 := txtQ_len ((mulS (ofS ((2 : Int) : Rat) ((-1 : Int) : Rat)) (ofS ((3 : Int) : Rat) ((4 : Int) : Rat))).1)
 refine gv (OpV.tr (by exact ex3_1) (ov_eql_s (pa := (txtQ ((mulS (ofS ((2 : Int) : Rat) ((-1 : Int) : Rat)) (ofS ((3 : Int) : Rat) ((4 : Int) : Rat))).1))) (pb := ([45, 52] : List Nat)) (byB_txtQ ((mulS (ofS ((2 : Int) : Rat) ((-1 : Int) : Rat)) (ofS ((3 : Int) : Rat) ((4 : Int) : Rat))).1)) (show ByB [45, 52] by unfold ByB; decide) rfl rfl)) rfl (mv rfl rfl (gl_on rfl rfl rfl ?_))
 replace rb_3 := rb_3.mono (hh10.trans hh11)
 refine gl_x (F := fun v_ => (rpP (rpQ 2) (rpQ 2)).Is h11 v_ (ofS ((2 : Int) : Rat) ((-1 : Int) : Rat))) (ox_load_box ty31 (Pc.here _) rfl rfl rb_3 rfl) (mem1 (.tail _ (.tail _ (.head _)))) rfl ?_
 intro v24 r24
 refine gl_on rfl rfl rfl ?_
 refine gl_call (vs := [_]) rfl rfl rfl rfl Tryz.call46 ⟨rfl, trivial⟩ (fun w hs => o_span_sqr hs r24 (by decide)) ?_
 intro v25 h12 hh12 r25
 change (rpP (rpQ (2 + 2)) (rpQ (2 + 2))).Is h12 v25 (sqrS (ofS ((2 : Int) : Rat) ((-1 : Int) : Rat))) at r25
 replace r25 := Rp.Is.le r25 (Le.p (Le.q (l := 4) (by omega)) (Le.q (l := 4) (by omega)))
 refine gl_on rfl rfl rfl (gl_x (F := fun v_ => (rpQ 4).Is h12 v_ ((sqrS (ofS ((2 : Int) : Rat) ((-1 : Int) : Rat))).2)) (ox_field Tryz.underlying31 rfl ty29 (Pc.snd (Pc.here _)) rfl rfl rfl r25 rfl) mem0 rfl ?_)
 intro v26 r26
 refine gl_on rfl rfl rfl ?_
 obtain ⟨vn26_11, vd26_11, hv26_11, hn26_11, hd26_11, hlq26_11⟩ := open_q r26
 subst hv26_11
 refine gl_call (vs := [_]) rfl rfl rfl rfl Tryz.call56 ⟨rfl, trivial⟩ (fun w hs => rref_text hs hn26_11 hd26_11 (by omega)) ?_
 intro v27 h13 hh13 hr27
 subst hr27
 have htl27 := txtQ_len ((sqrS (ofS ((2 : Int) : Rat) ((-1 : Int) : Rat))).2)
 refine gl_on rfl rfl rfl (gv (OpV.tr (by exact ex3_2) (ov_eql_s (pa := (txtQ ((sqrS (ofS ((2 : Int) : Rat) ((-1 : Int) : Rat))).2))) (pb := ([52] : List Nat)) (byB_txtQ ((sqrS (ofS ((2 : Int) : Rat) ((-1 : Int) : Rat))).2)) (show ByB [52] by unfold ByB; decide) rfl rfl)) rfl (gv (ov_pick_t rfl rfl) rfl (mv rfl rfl (gl_on rfl rfl rfl (mv rfl rfl (gl_on rfl rfl rfl (gv (OpV.tr (by exact ex3_3) (ov_eql_i (q := 0) rfl rfl)) rfl (gv (ov_pick_t rfl rfl) rfl (mv rfl rfl (gl_on rfl rfl rfl (gv ((ov_field_addr Tryz.underlying31 rfl Tryz.sizeOf29 rfl).cv (show _ = vP b3 0 from congrArg (vP b3) (by rfl))) rfl (gl_on rfl rfl rfl ?_))))))))))))
 replace rb_9 := rb_9.mono (((hh10.trans hh11).trans hh12).trans hh13)
 refine gl_x (F := fun v_ => (rpQ 142).Is h13 v_ (rtLo (((2 : Int) : Rat), ((2 : Int) : Rat)).1 (((2 : Int) : Rat), ((2 : Int) : Rat)).2 (2 : Int))) (ox_load_box ty29 (Pc.fst (Pc.here _)) rfl rfl rb_9 rfl) (mem1 (.head _)) rfl ?_
 intro v36 r36
 refine gl_on rfl rfl rfl ?_
 obtain ⟨vn36_12, vd36_12, hv36_12, hn36_12, hd36_12, hlq36_12⟩ := open_q r36
 subst hv36_12
 refine gl_call (vs := [_]) rfl rfl rfl rfl Tryz.call56 ⟨rfl, trivial⟩ (fun w hs => rref_text hs hn36_12 hd36_12 (by omega)) ?_
 intro v37 h14 hh14 hr37
 subst hr37
 have htl37 := txtQ_len (rtLo (((2 : Int) : Rat), ((2 : Int) : Rat)).1 (((2 : Int) : Rat), ((2 : Int) : Rat)).2 (2 : Int))
 refine gl_on rfl rfl rfl (gv (OpV.tr (by exact ex3_4) (ov_eql_s (pa := (txtQ (rtLo (((2 : Int) : Rat), ((2 : Int) : Rat)).1 (((2 : Int) : Rat), ((2 : Int) : Rat)).2 (2 : Int)))) (pb := ([53, 47, 52] : List Nat)) (byB_txtQ (rtLo (((2 : Int) : Rat), ((2 : Int) : Rat)).1 (((2 : Int) : Rat), ((2 : Int) : Rat)).2 (2 : Int))) (show ByB [53, 47, 52] by unfold ByB; decide) rfl rfl)) rfl (gv (ov_pick_t rfl rfl) rfl (mv rfl rfl (gl_on rfl rfl rfl (gv ((ov_field_addr Tryz.underlying31 rfl Tryz.sizeOf29 rfl).cv (show _ = vP b3 3 from congrArg (vP b3) (by rfl))) rfl (gl_on rfl rfl rfl ?_))))))
 replace rb_9 := rb_9.mono hh14
 refine gl_x (F := fun v_ => (rpQ 142).Is h14 v_ (rtHi (((2 : Int) : Rat), ((2 : Int) : Rat)).2 (2 : Int))) (ox_load_box ty29 (Pc.snd (Pc.here _)) rfl rfl rb_9 rfl) (mem1 (.head _)) rfl ?_
 intro v42 r42
 refine gl_on rfl rfl rfl ?_
 obtain ⟨vn42_13, vd42_13, hv42_13, hn42_13, hd42_13, hlq42_13⟩ := open_q r42
 subst hv42_13
 refine gl_call (vs := [_]) rfl rfl rfl rfl Tryz.call56 ⟨rfl, trivial⟩ (fun w hs => rref_text hs hn42_13 hd42_13 (by omega)) ?_
 intro v43 h15 hh15 hr43
 subst hr43
 have htl43 := txtQ_len (rtHi (((2 : Int) : Rat), ((2 : Int) : Rat)).2 (2 : Int))
 refine gl_on rfl rfl rfl (gv (OpV.tr (by exact ex3_5) (ov_eql_s (pa := (txtQ (rtHi (((2 : Int) : Rat), ((2 : Int) : Rat)).2 (2 : Int)))) (pb := ([51, 47, 50] : List Nat)) (byB_txtQ (rtHi (((2 : Int) : Rat), ((2 : Int) : Rat)).2 (2 : Int))) (show ByB [51, 47, 50] by unfold ByB; decide) rfl rfl)) rfl (gv (ov_pick_t rfl rfl) rfl (asg rfl rfl (gl_nil (gq_keep (e' := [(0, _)]) ⟨rfl, trivial⟩ (gq_then (gc_ret (gq_body1 rfl rfl ?_))))))))
 rfl

end Go.Proofs.YtkdmphehabpcfaaGreat
