/- Texts that the proof needs, part 5. -/
import Derived.Test.YtfpjclgbieppeaaK4


namespace Go.Proofs.Ytfpjclgbieppeaa
open Bk Go
set_option linter.unusedVariables false
set_option linter.unusedSimpArgs false
set_option maxRecDepth 10000

theorem o_dice_spot {w0 w : World} {h0 h : Mem} {b k : Nat} {vl : Value} {xs : List Int} (hl : Is h vl xs) (hk : k ≤ xs.length) {L : List Res} (hs : St w0 h0 (.var b 59 [vl, vI ↑k] :: L) h w) :
    Calls Try.prog 25 #[vP b 0] w (RetMut w0 h0 h L (fun g r q' => ∃ k' : Nat, ∃ m : T3 Rat, q' = .var b 59 [vl, vI ↑k'] ∧ k' ≤ xs.length ∧ (rpT (rpQ 2)).Is g r m)) := by
 have hlen := hl.lt63
 refine calls_begin_st (n := 22) (e := [(0, vP b 0)]) (vs := [vP b 0]) Try.func25 rfl rfl (Nat.le_of_ble_eq_true rfl) hs ⟨rfl, trivial⟩ (gc_seq (gc_region (gl_newop (new_allocx (ρ := (rpT (rpQ 2))) (X := (T3.mk (0 : Rat) (0 : Rat) (0 : Rat))) info31 rfl rfl (zr_t (zr_q (by decide)))) rfl rfl rfl ?_)))
 intro v2 q2 hq2
 obtain ⟨b2, cs2, rfl, rfl, rb2⟩ := hq2
 refine gl_nil (gq_then (gc_seq (gc_region (gl_newop (new_allocx (ρ := (rpT (rpQ 2))) (X := (T3.mk (0 : Rat) (0 : Rat) (0 : Rat))) info31 rfl rfl (zr_t (zr_q (by decide)))) rfl rfl rfl ?_))))
 intro v3 q3 hq3
 obtain ⟨b3, cs3, rfl, rfl, rb3⟩ := hq3
 refine gl_nil (gq_then (gc_seq (gc_seq (gc_region (asg (v := vI (0)) rfl rfl (gl_nil (gq_then (gc_block (gc_loop1 (gc_seq (gc_seq (gc_region (mv rfl rfl ?_)))))))))))))
 refine gv (OpV.tr (by decide) (ov_lss_i (q := 3) rfl rfl)) rfl (gl_nil (gq_then (gc_cond_t rfl (gc_skip (gq_then (gc_seq (gc_block (gc_seq (gc_region (mv rfl rfl (mv rfl rfl ?_)))))))))))
 refine gl_call_mut2 (A := [_, _]) (vs := [_, vI (5)]) Try.call11 ⟨rfl, rfl, trivial⟩ (fun X w hs => dice_next hl (by first | omega | exact Nat.zero_le _) (by omega) (by omega) hs) rfl ?_
 intro v11u1 g11u1 q11u1 hg11u1 hr11u1
 obtain ⟨k11u1, z11u1, rfl, hk11u1, rfl, hz11u1, hy11u1⟩ := hr11u1
 refine gl_call (vs := [_]) rfl rfl rfl rfl Try.call37 ⟨rfl, trivial⟩ (fun w hs => o_rref_int hs (by omega) (by omega)) ?_
 intro v12u1 h1 hh1 r12u1
 change (rpQ 2).Is h1 v12u1 ((z11u1 : Int) : Rat) at r12u1
 refine gv ((ov_index_arr (sz := 3) 0 Try.underlying31 Try.sizeOf29 rfl rfl rfl (by decide)).cv (show _ = vP b3 0 from congrArg (vP b3) (by rfl))) rfl ?_
 replace rb3 := rb3.mono (hg11u1.trans hh1)
 refine gl_updx (A := []) (F := fun c_ => (rpT (rpQ 2)).R h1 c_ (T3.mk ((z11u1 : Int) : Rat) (0 : Rat) (0 : Rat))) (upd_box Try.sizeOf29 (Pc.tx (Pc.here _)) rfl rfl rfl rb3 r12u1 rfl) ?_
 intro cs_1 rb_2
 refine gl_nil (gq_then (gc_seq (gc_region (mv rfl rfl ?_))))
 replace hl := hl.mono (hg11u1.trans hh1)
 refine gl_call_mut2 (A := [_, _]) (vs := [_, vI (4)]) Try.call55 ⟨rfl, rfl, trivial⟩ (fun X w hs => o_dice_bool hl (by first | omega | exact Nat.zero_le _) (by omega) (by omega) hs) rfl ?_
 intro v15u1 g15u1 q15u1 hg15u1 hr15u1
 obtain ⟨k15u1, P15u1, rfl, hk15u1, rfl⟩ := hr15u1
 refine gl_nil (gq_then ?_)
 refine gc_cond rfl (fun hc15 => ?_) (fun hc15 => ?_)
 ·
  refine gc_region (mv rfl rfl (mv rfl rfl ?_))
  replace hl := hl.mono hg15u1
  refine gl_call_mut2 (A := [_, _]) (vs := [_, vI (9)]) Try.call11 ⟨rfl, rfl, trivial⟩ (fun X w hs => dice_next hl (by first | omega | exact Nat.zero_le _) (by omega) (by omega) hs) rfl ?_
  intro v18u1 g18u1 q18u1 hg18u1 hr18u1
  obtain ⟨k18u1, z18u1, rfl, hk18u1, rfl, hz18u1, hy18u1⟩ := hr18u1
  refine gl_call (vs := [_, vI (2)]) rfl rfl rfl rfl Try.call14 ⟨rfl, rfl, trivial⟩ (fun w hs => o_rref_frac hs (by omega) (by omega) (by decide) (by decide)) ?_
  intro v19u1 h2 hh2 r19u1
  change (rpQ 2).Is h2 v19u1 (makeQ z18u1 (2 : Int)) at r19u1
  refine gv ((ov_index_arr (sz := 3) 0 Try.underlying31 Try.sizeOf29 rfl rfl rfl (by decide)).cv (show _ = vP b3 0 from congrArg (vP b3) (by rfl))) rfl ?_
  replace rb_2 := rb_2.mono ((hg15u1.trans hg18u1).trans hh2)
  refine gl_updx (A := []) (F := fun c_ => (rpT (rpQ 2)).R h2 c_ (T3.mk (makeQ z18u1 (2 : Int)) (0 : Rat) (0 : Rat))) (upd_box Try.sizeOf29 (Pc.tx (Pc.here _)) rfl rfl rfl rb_2 r19u1 rfl) ?_
  intro cs_3 rb_4
  refine gl_nil (gq_in (gq_keep (e' := [(0, _), (2, _), (3, _), (4, _)]) ⟨rfl, rfl, rfl, rfl, trivial⟩ (gq_then (gc_region (mv rfl rfl (gv ((ov_add_i (q := 1) rfl rfl (by omega) (by omega)).cv (show _ = vI (1) from rfl)) rfl (asg rfl rfl (gl_nil (gq_loop1 (gc_seq (gc_seq (gc_region (mv rfl rfl ?_)))))))))))))
  refine gv (OpV.tr (by decide) (ov_lss_i (q := 3) rfl rfl)) rfl (gl_nil (gq_then (gc_cond_t rfl (gc_skip (gq_then (gc_seq (gc_block (gc_seq (gc_region (mv rfl rfl (mv rfl rfl ?_)))))))))))
  replace hl := hl.mono (hg18u1.trans hh2)
  refine gl_call_mut2 (A := [_, _]) (vs := [_, vI (5)]) Try.call11 ⟨rfl, rfl, trivial⟩ (fun X w hs => dice_next hl (by first | omega | exact Nat.zero_le _) (by omega) (by omega) hs) rfl ?_
  intro v11u2 g11u2 q11u2 hg11u2 hr11u2
  obtain ⟨k11u2, z11u2, rfl, hk11u2, rfl, hz11u2, hy11u2⟩ := hr11u2
  refine gl_call (vs := [_]) rfl rfl rfl rfl Try.call37 ⟨rfl, trivial⟩ (fun w hs => o_rref_int hs (by omega) (by omega)) ?_
  intro v12u2 h3 hh3 r12u2
  change (rpQ 2).Is h3 v12u2 ((z11u2 : Int) : Rat) at r12u2
  refine gv ((ov_index_arr (sz := 3) 1 Try.underlying31 Try.sizeOf29 rfl rfl rfl (by decide)).cv (show _ = vP b3 3 from congrArg (vP b3) (by rfl))) rfl ?_
  replace rb_4 := rb_4.mono (hg11u2.trans hh3)
  refine gl_updx (A := []) (F := fun c_ => (rpT (rpQ 2)).R h3 c_ (T3.mk (makeQ z18u1 (2 : Int)) ((z11u2 : Int) : Rat) (0 : Rat))) (upd_box Try.sizeOf29 (Pc.ty (Pc.here _)) rfl rfl rfl rb_4 r12u2 rfl) ?_
  intro cs_5 rb_6
  refine gl_nil (gq_then (gc_seq (gc_region (mv rfl rfl ?_))))
  replace hl := hl.mono (hg11u2.trans hh3)
  refine gl_call_mut2 (A := [_, _]) (vs := [_, vI (4)]) Try.call55 ⟨rfl, rfl, trivial⟩ (fun X w hs => o_dice_bool hl (by first | omega | exact Nat.zero_le _) (by omega) (by omega) hs) rfl ?_
  intro v15u2 g15u2 q15u2 hg15u2 hr15u2
  obtain ⟨k15u2, P15u2, rfl, hk15u2, rfl⟩ := hr15u2
  refine gl_nil (gq_keep (e' := [(0, _), (2, _), (3, _), (4, _), (15, _)]) ⟨rfl, rfl, rfl, rfl, rfl, trivial⟩ (gq_then ?_))
  refine gc_cond rfl (fun hc15 => ?_) (fun hc15 => ?_)
  ·
   refine gc_region (mv rfl rfl (mv rfl rfl ?_))
   replace hl := hl.mono hg15u2
   refine gl_call_mut2 (A := [_, _]) (vs := [_, vI (9)]) Try.call11 ⟨rfl, rfl, trivial⟩ (fun X w hs => dice_next hl (by first | omega | exact Nat.zero_le _) (by omega) (by omega) hs) rfl ?_
   intro v18u2 g18u2 q18u2 hg18u2 hr18u2
   obtain ⟨k18u2, z18u2, rfl, hk18u2, rfl, hz18u2, hy18u2⟩ := hr18u2
   refine gl_call (vs := [_, vI (2)]) rfl rfl rfl rfl Try.call14 ⟨rfl, rfl, trivial⟩ (fun w hs => o_rref_frac hs (by omega) (by omega) (by decide) (by decide)) ?_
   intro v19u2 h4 hh4 r19u2
   change (rpQ 2).Is h4 v19u2 (makeQ z18u2 (2 : Int)) at r19u2
   refine gv ((ov_index_arr (sz := 3) 1 Try.underlying31 Try.sizeOf29 rfl rfl rfl (by decide)).cv (show _ = vP b3 3 from congrArg (vP b3) (by rfl))) rfl ?_
   replace rb_6 := rb_6.mono ((hg15u2.trans hg18u2).trans hh4)
   refine gl_updx (A := []) (F := fun c_ => (rpT (rpQ 2)).R h4 c_ (T3.mk (makeQ z18u1 (2 : Int)) (makeQ z18u2 (2 : Int)) (0 : Rat))) (upd_box Try.sizeOf29 (Pc.ty (Pc.here _)) rfl rfl rfl rb_6 r19u2 rfl) ?_
   intro cs_7 rb_8
   refine gl_nil (gq_in (gq_then (gc_region (mv rfl rfl (gv ((ov_add_i (q := 1) rfl rfl (by omega) (by omega)).cv (show _ = vI (2) from rfl)) rfl (asg rfl rfl (gl_nil (gq_loop1 (gc_seq (gc_seq (gc_region (mv rfl rfl (gv (OpV.tr (by decide) (ov_lss_i (q := 3) rfl rfl)) rfl ?_)))))))))))))
   refine gl_nil (gq_then (gc_cond_t rfl (gc_skip (gq_keep (e' := [(0, _), (2, _), (3, _), (4, _)]) ⟨rfl, rfl, rfl, rfl, trivial⟩ (gq_then (gc_seq (gc_block (gc_seq (gc_region (mv rfl rfl (mv rfl rfl ?_)))))))))))
   replace hl := hl.mono (hg18u2.trans hh4)
   refine gl_call_mut2 (A := [_, _]) (vs := [_, vI (5)]) Try.call11 ⟨rfl, rfl, trivial⟩ (fun X w hs => dice_next hl (by first | omega | exact Nat.zero_le _) (by omega) (by omega) hs) rfl ?_
   intro v11u3 g11u3 q11u3 hg11u3 hr11u3
   obtain ⟨k11u3, z11u3, rfl, hk11u3, rfl, hz11u3, hy11u3⟩ := hr11u3
   refine gl_call (vs := [_]) rfl rfl rfl rfl Try.call37 ⟨rfl, trivial⟩ (fun w hs => o_rref_int hs (by omega) (by omega)) ?_
   intro v12u3 h5 hh5 r12u3
   change (rpQ 2).Is h5 v12u3 ((z11u3 : Int) : Rat) at r12u3
   refine gv ((ov_index_arr (sz := 3) 2 Try.underlying31 Try.sizeOf29 rfl rfl rfl (by decide)).cv (show _ = vP b3 6 from congrArg (vP b3) (by rfl))) rfl ?_
   replace rb_8 := rb_8.mono (hg11u3.trans hh5)
   refine gl_updx (A := []) (F := fun c_ => (rpT (rpQ 2)).R h5 c_ (T3.mk (makeQ z18u1 (2 : Int)) (makeQ z18u2 (2 : Int)) ((z11u3 : Int) : Rat))) (upd_box Try.sizeOf29 (Pc.tz (Pc.here _)) rfl rfl rfl rb_8 r12u3 rfl) ?_
   intro cs_9 rb_10
   refine gl_nil (gq_then (gc_seq (gc_region (mv rfl rfl ?_))))
   replace hl := hl.mono (hg11u3.trans hh5)
   refine gl_call_mut2 (A := [_, _]) (vs := [_, vI (4)]) Try.call55 ⟨rfl, rfl, trivial⟩ (fun X w hs => o_dice_bool hl (by first | omega | exact Nat.zero_le _) (by omega) (by omega) hs) rfl ?_
   intro v15u3 g15u3 q15u3 hg15u3 hr15u3
   obtain ⟨k15u3, P15u3, rfl, hk15u3, rfl⟩ := hr15u3
   refine gl_nil (gq_then ?_)
   refine gc_cond rfl (fun hc15 => ?_) (fun hc15 => ?_)
   ·
    refine gc_region (mv rfl rfl (mv rfl rfl ?_))
    replace hl := hl.mono hg15u3
    refine gl_call_mut2 (A := [_, _]) (vs := [_, vI (9)]) Try.call11 ⟨rfl, rfl, trivial⟩ (fun X w hs => dice_next hl (by first | omega | exact Nat.zero_le _) (by omega) (by omega) hs) rfl ?_
    intro v18u3 g18u3 q18u3 hg18u3 hr18u3
    obtain ⟨k18u3, z18u3, rfl, hk18u3, rfl, hz18u3, hy18u3⟩ := hr18u3
    refine gl_call (vs := [_, vI (2)]) rfl rfl rfl rfl Try.call14 ⟨rfl, rfl, trivial⟩ (fun w hs => o_rref_frac hs (by omega) (by omega) (by decide) (by decide)) ?_
    intro v19u3 h6 hh6 r19u3
    change (rpQ 2).Is h6 v19u3 (makeQ z18u3 (2 : Int)) at r19u3
    refine gv ((ov_index_arr (sz := 3) 2 Try.underlying31 Try.sizeOf29 rfl rfl rfl (by decide)).cv (show _ = vP b3 6 from congrArg (vP b3) (by rfl))) rfl ?_
    replace rb_10 := rb_10.mono ((hg15u3.trans hg18u3).trans hh6)
    refine gl_updx (A := []) (F := fun c_ => (rpT (rpQ 2)).R h6 c_ (T3.mk (makeQ z18u1 (2 : Int)) (makeQ z18u2 (2 : Int)) (makeQ z18u3 (2 : Int)))) (upd_box Try.sizeOf29 (Pc.tz (Pc.here _)) rfl rfl rfl rb_10 r19u3 rfl) ?_
    intro cs_11 rb_12
    refine gl_nil (gq_in (gq_keep (e' := [(0, _), (2, _), (3, _), (4, _)]) ⟨rfl, rfl, rfl, rfl, trivial⟩ (gq_then (gc_region (mv rfl rfl (gv ((ov_add_i (q := 1) rfl rfl (by omega) (by omega)).cv (show _ = vI (3) from rfl)) rfl (asg rfl rfl (gl_nil (gq_loop1 (gc_seq (gc_seq (gc_region (mv rfl rfl ?_)))))))))))))
    refine gv (OpV.fa (by decide) (ov_lss_i (q := 3) rfl rfl)) rfl (gl_nil (gq_then (gc_cond_f rfl (gc_exit (gx_then (gx_then (gx_here (gq_then (gc_seq (gc_region (gl_x (F := fun v_ => (rpT (rpQ 2)).Is h6 v_ (T3.mk (makeQ z18u1 (2 : Int)) (makeQ z18u2 (2 : Int)) (makeQ z18u3 (2 : Int)))) (ox_load_box ty31 (Pc.here _) rfl rfl rb_12 rfl) (mem1 (.head _)) rfl ?_)))))))))))
    intro v21u4 r21u4
    replace rb2 := rb2.mono ((((((((((((((hg11u1.trans hh1).trans hg15u1).trans hg18u1).trans hh2).trans hg11u2).trans hh3).trans hg15u2).trans hg18u2).trans hh4).trans hg11u3).trans hh5).trans hg15u3).trans hg18u3).trans hh6)
    refine gl_updx (A := [_]) (F := fun c_ => (rpT (rpQ 2)).R h6 c_ (T3.mk (makeQ z18u1 (2 : Int)) (makeQ z18u2 (2 : Int)) (makeQ z18u3 (2 : Int)))) (upd_box Try.sizeOf31 (Pc.here _) rfl rfl rfl rb2 r21u4 rfl) ?_
    intro cs_13 rb_14
    refine gl_nil (gq_then (gc_ret (gq_exv (rv_o (t := 2) ty31 (.tail _ (.head _)) rfl rb_14) ?_)))
    intro w_15 hvw_15 rr_16
    refine gq_res_own (fun E S => run_res1 rfl hvw_15 E S) ?_
    exact ⟨_, (.cons _ (.cons _ (List.Sublist.refl _))), ((((((((((((((hg11u1.trans hh1).trans hg15u1).trans hg18u1).trans hh2).trans hg11u2).trans hh3).trans hg15u2).trans hg18u2).trans hh4).trans hg11u3).trans hh5).trans hg15u3).trans hg18u3).trans hh6), _, _, rfl, by omega, rr_16⟩
   ·
    refine gc_skip (gq_in (gq_then (gc_region (mv rfl rfl (gv ((ov_add_i (q := 1) rfl rfl (by omega) (by omega)).cv (show _ = vI (3) from rfl)) rfl (asg rfl rfl (gl_nil (gq_loop1 (gc_seq (gc_seq (gc_region (mv rfl rfl (gv (OpV.fa (by decide) (ov_lss_i (q := 3) rfl rfl)) rfl ?_)))))))))))))
    refine gl_nil (gq_keep (e' := [(0, _), (2, _), (3, _), (4, _), (6, _)]) ⟨rfl, rfl, rfl, rfl, rfl, trivial⟩ (gq_then (gc_cond_f rfl (gc_exit (gx_then (gx_then (gx_here (gq_then (gc_seq (gc_region ?_))))))))))
    replace rb_10 := rb_10.mono hg15u3
    refine gl_x (F := fun v_ => (rpT (rpQ 2)).Is g15u3 v_ (T3.mk (makeQ z18u1 (2 : Int)) (makeQ z18u2 (2 : Int)) ((z11u3 : Int) : Rat))) (ox_load_box ty31 (Pc.here _) rfl rfl rb_10 rfl) (mem1 (.head _)) rfl ?_
    intro v21u5 r21u5
    replace rb2 := rb2.mono ((((((((((((hg11u1.trans hh1).trans hg15u1).trans hg18u1).trans hh2).trans hg11u2).trans hh3).trans hg15u2).trans hg18u2).trans hh4).trans hg11u3).trans hh5).trans hg15u3)
    refine gl_updx (A := [_]) (F := fun c_ => (rpT (rpQ 2)).R g15u3 c_ (T3.mk (makeQ z18u1 (2 : Int)) (makeQ z18u2 (2 : Int)) ((z11u3 : Int) : Rat))) (upd_box Try.sizeOf31 (Pc.here _) rfl rfl rfl rb2 r21u5 rfl) ?_
    intro cs_17 rb_18
    refine gl_nil (gq_then (gc_ret (gq_exv (rv_o (t := 2) ty31 (.tail _ (.head _)) rfl rb_18) ?_)))
    intro w_19 hvw_19 rr_20
    refine gq_res_own (fun E S => run_res1 rfl hvw_19 E S) ?_
    exact ⟨_, (.cons _ (.cons _ (List.Sublist.refl _))), ((((((((((((hg11u1.trans hh1).trans hg15u1).trans hg18u1).trans hh2).trans hg11u2).trans hh3).trans hg15u2).trans hg18u2).trans hh4).trans hg11u3).trans hh5).trans hg15u3), _, _, rfl, by omega, rr_20⟩
  ·
   refine gc_skip (gq_in (gq_then (gc_region (mv rfl rfl (gv ((ov_add_i (q := 1) rfl rfl (by omega) (by omega)).cv (show _ = vI (2) from rfl)) rfl (asg rfl rfl (gl_nil (gq_loop1 (gc_seq (gc_seq (gc_region (mv rfl rfl (gv (OpV.tr (by decide) (ov_lss_i (q := 3) rfl rfl)) rfl ?_)))))))))))))
   refine gl_nil (gq_then (gc_cond_t rfl (gc_skip (gq_then (gc_seq (gc_block (gc_seq (gc_region (mv rfl rfl (mv rfl rfl ?_))))))))))
   replace hl := hl.mono hg15u2
   refine gl_call_mut2 (A := [_, _]) (vs := [_, vI (5)]) Try.call11 ⟨rfl, rfl, trivial⟩ (fun X w hs => dice_next hl (by first | omega | exact Nat.zero_le _) (by omega) (by omega) hs) rfl ?_
   intro v11u6 g11u6 q11u6 hg11u6 hr11u6
   obtain ⟨k11u6, z11u6, rfl, hk11u6, rfl, hz11u6, hy11u6⟩ := hr11u6
   refine gl_call (vs := [_]) rfl rfl rfl rfl Try.call37 ⟨rfl, trivial⟩ (fun w hs => o_rref_int hs (by omega) (by omega)) ?_
   intro v12u6 h4 hh4 r12u6
   change (rpQ 2).Is h4 v12u6 ((z11u6 : Int) : Rat) at r12u6
   refine gv ((ov_index_arr (sz := 3) 2 Try.underlying31 Try.sizeOf29 rfl rfl rfl (by decide)).cv (show _ = vP b3 6 from congrArg (vP b3) (by rfl))) rfl ?_
   replace rb_6 := rb_6.mono ((hg15u2.trans hg11u6).trans hh4)
   refine gl_updx (A := []) (F := fun c_ => (rpT (rpQ 2)).R h4 c_ (T3.mk (makeQ z18u1 (2 : Int)) ((z11u2 : Int) : Rat) ((z11u6 : Int) : Rat))) (upd_box Try.sizeOf29 (Pc.tz (Pc.here _)) rfl rfl rfl rb_6 r12u6 rfl) ?_
   intro cs_21 rb_22
   refine gl_nil (gq_keep (e' := [(0, _), (2, _), (3, _), (4, _)]) ⟨rfl, rfl, rfl, rfl, trivial⟩ (gq_then (gc_seq (gc_region (mv rfl rfl ?_)))))
   replace hl := hl.mono (hg11u6.trans hh4)
   refine gl_call_mut2 (A := [_, _]) (vs := [_, vI (4)]) Try.call55 ⟨rfl, rfl, trivial⟩ (fun X w hs => o_dice_bool hl (by first | omega | exact Nat.zero_le _) (by omega) (by omega) hs) rfl ?_
   intro v15u6 g15u6 q15u6 hg15u6 hr15u6
   obtain ⟨k15u6, P15u6, rfl, hk15u6, rfl⟩ := hr15u6
   refine gl_nil (gq_then ?_)
   refine gc_cond rfl (fun hc15 => ?_) (fun hc15 => ?_)
   ·
    refine gc_region (mv rfl rfl (mv rfl rfl ?_))
    replace hl := hl.mono hg15u6
    refine gl_call_mut2 (A := [_, _]) (vs := [_, vI (9)]) Try.call11 ⟨rfl, rfl, trivial⟩ (fun X w hs => dice_next hl (by first | omega | exact Nat.zero_le _) (by omega) (by omega) hs) rfl ?_
    intro v18u6 g18u6 q18u6 hg18u6 hr18u6
    obtain ⟨k18u6, z18u6, rfl, hk18u6, rfl, hz18u6, hy18u6⟩ := hr18u6
    refine gl_call (vs := [_, vI (2)]) rfl rfl rfl rfl Try.call14 ⟨rfl, rfl, trivial⟩ (fun w hs => o_rref_frac hs (by omega) (by omega) (by decide) (by decide)) ?_
    intro v19u6 h5 hh5 r19u6
    change (rpQ 2).Is h5 v19u6 (makeQ z18u6 (2 : Int)) at r19u6
    refine gv ((ov_index_arr (sz := 3) 2 Try.underlying31 Try.sizeOf29 rfl rfl rfl (by decide)).cv (show _ = vP b3 6 from congrArg (vP b3) (by rfl))) rfl ?_
    replace rb_22 := rb_22.mono ((hg15u6.trans hg18u6).trans hh5)
    refine gl_updx (A := []) (F := fun c_ => (rpT (rpQ 2)).R h5 c_ (T3.mk (makeQ z18u1 (2 : Int)) ((z11u2 : Int) : Rat) (makeQ z18u6 (2 : Int)))) (upd_box Try.sizeOf29 (Pc.tz (Pc.here _)) rfl rfl rfl rb_22 r19u6 rfl) ?_
    intro cs_23 rb_24
    refine gl_nil (gq_in (gq_then (gc_region (mv rfl rfl (gv ((ov_add_i (q := 1) rfl rfl (by omega) (by omega)).cv (show _ = vI (3) from rfl)) rfl (asg rfl rfl (gl_nil (gq_loop1 (gc_seq (gc_seq (gc_region (mv rfl rfl (gv (OpV.fa (by decide) (ov_lss_i (q := 3) rfl rfl)) rfl ?_)))))))))))))
    refine gl_nil (gq_keep (e' := [(0, _), (2, _), (3, _), (4, _), (6, _)]) ⟨rfl, rfl, rfl, rfl, rfl, trivial⟩ (gq_then (gc_cond_f rfl (gc_exit (gx_then (gx_then (gx_here (gq_then (gc_seq (gc_region (gl_x (F := fun v_ => (rpT (rpQ 2)).Is h5 v_ (T3.mk (makeQ z18u1 (2 : Int)) ((z11u2 : Int) : Rat) (makeQ z18u6 (2 : Int)))) (ox_load_box ty31 (Pc.here _) rfl rfl rb_24 rfl) (mem1 (.head _)) rfl ?_)))))))))))
    intro v21u7 r21u7
    replace rb2 := rb2.mono ((((((((((((hg11u1.trans hh1).trans hg15u1).trans hg18u1).trans hh2).trans hg11u2).trans hh3).trans hg15u2).trans hg11u6).trans hh4).trans hg15u6).trans hg18u6).trans hh5)
    refine gl_updx (A := [_]) (F := fun c_ => (rpT (rpQ 2)).R h5 c_ (T3.mk (makeQ z18u1 (2 : Int)) ((z11u2 : Int) : Rat) (makeQ z18u6 (2 : Int)))) (upd_box Try.sizeOf31 (Pc.here _) rfl rfl rfl rb2 r21u7 rfl) ?_
    intro cs_25 rb_26
    refine gl_nil (gq_then (gc_ret (gq_exv (rv_o (t := 2) ty31 (.tail _ (.head _)) rfl rb_26) ?_)))
    intro w_27 hvw_27 rr_28
    refine gq_res_own (fun E S => run_res1 rfl hvw_27 E S) ?_
    exact ⟨_, (.cons _ (.cons _ (List.Sublist.refl _))), ((((((((((((hg11u1.trans hh1).trans hg15u1).trans hg18u1).trans hh2).trans hg11u2).trans hh3).trans hg15u2).trans hg11u6).trans hh4).trans hg15u6).trans hg18u6).trans hh5), _, _, rfl, by omega, rr_28⟩
   ·
    refine gc_skip (gq_in (gq_then (gc_region (mv rfl rfl (gv ((ov_add_i (q := 1) rfl rfl (by omega) (by omega)).cv (show _ = vI (3) from rfl)) rfl (asg rfl rfl (gl_nil (gq_loop1 (gc_seq (gc_seq (gc_region (mv rfl rfl (gv (OpV.fa (by decide) (ov_lss_i (q := 3) rfl rfl)) rfl ?_)))))))))))))
    refine gl_nil (gq_then (gc_cond_f rfl (gc_exit (gx_then (gx_then (gx_here (gq_then (gc_seq (gc_region ?_)))))))))
    replace rb_22 := rb_22.mono hg15u6
    refine gl_x (F := fun v_ => (rpT (rpQ 2)).Is g15u6 v_ (T3.mk (makeQ z18u1 (2 : Int)) ((z11u2 : Int) : Rat) ((z11u6 : Int) : Rat))) (ox_load_box ty31 (Pc.here _) rfl rfl rb_22 rfl) (mem1 (.head _)) rfl ?_
    intro v21u8 r21u8
    replace rb2 := rb2.mono ((((((((((hg11u1.trans hh1).trans hg15u1).trans hg18u1).trans hh2).trans hg11u2).trans hh3).trans hg15u2).trans hg11u6).trans hh4).trans hg15u6)
    refine gl_updx (A := [_]) (F := fun c_ => (rpT (rpQ 2)).R g15u6 c_ (T3.mk (makeQ z18u1 (2 : Int)) ((z11u2 : Int) : Rat) ((z11u6 : Int) : Rat))) (upd_box Try.sizeOf31 (Pc.here _) rfl rfl rfl rb2 r21u8 rfl) ?_
    intro cs_29 rb_30
    refine gl_nil (gq_keep (e' := [(2, _)]) ⟨rfl, trivial⟩ (gq_then (gc_ret (gq_exv (rv_o (t := 2) ty31 (.tail _ (.head _)) rfl rb_30) ?_))))
    intro w_31 hvw_31 rr_32
    refine gq_res_own (fun E S => run_res1 rfl hvw_31 E S) ?_
    exact ⟨_, (.cons _ (.cons _ (List.Sublist.refl _))), ((((((((((hg11u1.trans hh1).trans hg15u1).trans hg18u1).trans hh2).trans hg11u2).trans hh3).trans hg15u2).trans hg11u6).trans hh4).trans hg15u6), _, _, rfl, by omega, rr_32⟩
 ·
  refine gc_skip (gq_in (gq_then (gc_region (mv rfl rfl (gv ((ov_add_i (q := 1) rfl rfl (by omega) (by omega)).cv (show _ = vI (1) from rfl)) rfl (asg rfl rfl (gl_nil (gq_keep (e' := [(0, _), (2, _), (3, _), (4, _)]) ⟨rfl, rfl, rfl, rfl, trivial⟩ (gq_loop1 (gc_seq (gc_seq (gc_region (mv rfl rfl ?_)))))))))))))
  refine gv (OpV.tr (by decide) (ov_lss_i (q := 3) rfl rfl)) rfl (gl_nil (gq_then (gc_cond_t rfl (gc_skip (gq_then (gc_seq (gc_block (gc_seq (gc_region (mv rfl rfl (mv rfl rfl ?_)))))))))))
  replace hl := hl.mono hg15u1
  refine gl_call_mut2 (A := [_, _]) (vs := [_, vI (5)]) Try.call11 ⟨rfl, rfl, trivial⟩ (fun X w hs => dice_next hl (by first | omega | exact Nat.zero_le _) (by omega) (by omega) hs) rfl ?_
  intro v11u9 g11u9 q11u9 hg11u9 hr11u9
  obtain ⟨k11u9, z11u9, rfl, hk11u9, rfl, hz11u9, hy11u9⟩ := hr11u9
  refine gl_call (vs := [_]) rfl rfl rfl rfl Try.call37 ⟨rfl, trivial⟩ (fun w hs => o_rref_int hs (by omega) (by omega)) ?_
  intro v12u9 h2 hh2 r12u9
  change (rpQ 2).Is h2 v12u9 ((z11u9 : Int) : Rat) at r12u9
  refine gv ((ov_index_arr (sz := 3) 1 Try.underlying31 Try.sizeOf29 rfl rfl rfl (by decide)).cv (show _ = vP b3 3 from congrArg (vP b3) (by rfl))) rfl ?_
  replace rb_2 := rb_2.mono ((hg15u1.trans hg11u9).trans hh2)
  refine gl_updx (A := []) (F := fun c_ => (rpT (rpQ 2)).R h2 c_ (T3.mk ((z11u1 : Int) : Rat) ((z11u9 : Int) : Rat) (0 : Rat))) (upd_box Try.sizeOf29 (Pc.ty (Pc.here _)) rfl rfl rfl rb_2 r12u9 rfl) ?_
  intro cs_33 rb_34
  refine gl_nil (gq_then (gc_seq (gc_region (mv rfl rfl ?_))))
  replace hl := hl.mono (hg11u9.trans hh2)
  refine gl_call_mut2 (A := [_, _]) (vs := [_, vI (4)]) Try.call55 ⟨rfl, rfl, trivial⟩ (fun X w hs => o_dice_bool hl (by first | omega | exact Nat.zero_le _) (by omega) (by omega) hs) rfl ?_
  intro v15u9 g15u9 q15u9 hg15u9 hr15u9
  obtain ⟨k15u9, P15u9, rfl, hk15u9, rfl⟩ := hr15u9
  refine gl_nil (gq_then ?_)
  refine gc_cond rfl (fun hc15 => ?_) (fun hc15 => ?_)
  ·
   refine gc_region (mv rfl rfl (mv rfl rfl ?_))
   replace hl := hl.mono hg15u9
   refine gl_call_mut2 (A := [_, _]) (vs := [_, vI (9)]) Try.call11 ⟨rfl, rfl, trivial⟩ (fun X w hs => dice_next hl (by first | omega | exact Nat.zero_le _) (by omega) (by omega) hs) rfl ?_
   intro v18u9 g18u9 q18u9 hg18u9 hr18u9
   obtain ⟨k18u9, z18u9, rfl, hk18u9, rfl, hz18u9, hy18u9⟩ := hr18u9
   refine gl_call (vs := [_, vI (2)]) rfl rfl rfl rfl Try.call14 ⟨rfl, rfl, trivial⟩ (fun w hs => o_rref_frac hs (by omega) (by omega) (by decide) (by decide)) ?_
   intro v19u9 h3 hh3 r19u9
   change (rpQ 2).Is h3 v19u9 (makeQ z18u9 (2 : Int)) at r19u9
   refine gv ((ov_index_arr (sz := 3) 1 Try.underlying31 Try.sizeOf29 rfl rfl rfl (by decide)).cv (show _ = vP b3 3 from congrArg (vP b3) (by rfl))) rfl ?_
   replace rb_34 := rb_34.mono ((hg15u9.trans hg18u9).trans hh3)
   refine gl_updx (A := []) (F := fun c_ => (rpT (rpQ 2)).R h3 c_ (T3.mk ((z11u1 : Int) : Rat) (makeQ z18u9 (2 : Int)) (0 : Rat))) (upd_box Try.sizeOf29 (Pc.ty (Pc.here _)) rfl rfl rfl rb_34 r19u9 rfl) ?_
   intro cs_35 rb_36
   refine gl_nil (gq_in (gq_keep (e' := [(0, _), (2, _), (3, _), (4, _)]) ⟨rfl, rfl, rfl, rfl, trivial⟩ (gq_then (gc_region (mv rfl rfl (gv ((ov_add_i (q := 1) rfl rfl (by omega) (by omega)).cv (show _ = vI (2) from rfl)) rfl (asg rfl rfl (gl_nil (gq_loop1 (gc_seq (gc_seq (gc_region (mv rfl rfl ?_)))))))))))))
   refine gv (OpV.tr (by decide) (ov_lss_i (q := 3) rfl rfl)) rfl (gl_nil (gq_then (gc_cond_t rfl (gc_skip (gq_then (gc_seq (gc_block (gc_seq (gc_region (mv rfl rfl (mv rfl rfl ?_)))))))))))
   replace hl := hl.mono (hg18u9.trans hh3)
   refine gl_call_mut2 (A := [_, _]) (vs := [_, vI (5)]) Try.call11 ⟨rfl, rfl, trivial⟩ (fun X w hs => dice_next hl (by first | omega | exact Nat.zero_le _) (by omega) (by omega) hs) rfl ?_
   intro v11u10 g11u10 q11u10 hg11u10 hr11u10
   obtain ⟨k11u10, z11u10, rfl, hk11u10, rfl, hz11u10, hy11u10⟩ := hr11u10
   refine gl_call (vs := [_]) rfl rfl rfl rfl Try.call37 ⟨rfl, trivial⟩ (fun w hs => o_rref_int hs (by omega) (by omega)) ?_
   intro v12u10 h4 hh4 r12u10
   change (rpQ 2).Is h4 v12u10 ((z11u10 : Int) : Rat) at r12u10
   refine gv ((ov_index_arr (sz := 3) 2 Try.underlying31 Try.sizeOf29 rfl rfl rfl (by decide)).cv (show _ = vP b3 6 from congrArg (vP b3) (by rfl))) rfl ?_
   replace rb_36 := rb_36.mono (hg11u10.trans hh4)
   refine gl_updx (A := []) (F := fun c_ => (rpT (rpQ 2)).R h4 c_ (T3.mk ((z11u1 : Int) : Rat) (makeQ z18u9 (2 : Int)) ((z11u10 : Int) : Rat))) (upd_box Try.sizeOf29 (Pc.tz (Pc.here _)) rfl rfl rfl rb_36 r12u10 rfl) ?_
   intro cs_37 rb_38
   refine gl_nil (gq_then (gc_seq (gc_region (mv rfl rfl ?_))))
   replace hl := hl.mono (hg11u10.trans hh4)
   refine gl_call_mut2 (A := [_, _]) (vs := [_, vI (4)]) Try.call55 ⟨rfl, rfl, trivial⟩ (fun X w hs => o_dice_bool hl (by first | omega | exact Nat.zero_le _) (by omega) (by omega) hs) rfl ?_
   intro v15u10 g15u10 q15u10 hg15u10 hr15u10
   obtain ⟨k15u10, P15u10, rfl, hk15u10, rfl⟩ := hr15u10
   refine gl_nil (gq_keep (e' := [(0, _), (2, _), (3, _), (4, _), (15, _)]) ⟨rfl, rfl, rfl, rfl, rfl, trivial⟩ (gq_then ?_))
   refine gc_cond rfl (fun hc15 => ?_) (fun hc15 => ?_)
   ·
    refine gc_region (mv rfl rfl (mv rfl rfl ?_))
    replace hl := hl.mono hg15u10
    refine gl_call_mut2 (A := [_, _]) (vs := [_, vI (9)]) Try.call11 ⟨rfl, rfl, trivial⟩ (fun X w hs => dice_next hl (by first | omega | exact Nat.zero_le _) (by omega) (by omega) hs) rfl ?_
    intro v18u10 g18u10 q18u10 hg18u10 hr18u10
    obtain ⟨k18u10, z18u10, rfl, hk18u10, rfl, hz18u10, hy18u10⟩ := hr18u10
    refine gl_call (vs := [_, vI (2)]) rfl rfl rfl rfl Try.call14 ⟨rfl, rfl, trivial⟩ (fun w hs => o_rref_frac hs (by omega) (by omega) (by decide) (by decide)) ?_
    intro v19u10 h5 hh5 r19u10
    change (rpQ 2).Is h5 v19u10 (makeQ z18u10 (2 : Int)) at r19u10
    refine gv ((ov_index_arr (sz := 3) 2 Try.underlying31 Try.sizeOf29 rfl rfl rfl (by decide)).cv (show _ = vP b3 6 from congrArg (vP b3) (by rfl))) rfl ?_
    replace rb_38 := rb_38.mono ((hg15u10.trans hg18u10).trans hh5)
    refine gl_updx (A := []) (F := fun c_ => (rpT (rpQ 2)).R h5 c_ (T3.mk ((z11u1 : Int) : Rat) (makeQ z18u9 (2 : Int)) (makeQ z18u10 (2 : Int)))) (upd_box Try.sizeOf29 (Pc.tz (Pc.here _)) rfl rfl rfl rb_38 r19u10 rfl) ?_
    intro cs_39 rb_40
    refine gl_nil (gq_in (gq_then (gc_region (mv rfl rfl (gv ((ov_add_i (q := 1) rfl rfl (by omega) (by omega)).cv (show _ = vI (3) from rfl)) rfl (asg rfl rfl (gl_nil (gq_loop1 (gc_seq (gc_seq (gc_region (mv rfl rfl (gv (OpV.fa (by decide) (ov_lss_i (q := 3) rfl rfl)) rfl ?_)))))))))))))
    refine gl_nil (gq_then (gc_cond_f rfl (gc_exit (gx_then (gx_then (gx_here (gq_keep (e' := [(2, _), (3, _)]) ⟨rfl, rfl, trivial⟩ (gq_then (gc_seq (gc_region (gl_x (F := fun v_ => (rpT (rpQ 2)).Is h5 v_ (T3.mk ((z11u1 : Int) : Rat) (makeQ z18u9 (2 : Int)) (makeQ z18u10 (2 : Int)))) (ox_load_box ty31 (Pc.here _) rfl rfl rb_40 rfl) (mem1 (.head _)) rfl ?_)))))))))))
    intro v21u11 r21u11
    replace rb2 := rb2.mono ((((((((((((hg11u1.trans hh1).trans hg15u1).trans hg11u9).trans hh2).trans hg15u9).trans hg18u9).trans hh3).trans hg11u10).trans hh4).trans hg15u10).trans hg18u10).trans hh5)
    refine gl_updx (A := [_]) (F := fun c_ => (rpT (rpQ 2)).R h5 c_ (T3.mk ((z11u1 : Int) : Rat) (makeQ z18u9 (2 : Int)) (makeQ z18u10 (2 : Int)))) (upd_box Try.sizeOf31 (Pc.here _) rfl rfl rfl rb2 r21u11 rfl) ?_
    intro cs_41 rb_42
    refine gl_nil (gq_then (gc_ret (gq_exv (rv_o (t := 2) ty31 (.tail _ (.head _)) rfl rb_42) ?_)))
    intro w_43 hvw_43 rr_44
    refine gq_res_own (fun E S => run_res1 rfl hvw_43 E S) ?_
    exact ⟨_, (.cons _ (.cons _ (List.Sublist.refl _))), ((((((((((((hg11u1.trans hh1).trans hg15u1).trans hg11u9).trans hh2).trans hg15u9).trans hg18u9).trans hh3).trans hg11u10).trans hh4).trans hg15u10).trans hg18u10).trans hh5), _, _, rfl, by omega, rr_44⟩
   ·
    refine gc_skip (gq_in (gq_then (gc_region (mv rfl rfl (gv ((ov_add_i (q := 1) rfl rfl (by omega) (by omega)).cv (show _ = vI (3) from rfl)) rfl (asg rfl rfl (gl_nil (gq_loop1 (gc_seq (gc_seq (gc_region (mv rfl rfl (gv (OpV.fa (by decide) (ov_lss_i (q := 3) rfl rfl)) rfl ?_)))))))))))))
    refine gl_nil (gq_then (gc_cond_f rfl (gc_exit (gx_then (gx_then (gx_here (gq_then (gc_seq (gc_region ?_)))))))))
    replace rb_38 := rb_38.mono hg15u10
    refine gl_x (F := fun v_ => (rpT (rpQ 2)).Is g15u10 v_ (T3.mk ((z11u1 : Int) : Rat) (makeQ z18u9 (2 : Int)) ((z11u10 : Int) : Rat))) (ox_load_box ty31 (Pc.here _) rfl rfl rb_38 rfl) (mem1 (.head _)) rfl ?_
    intro v21u12 r21u12
    replace rb2 := rb2.mono ((((((((((hg11u1.trans hh1).trans hg15u1).trans hg11u9).trans hh2).trans hg15u9).trans hg18u9).trans hh3).trans hg11u10).trans hh4).trans hg15u10)
    refine gl_updx (A := [_]) (F := fun c_ => (rpT (rpQ 2)).R g15u10 c_ (T3.mk ((z11u1 : Int) : Rat) (makeQ z18u9 (2 : Int)) ((z11u10 : Int) : Rat))) (upd_box Try.sizeOf31 (Pc.here _) rfl rfl rfl rb2 r21u12 rfl) ?_
    intro cs_45 rb_46
    refine gl_nil (gq_then (gc_ret (gq_exv (rv_o (t := 2) ty31 (.tail _ (.head _)) rfl rb_46) ?_)))
    intro w_47 hvw_47 rr_48
    refine gq_res_own (fun E S => run_res1 rfl hvw_47 E S) ?_
    exact ⟨_, (.cons _ (.cons _ (List.Sublist.refl _))), ((((((((((hg11u1.trans hh1).trans hg15u1).trans hg11u9).trans hh2).trans hg15u9).trans hg18u9).trans hh3).trans hg11u10).trans hh4).trans hg15u10), _, _, rfl, by omega, rr_48⟩
  ·
   refine gc_skip (gq_in (gq_then (gc_region (mv rfl rfl (gv ((ov_add_i (q := 1) rfl rfl (by omega) (by omega)).cv (show _ = vI (2) from rfl)) rfl (asg rfl rfl (gl_nil (gq_keep (e' := [(0, _), (2, _), (3, _), (4, _)]) ⟨rfl, rfl, rfl, rfl, trivial⟩ (gq_loop1 (gc_seq (gc_seq (gc_region (mv rfl rfl ?_)))))))))))))
   refine gv (OpV.tr (by decide) (ov_lss_i (q := 3) rfl rfl)) rfl (gl_nil (gq_then (gc_cond_t rfl (gc_skip (gq_then (gc_seq (gc_block (gc_seq (gc_region (mv rfl rfl (mv rfl rfl ?_)))))))))))
   replace hl := hl.mono hg15u9
   refine gl_call_mut2 (A := [_, _]) (vs := [_, vI (5)]) Try.call11 ⟨rfl, rfl, trivial⟩ (fun X w hs => dice_next hl (by first | omega | exact Nat.zero_le _) (by omega) (by omega) hs) rfl ?_
   intro v11u13 g11u13 q11u13 hg11u13 hr11u13
   obtain ⟨k11u13, z11u13, rfl, hk11u13, rfl, hz11u13, hy11u13⟩ := hr11u13
   refine gl_call (vs := [_]) rfl rfl rfl rfl Try.call37 ⟨rfl, trivial⟩ (fun w hs => o_rref_int hs (by omega) (by omega)) ?_
   intro v12u13 h3 hh3 r12u13
   change (rpQ 2).Is h3 v12u13 ((z11u13 : Int) : Rat) at r12u13
   refine gv ((ov_index_arr (sz := 3) 2 Try.underlying31 Try.sizeOf29 rfl rfl rfl (by decide)).cv (show _ = vP b3 6 from congrArg (vP b3) (by rfl))) rfl ?_
   replace rb_34 := rb_34.mono ((hg15u9.trans hg11u13).trans hh3)
   refine gl_updx (A := []) (F := fun c_ => (rpT (rpQ 2)).R h3 c_ (T3.mk ((z11u1 : Int) : Rat) ((z11u9 : Int) : Rat) ((z11u13 : Int) : Rat))) (upd_box Try.sizeOf29 (Pc.tz (Pc.here _)) rfl rfl rfl rb_34 r12u13 rfl) ?_
   intro cs_49 rb_50
   refine gl_nil (gq_then (gc_seq (gc_region (mv rfl rfl ?_))))
   replace hl := hl.mono (hg11u13.trans hh3)
   refine gl_call_mut2 (A := [_, _]) (vs := [_, vI (4)]) Try.call55 ⟨rfl, rfl, trivial⟩ (fun X w hs => o_dice_bool hl (by first | omega | exact Nat.zero_le _) (by omega) (by omega) hs) rfl ?_
   intro v15u13 g15u13 q15u13 hg15u13 hr15u13
   obtain ⟨k15u13, P15u13, rfl, hk15u13, rfl⟩ := hr15u13
   refine gl_nil (gq_then ?_)
   refine gc_cond rfl (fun hc15 => ?_) (fun hc15 => ?_)
   ·
    refine gc_region (mv rfl rfl (mv rfl rfl ?_))
    replace hl := hl.mono hg15u13
    refine gl_call_mut2 (A := [_, _]) (vs := [_, vI (9)]) Try.call11 ⟨rfl, rfl, trivial⟩ (fun X w hs => dice_next hl (by first | omega | exact Nat.zero_le _) (by omega) (by omega) hs) rfl ?_
    intro v18u13 g18u13 q18u13 hg18u13 hr18u13
    obtain ⟨k18u13, z18u13, rfl, hk18u13, rfl, hz18u13, hy18u13⟩ := hr18u13
    refine gl_call (vs := [_, vI (2)]) rfl rfl rfl rfl Try.call14 ⟨rfl, rfl, trivial⟩ (fun w hs => o_rref_frac hs (by omega) (by omega) (by decide) (by decide)) ?_
    intro v19u13 h4 hh4 r19u13
    change (rpQ 2).Is h4 v19u13 (makeQ z18u13 (2 : Int)) at r19u13
    refine gv ((ov_index_arr (sz := 3) 2 Try.underlying31 Try.sizeOf29 rfl rfl rfl (by decide)).cv (show _ = vP b3 6 from congrArg (vP b3) (by rfl))) rfl ?_
    replace rb_50 := rb_50.mono ((hg15u13.trans hg18u13).trans hh4)
    refine gl_updx (A := []) (F := fun c_ => (rpT (rpQ 2)).R h4 c_ (T3.mk ((z11u1 : Int) : Rat) ((z11u9 : Int) : Rat) (makeQ z18u13 (2 : Int)))) (upd_box Try.sizeOf29 (Pc.tz (Pc.here _)) rfl rfl rfl rb_50 r19u13 rfl) ?_
    intro cs_51 rb_52
    refine gl_nil (gq_in (gq_keep (e' := [(0, _), (2, _), (3, _), (4, _)]) ⟨rfl, rfl, rfl, rfl, trivial⟩ (gq_then (gc_region (mv rfl rfl (gv ((ov_add_i (q := 1) rfl rfl (by omega) (by omega)).cv (show _ = vI (3) from rfl)) rfl (asg rfl rfl (gl_nil (gq_loop1 (gc_seq (gc_seq (gc_region (mv rfl rfl ?_)))))))))))))
    refine gv (OpV.fa (by decide) (ov_lss_i (q := 3) rfl rfl)) rfl (gl_nil (gq_then (gc_cond_f rfl (gc_exit (gx_then (gx_then (gx_here (gq_then (gc_seq (gc_region (gl_x (F := fun v_ => (rpT (rpQ 2)).Is h4 v_ (T3.mk ((z11u1 : Int) : Rat) ((z11u9 : Int) : Rat) (makeQ z18u13 (2 : Int)))) (ox_load_box ty31 (Pc.here _) rfl rfl rb_52 rfl) (mem1 (.head _)) rfl ?_)))))))))))
    intro v21u14 r21u14
    replace rb2 := rb2.mono ((((((((((hg11u1.trans hh1).trans hg15u1).trans hg11u9).trans hh2).trans hg15u9).trans hg11u13).trans hh3).trans hg15u13).trans hg18u13).trans hh4)
    refine gl_updx (A := [_]) (F := fun c_ => (rpT (rpQ 2)).R h4 c_ (T3.mk ((z11u1 : Int) : Rat) ((z11u9 : Int) : Rat) (makeQ z18u13 (2 : Int)))) (upd_box Try.sizeOf31 (Pc.here _) rfl rfl rfl rb2 r21u14 rfl) ?_
    intro cs_53 rb_54
    refine gl_nil (gq_then (gc_ret (gq_exv (rv_o (t := 2) ty31 (.tail _ (.head _)) rfl rb_54) ?_)))
    intro w_55 hvw_55 rr_56
    refine gq_res_own (fun E S => run_res1 rfl hvw_55 E S) ?_
    exact ⟨_, (.cons _ (.cons _ (List.Sublist.refl _))), ((((((((((hg11u1.trans hh1).trans hg15u1).trans hg11u9).trans hh2).trans hg15u9).trans hg11u13).trans hh3).trans hg15u13).trans hg18u13).trans hh4), _, _, rfl, by omega, rr_56⟩
   ·
    refine gc_skip (gq_in (gq_then (gc_region (mv rfl rfl (gv ((ov_add_i (q := 1) rfl rfl (by omega) (by omega)).cv (show _ = vI (3) from rfl)) rfl (asg rfl rfl (gl_nil (gq_keep (e' := [(0, _), (2, _), (3, _), (4, _)]) ⟨rfl, rfl, rfl, rfl, trivial⟩ (gq_loop1 (gc_seq (gc_seq (gc_region (mv rfl rfl ?_)))))))))))))
    refine gv (OpV.fa (by decide) (ov_lss_i (q := 3) rfl rfl)) rfl (gl_nil (gq_then (gc_cond_f rfl (gc_exit (gx_then (gx_then (gx_here (gq_then (gc_seq (gc_region ?_))))))))))
    replace rb_50 := rb_50.mono hg15u13
    refine gl_x (F := fun v_ => (rpT (rpQ 2)).Is g15u13 v_ (T3.mk ((z11u1 : Int) : Rat) ((z11u9 : Int) : Rat) ((z11u13 : Int) : Rat))) (ox_load_box ty31 (Pc.here _) rfl rfl rb_50 rfl) (mem1 (.head _)) rfl ?_
    intro v21u15 r21u15
    replace rb2 := rb2.mono ((((((((hg11u1.trans hh1).trans hg15u1).trans hg11u9).trans hh2).trans hg15u9).trans hg11u13).trans hh3).trans hg15u13)
    refine gl_updx (A := [_]) (F := fun c_ => (rpT (rpQ 2)).R g15u13 c_ (T3.mk ((z11u1 : Int) : Rat) ((z11u9 : Int) : Rat) ((z11u13 : Int) : Rat))) (upd_box Try.sizeOf31 (Pc.here _) rfl rfl rfl rb2 r21u15 rfl) ?_
    intro cs_57 rb_58
    refine gl_nil (gq_then (gc_ret (gq_exv (rv_o (t := 2) ty31 (.tail _ (.head _)) rfl rb_58) ?_)))
    intro w_59 hvw_59 rr_60
    refine gq_res_own (fun E S => run_res1 rfl hvw_59 E S) ?_
    exact ⟨_, (.cons _ (.cons _ (List.Sublist.refl _))), ((((((((hg11u1.trans hh1).trans hg15u1).trans hg11u9).trans hh2).trans hg15u9).trans hg11u13).trans hh3).trans hg15u13), _, _, rfl, by omega, rr_60⟩

theorem o_r5_axes {w0 : World} {h0 : Mem}  (hs : MLe h0 (mem w0)) {m l : Nat} {vs : Value} {s : ((T3 Rat) × Rat)} (rs : (rpP (rpT (rpQ m)) (rpQ l)).Is h0 vs s) (hcd0 : m ≤ 1000000000)  :
    Calls Try.prog 62 #[vs] w0 (Ret w0 h0 (fun h r => r = .tuple #[vI (↑(axI s.1) : Int), vI (↑(axJ s.1) : Int), vI (↑(axK s.1) : Int)])) := by
 refine calls_begin (n := 29) (e := [(0, vs)]) (vs := [vs]) Try.func62 rfl rfl (Nat.le_of_ble_eq_true rfl) hs ⟨rfl, trivial⟩ (gc_seq (gc_region (gl_newop (new_boxx (ρ := (rpP (rpT (rpQ m)) (rpQ l))) rfl rs) rfl rfl rfl ?_)))
 intro v1 q1 hq1
 obtain ⟨b1, cs1, rfl, rfl, rb1⟩ := hq1
 refine asg (v := vI (0)) rfl rfl (asg (v := vI (0)) rfl rfl (asg (v := vI (0)) rfl rfl (gl_nil (gq_then (gc_seq (gc_region (asg (v := vI (0)) rfl rfl (asg (v := vI (1)) rfl rfl (asg (v := vI (2)) rfl rfl (gl_nil (gq_then (gc_seq (gc_seq ?_)))))))))))))
 refine gc_region (gv ((ov_field_addr Try.underlying46 rfl Try.sizeOf31 rfl).cv (show _ = vP b1 0 from congrArg (vP b1) (by rfl))) rfl (gv ((ov_index_arr (sz := 3) (q := 2) 2 Try.underlying31 Try.sizeOf29 rfl rfl rfl (by decide)).cv (show _ = vP b1 6 from congrArg (vP b1) (by rfl))) rfl (gl_x (F := fun v_ => (rpQ m).Is h0 v_ s.1.z) (ox_load_box ty29 (Pc.fst (Pc.tz (Pc.here _))) rfl rfl rb1 rfl) (mem1 (.head _)) rfl ?_)))
 intro v10 r10
 refine gl_call (vs := [_]) rfl rfl rfl rfl Try.call34 ⟨rfl, trivial⟩ (fun w hs => o_rref_sign hs r10 (by omega)) ?_
 intro v11 h1 hh1 r11
 obtain rfl : v11 = vI (sgnQ s.1.z) := r11
 have hsr11 := sgnQ_range s.1.z
 refine gv (ov_eql_i (q := 0) rfl rfl) rfl (gl_nil (gq_then ?_))
 refine gc_cond rfl (fun hc12 => ?_) (fun hc12 => ?_)
 ·
  refine gc_keep (e' := [(1, _)]) ⟨rfl, trivial⟩ (gc_seq (gc_region (asg (v := vI (2)) rfl rfl (asg (v := vI (0)) rfl rfl (asg (v := vI (1)) rfl rfl (gl_nil (gq_then (gc_seq (gc_region (gv ((ov_field_addr Try.underlying46 rfl Try.sizeOf31 rfl).cv (show _ = vP b1 0 from congrArg (vP b1) (by rfl))) rfl (gv ((ov_index_arr (sz := 3) (q := 1) 1 Try.underlying31 Try.sizeOf29 rfl rfl rfl (by decide)).cv (show _ = vP b1 3 from congrArg (vP b1) (by rfl))) rfl ?_)))))))))))
  replace rb1 := rb1.mono hh1
  refine gl_x (F := fun v_ => (rpQ m).Is h1 v_ s.1.y) (ox_load_box ty29 (Pc.fst (Pc.ty (Pc.here _))) rfl rfl rb1 rfl) (mem1 (.head _)) rfl ?_
  intro v15 r15
  refine gl_call (vs := [_]) rfl rfl rfl rfl Try.call34 ⟨rfl, trivial⟩ (fun w hs => o_rref_sign hs r15 (by omega)) ?_
  intro v16 h2 hh2 r16
  obtain rfl : v16 = vI (sgnQ s.1.y) := r16
  have hsr16 := sgnQ_range s.1.y
  refine gv (ov_eql_i (q := 0) rfl rfl) rfl (gl_nil (gq_then ?_))
  refine gc_cond rfl (fun hc17 => ?_) (fun hc17 => ?_)
  ·
   refine gc_region (asg (v := vI (1)) rfl rfl (asg (v := vI (2)) rfl rfl (asg (v := vI (0)) rfl rfl (gl_nil (gq_then (gc_seq (gc_seq (gc_region (mv rfl rfl (gv ((ov_field_addr Try.underlying46 rfl Try.sizeOf31 rfl).cv (show _ = vP b1 0 from congrArg (vP b1) (by rfl))) rfl (gv ((ov_index_arr (sz := 3) 0 Try.underlying31 Try.sizeOf29 rfl rfl rfl (by decide)).cv (show _ = vP b1 0 from congrArg (vP b1) (by rfl))) rfl ?_)))))))))))
   replace rb1 := rb1.mono hh2
   refine gl_x (F := fun v_ => (rpQ m).Is h2 v_ s.1.x) (ox_load_box ty29 (Pc.fst (Pc.tx (Pc.here _))) rfl rfl rb1 rfl) (mem1 (.head _)) rfl ?_
   intro v21 r21
   refine gl_call (vs := [_]) rfl rfl rfl rfl Try.call34 ⟨rfl, trivial⟩ (fun w hs => o_rref_sign hs r21 (by omega)) ?_
   intro v22 h3 hh3 r22
   obtain rfl : v22 = vI (sgnQ s.1.x) := r22
   have hsr22 := sgnQ_range s.1.x
   refine gv (ov_lss_i (q := 0) rfl rfl) rfl (gl_nil (gq_keep (e' := [(5, _), (6, _), (7, _), (23, _)]) ⟨rfl, rfl, rfl, rfl, trivial⟩ (gq_then ?_)))
   refine gc_cond rfl (fun hc23 => ?_) (fun hc23 => ?_)
   ·
    refine gc_region (mv rfl rfl (mv rfl rfl (asg rfl rfl (asg rfl rfl (gl_nil (gq_then (gc_seq (gc_region (mv rfl rfl (mv rfl rfl (mv rfl rfl (asg rfl rfl (asg rfl rfl ?_)))))))))))))
    refine asg rfl rfl (gl_nil (gq_then (gc_ret (gq_body3 rfl rfl rfl rfl ?_))))
    have eI : axI s.1 = 2 := by unfold axI; simp only [sgn_zero, sgn_neg] at *; grind
    have eJ : axJ s.1 = 1 := by unfold axJ; simp only [sgn_zero, sgn_neg] at *; grind
    have eK : axK s.1 = 0 := by unfold axK; simp only [sgn_zero, sgn_neg] at *; grind
    rw [eI, eJ, eK]; rfl
   ·
    refine gc_skip (gq_then (gc_seq (gc_region (mv rfl rfl (mv rfl rfl (mv rfl rfl (asg rfl rfl (asg rfl rfl (asg rfl rfl (gl_nil (gq_then (gc_ret (gq_body3 rfl rfl rfl rfl ?_)))))))))))))
    have eI : axI s.1 = 1 := by unfold axI; simp only [sgn_zero, sgn_neg] at *; grind
    have eJ : axJ s.1 = 2 := by unfold axJ; simp only [sgn_zero, sgn_neg] at *; grind
    have eK : axK s.1 = 0 := by unfold axK; simp only [sgn_zero, sgn_neg] at *; grind
    rw [eI, eJ, eK]; rfl
  ·
   refine gc_skip (gq_then (gc_seq (gc_seq (gc_region (mv rfl rfl (gv ((ov_field_addr Try.underlying46 rfl Try.sizeOf31 rfl).cv (show _ = vP b1 0 from congrArg (vP b1) (by rfl))) rfl (gv ((ov_index_arr (sz := 3) 1 Try.underlying31 Try.sizeOf29 rfl rfl rfl (by decide)).cv (show _ = vP b1 3 from congrArg (vP b1) (by rfl))) rfl ?_)))))))
   replace rb1 := rb1.mono hh2
   refine gl_x (F := fun v_ => (rpQ m).Is h2 v_ s.1.y) (ox_load_box ty29 (Pc.fst (Pc.ty (Pc.here _))) rfl rfl rb1 rfl) (mem1 (.head _)) rfl ?_
   intro v21 r21
   refine gl_call (vs := [_]) rfl rfl rfl rfl Try.call34 ⟨rfl, trivial⟩ (fun w hs => o_rref_sign hs r21 (by omega)) ?_
   intro v22 h3 hh3 r22
   obtain rfl : v22 = vI (sgnQ s.1.y) := r22
   have hsr22 := sgnQ_range s.1.y
   refine gv (ov_lss_i (q := 0) rfl rfl) rfl (gl_nil (gq_keep (e' := [(5, _), (6, _), (7, _), (23, _)]) ⟨rfl, rfl, rfl, rfl, trivial⟩ (gq_then ?_)))
   refine gc_cond rfl (fun hc23 => ?_) (fun hc23 => ?_)
   ·
    refine gc_region (mv rfl rfl (mv rfl rfl (asg rfl rfl (asg rfl rfl (gl_nil (gq_then (gc_seq (gc_region (mv rfl rfl (mv rfl rfl (mv rfl rfl (asg rfl rfl (asg rfl rfl ?_)))))))))))))
    refine asg rfl rfl (gl_nil (gq_then (gc_ret (gq_body3 rfl rfl rfl rfl ?_))))
    have eI : axI s.1 = 0 := by unfold axI; simp only [sgn_zero, sgn_neg] at *; grind
    have eJ : axJ s.1 = 2 := by unfold axJ; simp only [sgn_zero, sgn_neg] at *; grind
    have eK : axK s.1 = 1 := by unfold axK; simp only [sgn_zero, sgn_neg] at *; grind
    rw [eI, eJ, eK]; rfl
   ·
    refine gc_skip (gq_then (gc_seq (gc_region (mv rfl rfl (mv rfl rfl (mv rfl rfl (asg rfl rfl (asg rfl rfl (asg rfl rfl (gl_nil (gq_then (gc_ret (gq_body3 rfl rfl rfl rfl ?_)))))))))))))
    have eI : axI s.1 = 2 := by unfold axI; simp only [sgn_zero, sgn_neg] at *; grind
    have eJ : axJ s.1 = 0 := by unfold axJ; simp only [sgn_zero, sgn_neg] at *; grind
    have eK : axK s.1 = 1 := by unfold axK; simp only [sgn_zero, sgn_neg] at *; grind
    rw [eI, eJ, eK]; rfl
 ·
  refine gc_skip (gq_then (gc_seq (gc_seq (gc_region (mv rfl rfl (gv ((ov_field_addr Try.underlying46 rfl Try.sizeOf31 rfl).cv (show _ = vP b1 0 from congrArg (vP b1) (by rfl))) rfl (gv ((ov_index_arr (sz := 3) 2 Try.underlying31 Try.sizeOf29 rfl rfl rfl (by decide)).cv (show _ = vP b1 6 from congrArg (vP b1) (by rfl))) rfl ?_)))))))
  replace rb1 := rb1.mono hh1
  refine gl_x (F := fun v_ => (rpQ m).Is h1 v_ s.1.z) (ox_load_box ty29 (Pc.fst (Pc.tz (Pc.here _))) rfl rfl rb1 rfl) (mem1 (.head _)) rfl ?_
  intro v21 r21
  refine gl_call (vs := [_]) rfl rfl rfl rfl Try.call34 ⟨rfl, trivial⟩ (fun w hs => o_rref_sign hs r21 (by omega)) ?_
  intro v22 h2 hh2 r22
  obtain rfl : v22 = vI (sgnQ s.1.z) := r22
  have hsr22 := sgnQ_range s.1.z
  refine gv (ov_lss_i (q := 0) rfl rfl) rfl (gl_nil (gq_keep (e' := [(5, _), (6, _), (7, _), (23, _)]) ⟨rfl, rfl, rfl, rfl, trivial⟩ (gq_then ?_)))
  refine gc_cond rfl (fun hc23 => ?_) (fun hc23 => ?_)
  ·
   refine gc_region (mv rfl rfl (mv rfl rfl (asg rfl rfl (asg rfl rfl (gl_nil (gq_then (gc_seq (gc_region (mv rfl rfl (mv rfl rfl (mv rfl rfl (asg rfl rfl (asg rfl rfl ?_)))))))))))))
   refine asg rfl rfl (gl_nil (gq_then (gc_ret (gq_body3 rfl rfl rfl rfl ?_))))
   have eI : axI s.1 = 1 := by unfold axI; simp only [sgn_zero, sgn_neg] at *; grind
   have eJ : axJ s.1 = 0 := by unfold axJ; simp only [sgn_zero, sgn_neg] at *; grind
   have eK : axK s.1 = 2 := by unfold axK; simp only [sgn_zero, sgn_neg] at *; grind
   rw [eI, eJ, eK]; rfl
  ·
   refine gc_skip (gq_then (gc_seq (gc_region (mv rfl rfl (mv rfl rfl (mv rfl rfl (asg rfl rfl (asg rfl rfl (asg rfl rfl (gl_nil (gq_then (gc_ret (gq_body3 rfl rfl rfl rfl ?_)))))))))))))
   have eI : axI s.1 = 0 := by unfold axI; simp only [sgn_zero, sgn_neg] at *; grind
   have eJ : axJ s.1 = 1 := by unfold axJ; simp only [sgn_zero, sgn_neg] at *; grind
   have eK : axK s.1 = 2 := by unfold axK; simp only [sgn_zero, sgn_neg] at *; grind
   rw [eI, eJ, eK]; rfl

theorem o_r5_flatten {w0 : World} {h0 : Mem}  (hs : MLe h0 (mem w0)) {m l k : Nat} {vs : Value} {s : ((T3 Rat) × Rat)} (rs : (rpP (rpT (rpQ m)) (rpQ l)).Is h0 vs s) {vp : Value} {p : (T3 Rat)} (rp : (rpT (rpQ k)).Is h0 vp p) (hcd0 : k ≤ 1000000000) (hcd1 : m ≤ 1000000000)  :
    Calls Try.prog 31 #[vs, vp] w0 (Ret w0 h0 (fun h r => (rpT (rpQ (k + 1))).Is h r (flatZ s p))) := by
 refine calls_begin (n := 21) (e := [(0, vs), (1, vp)]) (vs := [vs, vp]) Try.func31 rfl rfl (Nat.le_of_ble_eq_true rfl) hs ⟨rfl, rfl, trivial⟩ (gc_seq (gc_region (gl_newop (new_boxx (ρ := (rpP (rpT (rpQ m)) (rpQ l))) rfl rs) rfl rfl rfl ?_)))
 intro v2 q2 hq2
 obtain ⟨b2, cs2, rfl, rfl, rb2⟩ := hq2
 refine gl_newop (new_boxx (ρ := (rpT (rpQ k))) rfl rp) rfl rfl rfl ?_
 intro v3 q3 hq3
 obtain ⟨b3, cs3, rfl, rfl, rb3⟩ := hq3
 refine gl_newop (new_allocx (ρ := (rpT (rpQ (k + 1)))) (X := (T3.mk (0 : Rat) (0 : Rat) (0 : Rat))) info31 rfl rfl (zr_t (zr_q (by omega)))) rfl rfl rfl ?_
 intro v4 q4 hq4
 obtain ⟨b4, cs4, rfl, rfl, rb4⟩ := hq4
 refine gl_nil (gq_then (gc_seq (gc_region (gl_x (F := fun v_ => (rpP (rpT (rpQ m)) (rpQ l)).Is h0 v_ s) (ox_load_box ty46 (Pc.here _) rfl rfl rb2 rfl) (mem1 (.tail _ (.tail _ (.head _)))) rfl ?_))))
 intro v9 r9
 refine gl_call (vs := [_]) rfl rfl rfl rfl Try.call62 ⟨rfl, trivial⟩ (fun w hs => o_r5_axes hs r9 (by omega)) ?_
 intro v10 h1 hh1 r10
 obtain rfl := r10
 refine mv rfl rfl (gv (ov_extract (vs := [_, _, _]) rfl rfl) rfl (gv (ov_extract (vs := [_, _, _]) rfl rfl) rfl (gv (ov_extract (vs := [_, _, _]) rfl rfl) rfl (asg rfl rfl (asg rfl rfl (asg rfl rfl (gl_nil (gq_keep (e' := [(3, _), (4, _), (5, _), (6, _)]) ⟨rfl, rfl, rfl, rfl, trivial⟩ (gq_then (gc_seq ?_))))))))))
 refine gc_draw 7 _ [] [(0, .q), (1, .q), (2, .q), (3, .q), (4, .q), (5, .q), (6, .q), (7, .t)] mixed (fun x hx => by cases hx) (by kernel_rfl) (fun x hx => by cases hx) (fun r hr => hr) (w_q rfl (fun h' L' hh hR => ov_move rfl) rfl (w_q rfl (fun h' L' hh hR => (ov_index_arr (sz := 3) (axI s.1) Try.underlying31 Try.sizeOf29 rfl rfl (by rfl) (by exact axI_lt _)).cv (show _ = vP b3 (((axI s.1) * 3 + 0)) from congrArg (vP b3) (by omega))) rfl ?_))
 replace rb3 := rb3.mono hh1
 refine w_qx (F := fun v_ => (rpQ k).Is h1 v_ (p.at (axI s.1))) rfl (ox_load_box ty29 (Pc.ta (Pc.here _) (axI s.1) (by exact axI_lt _)) rfl rfl rb3 rfl) (mem1 (.tail _ (.head _))) rfl ?_
 intro v16 r16
 refine w_q rfl (fun h' L' hh hR => ov_move rfl) rfl (w_q rfl (fun h' L' hh hR => (ov_index_arr (sz := 3) (axJ s.1) Try.underlying31 Try.sizeOf29 rfl rfl (by rfl) (by exact axJ_lt _)).cv (show _ = vP b3 (((axJ s.1) * 3 + 0)) from congrArg (vP b3) (by omega))) rfl (w_qx (F := fun v_ => (rpQ k).Is h1 v_ (p.at (axJ s.1))) rfl (ox_load_box ty29 (Pc.ta (Pc.here _) (axJ s.1) (by exact axJ_lt _)) rfl rfl rb3 rfl) (mem1 (.tail _ (.head _))) rfl ?_))
 intro v19 r19
 refine w_qx (F := fun v_ => (rpT (rpQ (k + 1))).Is h1 v_ (T3.mk (p.at (axI s.1)) (p.at (axJ s.1)) (0 : Rat))) rfl (ox_build_arr (ps' := [(0, _), (1, _)]) Try.underlying31 info31 rfl rfl Try.sizeOf29 ⟨rfl, rfl, rfl, rfl, trivial⟩ rfl (zr_t (zr_q (by omega))) (fx_one rfl (Pc.tx (Pc.here _)) (r16.le (Le.q (l := k + 1) (by omega))) (fx_one rfl (Pc.ty (Pc.here _)) (r19.le (Le.q (l := k + 1) (by omega))) fx_nil))) mem0 rfl ?_
 intro v20 r20
 replace rb4 := rb4.mono hh1
 refine w_tx_upd (A := []) (F := fun c_ => (rpT (rpQ (k + 1))).R h1 c_ (T3.mk (p.at (axI s.1)) (p.at (axJ s.1)) (0 : Rat))) rfl (upd_box Try.sizeOf31 (Pc.here _) rfl rfl rfl rb4 r20 rfl) ?_
 intro cs_61 rb_62
 refine w_nil (gq_keep (e' := [(4, _)]) ⟨rfl, trivial⟩ (gq_then (gc_ret (gq_exv (rv_o (t := 4) ty31 (.head _) rfl rb_62) ?_))))
 intro w_63 hvw_63 rr_64
 refine gq_res (fun E S => run_res1 rfl hvw_63 E S) ?_
 exact rr_64

theorem o_r5_lift {w0 : World} {h0 : Mem}  (hs : MLe h0 (mem w0)) {m l k : Nat} {vs : Value} {s : ((T3 Rat) × Rat)} (rs : (rpP (rpT (rpQ m)) (rpQ l)).Is h0 vs s) {vq : Value} {q : (T3 Rat)} (rq : (rpT (rpQ k)).Is h0 vq q) (hcd0 : k ≤ 1000000) (hcd1 : l ≤ 1000000) (hcd2 : m ≤ 1000000)  :
    Calls Try.prog 29 #[vs, vq] w0 (Ret w0 h0 (fun h r => ∃ u0, r = .tuple #[u0, vB (¬ s.1.at (axK s.1) = 0)] ∧ (rpT (rpQ (3 * k + l + 4 * m + 30))).Is h u0 (liftZ s q))) := by
 have hax := ax_sum s.1
 refine calls_begin (n := 46) (e := [(0, vs), (1, vq)]) (vs := [vs, vq]) Try.func29 rfl rfl (Nat.le_of_ble_eq_true rfl) hs ⟨rfl, rfl, trivial⟩ (gc_seq (gc_region (gl_newop (new_boxx (ρ := (rpP (rpT (rpQ m)) (rpQ l))) rfl rs) rfl rfl rfl ?_)))
 intro v2 q2 hq2
 obtain ⟨b2, cs2, rfl, rfl, rb2⟩ := hq2
 refine gl_newop (new_boxx (ρ := (rpT (rpQ k))) rfl rq) rfl rfl rfl ?_
 intro v3 q3 hq3
 obtain ⟨b3, cs3, rfl, rfl, rb3⟩ := hq3
 refine gl_newop (new_allocx (ρ := (rpT (rpQ (3 * k + l + 4 * m + 30)))) (X := (T3.mk (0 : Rat) (0 : Rat) (0 : Rat))) info31 rfl rfl (zr_t (zr_q (by omega)))) rfl rfl rfl ?_
 intro v4 q4 hq4
 obtain ⟨b4, cs4, rfl, rfl, rb4⟩ := hq4
 refine asg rfl rfl (gl_nil (gq_then (gc_seq (gc_seq (gc_region (gv ((ov_field_addr Try.underlying46 rfl Try.sizeOf31 rfl).cv (show _ = vP b2 0 from congrArg (vP b2) (by rfl))) rfl (gl_x (F := fun v_ => (rpT (rpQ m)).Is h0 v_ s.1) (ox_load_box ty31 (Pc.fst (Pc.here _)) rfl rfl rb2 rfl) (mem1 (.tail _ (.tail _ (.head _)))) rfl ?_)))))))
 intro v11 r11
 refine gl_call (vs := [_]) rfl rfl rfl rfl Try.call26 ⟨rfl, trivial⟩ (fun w hs => o_r4_zero hs r11 (by omega)) ?_
 intro v12 h1 hh1 r12
 obtain rfl : v12 = vB (s.1 = (T3.mk (0 : Rat) (0 : Rat) (0 : Rat))) := r12
 refine gl_nil (gq_then ?_)
 refine gc_cond rfl (fun hc12 => ?_) (fun hc12 => ?_)
 ·
  have hz := (ax_zero s.1).2 hc12
  refine gc_seq (gc_region (gl_x (F := fun v_ => (rpT (rpQ 1)).Is h1 v_ (T3.mk (0 : Rat) (0 : Rat) (0 : Rat))) (ox_build_arr (ps' := []) Try.underlying31 info31 rfl rfl Try.sizeOf29 trivial rfl (zr_t (zr_q (by decide))) fx_nil) mem0 rfl ?_))
  intro v13 r13
  replace rb4 := rb4.mono hh1
  refine gl_updx (A := []) (F := fun c_ => (rpT (rpQ (3 * k + l + 4 * m + 30))).R h1 c_ (T3.mk (0 : Rat) (0 : Rat) (0 : Rat))) (upd_box Try.sizeOf31 (Pc.here _) rfl rfl rfl rb4 (r13.le (Le.t (Le.q (l := 3 * k + l + 4 * m + 30) (by omega)))) rfl) ?_
  intro cs_65 rb_66
  refine asg rfl rfl (gl_nil (gq_then (gc_ret (gr_then (gq_exv (rv_o (t := 4) ty31 (.head _) rfl rb_66) ?_)))))
  intro w_67 hvw_67 rr_68
  refine gq_res (fun E S => run_res2 rfl hvw_67 (rv_tmp rfl) E S) ?_
  refine ⟨_, ?_, (Rp.Is.cast rr_68 (by exact (if_pos hz).symm))⟩
  rw [vB_false (fun e => e hz)]
 ·
  have hz : ¬ s.1.at (axK s.1) = 0 := fun e => hc12 ((ax_zero s.1).1 e)
  refine gc_skip (gq_then (gc_seq (gc_region ?_)))
  replace rb2 := rb2.mono hh1
  refine gl_x (F := fun v_ => (rpP (rpT (rpQ m)) (rpQ l)).Is h1 v_ s) (ox_load_box ty46 (Pc.here _) rfl rfl rb2 rfl) (mem1 (.tail _ (.tail _ (.head _)))) rfl ?_
  intro v15 r15
  refine gl_call (vs := [_]) rfl rfl rfl rfl Try.call62 ⟨rfl, trivial⟩ (fun w hs => o_r5_axes hs r15 (by omega)) ?_
  intro v16 h2 hh2 r16
  obtain rfl := r16
  refine mv rfl rfl (gv (ov_extract (vs := [_, _, _]) rfl rfl) rfl (gv (ov_extract (vs := [_, _, _]) rfl rfl) rfl (gv (ov_extract (vs := [_, _, _]) rfl rfl) rfl (asg rfl rfl (asg rfl rfl (asg rfl rfl (gl_nil (gq_keep (e' := [(2, _), (3, _), (4, _), (6, _), (7, _), (8, _)]) ⟨rfl, rfl, rfl, rfl, rfl, rfl, trivial⟩ (gq_then (gc_seq (gc_region (gl_newop (new_allocx (ρ := (rpT (rpQ (k + 1)))) (X := (T3.mk (0 : Rat) (0 : Rat) (0 : Rat))) info31 rfl rfl (zr_t (zr_q (by omega)))) rfl rfl rfl ?_))))))))))))
  intro v9 q9 hq9
  obtain ⟨b9, cs9, rfl, rfl, rb9⟩ := hq9
  refine gl_nil (gq_then (gc_seq ?_))
  refine gc_draw1 (A := []) 10 [] [(0, .q), (1, .q), (2, .q), (3, .q), (4, .q), (5, .q), (6, .q), (7, .c), (8, .q), (9, .c)] mixed (fun x hx => by cases hx) (by kernel_rfl) (fun x hx => by cases hx) (w_q rfl (fun h' L' hh hR => ov_move rfl) rfl (w_q rfl (fun h' L' hh hR => ov_move rfl) rfl (w_q rfl (fun h' L' hh hR => (ov_index_arr (sz := 3) (q := 0) 0 Try.underlying31 Try.sizeOf29 rfl rfl rfl (by decide)).cv (show _ = vP b3 0 from congrArg (vP b3) (by rfl))) rfl ?_)))
  replace rb3 := rb3.mono (hh1.trans hh2)
  refine w_qx (F := fun v_ => (rpQ k).Is h2 v_ q.x) rfl (ox_load_box ty29 (Pc.tx (Pc.here _)) rfl rfl rb3 rfl) (mem1 (.tail _ (.head _))) rfl ?_
  intro v23 r23
  refine w_q rfl (fun h' L' hh hR => (ov_index_arr (sz := 3) (q := 1) 1 Try.underlying31 Try.sizeOf29 rfl rfl rfl (by decide)).cv (show _ = vP b3 3 from congrArg (vP b3) (by rfl))) rfl (w_qx (F := fun v_ => (rpQ k).Is h2 v_ q.y) rfl (ox_load_box ty29 (Pc.ty (Pc.here _)) rfl rfl rb3 rfl) (mem1 (.tail _ (.head _))) rfl ?_)
  intro v25 r25
  refine w_q rfl (fun h' L' hh hR => (ov_index_arr (sz := 3) (axI s.1) Try.underlying31 Try.sizeOf29 rfl rfl (by rfl) (by exact axI_lt _)).cv (show _ = vP b9 (((axI s.1) * 3 + 0)) from congrArg (vP b9) (by omega))) rfl ?_
  refine w_c rfl (s_updx (A := []) (F := fun c_ => (rpT (rpQ (k + 1))).R h2 c_ ((T3.mk (0 : Rat) (0 : Rat) (0 : Rat)).set (axI s.1) q.x)) (upd_box Try.sizeOf29 (Pc.ta (Pc.here _) (axI s.1) (by exact axI_lt _)) rfl rfl rfl rb9 (r23.le (Le.q (l := k + 1) (by omega))) rfl) (mem_kept (by first | (simp; done) | grind)) ?_)
  intro cs_69 rb_70
  refine w_q rfl (fun h' L' hh hR => (ov_index_arr (sz := 3) (axJ s.1) Try.underlying31 Try.sizeOf29 rfl rfl (by rfl) (by exact axJ_lt _)).cv (show _ = vP b9 (((axJ s.1) * 3 + 0)) from congrArg (vP b9) (by omega))) rfl ?_
  refine w_c rfl (s_updx (A := []) (F := fun c_ => (rpT (rpQ (k + 1))).R h2 c_ (((T3.mk (0 : Rat) (0 : Rat) (0 : Rat)).set (axI s.1) q.x).set (axJ s.1) q.y)) (upd_box Try.sizeOf29 (Pc.ta (Pc.here _) (axJ s.1) (by exact axJ_lt _)) rfl rfl rfl rb_70 (r25.le (Le.q (l := k + 1) (by omega))) rfl) (mem_kept (by first | (simp; done) | grind)) ?_)
  intro cs_71 rb_72
  refine w_nil (gq_keep (e' := [(2, _), (4, _), (8, _), (9, _)]) ⟨rfl, rfl, rfl, rfl, trivial⟩ (gq_then (gc_seq ?_)))
  refine gc_draw1 (A := []) 18 [] [(0, .q), (1, .q), (2, .q), (3, .q), (4, .q), (8, .q), (9, .q), (10, .q), (11, .q), (5, .c), (6, .c), (7, .c), (12, .c), (13, .q), (14, .q), (15, .q), (16, .q), (17, .c)] mixed (fun x hx => by cases hx) (chk_of [0, 0, 2, 0, 8, 0, 48, 68, 0, 0, 768, 1024, 2176, 4096, 8192, 8192, 32767, 98303] [262143, 262143, 262141, 262143, 262135, 262143, 262095, 262075, 262143, 262143, 261375, 261119, 259967, 258047, 253951, 253951, 262142, 180223] (by kernel_rfl)) (fun x hx => by cases hx) (w_q rfl (fun h' L' hh hR => ov_move rfl) rfl (w_q rfl (fun h' L' hh hR => (ov_field_addr Try.underlying46 rfl Try.sizeOf29 rfl).cv (show _ = vP b2 9 from congrArg (vP b2) (by rfl))) rfl ?_))
  replace rb2 := rb2.mono hh2
  refine w_qx (F := fun v_ => (rpQ l).Is h2 v_ s.2) rfl (ox_load_box ty29 (Pc.snd (Pc.here _)) rfl rfl rb2 rfl) (mem1 (.tail _ (.tail _ (.head _)))) rfl ?_
  intro v31 r31
  refine w_q rfl (fun h' L' hh hR => (ov_field_addr Try.underlying46 rfl Try.sizeOf31 rfl).cv (show _ = vP b2 0 from congrArg (vP b2) (by rfl))) rfl (w_qx (F := fun v_ => (rpT (rpQ m)).Is h2 v_ s.1) rfl (ox_load_box ty31 (Pc.fst (Pc.here _)) rfl rfl rb2 rfl) (mem1 (.tail _ (.tail _ (.head _)))) rfl ?_)
  intro v33 r33
  refine w_q rfl (fun h' L' hh hR => ov_move rfl) rfl (w_q rfl (fun h' L' hh hR => (ov_field_addr Try.underlying46 rfl Try.sizeOf31 rfl).cv (show _ = vP b2 0 from congrArg (vP b2) (by rfl))) rfl (w_q rfl (fun h' L' hh hR => (ov_index_arr (sz := 3) (axK s.1) Try.underlying31 Try.sizeOf29 rfl rfl (by rfl) (by exact axK_lt _)).cv (show _ = vP b2 (((axK s.1) * 3 + 0)) from congrArg (vP b2) (by omega))) rfl (w_qx (F := fun v_ => (rpQ m).Is h2 v_ (s.1.at (axK s.1))) rfl (ox_load_box ty29 (Pc.fst (Pc.ta (Pc.here _) (axK s.1) (by exact axK_lt _))) rfl rfl rb2 rfl) (mem1 (.tail _ (.tail _ (.head _)))) rfl ?_)))
  intro v40 r40
  refine w_c rfl (s_x (F := fun v_ => (rpT (rpQ (k + 1))).Is h2 v_ (((T3.mk (0 : Rat) (0 : Rat) (0 : Rat)).set (axI s.1) q.x).set (axJ s.1) q.y)) (ox_load_box ty31 (Pc.here _) rfl rfl rb_72 rfl) (mem1 (.head _)) rfl ?_)
  intro v34 r34
  refine w_c rfl ?_
  refine s_call (vs := [_, _]) Try.call35 ⟨rfl, rfl, trivial⟩ (fun w hs => o_r4_dot hs r33 r34 (by omega)) rfl ?_
  intro v35 h3 hh3 r35
  change (rpQ (3 * m + 3 * (k + 1) + 9)).Is h3 v35 (dotT s.1 (((T3.mk (0 : Rat) (0 : Rat) (0 : Rat)).set (axI s.1) q.x).set (axJ s.1) q.y)) at r35
  replace r35 := Rp.Is.le r35 (Le.q (l := 3 * k + 3 * m + 12) (by omega))
  refine w_c rfl ?_
  replace r31 := r31.mono hh3
  refine s_call (vs := [_, _]) Try.call43 ⟨rfl, rfl, trivial⟩ (fun w hs => o_rref_sub hs r31 r35 (by omega)) rfl ?_
  intro v36 h4 hh4 r36
  change (rpQ (l + (3 * k + 3 * m + 12) + 1)).Is h4 v36 (s.2 - (dotT s.1 (((T3.mk (0 : Rat) (0 : Rat) (0 : Rat)).set (axI s.1) q.x).set (axJ s.1) q.y))) at r36
  replace r36 := Rp.Is.le r36 (Le.q (l := 3 * k + l + 3 * m + 13) (by omega))
  refine w_c rfl ?_
  replace r40 := r40.mono (hh3.trans hh4)
  refine s_call (vs := [_, _]) Try.call63 ⟨rfl, rfl, trivial⟩ (fun w hs => o_rref_quo hs r36 r40 (by omega)) rfl ?_
  intro v41 h5 hh5 r41
  obtain ⟨v41_0, rfl, r41_0⟩ := r41
  change (rpQ ((3 * k + l + 3 * m + 13) + m)).Is h5 v41_0 (if (s.1.at (axK s.1)) = 0 then 0 else (s.2 - (dotT s.1 (((T3.mk (0 : Rat) (0 : Rat) (0 : Rat)).set (axI s.1) q.x).set (axJ s.1) q.y))) / (s.1.at (axK s.1))) at r41_0
  replace r41_0 := Rp.Is.le r41_0 (Le.q (l := 3 * k + l + 4 * m + 13) (by omega))
  refine w_q rfl (fun h' L' hh hR => ov_move rfl) rfl (w_q rfl (fun h' L' hh hR => ov_extract (vs := [_, _]) rfl rfl) rfl (w_q rfl (fun h' L' hh hR => ov_extract (vs := [_, _]) rfl rfl) rfl (w_q rfl (fun h' L' hh hR => (ov_index_arr (sz := 3) (axK s.1) Try.underlying31 Try.sizeOf29 rfl rfl (by rfl) (by exact axK_lt _)).cv (show _ = vP b9 (((axK s.1) * 3 + 0)) from congrArg (vP b9) (by omega))) rfl ?_)))
  refine w_c rfl ?_
  replace rb_72 := rb_72.mono ((hh3.trans hh4).trans hh5)
  have rw_73 := (Le.t (Le.q (l := 3 * k + l + 4 * m + 13) (by omega))).R rb_72
  refine s_updx (A := []) (F := fun c_ => (rpT (rpQ (3 * k + l + 4 * m + 13))).R h5 c_ ((((T3.mk (0 : Rat) (0 : Rat) (0 : Rat)).set (axI s.1) q.x).set (axJ s.1) q.y).set (axK s.1) (if (s.1.at (axK s.1)) = 0 then 0 else (s.2 - (dotT s.1 (((T3.mk (0 : Rat) (0 : Rat) (0 : Rat)).set (axI s.1) q.x).set (axJ s.1) q.y))) / (s.1.at (axK s.1))))) (upd_box Try.sizeOf29 (Pc.ta (Pc.here _) (axK s.1) (by exact axK_lt _)) rfl rfl rfl rw_73 r41_0 rfl) (mem_kept (by first | (simp; done) | grind)) ?_
  intro cs_74 rb_75
  refine w_nil (gq_keep (e' := [(4, _), (9, _)]) ⟨rfl, rfl, trivial⟩ (gq_then (gc_seq (gc_region (gl_x (F := fun v_ => (rpT (rpQ (3 * k + l + 4 * m + 13))).Is h5 v_ ((((T3.mk (0 : Rat) (0 : Rat) (0 : Rat)).set (axI s.1) q.x).set (axJ s.1) q.y).set (axK s.1) (if (s.1.at (axK s.1)) = 0 then 0 else (s.2 - (dotT s.1 (((T3.mk (0 : Rat) (0 : Rat) (0 : Rat)).set (axI s.1) q.x).set (axJ s.1) q.y))) / (s.1.at (axK s.1))))) (ox_load_box ty31 (Pc.here _) rfl rfl rb_75 rfl) (mem1 (.head _)) rfl ?_)))))
  intro v45 r45
  replace rb4 := rb4.mono ((((hh1.trans hh2).trans hh3).trans hh4).trans hh5)
  refine gl_updx (A := [_]) (F := fun c_ => (rpT (rpQ (3 * k + l + 4 * m + 30))).R h5 c_ ((((T3.mk (0 : Rat) (0 : Rat) (0 : Rat)).set (axI s.1) q.x).set (axJ s.1) q.y).set (axK s.1) (if (s.1.at (axK s.1)) = 0 then 0 else (s.2 - (dotT s.1 (((T3.mk (0 : Rat) (0 : Rat) (0 : Rat)).set (axI s.1) q.x).set (axJ s.1) q.y))) / (s.1.at (axK s.1))))) (upd_box Try.sizeOf31 (Pc.here _) rfl rfl rfl rb4 (r45.le (Le.t (Le.q (l := 3 * k + l + 4 * m + 30) (by omega)))) rfl) ?_
  intro cs_76 rb_77
  refine asg rfl rfl (gl_nil (gq_then (gc_ret (gq_exv (rv_o (t := 4) ty31 (.tail _ (.head _)) rfl rb_77) ?_))))
  intro w_78 hvw_78 rr_79
  refine gq_res (fun E S => run_res2 rfl hvw_78 (rv_tmp rfl) E S) ?_
  refine ⟨_, ?_, (Rp.Is.cast rr_79 (by exact ref_lift hc12))⟩
  rw [vB_true hz]

theorem o_r4_side {w0 : World} {h0 : Mem}  (hs : MLe h0 (mem w0)) {m l k : Nat} {vs : Value} {s : ((T3 Rat) × Rat)} (rs : (rpP (rpT (rpQ m)) (rpQ l)).Is h0 vs s) {vp : Value} {p : (T3 Rat)} (rp : (rpT (rpQ k)).Is h0 vp p) (hcd0 : k ≤ 1000000) (hcd1 : l ≤ 1000000) (hcd2 : m ≤ 1000000)  :
    Calls Try.prog 32 #[vs, vp] w0 (Ret w0 h0 (fun _ r => r = vI (sgnQ (dotT s.1 p - s.2)))) := by
 refine calls_begin (n := 13) (e := [(0, vs), (1, vp)]) (vs := [vs, vp]) Try.func32 rfl rfl (Nat.le_of_ble_eq_true rfl) hs ⟨rfl, rfl, trivial⟩ (gc_seq (gc_region (gl_newop (new_boxx (ρ := (rpP (rpT (rpQ m)) (rpQ l))) rfl rs) rfl rfl rfl ?_)))
 intro v2 q2 hq2
 obtain ⟨b2, cs2, rfl, rfl, rb2⟩ := hq2
 refine gl_newop (new_boxx (ρ := (rpT (rpQ k))) rfl rp) rfl rfl rfl ?_
 intro v3 q3 hq3
 obtain ⟨b3, cs3, rfl, rfl, rb3⟩ := hq3
 refine asg (v := vI (0)) rfl rfl (gl_nil (gq_then (gc_seq ?_)))
 refine gc_draw 9 _ [] [(0, .q), (1, .q), (2, .q), (4, .q), (5, .q), (3, .c), (6, .c), (7, .c), (8, .q)] mixed (fun x hx => by cases hx) (by kernel_rfl) (fun x hx => by cases hx) (fun r hr => hr) (w_q rfl (fun h' L' hh hR => (ov_field_addr Try.underlying46 rfl Try.sizeOf31 rfl).cv (show _ = vP b2 0 from congrArg (vP b2) (by rfl))) rfl (w_qx (F := fun v_ => (rpT (rpQ m)).Is h0 v_ s.1) rfl (ox_load_box ty31 (Pc.fst (Pc.here _)) rfl rfl rb2 rfl) (mem1 (.tail _ (.head _))) rfl ?_))
 intro v6 r6
 refine w_qx (F := fun v_ => (rpT (rpQ k)).Is h0 v_ p) rfl (ox_load_box ty31 (Pc.here _) rfl rfl rb3 rfl) (mem1 (.head _)) rfl ?_
 intro v7 r7
 refine w_q rfl (fun h' L' hh hR => (ov_field_addr Try.underlying46 rfl Try.sizeOf29 rfl).cv (show _ = vP b2 9 from congrArg (vP b2) (by rfl))) rfl (w_qx (F := fun v_ => (rpQ l).Is h0 v_ s.2) rfl (ox_load_box ty29 (Pc.snd (Pc.here _)) rfl rfl rb2 rfl) (mem1 (.tail _ (.head _))) rfl ?_)
 intro v10 r10
 refine w_c rfl ?_
 refine s_call (vs := [_, _]) Try.call35 ⟨rfl, rfl, trivial⟩ (fun w hs => o_r4_dot hs r6 r7 (by omega)) rfl ?_
 intro v8 h1 hh1 r8
 change (rpQ (3 * m + 3 * k + 9)).Is h1 v8 (dotT s.1 p) at r8
 replace r8 := Rp.Is.le r8 (Le.q (l := 3 * k + 3 * m + 9) (by omega))
 refine w_c rfl ?_
 replace r10 := r10.mono hh1
 refine s_call (vs := [_, _]) Try.call43 ⟨rfl, rfl, trivial⟩ (fun w hs => o_rref_sub hs r8 r10 (by omega)) rfl ?_
 intro v11 h2 hh2 r11
 change (rpQ ((3 * k + 3 * m + 9) + l + 1)).Is h2 v11 ((dotT s.1 p) - s.2) at r11
 replace r11 := Rp.Is.le r11 (Le.q (l := 3 * k + l + 3 * m + 10) (by omega))
 refine w_c rfl ?_
 refine s_call (vs := [_]) Try.call34 ⟨rfl, trivial⟩ (fun w hs => o_rref_sign hs r11 (by omega)) rfl ?_
 intro v12 h3 hh3 r12
 obtain rfl : v12 = vI (sgnQ ((dotT s.1 p) - s.2)) := r12
 have hsr12 := sgnQ_range ((dotT s.1 p) - s.2)
 refine w_q rfl (fun h' L' hh hR => ov_assign rfl) rfl (w_nil (gq_keep (e' := [(4, _)]) ⟨rfl, trivial⟩ (gq_then (gc_ret (gq_body1 rfl rfl ?_)))))
 rfl

theorem law25_polygonflattens {w0 : World} {h0 : Mem}  (hs : MLe h0 (mem w0)) {vl : Value} {xsl : List Int} (hl : Is h0 vl xsl)  :
    Calls Try.prog 5 #[vl] w0 (Ret w0 h0 (fun _ r => r = .bool true)) := by
 have hlenl := hl.lt63
 refine calls_begin (n := 97) (e := [(0, vl)]) (vs := [vl]) Try.func5 rfl rfl (Nat.le_of_ble_eq_true rfl) hs ⟨rfl, trivial⟩ (gc_seq (gc_region (asg rfl rfl (gl_nil (gq_then (gc_seq (gc_seq (gc_region (mv rfl rfl ?_)))))))))
 refine gl_call (vs := [_]) rfl rfl rfl rfl Try.call7 ⟨rfl, trivial⟩ (fun w hs => made_light hs hl) ?_
 intro v14 h1 hh1 hr14
 subst hr14
 refine gv (ov_not rfl) rfl (gl_nil (gq_then ?_))
 refine gc_cond rfl (fun hc15 => ?_) (fun hc15 => ?_)
 ·
  refine gc_seq (gc_region ?_)
  refine gl_call (vs := []) rfl rfl rfl rfl Try.call8 trivial (fun w hs => law25_sane hs) ?_
  intro v16 h2 hh2 hr16
  subst hr16
  refine asg rfl rfl (gl_nil (gq_then (gc_ret (gr_then (gq_body1 rfl rfl ?_)))))
  rfl
 ·
  refine gc_skip (gq_then (gc_seq (gc_region (mv rfl rfl ?_))))
  replace hl := hl.mono hh1
  refine gl_call_own (vs := [_]) rfl rfl rfl rfl Try.call9 ⟨rfl, trivial⟩ (fun w hs => made_roll hs hl) ?_
  intro v18 h2 L18 hh2 hr18
  obtain ⟨b18, rfl, rfl⟩ := hr18
  refine asg rfl rfl (gl_nil (gq_then (gc_seq (gc_region (mv rfl rfl ?_)))))
  replace hl := hl.mono hh2
  refine gl_call_mut2 (A := []) (vs := [_]) Try.call24 ⟨rfl, trivial⟩ (fun X w hs => o_dice_plane hl (by first | omega | exact Nat.zero_le _) hs) rfl ?_
  intro v20 g20 q20 hg20 hr20
  obtain ⟨k20, p20, rfl, hk20, hr20⟩ := hr20
  refine mv rfl rfl ?_
  replace hl := hl.mono hg20
  refine gl_call_mut2 (A := []) (vs := [_]) Try.call25 ⟨rfl, trivial⟩ (fun X w hs => o_dice_spot hl (by first | omega | exact Nat.zero_le _) hs) rfl ?_
  intro v22 g22 q22 hg22 hr22
  obtain ⟨k22, p22, rfl, hk22, hr22⟩ := hr22
  refine gl_newop (new_allocx (ρ := (rpP (rpT (rpQ 1)) (rpQ 1))) (X := ((T3.mk (0 : Rat) (0 : Rat) (0 : Rat)), (0 : Rat))) info46 rfl rfl (zr_p (zr_t (zr_q (by decide))) (zr_q (by decide)))) rfl rfl rfl ?_
  intro v4 q4 hq4
  obtain ⟨b4, cs4, rfl, rfl, rb4⟩ := hq4
  refine gl_newop (new_allocx (ρ := (rpT (rpQ 1))) (X := (T3.mk (0 : Rat) (0 : Rat) (0 : Rat))) info31 rfl rfl (zr_t (zr_q (by decide)))) rfl rfl rfl ?_
  intro v5 q5 hq5
  obtain ⟨b5, cs5, rfl, rfl, rb5⟩ := hq5
  have rw_80 := (Le.p (Le.t (Le.q (l := 2) (by decide))) (Le.q (l := 2) (by decide))).R rb4
  replace hr20 := hr20.mono hg22
  refine gl_updx (A := [_]) (F := fun c_ => (rpP (rpT (rpQ 2)) (rpQ 2)).R g22 c_ p20) (upd_box Try.sizeOf46 (Pc.here _) rfl rfl rfl rw_80 hr20 rfl) ?_
  intro cs_81 rb_82
  have rw_83 := (Le.t (Le.q (l := 2) (by decide))).R rb5
  refine gl_updx (A := []) (F := fun c_ => (rpT (rpQ 2)).R g22 c_ p22) (upd_box Try.sizeOf31 (Pc.here _) rfl rfl rfl rw_83 hr22 rfl) ?_
  intro cs_84 rb_85
  refine gl_nil (gq_keep (e' := [(4, _), (5, _)]) ⟨rfl, rfl, trivial⟩ (gq_then (gc_seq (gc_seq (gc_region (gv ((ov_field_addr Try.underlying46 rfl Try.sizeOf31 rfl).cv (show _ = vP b4 0 from congrArg (vP b4) (by rfl))) rfl (gl_x (F := fun v_ => (rpT (rpQ 2)).Is g22 v_ p20.1) (ox_load_box ty31 (Pc.fst (Pc.here _)) rfl rfl rb_82 rfl) (mem1 (.tail _ (.head _))) rfl ?_)))))))
  intro v24 r24
  refine gl_call (vs := [_]) rfl rfl rfl rfl Try.call26 ⟨rfl, trivial⟩ (fun w hs => o_r4_zero hs r24 (by decide)) ?_
  intro v25 h3 hh3 r25
  obtain rfl : v25 = vB (p20.1 = (T3.mk (0 : Rat) (0 : Rat) (0 : Rat))) := r25
  refine gl_nil (gq_then ?_)
  refine gc_cond rfl (fun hc25 => ?_) (fun hc25 => ?_)
  ·
   have hz := (ax_zero _).2 hc25
   refine gc_seq (gc_region ?_)
   replace rb_82 := rb_82.mono hh3
   refine gl_x (F := fun v_ => (rpP (rpT (rpQ 2)) (rpQ 2)).Is h3 v_ p20) (ox_load_box ty46 (Pc.here _) rfl rfl rb_82 rfl) (mem1 (.tail _ (.head _))) rfl ?_
   intro v27 r27
   replace rb_85 := rb_85.mono hh3
   refine gl_x (F := fun v_ => (rpT (rpQ 2)).Is h3 v_ p22) (ox_load_box ty31 (Pc.here _) rfl rfl rb_85 rfl) (mem1 (.head _)) rfl ?_
   intro v28 r28
   refine gl_call (vs := [_, _]) rfl rfl rfl rfl Try.call27 ⟨rfl, rfl, trivial⟩ (fun w hs => o_pg_lift hs r27 r28 (by decide) (by decide) (by decide)) ?_
   intro v29 h4 hh4 r29
   obtain ⟨v29_0, rfl, r29_0⟩ := r29
   change (rpT (rpQ (4 * 2 + 2 + 4 * 2 + 9))).Is h4 v29_0 (liftZ p20 p22) at r29_0
   replace r29_0 := Rp.Is.le r29_0 (Le.t (Le.q (l := 27) (by omega)))
   rw [vB_false (show ¬ (¬ p20.1.at (axK p20.1) = 0) from fun e => e hz)]
   refine mv rfl rfl (gv (ov_extract (vs := [_, _]) rfl rfl) rfl (gv (ov_extract (vs := [_, _]) rfl rfl) rfl (gl_newop (new_allocx (ρ := (rpT (rpQ 1))) (X := (T3.mk (0 : Rat) (0 : Rat) (0 : Rat))) info31 rfl rfl (zr_t (zr_q (by decide)))) rfl rfl rfl ?_)))
   intro v6 q6 hq6
   obtain ⟨b6, cs6, rfl, rfl, rb6⟩ := hq6
   have rw_86 := (Le.t (Le.q (l := 27) (by decide))).R rb6
   refine gl_updx (A := []) (F := fun c_ => (rpT (rpQ 27)).R h4 c_ (liftZ p20 p22)) (upd_box Try.sizeOf31 (Pc.here _) rfl rfl rfl rw_86 r29_0 rfl) ?_
   intro cs_87 rb_88
   refine asg rfl rfl (gl_nil (gq_keep (e' := [(7, _)]) ⟨rfl, trivial⟩ (gq_then (gc_seq (gc_region (mv rfl rfl (gv (ov_not_b rfl) rfl (mv rfl rfl (gl_on rfl rfl rfl ?_)))))))))
   refine gl_call (vs := []) rfl rfl rfl rfl Try.call8 trivial (fun w hs => law25_sane hs) ?_
   intro v35 h5 hh5 hr35
   subst hr35
   refine gv (ov_pick_t rfl rfl) rfl (asg rfl rfl (gl_nil (gq_then (gc_ret (gr_then (gq_body1 rfl rfl ?_))))))
   rfl
  ·
   have hz : ¬ p20.1.at (axK p20.1) = 0 := fun e => hc25 ((ax_zero _).1 e)
   refine gc_skip (gq_then (gc_seq (gc_region ?_)))
   replace rb_82 := rb_82.mono hh3
   refine gl_x (F := fun v_ => (rpP (rpT (rpQ 2)) (rpQ 2)).Is h3 v_ p20) (ox_load_box ty46 (Pc.here _) rfl rfl rb_82 rfl) (mem1 (.tail _ (.head _))) rfl ?_
   intro v37 r37
   replace rb_85 := rb_85.mono hh3
   refine gl_x (F := fun v_ => (rpT (rpQ 2)).Is h3 v_ p22) (ox_load_box ty31 (Pc.here _) rfl rfl rb_85 rfl) (mem1 (.head _)) rfl ?_
   intro v38 r38
   refine gl_call (vs := [_, _]) rfl rfl rfl rfl Try.call28 ⟨rfl, rfl, trivial⟩ (fun w hs => o_pg_flatten hs r37 r38 (by decide) (by decide)) ?_
   intro v39 h4 hh4 r39
   change (rpT (rpQ (2 + 1))).Is h4 v39 (flatZ p20 p22) at r39
   replace r39 := Rp.Is.le r39 (Le.t (Le.q (l := 3) (by omega)))
   refine gl_newop (new_allocx (ρ := (rpT (rpQ 1))) (X := (T3.mk (0 : Rat) (0 : Rat) (0 : Rat))) info31 rfl rfl (zr_t (zr_q (by decide)))) rfl rfl rfl ?_
   intro v8 q8 hq8
   obtain ⟨b8, cs8, rfl, rfl, rb8⟩ := hq8
   have rw_89 := (Le.t (Le.q (l := 3) (by decide))).R rb8
   refine gl_updx (A := []) (F := fun c_ => (rpT (rpQ 3)).R h4 c_ (flatZ p20 p22)) (upd_box Try.sizeOf31 (Pc.here _) rfl rfl rfl rw_89 r39 rfl) ?_
   intro cs_90 rb_91
   refine gl_nil (gq_then (gc_seq (gc_region ?_)))
   replace rb_82 := rb_82.mono hh4
   refine gl_x (F := fun v_ => (rpP (rpT (rpQ 2)) (rpQ 2)).Is h4 v_ p20) (ox_load_box ty46 (Pc.here _) rfl rfl rb_82 rfl) (mem1 (.tail _ (.tail _ (.head _)))) rfl ?_
   intro v41 r41
   refine gl_x (F := fun v_ => (rpT (rpQ 3)).Is h4 v_ (flatZ p20 p22)) (ox_load_box ty31 (Pc.here _) rfl rfl rb_91 rfl) (mem1 (.head _)) rfl ?_
   intro v42 r42
   refine gl_call (vs := [_, _]) rfl rfl rfl rfl Try.call27 ⟨rfl, rfl, trivial⟩ (fun w hs => o_pg_lift hs r41 r42 (by decide) (by decide) (by decide)) ?_
   intro v43 h5 hh5 r43
   obtain ⟨v43_0, rfl, r43_0⟩ := r43
   change (rpT (rpQ (4 * 3 + 2 + 4 * 2 + 9))).Is h5 v43_0 (liftZ p20 (flatZ p20 p22)) at r43_0
   replace r43_0 := Rp.Is.le r43_0 (Le.t (Le.q (l := 31) (by omega)))
   refine mv rfl rfl (gv (ov_extract (vs := [_, _]) rfl rfl) rfl (gv (ov_extract (vs := [_, _]) rfl rfl) rfl (gl_newop (new_allocx (ρ := (rpT (rpQ 1))) (X := (T3.mk (0 : Rat) (0 : Rat) (0 : Rat))) info31 rfl rfl (zr_t (zr_q (by decide)))) rfl rfl rfl ?_)))
   intro v9 q9 hq9
   obtain ⟨b9, cs9, rfl, rfl, rb9⟩ := hq9
   have rw_92 := (Le.t (Le.q (l := 31) (by decide))).R rb9
   refine gl_updx (A := []) (F := fun c_ => (rpT (rpQ 31)).R h5 c_ (liftZ p20 (flatZ p20 p22))) (upd_box Try.sizeOf31 (Pc.here _) rfl rfl rfl rw_92 r43_0 rfl) ?_
   intro cs_93 rb_94
   refine asg rfl rfl (gl_nil (gq_keep (e' := [(4, _), (5, _), (8, _), (9, _), (10, _)]) ⟨rfl, rfl, rfl, rfl, rfl, trivial⟩ (gq_then (gc_seq (gc_region ?_)))))
   replace rb_82 := rb_82.mono hh5
   refine gl_x (F := fun v_ => (rpP (rpT (rpQ 2)) (rpQ 2)).Is h5 v_ p20) (ox_load_box ty46 (Pc.here _) rfl rfl rb_82 rfl) (mem1 (.tail _ (.tail _ (.tail _ (.head _))))) rfl ?_
   intro v47 r47
   replace rb_91 := rb_91.mono hh5
   refine gl_x (F := fun v_ => (rpT (rpQ 3)).Is h5 v_ (flatZ p20 p22)) (ox_load_box ty31 (Pc.here _) rfl rfl rb_91 rfl) (mem1 (.tail _ (.head _))) rfl ?_
   intro v48 r48
   refine gl_call (vs := [_, _]) rfl rfl rfl rfl Try.call29 ⟨rfl, rfl, trivial⟩ (fun w hs => o_r5_lift hs r47 r48 (by decide) (by decide) (by decide)) ?_
   intro v49 h6 hh6 r49
   obtain ⟨v49_0, rfl, r49_0⟩ := r49
   change (rpT (rpQ (3 * 3 + 2 + 4 * 2 + 30))).Is h6 v49_0 (liftZ p20 (flatZ p20 p22)) at r49_0
   replace r49_0 := Rp.Is.le r49_0 (Le.t (Le.q (l := 49) (by omega)))
   refine mv rfl rfl (gv (ov_extract (vs := [_, _]) rfl rfl) rfl (gv (ov_extract (vs := [_, _]) rfl rfl) rfl (gl_newop (new_allocx (ρ := (rpT (rpQ 1))) (X := (T3.mk (0 : Rat) (0 : Rat) (0 : Rat))) info31 rfl rfl (zr_t (zr_q (by decide)))) rfl rfl rfl ?_)))
   intro v11 q11 hq11
   obtain ⟨b11, cs11, rfl, rfl, rb11⟩ := hq11
   have rw_95 := (Le.t (Le.q (l := 49) (by decide))).R rb11
   refine gl_updx (A := []) (F := fun c_ => (rpT (rpQ 49)).R h6 c_ (liftZ p20 (flatZ p20 p22))) (upd_box Try.sizeOf31 (Pc.here _) rfl rfl rfl rw_95 r49_0 rfl) ?_
   intro cs_96 rb_97
   refine asg rfl rfl (gl_nil (gq_then (gc_seq (gc_seq ?_))))
   refine gc_draw 17 _ [] [(0, .q), (1, .q), (2, .q), (3, .c), (4, .c), (5, .q), (6, .q), (7, .q), (8, .q), (9, .q), (10, .q), (11, .q), (12, .q), (13, .q), (14, .c), (15, .q), (16, .q)] mixed (fun x hx => by cases hx) (chk_of [0, 0, 0, 6, 9, 16, 48, 64, 64, 448, 576, 1088, 2048, 2048, 14336, 18432, 34816] [131071, 131071, 131071, 131065, 131062, 131055, 131039, 131007, 131007, 130623, 130495, 130047, 129023, 129023, 116735, 112639, 96255] (by kernel_rfl)) (fun x hx => by cases hx) (fun r hr => hr) ?_
   replace rb_91 := rb_91.mono hh6
   refine w_qx (F := fun v_ => (rpT (rpQ 3)).Is h6 v_ (flatZ p20 p22)) rfl (ox_load_box ty31 (Pc.here _) rfl rfl rb_91 rfl) (mem1 (.tail _ (.tail _ (.head _)))) rfl ?_
   intro v52 r52
   replace rb_82 := rb_82.mono hh6
   refine w_qx (F := fun v_ => (rpP (rpT (rpQ 2)) (rpQ 2)).Is h6 v_ p20) rfl (ox_load_box ty46 (Pc.here _) rfl rfl rb_82 rfl) (mem1 (.tail _ (.tail _ (.tail _ (.tail _ (.head _)))))) rfl ?_
   intro v53 r53
   replace rb_85 := rb_85.mono ((hh4.trans hh5).trans hh6)
   refine w_qx (F := fun v_ => (rpT (rpQ 2)).Is h6 v_ p22) rfl (ox_load_box ty31 (Pc.here _) rfl rfl rb_85 rfl) (mem1 (.tail _ (.tail _ (.tail _ (.head _))))) rfl ?_
   intro v54 r54
   refine w_c rfl ?_
   refine s_call (vs := [_, _]) Try.call31 ⟨rfl, rfl, trivial⟩ (fun w hs => o_r5_flatten hs r53 r54 (by decide) (by decide)) rfl ?_
   intro v55 h7 hh7 r55
   change (rpT (rpQ (2 + 1))).Is h7 v55 (flatZ p20 p22) at r55
   replace r55 := Rp.Is.le r55 (Le.t (Le.q (l := 3) (by omega)))
   refine w_c rfl ?_
   replace r52 := r52.mono hh7
   refine s_call (vs := [_, _]) Try.call30 ⟨rfl, rfl, trivial⟩ (fun w hs => o_r4_same hs r52 r55 (by decide)) rfl ?_
   intro v56 h8 hh8 r56
   obtain rfl : v56 = .bool true := by rw [show v56 = vB ((flatZ p20 p22) = (flatZ p20 p22)) from r56, vB_true (by exact rfl)]
   refine w_q rfl (fun h' L' hh hR => ov_not_b rfl) rfl (w_q rfl (fun h' L' hh hR => ov_move rfl) rfl (w_q_on rfl rfl rfl (fun h' L' hh hR => ov_move rfl) rfl (w_q_on rfl rfl rfl (fun h' L' hh hR => ov_move rfl) rfl (w_q_on rfl rfl rfl (fun h' L' hh hR => OpV.fa (by exact fun e => e Iff.rfl) (ov_neq_b Try.underlying4 rfl rfl)) rfl (w_q rfl (fun h' L' hh hR => ov_pick_f rfl rfl) rfl (w_q rfl (fun h' L' hh hR => ov_move rfl) rfl ?_))))))
   replace rb_94 := rb_94.mono ((hh6.trans hh7).trans hh8)
   refine w_qx_on (F := fun v_ => (rpT (rpQ 31)).Is h8 v_ (liftZ p20 (flatZ p20 p22))) rfl rfl rfl (ox_load_box ty31 (Pc.here _) rfl rfl rb_94 rfl) (mem1 (.tail _ (.head _))) rfl ?_
   intro v64 r64
   replace rb_97 := rb_97.mono (hh7.trans hh8)
   refine w_qx_on (F := fun v_ => (rpT (rpQ 49)).Is h8 v_ (liftZ p20 (flatZ p20 p22))) rfl rfl rfl (ox_load_box ty31 (Pc.here _) rfl rfl rb_97 rfl) (mem1 (.head _)) rfl ?_
   intro v65 r65
   refine w_c rfl (s_on rfl rfl ?_)
   refine s_call (vs := [_, _]) Try.call30 ⟨rfl, rfl, trivial⟩ (fun w hs => o_r4_same hs r64 r65 (by decide)) rfl ?_
   intro v66 h9 hh9 r66
   obtain rfl : v66 = .bool true := by rw [show v66 = vB ((liftZ p20 (flatZ p20 p22)) = (liftZ p20 (flatZ p20 p22))) from r66, vB_true (by exact rfl)]
   refine w_q_on rfl rfl rfl (fun h' L' hh hR => ov_not_b rfl) rfl (w_q rfl (fun h' L' hh hR => ov_pick_f rfl rfl) rfl (w_nil (gq_keep (e' := [(4, _), (5, _), (8, _), (9, _), (10, _), (68, _)]) ⟨rfl, rfl, rfl, rfl, rfl, rfl, trivial⟩ (gq_then (gc_cond_f rfl (gc_skip (gq_then (gc_seq (gc_seq ?_)))))))))
   refine gc_draw 27 _ [] [(0, .q), (1, .q), (2, .q), (3, .q), (4, .c), (5, .q), (6, .q), (7, .q), (8, .q), (10, .q), (9, .c), (11, .c), (12, .q), (13, .q), (14, .q), (15, .q), (16, .q), (17, .c), (18, .q), (19, .q), (20, .q), (21, .q), (22, .c), (23, .q), (24, .q), (25, .q), (26, .q)] mixed (fun x hx => by cases hx) (chk_of [0, 1, 2, 2, 14, 18, 50, 64, 64, 448, 64, 1600, 2112, 4162, 10242, 16384, 16384, 114688, 147456, 409600, 524288, 524288, 3670016, 4718592, 8929280, 16793602, 33554434] [134217727, 134217726, 134217725, 134217725, 134217713, 134217709, 134217693, 134217663, 134217663, 134217279, 134217663, 134216127, 134215615, 134213565, 134209533, 134201343, 134201343, 134103039, 134070271, 133939199, 133693439, 133693439, 130547711, 129499135, 125288447, 117424125, 100663293] (by kernel_rfl)) (fun x hx => by cases hx) (fun r hr => hr) (w_q rfl (fun h' L' hh hR => ov_move rfl) rfl (w_q rfl (fun h' L' hh hR => ov_move rfl) rfl ?_))
   refine prop_cases (¬ p20.1.at (axK p20.1) = 0) (fun hg_98 => ?_) (fun hg_98 => ?_)
   ·
    rw [vB_true hg_98]
    replace rb_82 := rb_82.mono ((hh7.trans hh8).trans hh9)
    refine w_qx_on (F := fun v_ => (rpP (rpT (rpQ 2)) (rpQ 2)).Is h9 v_ p20) rfl rfl rfl (ox_load_box ty46 (Pc.here _) rfl rfl rb_82 rfl) (mem1 (.tail _ (.tail _ (.tail _ (.tail _ (.head _)))))) rfl ?_
    intro v71 r71
    replace rb_94 := rb_94.mono hh9
    refine w_qx_on (F := fun v_ => (rpT (rpQ 31)).Is h9 v_ (liftZ p20 (flatZ p20 p22))) rfl rfl rfl (ox_load_box ty31 (Pc.here _) rfl rfl rb_94 rfl) (mem1 (.tail _ (.head _))) rfl ?_
    intro v72 r72
    refine w_c rfl (s_on rfl rfl ?_)
    refine s_call (vs := [_, _]) Try.call32 ⟨rfl, rfl, trivial⟩ (fun w hs => o_r4_side hs r71 r72 (by decide) (by decide) (by decide)) rfl ?_
    intro v73 h10 hh10 r73
    obtain rfl : v73 = vI (sgnQ (dotT p20.1 (liftZ p20 (flatZ p20 p22)) - p20.2)) := r73
    have hsd73 := sgnQ_range (dotT p20.1 (liftZ p20 (flatZ p20 p22)) - p20.2)
    refine w_q_on rfl rfl rfl (fun h' L' hh hR => OpV.fa (by exact fun e => e (side_lift hz)) (ov_neq_i (q := 0) rfl rfl)) rfl (w_q_on rfl rfl rfl (fun h' L' hh hR => ov_move rfl) rfl ?_)
    replace rb_82 := rb_82.mono hh10
    refine w_qx_on (F := fun v_ => (rpP (rpT (rpQ 2)) (rpQ 2)).Is h10 v_ p20) rfl rfl rfl (ox_load_box ty46 (Pc.here _) rfl rfl rb_82 rfl) (mem1 (.tail _ (.tail _ (.tail _ (.tail _ (.head _)))))) rfl ?_
    intro v76 r76
    replace rb_94 := rb_94.mono hh10
    refine w_qx_on (F := fun v_ => (rpT (rpQ 31)).Is h10 v_ (liftZ p20 (flatZ p20 p22))) rfl rfl rfl (ox_load_box ty31 (Pc.here _) rfl rfl rb_94 rfl) (mem1 (.tail _ (.head _))) rfl ?_
    intro v77 r77
    replace rb_91 := rb_91.mono (((hh7.trans hh8).trans hh9).trans hh10)
    refine w_qx_on (F := fun v_ => (rpT (rpQ 3)).Is h10 v_ (flatZ p20 p22)) rfl rfl rfl (ox_load_box ty31 (Pc.here _) rfl rfl rb_91 rfl) (mem1 (.tail _ (.tail _ (.head _)))) rfl ?_
    intro v79 r79
    refine w_c rfl (s_on rfl rfl ?_)
    refine s_call (vs := [_, _]) Try.call28 ⟨rfl, rfl, trivial⟩ (fun w hs => o_pg_flatten hs r76 r77 (by decide) (by decide)) rfl ?_
    intro v78 h11 hh11 r78
    change (rpT (rpQ (31 + 1))).Is h11 v78 (flatZ p20 (liftZ p20 (flatZ p20 p22))) at r78
    replace r78 := Rp.Is.le r78 (Le.t (Le.q (l := 32) (by omega)))
    refine w_c rfl (s_on rfl rfl ?_)
    replace r79 := r79.mono hh11
    refine s_call (vs := [_, _]) Try.call30 ⟨rfl, rfl, trivial⟩ (fun w hs => o_r4_same hs r78 r79 (by decide)) rfl ?_
    intro v80 h12 hh12 r80
    obtain rfl : v80 = .bool true := by rw [show v80 = vB ((flatZ p20 (liftZ p20 (flatZ p20 p22))) = (flatZ p20 p22)) from r80, vB_true (by exact flat_lift hz)]
    refine w_q_on rfl rfl rfl (fun h' L' hh hR => ov_not_b rfl) rfl (w_q_on rfl rfl rfl (fun h' L' hh hR => ov_pick_f rfl rfl) rfl (w_q_on rfl rfl rfl (fun h' L' hh hR => ov_move rfl) rfl ?_))
    replace rb_82 := rb_82.mono (hh11.trans hh12)
    refine w_qx_on (F := fun v_ => (rpP (rpT (rpQ 2)) (rpQ 2)).Is h12 v_ p20) rfl rfl rfl (ox_load_box ty46 (Pc.here _) rfl rfl rb_82 rfl) (mem1 (.tail _ (.tail _ (.tail _ (.tail _ (.head _)))))) rfl ?_
    intro v84 r84
    replace rb_85 := rb_85.mono (((((hh7.trans hh8).trans hh9).trans hh10).trans hh11).trans hh12)
    refine w_qx_on (F := fun v_ => (rpT (rpQ 2)).Is h12 v_ p22) rfl rfl rfl (ox_load_box ty31 (Pc.here _) rfl rfl rb_85 rfl) (mem1 (.tail _ (.tail _ (.tail _ (.head _))))) rfl ?_
    intro v85 r85
    refine w_c rfl (s_on rfl rfl ?_)
    refine s_call (vs := [_, _]) Try.call32 ⟨rfl, rfl, trivial⟩ (fun w hs => o_r4_side hs r84 r85 (by decide) (by decide) (by decide)) rfl ?_
    intro v86 h13 hh13 r86
    obtain rfl : v86 = vI (sgnQ (dotT p20.1 p22 - p20.2)) := r86
    have hsd86 := sgnQ_range (dotT p20.1 p22 - p20.2)
    refine w_q_on rfl rfl rfl (fun h' L' hh hR => ov_eql_i (q := 0) rfl rfl) rfl (w_q_on rfl rfl rfl (fun h' L' hh hR => ov_move rfl) rfl ?_)
    refine prop_cases ((sgnQ (dotT p20.1 p22 - p20.2)) = (0 : Int)) (fun hg_99 => ?_) (fun hg_99 => ?_)
    ·
     rw [vB_true hg_99]
     replace rb_94 := rb_94.mono ((hh11.trans hh12).trans hh13)
     refine w_qx_on (F := fun v_ => (rpT (rpQ 31)).Is h13 v_ (liftZ p20 (flatZ p20 p22))) rfl rfl rfl (ox_load_box ty31 (Pc.here _) rfl rfl rb_94 rfl) (mem1 (.tail _ (.head _))) rfl ?_
     intro v89 r89
     replace rb_85 := rb_85.mono hh13
     refine w_qx_on (F := fun v_ => (rpT (rpQ 2)).Is h13 v_ p22) rfl rfl rfl (ox_load_box ty31 (Pc.here _) rfl rfl rb_85 rfl) (mem1 (.tail _ (.tail _ (.tail _ (.head _))))) rfl ?_
     intro v90 r90
     refine w_c rfl (s_on rfl rfl ?_)
     refine s_call (vs := [_, _]) Try.call30 ⟨rfl, rfl, trivial⟩ (fun w hs => o_r4_same hs r89 r90 (by decide)) rfl ?_
     intro v91 h14 hh14 r91
     obtain rfl : v91 = .bool true := by rw [show v91 = vB ((liftZ p20 (flatZ p20 p22)) = p22) from r91, vB_true (by exact lift_back hz (by assumption))]
     refine w_q_on rfl rfl rfl (fun h' L' hh hR => ov_not_b rfl) rfl (w_q_on rfl rfl rfl (fun h' L' hh hR => ov_pick_t rfl rfl) rfl (w_q_on rfl rfl rfl (fun h' L' hh hR => ov_pick_f rfl rfl) rfl (w_q rfl (fun h' L' hh hR => ov_pick_t rfl rfl) rfl (w_nil (gq_keep (e' := [(95, _)]) ⟨rfl, trivial⟩ (gq_then (gc_cond_f rfl (gc_skip (gq_then (gc_seq (gc_region ?_)))))))))))
     refine gl_call (vs := []) rfl rfl rfl rfl Try.call8 trivial (fun w hs => law25_sane hs) ?_
     intro v96 h15 hh15 hr96
     subst hr96
     refine asg rfl rfl (gl_nil (gq_then (gc_ret (gq_body1 rfl rfl ?_))))
     rfl
    ·
     rw [vB_false hg_99]
     refine w_q_off rfl rfl rfl rfl rfl (w_q_off rfl rfl rfl rfl rfl ?_)
     refine w_c rfl (s_off rfl rfl rfl rfl (w_q_off rfl rfl rfl rfl rfl (w_q_on rfl rfl rfl (fun h' L' hh hR => ov_pick_f rfl rfl) rfl (w_q_on rfl rfl rfl (fun h' L' hh hR => ov_pick_f rfl rfl) rfl (w_q rfl (fun h' L' hh hR => ov_pick_t rfl rfl) rfl (w_nil (gq_keep (e' := [(95, _)]) ⟨rfl, trivial⟩ (gq_then (gc_cond_f rfl (gc_skip (gq_then (gc_seq (gc_region ?_)))))))))))))
     refine gl_call (vs := []) rfl rfl rfl rfl Try.call8 trivial (fun w hs => law25_sane hs) ?_
     intro v96 h14 hh14 hr96
     subst hr96
     refine asg rfl rfl (gl_nil (gq_then (gc_ret (gq_body1 rfl rfl ?_))))
     rfl
   ·
    rw [vB_false hg_98]
    refine w_q_off rfl rfl rfl rfl rfl (w_q_off rfl rfl rfl rfl rfl ?_)
    refine w_c rfl (s_off rfl rfl rfl rfl (w_q_off rfl rfl rfl rfl rfl (w_q_off rfl rfl rfl rfl rfl (w_q_offu rfl rfl rfl rfl (w_q_offu rfl rfl rfl rfl (w_q_offu rfl rfl rfl rfl ?_))))))
    refine w_c rfl (s_offu rfl rfl rfl ?_)
    refine w_c rfl (s_offu rfl rfl rfl (w_q_offu rfl rfl rfl rfl (w_q_off rfl rfl rfl rfl rfl (w_q_off rfl rfl rfl rfl rfl (w_q_offu rfl rfl rfl rfl (w_q_offu rfl rfl rfl rfl ?_))))))
    refine w_c rfl (s_offu rfl rfl rfl (w_q_offu rfl rfl rfl rfl (w_q_offu rfl rfl rfl rfl (w_q_offu rfl rfl rfl rfl (w_q_offu rfl rfl rfl rfl ?_)))))
    refine w_c rfl (s_offu rfl rfl rfl (w_q_offu rfl rfl rfl rfl (w_q_offu rfl rfl rfl rfl (w_q_off rfl rfl rfl rfl rfl (w_q rfl (fun h' L' hh hR => ov_pick_f rfl rfl) rfl (w_nil (gq_keep (e' := [(95, _)]) ⟨rfl, trivial⟩ (gq_then (gc_cond_f rfl (gc_skip (gq_then (gc_seq (gc_region ?_)))))))))))))
    refine gl_call (vs := []) rfl rfl rfl rfl Try.call8 trivial (fun w hs => law25_sane hs) ?_
    intro v96 h10 hh10 hr96
    subst hr96
    refine asg rfl rfl (gl_nil (gq_then (gc_ret (gq_body1 rfl rfl ?_))))
    rfl

end Go.Proofs.Ytfpjclgbieppeaa
