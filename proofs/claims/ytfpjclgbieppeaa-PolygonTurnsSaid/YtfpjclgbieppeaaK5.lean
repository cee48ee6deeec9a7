/- Texts that the proof needs, part 5. -/
import Derived.Test.YtfpjclgbieppeaaK4


namespace Go.Proofs.Ytfpjclgbieppeaa
open Bk Go
set_option linter.unusedVariables false
set_option linter.unusedSimpArgs false
set_option maxRecDepth 10000

theorem own_rat {w0 : World} {h0 : Mem}  (hs : MLe h0 (mem w0)) {qa : Rat} {vna vda : Value} (hna : Us .u32 h0 vna (limbs qa.num.natAbs)) (hda : Us .u32 h0 vda (limbs (denN qa.den))) (hqa : lq qa ≤ 100000000000) :
    Calls Try.prog 61 #[.agg #[vB (qa.num < 0), vna, vda]] w0 (Ret w0 h0 (fun h r => IsRat h r qa)) := by
 have hlna := lq_num qa
 have hlda := lq_den qa
 have hlDa := lq_denL qa
 refine calls_begin (n := 12) (e := [(0, .agg #[vB (qa.num < 0), vna, vda])]) (vs := [.agg #[vB (qa.num < 0), vna, vda]]) Try.func61 rfl rfl (Nat.le_of_ble_eq_true rfl) hs ⟨rfl, trivial⟩ (gc_seq (gc_region (gl_newop (new_box (cs := [_, _, _]) rfl rfl) rfl rfl rfl ?_)))
 intro v1 r1 hr1
 obtain ⟨b1, rfl, rfl⟩ := hr1
 refine gl_newop (new_alloc (cs := [vB ((0 : Rat).num < 0), .slice none 0 0, .slice none 0 0]) info29 rfl (by simp only [zb]; rfl)) rfl rfl rfl ?_
 intro v2 r2 hr2
 obtain ⟨b2, rfl, rfl⟩ := hr2
 refine gl_nil (gq_then (gc_seq ?_))
 refine gc_draw 9 _ [] [(0, .q), (1, .q), (2, .q), (3, .q), (5, .q), (6, .q), (4, .c), (7, .c), (8, .c), (9, .t)] mixed (fun x hx => by cases hx) (by kernel_rfl) (fun x hx => by cases hx) (fun r hr => hr) (w_q rfl (fun h' L' hh hR => ov_field_addr Try.underlying29 rfl Try.sizeOf4 rfl) rfl (w_q rfl (fun h' L' hh hR => ov_load_var (hR _ (.tail _ (.head _))) Try.isAgg4 rfl rfl) rfl (w_q rfl (fun h' L' hh hR => ov_field_addr Try.underlying29 rfl Try.sizeOf27 rfl) rfl (w_q rfl (fun h' L' hh hR => ov_load_var (hR _ (.tail _ (.head _))) Try.isAgg27 rfl rfl) rfl (w_q rfl (fun h' L' hh hR => ov_field_addr Try.underlying29 rfl Try.sizeOf27 rfl) rfl (w_q rfl (fun h' L' hh hR => ov_load_var (hR _ (.tail _ (.head _))) Try.isAgg27 rfl rfl) rfl ?_))))))
 refine w_c rfl ?_
 refine s_call_own (vs := [_]) Try.call86 ⟨rfl, trivial⟩ (fun w hs => sl_clone hs hna (by omega)) rfl ?_
 intro v7 h1 L7 hh1 hr7
 obtain rfl := hr7
 refine w_c rfl ?_
 replace hda := hda.mono hh1
 refine s_call_own (vs := [_]) Try.call86 ⟨rfl, trivial⟩ (fun w hs => sl_clone hs hda (by omega)) rfl ?_
 intro v10 h2 L10 hh2 hr10
 obtain rfl := hr10
 refine w_c rfl ?_
 replace hna := hna.mono (hh1.trans hh2)
 refine s_freeze (A := [_]) (by exact hna.lt) (by simp only [List.mem_cons, List.not_mem_nil, or_false]; rintro r (rfl | rfl) _ <;> simp) ?_
 intro h3 hh3 hc1
 replace hda := hda.mono (hh2.trans hh3)
 refine s_freeze (A := []) (by exact hda.lt) (by simp only [List.mem_cons, List.not_mem_nil, or_false]; rintro r (rfl | rfl) _ <;> simp) ?_
 intro h4 hh4 hc2
 replace hc1 := hc1.mono hh4
 refine s_val (fun X => ov_build_parts (ps' := [(0, _), (1, _), (2, _)]) (vs := [vB (qa.num < 0), v7, v10]) Try.underlying29 info29 rfl (places29 Try.underlying29) ⟨rfl, rfl, rfl, rfl, rfl, rfl, trivial⟩ (fill_one (A := []) (B := [_]) (C := [_, _]) (cs := [_]) (off := 0) (size := 1) rfl rfl rfl rfl rfl (fill_one (A := [_]) (B := [_]) (C := [_]) (cs := [_]) (off := 1) (size := 1) rfl rfl rfl rfl hc1.cells (fill_one (A := [_, _]) (B := [_]) (C := []) (cs := [_]) (off := 2) (size := 1) rfl rfl rfl rfl hc2.cells fill_nil)))) rfl (w_t_upd (A := []) (q' := .var b2 29 [vB (qa.num < 0), v7, v10]) rfl (upd_store_var (k := 0) (cs := [_, _, _]) (vs := [_, _, _]) rfl rfl rfl (ocr rfl (ocu hc1 (ocu hc2 oc0))) size29 (Nat.le_of_ble_eq_true rfl)) rfl (w_nil (gq_keep (e' := [(2, _)]) ⟨rfl, trivial⟩ (gq_then (gc_ret (gq_res (fun E S => run_res1 rfl (rv_agg (cs := [_, _, _]) (.head _) Try.underlying29 rfl size29 rfl) E S) ?_))))))
 exact ⟨_, _, rfl, hc1, hc2⟩

theorem o_own_rat {w0 : World} {h0 : Mem} (hs : MLe h0 (mem w0)) {k : Nat} {va : Value} {a : Rat} (ra : (rpQ k).Is h0 va a) (hcd0 : k ≤ 10000000000)  :
    Calls Try.prog 61 #[va] w0 (Ret w0 h0 (fun h r => (rpQ k).Is h r a)) := by
  obtain ⟨vna, vda, rfl, hna, hda, hla⟩ := open_q ra
  exact (own_rat hs hna hda (by omega) ).mono (ret_imp fun h r x => is_q x (by omega))

theorem o_pl_axes {w0 : World} {h0 : Mem}  (hs : MLe h0 (mem w0)) {k : Nat} {vn : Value} {n : (T3 Rat)} (rn : (rpT (rpQ k)).Is h0 vn n) (hcd0 : k ≤ 1000000000)  :
    Calls Try.prog 56 #[vn] w0 (Ret w0 h0 (fun h r => r = .tuple #[vI (↑(axI n) : Int), vI (↑(axJ n) : Int)])) := by
 refine calls_begin (n := 29) (e := [(0, vn)]) (vs := [vn]) Try.func56 rfl rfl (Nat.le_of_ble_eq_true rfl) hs ⟨rfl, trivial⟩ (gc_seq (gc_region (gl_newop (new_boxx (ρ := (rpT (rpQ k))) rfl rn) rfl rfl rfl ?_)))
 intro v1 q1 hq1
 obtain ⟨b1, cs1, rfl, rfl, rb1⟩ := hq1
 refine asg (v := vI (0)) rfl rfl (asg (v := vI (0)) rfl rfl (gl_nil (gq_then (gc_seq (gc_seq (gc_region (asg (v := vI (2)) rfl rfl (gl_nil (gq_then (gc_block (gc_loop1 (gc_seq (gc_seq ?_)))))))))))))
 refine gc_region (mv rfl rfl (gv (OpV.tr (by decide) (ov_geq_i (q := 0) rfl rfl)) rfl (gl_nil (gq_then (gc_cond_t rfl (gc_skip (gq_then (gc_seq (gc_block (gc_seq (gc_region (mv rfl rfl (gv ((ov_add_i (q := 1) rfl rfl (by omega) (by omega)).cv (show _ = vI (3) from rfl)) rfl ?_)))))))))))))
 refine gv ((ov_rem_i (q := 3) rfl rfl (by omega) (by omega)).cv (show _ = vI (0) from rfl)) rfl (mv rfl rfl (gv ((ov_add_i (q := 2) rfl rfl (by omega) (by omega)).cv (show _ = vI (4) from rfl)) rfl (gv ((ov_rem_i (q := 3) rfl rfl (by omega) (by omega)).cv (show _ = vI (1) from rfl)) rfl (asg rfl rfl (asg rfl rfl (gl_nil (gq_keep (e' := [(1, _), (4, _), (5, _), (6, _)]) ⟨rfl, rfl, rfl, rfl, trivial⟩ (gq_then (gc_seq (gc_region (mv rfl rfl (gv ((ov_index_arr (sz := 3) 2 Try.underlying31 Try.sizeOf29 rfl rfl rfl (by decide)).cv (show _ = vP b1 6 from congrArg (vP b1) (by rfl))) rfl (gl_x (F := fun v_ => (rpQ k).Is h0 v_ n.z) (ox_load_box ty29 (Pc.tz (Pc.here _)) rfl rfl rb1 rfl) (mem1 (.head _)) rfl ?_)))))))))))))
 intro v19u1 r19u1
 refine gl_call (vs := [_]) rfl rfl rfl rfl Try.call79 ⟨rfl, trivial⟩ (fun w hs => o_rat_sign hs r19u1 (by omega)) ?_
 intro v20u1 h1 hh1 r20u1
 obtain rfl : v20u1 = vI (sgnQ n.z) := r20u1
 have hsr20u1 := sgnQ_range n.z
 refine gl_nil (gq_then (gc_block (gc_seq (gc_region (gv (ov_eql_i (q := 1) rfl rfl) rfl (asg rfl rfl (gl_nil (gq_then ?_))))))))
 refine gc_cond rfl (fun hc21 => ?_) (fun hc21 => ?_)
 ·
  refine gc_seq (gc_region (mv rfl rfl (mv rfl rfl (asg rfl rfl (asg rfl rfl (gl_nil (gq_keep (e' := [(2, _), (3, _)]) ⟨rfl, rfl, trivial⟩ (gq_then (gc_ret (gr_in (gr_in (gr_then (gr_then ?_)))))))))))))
  refine gr_in (gr_then (gq_body2 rfl rfl rfl ?_))
  have e1 : axI n = 0 := by unfold axI; simp only [sgn_one, sgn_mone] at *; grind
  have e2 : axJ n = 1 := by unfold axJ; simp only [sgn_one, sgn_mone] at *; grind
  rw [e1, e2]; rfl
 ·
  refine gc_seq (gc_region (gv (ov_eql_i (q := -1) rfl rfl) rfl (asg rfl rfl (gl_nil (gq_then ?_)))))
  refine gc_cond rfl (fun hc25 => ?_) (fun hc25 => ?_)
  ·
   refine gc_keep (e' := [(5, _), (6, _)]) ⟨rfl, rfl, trivial⟩ (gc_seq (gc_region (mv rfl rfl (mv rfl rfl (asg rfl rfl (asg rfl rfl (gl_nil (gq_then (gc_ret (gr_in (gr_in (gr_then (gr_then ?_)))))))))))))
   refine gr_in (gr_then (gq_body2 rfl rfl rfl ?_))
   have e1 : axI n = 1 := by unfold axI; simp only [sgn_one, sgn_mone] at *; grind
   have e2 : axJ n = 0 := by unfold axJ; simp only [sgn_one, sgn_mone] at *; grind
   rw [e1, e2]; rfl
  ·
   refine gc_keep (e' := [(1, _), (4, _)]) ⟨rfl, rfl, trivial⟩ (gc_skip (gq_in (gq_in (gq_then (gc_region (mv rfl rfl (gv ((ov_sub_i (q := 1) rfl rfl (by omega) (by omega)).cv (show _ = vI (1) from rfl)) rfl (asg rfl rfl (gl_nil (gq_loop1 (gc_seq (gc_seq (gc_region ?_)))))))))))))
   refine mv rfl rfl (gv (OpV.tr (by decide) (ov_geq_i (q := 0) rfl rfl)) rfl (gl_nil (gq_then (gc_cond_t rfl (gc_skip (gq_then (gc_seq (gc_block (gc_seq (gc_region (mv rfl rfl (gv ((ov_add_i (q := 1) rfl rfl (by omega) (by omega)).cv (show _ = vI (2) from rfl)) rfl (gv ((ov_rem_i (q := 3) rfl rfl (by omega) (by omega)).cv (show _ = vI (2) from rfl)) rfl ?_)))))))))))))
   refine mv rfl rfl (gv ((ov_add_i (q := 2) rfl rfl (by omega) (by omega)).cv (show _ = vI (3) from rfl)) rfl (gv ((ov_rem_i (q := 3) rfl rfl (by omega) (by omega)).cv (show _ = vI (0) from rfl)) rfl (asg rfl rfl (asg rfl rfl (gl_nil (gq_keep (e' := [(1, _), (4, _), (5, _), (6, _)]) ⟨rfl, rfl, rfl, rfl, trivial⟩ (gq_then (gc_seq (gc_region (mv rfl rfl (gv ((ov_index_arr (sz := 3) 1 Try.underlying31 Try.sizeOf29 rfl rfl rfl (by decide)).cv (show _ = vP b1 3 from congrArg (vP b1) (by rfl))) rfl ?_)))))))))))
   replace rb1 := rb1.mono hh1
   refine gl_x (F := fun v_ => (rpQ k).Is h1 v_ n.y) (ox_load_box ty29 (Pc.ty (Pc.here _)) rfl rfl rb1 rfl) (mem1 (.head _)) rfl ?_
   intro v19u2 r19u2
   refine gl_call (vs := [_]) rfl rfl rfl rfl Try.call79 ⟨rfl, trivial⟩ (fun w hs => o_rat_sign hs r19u2 (by omega)) ?_
   intro v20u2 h2 hh2 r20u2
   obtain rfl : v20u2 = vI (sgnQ n.y) := r20u2
   have hsr20u2 := sgnQ_range n.y
   refine gl_nil (gq_then (gc_block (gc_seq (gc_region (gv (ov_eql_i (q := 1) rfl rfl) rfl (asg rfl rfl (gl_nil (gq_then ?_))))))))
   refine gc_cond rfl (fun hc21 => ?_) (fun hc21 => ?_)
   ·
    refine gc_seq (gc_region (mv rfl rfl (mv rfl rfl (asg rfl rfl (asg rfl rfl (gl_nil (gq_keep (e' := [(2, _), (3, _)]) ⟨rfl, rfl, trivial⟩ (gq_then (gc_ret (gr_in (gr_in (gr_then (gr_then ?_)))))))))))))
    refine gr_in (gr_then (gq_body2 rfl rfl rfl ?_))
    have e1 : axI n = 2 := by unfold axI; simp only [sgn_one, sgn_mone] at *; grind
    have e2 : axJ n = 0 := by unfold axJ; simp only [sgn_one, sgn_mone] at *; grind
    rw [e1, e2]; rfl
   ·
    refine gc_seq (gc_region (gv (ov_eql_i (q := -1) rfl rfl) rfl (asg rfl rfl (gl_nil (gq_then ?_)))))
    refine gc_cond rfl (fun hc25 => ?_) (fun hc25 => ?_)
    ·
     refine gc_keep (e' := [(5, _), (6, _)]) ⟨rfl, rfl, trivial⟩ (gc_seq (gc_region (mv rfl rfl (mv rfl rfl (asg rfl rfl (asg rfl rfl (gl_nil (gq_then (gc_ret (gr_in (gr_in (gr_then (gr_then ?_)))))))))))))
     refine gr_in (gr_then (gq_body2 rfl rfl rfl ?_))
     have e1 : axI n = 0 := by unfold axI; simp only [sgn_one, sgn_mone] at *; grind
     have e2 : axJ n = 2 := by unfold axJ; simp only [sgn_one, sgn_mone] at *; grind
     rw [e1, e2]; rfl
    ·
     refine gc_keep (e' := [(1, _), (4, _)]) ⟨rfl, rfl, trivial⟩ (gc_skip (gq_in (gq_in (gq_then (gc_region (mv rfl rfl (gv ((ov_sub_i (q := 1) rfl rfl (by omega) (by omega)).cv (show _ = vI (0) from rfl)) rfl (asg rfl rfl (gl_nil (gq_loop1 (gc_seq (gc_seq (gc_region ?_)))))))))))))
     refine mv rfl rfl (gv (OpV.tr (by decide) (ov_geq_i (q := 0) rfl rfl)) rfl (gl_nil (gq_then (gc_cond_t rfl (gc_skip (gq_then (gc_seq (gc_block (gc_seq (gc_region (mv rfl rfl (gv ((ov_add_i (q := 1) rfl rfl (by omega) (by omega)).cv (show _ = vI (1) from rfl)) rfl (gv ((ov_rem_i (q := 3) rfl rfl (by omega) (by omega)).cv (show _ = vI (1) from rfl)) rfl ?_)))))))))))))
     refine mv rfl rfl (gv ((ov_add_i (q := 2) rfl rfl (by omega) (by omega)).cv (show _ = vI (2) from rfl)) rfl (gv ((ov_rem_i (q := 3) rfl rfl (by omega) (by omega)).cv (show _ = vI (2) from rfl)) rfl (asg rfl rfl (asg rfl rfl (gl_nil (gq_keep (e' := [(1, _), (4, _), (5, _), (6, _)]) ⟨rfl, rfl, rfl, rfl, trivial⟩ (gq_then (gc_seq (gc_region (mv rfl rfl (gv ((ov_index_arr (sz := 3) 0 Try.underlying31 Try.sizeOf29 rfl rfl rfl (by decide)).cv (show _ = vP b1 0 from congrArg (vP b1) (by rfl))) rfl ?_)))))))))))
     replace rb1 := rb1.mono hh2
     refine gl_x (F := fun v_ => (rpQ k).Is h2 v_ n.x) (ox_load_box ty29 (Pc.tx (Pc.here _)) rfl rfl rb1 rfl) (mem1 (.head _)) rfl ?_
     intro v19u3 r19u3
     refine gl_call (vs := [_]) rfl rfl rfl rfl Try.call79 ⟨rfl, trivial⟩ (fun w hs => o_rat_sign hs r19u3 (by omega)) ?_
     intro v20u3 h3 hh3 r20u3
     obtain rfl : v20u3 = vI (sgnQ n.x) := r20u3
     have hsr20u3 := sgnQ_range n.x
     refine gl_nil (gq_then (gc_block (gc_seq (gc_region (gv (ov_eql_i (q := 1) rfl rfl) rfl (asg rfl rfl (gl_nil (gq_then ?_))))))))
     refine gc_cond rfl (fun hc21 => ?_) (fun hc21 => ?_)
     ·
      refine gc_seq (gc_region (mv rfl rfl (mv rfl rfl (asg rfl rfl (asg rfl rfl (gl_nil (gq_keep (e' := [(2, _), (3, _)]) ⟨rfl, rfl, trivial⟩ (gq_then (gc_ret (gr_in (gr_in (gr_then (gr_then ?_)))))))))))))
      refine gr_in (gr_then (gq_body2 rfl rfl rfl ?_))
      have e1 : axI n = 1 := by unfold axI; simp only [sgn_one, sgn_mone] at *; grind
      have e2 : axJ n = 2 := by unfold axJ; simp only [sgn_one, sgn_mone] at *; grind
      rw [e1, e2]; rfl
     ·
      refine gc_seq (gc_region (gv (ov_eql_i (q := -1) rfl rfl) rfl (asg rfl rfl (gl_nil (gq_then ?_)))))
      refine gc_cond rfl (fun hc25 => ?_) (fun hc25 => ?_)
      ·
       refine gc_keep (e' := [(5, _), (6, _)]) ⟨rfl, rfl, trivial⟩ (gc_seq (gc_region (mv rfl rfl (mv rfl rfl (asg rfl rfl (asg rfl rfl (gl_nil (gq_then (gc_ret (gr_in (gr_in (gr_then (gr_then ?_)))))))))))))
       refine gr_in (gr_then (gq_body2 rfl rfl rfl ?_))
       have e1 : axI n = 2 := by unfold axI; simp only [sgn_one, sgn_mone] at *; grind
       have e2 : axJ n = 1 := by unfold axJ; simp only [sgn_one, sgn_mone] at *; grind
       rw [e1, e2]; rfl
      ·
       refine gc_keep (e' := [(1, _), (4, _)]) ⟨rfl, rfl, trivial⟩ (gc_skip (gq_in (gq_in (gq_then (gc_region (mv rfl rfl (gv ((ov_sub_i (q := 1) rfl rfl (by omega) (by omega)).cv (show _ = vI (-1) from rfl)) rfl (asg rfl rfl (gl_nil (gq_loop1 (gc_seq (gc_seq (gc_region ?_)))))))))))))
       refine mv rfl rfl (gv (OpV.fa (by decide) (ov_geq_i (q := 0) rfl rfl)) rfl (gl_nil (gq_then (gc_cond_f rfl (gc_exit (gx_then (gx_then (gx_here (gq_then (gc_seq (gc_region (asg (v := vI (1)) rfl rfl (asg (v := vI (2)) rfl rfl ?_)))))))))))))
       refine gl_nil (gq_then (gc_ret (gq_body2 rfl rfl rfl ?_)))
       have e1 : axI n = 1 := by unfold axI; simp only [sgn_one, sgn_mone] at *; grind
       have e2 : axJ n = 2 := by unfold axJ; simp only [sgn_one, sgn_mone] at *; grind
       rw [e1, e2]; rfl

theorem o_pg_flatten {w0 : World} {h0 : Mem}  (hs : MLe h0 (mem w0)) {m l k : Nat} {vs : Value} {s : ((T3 Rat) × Rat)} (rs : (rpP (rpT (rpQ m)) (rpQ l)).Is h0 vs s) {vp : Value} {p : (T3 Rat)} (rp : (rpT (rpQ k)).Is h0 vp p) (hcd0 : k ≤ 1000000000) (hcd1 : m ≤ 1000000000)  :
    Calls Try.prog 28 #[vs, vp] w0 (Ret w0 h0 (fun h r => (rpT (rpQ (k + 1))).Is h r (flatZ s p))) := by
 have hax := ax_sum s.1
 refine calls_begin (n := 23) (e := [(0, vs), (1, vp)]) (vs := [vs, vp]) Try.func28 rfl rfl (Nat.le_of_ble_eq_true rfl) hs ⟨rfl, rfl, trivial⟩ (gc_seq (gc_region (gl_newop (new_boxx (ρ := (rpP (rpT (rpQ m)) (rpQ l))) rfl rs) rfl rfl rfl ?_)))
 intro v2 q2 hq2
 obtain ⟨b2, cs2, rfl, rfl, rb2⟩ := hq2
 refine gl_newop (new_boxx (ρ := (rpT (rpQ k))) rfl rp) rfl rfl rfl ?_
 intro v3 q3 hq3
 obtain ⟨b3, cs3, rfl, rfl, rb3⟩ := hq3
 refine gl_newop (new_allocx (ρ := (rpT (rpQ (k + 1)))) (X := (T3.mk (0 : Rat) (0 : Rat) (0 : Rat))) info31 rfl rfl (zr_t (zr_q (by omega)))) rfl rfl rfl ?_
 intro v4 q4 hq4
 obtain ⟨b4, cs4, rfl, rfl, rb4⟩ := hq4
 refine gl_nil (gq_then (gc_seq (gc_region (gv ((ov_field_addr Try.underlying46 rfl Try.sizeOf31 rfl).cv (show _ = vP b2 0 from congrArg (vP b2) (by rfl))) rfl (gl_x (F := fun v_ => (rpT (rpQ m)).Is h0 v_ s.1) (ox_load_box ty31 (Pc.fst (Pc.here _)) rfl rfl rb2 rfl) (mem1 (.tail _ (.tail _ (.head _)))) rfl ?_)))))
 intro v9 r9
 refine gl_call (vs := [_]) rfl rfl rfl rfl Try.call56 ⟨rfl, trivial⟩ (fun w hs => o_pl_axes hs r9 (by omega)) ?_
 intro v10 h1 hh1 r10
 obtain rfl := r10
 refine mv rfl rfl (gv (ov_extract (vs := [_, _]) rfl rfl) rfl (gv (ov_extract (vs := [_, _]) rfl rfl) rfl (asg rfl rfl (asg rfl rfl (gl_nil (gq_then (gc_seq ?_)))))))
 refine gc_draw 10 _ [] [(0, .q), (1, .q), (2, .q), (4, .q), (5, .q), (6, .q), (8, .q), (3, .c), (7, .c), (9, .q), (10, .t)] mixed (fun x hx => by cases hx) (by kernel_rfl) (fun x hx => by cases hx) (fun r hr => hr) (w_q rfl (fun h' L' hh hR => ov_move rfl) rfl (w_q rfl (fun h' L' hh hR => (ov_index_arr (sz := 3) (axI s.1) Try.underlying31 Try.sizeOf29 rfl rfl (by rfl) (by exact axI_lt _)).cv (show _ = vP b3 (((axI s.1) * 3 + 0)) from congrArg (vP b3) (by omega))) rfl ?_))
 replace rb3 := rb3.mono hh1
 refine w_qx (F := fun v_ => (rpQ k).Is h1 v_ (p.at (axI s.1))) rfl (ox_load_box ty29 (Pc.ta (Pc.here _) (axI s.1) (by exact axI_lt _)) rfl rfl rb3 rfl) (mem1 (.tail _ (.head _))) rfl ?_
 intro v15 r15
 refine w_q rfl (fun h' L' hh hR => ov_move rfl) rfl (w_q rfl (fun h' L' hh hR => (ov_index_arr (sz := 3) (axJ s.1) Try.underlying31 Try.sizeOf29 rfl rfl (by rfl) (by exact axJ_lt _)).cv (show _ = vP b3 (((axJ s.1) * 3 + 0)) from congrArg (vP b3) (by omega))) rfl (w_qx (F := fun v_ => (rpQ k).Is h1 v_ (p.at (axJ s.1))) rfl (ox_load_box ty29 (Pc.ta (Pc.here _) (axJ s.1) (by exact axJ_lt _)) rfl rfl rb3 rfl) (mem1 (.tail _ (.head _))) rfl ?_))
 intro v19 r19
 refine w_qx (F := fun v_ => (rpQ 1).Is h1 v_ (0 : Rat)) rfl (ox_build (ps' := []) Try.underlying29 info29 rfl rfl (places29 Try.underlying29) trivial rfl (zr_q (by decide)) fx_nil) mem0 rfl ?_
 intro v21 r21
 refine w_c rfl ?_
 refine s_call (vs := [_]) Try.call61 ⟨rfl, trivial⟩ (fun w hs => o_own_rat hs r15 (by omega)) rfl ?_
 intro v16 h2 hh2 r16
 change (rpQ k).Is h2 v16 (p.at (axI s.1)) at r16
 refine w_c rfl ?_
 replace r19 := r19.mono hh2
 refine s_call (vs := [_]) Try.call61 ⟨rfl, trivial⟩ (fun w hs => o_own_rat hs r19 (by omega)) rfl ?_
 intro v20 h3 hh3 r20
 change (rpQ k).Is h3 v20 (p.at (axJ s.1)) at r20
 replace r21 := r21.mono (hh2.trans hh3)
 replace r16 := r16.mono hh3
 refine w_qx (F := fun v_ => (rpT (rpQ (k + 1))).Is h3 v_ (T3.mk (p.at (axI s.1)) (p.at (axJ s.1)) (0 : Rat))) rfl (ox_build_arr (ps' := [(0, _), (1, _), (2, _)]) Try.underlying31 info31 rfl rfl Try.sizeOf29 ⟨rfl, rfl, rfl, rfl, rfl, rfl, trivial⟩ rfl (zr_t (zr_q (by omega))) (fx_one rfl (Pc.tx (Pc.here _)) (r16.le (Le.q (l := k + 1) (by omega))) (fx_one rfl (Pc.ty (Pc.here _)) (r20.le (Le.q (l := k + 1) (by omega))) (fx_one rfl (Pc.tz (Pc.here _)) (r21.le (Le.q (l := k + 1) (by omega))) fx_nil)))) mem0 rfl ?_
 intro v22 r22
 replace rb4 := rb4.mono ((hh1.trans hh2).trans hh3)
 refine w_tx_upd (A := []) (F := fun c_ => (rpT (rpQ (k + 1))).R h3 c_ (T3.mk (p.at (axI s.1)) (p.at (axJ s.1)) (0 : Rat))) rfl (upd_box Try.sizeOf31 (Pc.here _) rfl rfl rfl rb4 r22 rfl) ?_
 intro cs_1 rb_2
 refine w_nil (gq_keep (e' := [(4, _)]) ⟨rfl, trivial⟩ (gq_then (gc_ret (gq_exv (rv_o (t := 4) ty31 (.head _) rfl rb_2) ?_))))
 intro w_3 hvw_3 rr_4
 refine gq_res (fun E S => run_res1 rfl hvw_3 E S) ?_
 exact rr_4

theorem o_pg_lift {w0 : World} {h0 : Mem}  (hs : MLe h0 (mem w0)) {m l k : Nat} {vs : Value} {s : ((T3 Rat) × Rat)} (rs : (rpP (rpT (rpQ m)) (rpQ l)).Is h0 vs s) {vq : Value} {q : (T3 Rat)} (rq : (rpT (rpQ k)).Is h0 vq q) (hcd0 : k ≤ 1000000000) (hcd1 : l ≤ 1000000000) (hcd2 : m ≤ 1000000000)  :
    Calls Try.prog 27 #[vs, vq] w0 (Ret w0 h0 (fun h r => ∃ u0, r = .tuple #[u0, vB (¬ s.1.at (axK s.1) = 0)] ∧ (rpT (rpQ (4 * k + l + 4 * m + 9))).Is h u0 (liftZ s q))) := by
 have hax := ax_sum s.1
 refine calls_begin (n := 67) (e := [(0, vs), (1, vq)]) (vs := [vs, vq]) Try.func27 rfl rfl (Nat.le_of_ble_eq_true rfl) hs ⟨rfl, rfl, trivial⟩ (gc_seq (gc_region (gl_newop (new_boxx (ρ := (rpP (rpT (rpQ m)) (rpQ l))) rfl rs) rfl rfl rfl ?_)))
 intro v2 q2 hq2
 obtain ⟨b2, cs2, rfl, rfl, rb2⟩ := hq2
 refine gl_newop (new_boxx (ρ := (rpT (rpQ k))) rfl rq) rfl rfl rfl ?_
 intro v3 q3 hq3
 obtain ⟨b3, cs3, rfl, rfl, rb3⟩ := hq3
 refine gl_newop (new_allocx (ρ := (rpT (rpQ (4 * k + l + 4 * m + 9)))) (X := (T3.mk (0 : Rat) (0 : Rat) (0 : Rat))) info31 rfl rfl (zr_t (zr_q (by omega)))) rfl rfl rfl ?_
 intro v4 q4 hq4
 obtain ⟨b4, cs4, rfl, rfl, rb4⟩ := hq4
 refine asg rfl rfl (gl_nil (gq_then (gc_seq (gc_region (gv ((ov_field_addr Try.underlying46 rfl Try.sizeOf31 rfl).cv (show _ = vP b2 0 from congrArg (vP b2) (by rfl))) rfl (gl_x (F := fun v_ => (rpT (rpQ m)).Is h0 v_ s.1) (ox_load_box ty31 (Pc.fst (Pc.here _)) rfl rfl rb2 rfl) (mem1 (.tail _ (.tail _ (.head _)))) rfl ?_))))))
 intro v15 r15
 refine gl_call (vs := [_]) rfl rfl rfl rfl Try.call56 ⟨rfl, trivial⟩ (fun w hs => o_pl_axes hs r15 (by omega)) ?_
 intro v16 h1 hh1 r16
 obtain rfl := r16
 refine mv rfl rfl (gv (ov_extract (vs := [_, _]) rfl rfl) rfl (gv (ov_extract (vs := [_, _]) rfl rfl) rfl (asg rfl rfl (asg rfl rfl (gl_nil (gq_then (gc_seq (gc_region (mv rfl rfl (gv (ov_sub_i (p := 3) rfl rfl (by omega) (by omega)) rfl (mv rfl rfl (gv (ov_sub_i rfl rfl (by omega) (by omega)) rfl (asg rfl rfl ?_)))))))))))))
 refine gl_nil (gq_keep (e' := [(2, _), (3, _), (4, _), (6, _), (7, _), (8, _)]) ⟨rfl, rfl, rfl, rfl, rfl, rfl, trivial⟩ (gq_then (gc_seq ?_)))
 refine gc_draw 19 _ [(18, (9, 29, [.bool false, .slice none 0 0, .slice none 0 0]))] [(0, .q), (1, .q), (2, .q), (3, .q), (4, .q), (5, .q), (6, .q), (7, .q), (9, .q), (10, .q), (11, .q), (12, .q), (13, .q), (14, .q), (8, .c), (15, .c), (16, .c), (17, .c), (18, .a), (19, .t)] mixed (AlOk.cons rfl (zero_run info29 rfl rfl) AlOk.nil) (chk_of [0, 1, 0, 0, 12, 16, 0, 64, 160, 0, 0, 1536, 2048, 0, 8192, 20736, 33024, 65538, 0, 524287] [1048575, 1048574, 1048575, 1048575, 1048563, 1048559, 1048575, 1048511, 1048415, 1048575, 1048575, 1047039, 1046527, 1048575, 1040383, 1028095, 1015551, 983037, 1048575, 655359] (by kernel_rfl)) (hae_cons rfl rfl hae_nil) (fun r hr => hr) (w_q rfl (fun h' L' hh hR => (ov_field_addr Try.underlying46 rfl Try.sizeOf29 rfl).cv (show _ = vP b2 9 from congrArg (vP b2) (by rfl))) rfl ?_)
 replace rb2 := rb2.mono hh1
 refine w_qx (F := fun v_ => (rpQ l).Is h1 v_ s.2) rfl (ox_load_box ty29 (Pc.snd (Pc.here _)) rfl rfl rb2 rfl) (mem1 (.tail _ (.tail _ (.head _)))) rfl ?_
 intro v24 r24
 refine w_q rfl (fun h' L' hh hR => ov_move rfl) rfl (w_q rfl (fun h' L' hh hR => (ov_field_addr Try.underlying46 rfl Try.sizeOf31 rfl).cv (show _ = vP b2 0 from congrArg (vP b2) (by rfl))) rfl (w_q rfl (fun h' L' hh hR => (ov_index_arr (sz := 3) (axI s.1) Try.underlying31 Try.sizeOf29 rfl rfl (by rfl) (by exact axI_lt _)).cv (show _ = vP b2 (((axI s.1) * 3 + 0)) from congrArg (vP b2) (by omega))) rfl (w_qx (F := fun v_ => (rpQ m).Is h1 v_ (s.1.at (axI s.1))) rfl (ox_load_box ty29 (Pc.fst (Pc.ta (Pc.here _) (axI s.1) (by exact axI_lt _))) rfl rfl rb2 rfl) (mem1 (.tail _ (.tail _ (.head _)))) rfl ?_)))
 intro v28 r28
 refine w_q rfl (fun h' L' hh hR => (ov_index_arr (sz := 3) (q := 0) 0 Try.underlying31 Try.sizeOf29 rfl rfl rfl (by decide)).cv (show _ = vP b3 0 from congrArg (vP b3) (by rfl))) rfl ?_
 replace rb3 := rb3.mono hh1
 refine w_qx (F := fun v_ => (rpQ k).Is h1 v_ q.x) rfl (ox_load_box ty29 (Pc.tx (Pc.here _)) rfl rfl rb3 rfl) (mem1 (.tail _ (.head _))) rfl ?_
 intro v30 r30
 refine w_q rfl (fun h' L' hh hR => ov_move rfl) rfl (w_q rfl (fun h' L' hh hR => (ov_field_addr Try.underlying46 rfl Try.sizeOf31 rfl).cv (show _ = vP b2 0 from congrArg (vP b2) (by rfl))) rfl (w_q rfl (fun h' L' hh hR => (ov_index_arr (sz := 3) (axJ s.1) Try.underlying31 Try.sizeOf29 rfl rfl (by rfl) (by exact axJ_lt _)).cv (show _ = vP b2 (((axJ s.1) * 3 + 0)) from congrArg (vP b2) (by omega))) rfl (w_qx (F := fun v_ => (rpQ m).Is h1 v_ (s.1.at (axJ s.1))) rfl (ox_load_box ty29 (Pc.fst (Pc.ta (Pc.here _) (axJ s.1) (by exact axJ_lt _))) rfl rfl rb2 rfl) (mem1 (.tail _ (.tail _ (.head _)))) rfl ?_)))
 intro v35 r35
 refine w_q rfl (fun h' L' hh hR => (ov_index_arr (sz := 3) (q := 1) 1 Try.underlying31 Try.sizeOf29 rfl rfl rfl (by decide)).cv (show _ = vP b3 3 from congrArg (vP b3) (by rfl))) rfl (w_qx (F := fun v_ => (rpQ k).Is h1 v_ q.y) rfl (ox_load_box ty29 (Pc.ty (Pc.here _)) rfl rfl rb3 rfl) (mem1 (.tail _ (.head _))) rfl ?_)
 intro v37 r37
 refine w_c rfl ?_
 refine s_call (vs := [_, _]) Try.call59 ⟨rfl, rfl, trivial⟩ (fun w hs => o_rat_mul hs r28 r30 (by omega)) rfl ?_
 intro v31 h2 hh2 r31
 change (rpQ (m + k)).Is h2 v31 ((s.1.at (axI s.1)) * q.x) at r31
 replace r31 := Rp.Is.le r31 (Le.q (l := k + m) (by omega))
 refine w_c rfl ?_
 replace r35 := r35.mono hh2
 replace r37 := r37.mono hh2
 refine s_call (vs := [_, _]) Try.call59 ⟨rfl, rfl, trivial⟩ (fun w hs => o_rat_mul hs r35 r37 (by omega)) rfl ?_
 intro v38 h3 hh3 r38
 change (rpQ (m + k)).Is h3 v38 ((s.1.at (axJ s.1)) * q.y) at r38
 replace r38 := Rp.Is.le r38 (Le.q (l := k + m) (by omega))
 refine w_c rfl ?_
 replace r31 := r31.mono hh3
 refine s_call (vs := [_, _]) Try.call58 ⟨rfl, rfl, trivial⟩ (fun w hs => o_rat_add hs r31 r38 (by omega)) rfl ?_
 intro v39 h4 hh4 r39
 change (rpQ ((k + m) + (k + m) + 1)).Is h4 v39 (((s.1.at (axI s.1)) * q.x) + ((s.1.at (axJ s.1)) * q.y)) at r39
 replace r39 := Rp.Is.le r39 (Le.q (l := 2 * k + 2 * m + 1) (by omega))
 refine w_c rfl ?_
 replace r24 := r24.mono ((hh2.trans hh3).trans hh4)
 refine s_call (vs := [_, _]) Try.call57 ⟨rfl, rfl, trivial⟩ (fun w hs => o_rat_sub hs r24 r39 (by omega)) rfl ?_
 intro v40 h5 hh5 r40
 change (rpQ (l + (2 * k + 2 * m + 1) + 1)).Is h5 v40 (s.2 - (((s.1.at (axI s.1)) * q.x) + ((s.1.at (axJ s.1)) * q.y))) at r40
 replace r40 := Rp.Is.le r40 (Le.q (l := 2 * k + l + 2 * m + 2) (by omega))
 refine w_a rfl (fun b9 => ?_)
 have rb9 : (rpQ (2 * k + l + 2 * m + 9)).R h5 [.bool false, .slice none 0 0, .slice none 0 0] (0 : Rat) := (zr_q (by omega))
 refine w_tx_upd (A := []) (F := fun c_ => (rpQ (2 * k + l + 2 * m + 9)).R h5 c_ (s.2 - (((s.1.at (axI s.1)) * q.x) + ((s.1.at (axJ s.1)) * q.y)))) rfl (upd_box Try.sizeOf29 (Pc.here _) rfl rfl rfl rb9 (r40.le (Le.q (l := 2 * k + l + 2 * m + 9) (by omega))) rfl) ?_
 intro cs_5 rb_6
 refine w_nil (gq_keep (e' := [(2, _), (3, _), (4, _), (6, _), (7, _), (8, _), (9, _)]) ⟨rfl, rfl, rfl, rfl, rfl, rfl, rfl, trivial⟩ (gq_then (gc_seq ?_)))
 refine gc_draw 12 _ [(9, (10, 29, [.bool false, .slice none 0 0, .slice none 0 0]))] [(0, .q), (1, .q), (2, .q), (3, .q), (4, .q), (5, .c), (6, .q), (7, .q), (8, .q), (9, .a), (10, .c), (11, .q)] mixed (AlOk.cons rfl (zero_run info29 rfl rfl) AlOk.nil) (chk_of [0, 0, 0, 6, 8, 17, 32, 64, 64, 0, 767, 2047] [4095, 4095, 4095, 4089, 4087, 4078, 4063, 4031, 4031, 4095, 3455, 3839] (by kernel_rfl)) (hae_cons rfl rfl hae_nil) (fun r hr => hr) (w_qx (F := fun v_ => (rpQ (2 * k + l + 2 * m + 9)).Is h5 v_ (s.2 - (((s.1.at (axI s.1)) * q.x) + ((s.1.at (axJ s.1)) * q.y)))) rfl (ox_load_box ty29 (Pc.here _) rfl rfl rb_6 rfl) (mem1 (.head _)) rfl ?_)
 intro v42 r42
 refine w_q rfl (fun h' L' hh hR => ov_move rfl) rfl (w_q rfl (fun h' L' hh hR => (ov_field_addr Try.underlying46 rfl Try.sizeOf31 rfl).cv (show _ = vP b2 0 from congrArg (vP b2) (by rfl))) rfl (w_q rfl (fun h' L' hh hR => (ov_index_arr (sz := 3) (axK s.1) Try.underlying31 Try.sizeOf29 rfl rfl (by omega) (by exact axK_lt _)).cv (show _ = vP b2 (((axK s.1) * 3 + 0)) from congrArg (vP b2) (by omega))) rfl ?_))
 replace rb2 := rb2.mono (((hh2.trans hh3).trans hh4).trans hh5)
 refine w_qx (F := fun v_ => (rpQ m).Is h5 v_ (s.1.at (axK s.1))) rfl (ox_load_box ty29 (Pc.fst (Pc.ta (Pc.here _) (axK s.1) (by exact axK_lt _))) rfl rfl rb2 rfl) (mem1 (.tail _ (.tail _ (.tail _ (.head _))))) rfl ?_
 intro v46 r46
 refine w_c rfl ?_
 refine s_call (vs := [_, _]) Try.call60 ⟨rfl, rfl, trivial⟩ (fun w hs => o_rat_quo hs r42 r46 (by omega)) rfl ?_
 intro v47 h6 hh6 r47
 obtain ⟨v47_0, rfl, r47_0⟩ := r47
 change (rpQ ((2 * k + l + 2 * m + 9) + m)).Is h6 v47_0 (if (s.1.at (axK s.1)) = 0 then 0 else (s.2 - (((s.1.at (axI s.1)) * q.x) + ((s.1.at (axJ s.1)) * q.y))) / (s.1.at (axK s.1))) at r47_0
 replace r47_0 := Rp.Is.le r47_0 (Le.q (l := 2 * k + l + 3 * m + 9) (by omega))
 refine w_q rfl (fun h' L' hh hR => ov_move rfl) rfl (w_q rfl (fun h' L' hh hR => ov_extract (vs := [_, _]) rfl rfl) rfl (w_q rfl (fun h' L' hh hR => ov_extract (vs := [_, _]) rfl rfl) rfl ?_))
 refine w_a rfl (fun b10 => ?_)
 have rb10 : (rpQ (4 * k + l + 4 * m + 9)).R h6 [.bool false, .slice none 0 0, .slice none 0 0] (0 : Rat) := (zr_q (by omega))
 refine w_c rfl (s_updx (A := []) (F := fun c_ => (rpQ (4 * k + l + 4 * m + 9)).R h6 c_ (if (s.1.at (axK s.1)) = 0 then 0 else (s.2 - (((s.1.at (axI s.1)) * q.x) + ((s.1.at (axJ s.1)) * q.y))) / (s.1.at (axK s.1)))) (upd_box Try.sizeOf29 (Pc.here _) rfl rfl rfl rb10 (r47_0.le (Le.q (l := 4 * k + l + 4 * m + 9) (by omega))) rfl) (mem_kept (by simp)) ?_)
 intro cs_7 rb_8
 refine w_q rfl (fun h' L' hh hR => ov_assign rfl) rfl (w_nil (gq_keep (e' := [(3, _), (4, _), (6, _), (7, _), (8, _), (10, _), (11, _)]) ⟨rfl, rfl, rfl, rfl, rfl, rfl, rfl, trivial⟩ (gq_then (gc_seq (gc_seq (gc_region (mv rfl rfl (gv (ov_neq_i (q := 0) rfl rfl) rfl (gl_nil (gq_then ?_))))))))))
 refine gc_cond rfl (fun hc51 => ?_) (fun hc51 => ?_)
 ·
  have hz : s.1.at (axK s.1) = 0 := by have h := hc51; grind
  refine gc_seq (gc_region (gl_x (F := fun v_ => (rpT (rpQ 1)).Is h6 v_ (T3.mk (0 : Rat) (0 : Rat) (0 : Rat))) (ox_build_arr (ps' := []) Try.underlying31 info31 rfl rfl Try.sizeOf29 trivial rfl (zr_t (zr_q (by decide))) fx_nil) mem0 rfl ?_))
  intro v52 r52
  replace rb4 := rb4.mono (((((hh1.trans hh2).trans hh3).trans hh4).trans hh5).trans hh6)
  refine gl_updx (A := [_, _]) (F := fun c_ => (rpT (rpQ (4 * k + l + 4 * m + 9))).R h6 c_ (T3.mk (0 : Rat) (0 : Rat) (0 : Rat))) (upd_box Try.sizeOf31 (Pc.here _) rfl rfl rfl rb4 (r52.le (Le.t (Le.q (l := 4 * k + l + 4 * m + 9) (by omega)))) rfl) ?_
  intro cs_9 rb_10
  refine asg rfl rfl (gl_nil (gq_then (gc_ret (gr_then (gq_exv (rv_o (t := 4) ty31 (.tail _ (.tail _ (.head _))) rfl rb_10) ?_)))))
  intro w_11 hvw_11 rr_12
  refine gq_res (fun E S => run_res2 rfl hvw_11 (rv_tmp rfl) E S) ?_
  refine ⟨_, ?_, (Rp.Is.cast rr_12 (by exact (if_pos hz).symm))⟩
  rw [vB_false (fun e => e hz)]
 ·
  have hz : ¬ s.1.at (axK s.1) = 0 := by have h := hc51; grind
  refine gc_skip (gq_then (gc_seq (gc_region (gl_newop (new_allocx (ρ := (rpT (rpQ (4 * k + l + 4 * m + 9)))) (X := (T3.mk (0 : Rat) (0 : Rat) (0 : Rat))) info31 rfl rfl (zr_t (zr_q (by omega)))) rfl rfl rfl ?_))))
  intro v12 q12 hq12
  obtain ⟨b12, cs12, rfl, rfl, rb12⟩ := hq12
  refine gl_nil (gq_then (gc_seq ?_))
  refine gc_draw1 (A := []) 16 [] [(0, .q), (1, .q), (2, .q), (3, .q), (4, .q), (6, .q), (7, .q), (9, .q), (5, .c), (10, .q), (8, .c), (11, .c), (12, .q), (13, .c), (14, .q), (15, .c)] mixed (fun x hx => by cases hx) (chk_of [0, 0, 0, 0, 8, 16, 0, 64, 160, 0, 57, 1337, 3579, 7675, 16383, 32767] [65535, 65535, 65535, 65535, 65527, 65519, 65535, 65471, 65407, 65535, 65534, 64479, 65533, 61183, 65531, 48639] (by kernel_rfl)) (fun x hx => by cases hx) (w_q rfl (fun h' L' hh hR => ov_move rfl) rfl (w_q rfl (fun h' L' hh hR => ov_move rfl) rfl (w_q rfl (fun h' L' hh hR => ov_move rfl) rfl (w_q rfl (fun h' L' hh hR => (ov_index_arr (sz := 3) (q := 0) 0 Try.underlying31 Try.sizeOf29 rfl rfl rfl (by decide)).cv (show _ = vP b3 0 from congrArg (vP b3) (by rfl))) rfl ?_))))
  replace rb3 := rb3.mono ((((hh2.trans hh3).trans hh4).trans hh5).trans hh6)
  refine w_qx (F := fun v_ => (rpQ k).Is h6 v_ q.x) rfl (ox_load_box ty29 (Pc.tx (Pc.here _)) rfl rfl rb3 rfl) (mem1 (.tail _ (.tail _ (.tail _ (.head _))))) rfl ?_
  intro v57 r57
  refine w_q rfl (fun h' L' hh hR => (ov_index_arr (sz := 3) (q := 1) 1 Try.underlying31 Try.sizeOf29 rfl rfl rfl (by decide)).cv (show _ = vP b3 3 from congrArg (vP b3) (by rfl))) rfl (w_qx (F := fun v_ => (rpQ k).Is h6 v_ q.y) rfl (ox_load_box ty29 (Pc.ty (Pc.here _)) rfl rfl rb3 rfl) (mem1 (.tail _ (.tail _ (.tail _ (.head _))))) rfl ?_)
  intro v60 r60
  refine w_qx (F := fun v_ => (rpQ (4 * k + l + 4 * m + 9)).Is h6 v_ (if (s.1.at (axK s.1)) = 0 then 0 else (s.2 - (((s.1.at (axI s.1)) * q.x) + ((s.1.at (axJ s.1)) * q.y))) / (s.1.at (axK s.1)))) rfl (ox_load_box ty29 (Pc.here _) rfl rfl rb_8 rfl) (mem1 (.head _)) rfl ?_
  intro v62 r62
  refine w_c rfl ?_
  refine s_call (vs := [_]) Try.call61 ⟨rfl, trivial⟩ (fun w hs => o_own_rat hs r57 (by omega)) rfl ?_
  intro v58 h7 hh7 r58
  change (rpQ k).Is h7 v58 q.x at r58
  refine w_q rfl (fun h' L' hh hR => (ov_index_arr (sz := 3) (axI s.1) Try.underlying31 Try.sizeOf29 rfl rfl (by rfl) (by exact axI_lt _)).cv (show _ = vP b12 (((axI s.1) * 3 + 0)) from congrArg (vP b12) (by omega))) rfl ?_
  refine w_c rfl ?_
  replace r60 := r60.mono hh7
  refine s_call (vs := [_]) Try.call61 ⟨rfl, trivial⟩ (fun w hs => o_own_rat hs r60 (by omega)) rfl ?_
  intro v61 h8 hh8 r61
  change (rpQ k).Is h8 v61 q.y at r61
  refine w_c rfl ?_
  replace rb12 := rb12.mono (hh7.trans hh8)
  replace r58 := r58.mono hh8
  refine s_updx (A := []) (F := fun c_ => (rpT (rpQ (4 * k + l + 4 * m + 9))).R h8 c_ ((T3.mk (0 : Rat) (0 : Rat) (0 : Rat)).set (axI s.1) q.x)) (upd_box Try.sizeOf29 (Pc.ta (Pc.here _) (axI s.1) (by exact axI_lt _)) rfl rfl rfl rb12 (r58.le (Le.q (l := 4 * k + l + 4 * m + 9) (by omega))) rfl) (mem_kept (by simp)) ?_
  intro cs_13 rb_14
  refine w_q rfl (fun h' L' hh hR => (ov_index_arr (sz := 3) (axJ s.1) Try.underlying31 Try.sizeOf29 rfl rfl (by rfl) (by exact axJ_lt _)).cv (show _ = vP b12 (((axJ s.1) * 3 + 0)) from congrArg (vP b12) (by omega))) rfl ?_
  refine w_c rfl (s_updx (A := []) (F := fun c_ => (rpT (rpQ (4 * k + l + 4 * m + 9))).R h8 c_ (((T3.mk (0 : Rat) (0 : Rat) (0 : Rat)).set (axI s.1) q.x).set (axJ s.1) q.y)) (upd_box Try.sizeOf29 (Pc.ta (Pc.here _) (axJ s.1) (by exact axJ_lt _)) rfl rfl rfl rb_14 (r61.le (Le.q (l := 4 * k + l + 4 * m + 9) (by omega))) rfl) (mem_kept (by simp)) ?_)
  intro cs_15 rb_16
  refine w_q rfl (fun h' L' hh hR => (ov_index_arr (sz := 3) (axK s.1) Try.underlying31 Try.sizeOf29 rfl rfl (by omega) (by exact axK_lt _)).cv (show _ = vP b12 (((axK s.1) * 3 + 0)) from congrArg (vP b12) (by omega))) rfl ?_
  refine w_c rfl ?_
  replace r62 := r62.mono (hh7.trans hh8)
  refine s_updx (A := []) (F := fun c_ => (rpT (rpQ (4 * k + l + 4 * m + 9))).R h8 c_ ((((T3.mk (0 : Rat) (0 : Rat) (0 : Rat)).set (axI s.1) q.x).set (axJ s.1) q.y).set (axK s.1) (if (s.1.at (axK s.1)) = 0 then 0 else (s.2 - (((s.1.at (axI s.1)) * q.x) + ((s.1.at (axJ s.1)) * q.y))) / (s.1.at (axK s.1))))) (upd_box Try.sizeOf29 (Pc.ta (Pc.here _) (axK s.1) (by exact axK_lt _)) rfl rfl rfl rb_16 r62 rfl) (mem_kept (by simp)) ?_
  intro cs_17 rb_18
  refine w_nil (gq_keep (e' := [(4, _), (12, _)]) ⟨rfl, rfl, trivial⟩ (gq_then (gc_seq (gc_region (gl_x (F := fun v_ => (rpT (rpQ (4 * k + l + 4 * m + 9))).Is h8 v_ ((((T3.mk (0 : Rat) (0 : Rat) (0 : Rat)).set (axI s.1) q.x).set (axJ s.1) q.y).set (axK s.1) (if (s.1.at (axK s.1)) = 0 then 0 else (s.2 - (((s.1.at (axI s.1)) * q.x) + ((s.1.at (axJ s.1)) * q.y))) / (s.1.at (axK s.1))))) (ox_load_box ty31 (Pc.here _) rfl rfl rb_18 rfl) (mem1 (.head _)) rfl ?_)))))
  intro v66 r66
  replace rb4 := rb4.mono (((((((hh1.trans hh2).trans hh3).trans hh4).trans hh5).trans hh6).trans hh7).trans hh8)
  refine gl_updx (A := [_, _, _]) (F := fun c_ => (rpT (rpQ (4 * k + l + 4 * m + 9))).R h8 c_ ((((T3.mk (0 : Rat) (0 : Rat) (0 : Rat)).set (axI s.1) q.x).set (axJ s.1) q.y).set (axK s.1) (if (s.1.at (axK s.1)) = 0 then 0 else (s.2 - (((s.1.at (axI s.1)) * q.x) + ((s.1.at (axJ s.1)) * q.y))) / (s.1.at (axK s.1))))) (upd_box Try.sizeOf31 (Pc.here _) rfl rfl rfl rb4 r66 rfl) ?_
  intro cs_19 rb_20
  refine asg rfl rfl (gl_nil (gq_then (gc_ret (gq_exv (rv_o (t := 4) ty31 (.tail _ (.tail _ (.tail _ (.head _)))) rfl rb_20) ?_))))
  intro w_21 hvw_21 rr_22
  refine gq_res (fun E S => run_res2 rfl hvw_21 (rv_tmp rfl) E S) ?_
  refine ⟨_, ?_, (Rp.Is.cast rr_22 (by exact (if_neg hz).symm))⟩
  rw [vB_true hz]

theorem o_r4_same {w0 : World} {h0 : Mem}  (hs : MLe h0 (mem w0)) {k l : Nat} {va : Value} {a : (T3 Rat)} (ra : (rpT (rpQ k)).Is h0 va a) {vb : Value} {b : (T3 Rat)} (rb : (rpT (rpQ l)).Is h0 vb b) (hcd0 : k + l ≤ 1000000000)  :
    Calls Try.prog 30 #[va, vb] w0 (Ret w0 h0 (fun _ r => r = vB (a = b))) := by
 refine calls_begin (n := 24) (e := [(0, va), (1, vb)]) (vs := [va, vb]) Try.func30 rfl rfl (Nat.le_of_ble_eq_true rfl) hs ⟨rfl, rfl, trivial⟩ (gc_seq (gc_region (gl_newop (new_boxx (ρ := (rpT (rpQ k))) rfl ra) rfl rfl rfl ?_)))
 intro v2 q2 hq2
 obtain ⟨b2, cs2, rfl, rfl, rb2⟩ := hq2
 refine gl_newop (new_boxx (ρ := (rpT (rpQ l))) rfl rb) rfl rfl rfl ?_
 intro v3 q3 hq3
 obtain ⟨b3, cs3, rfl, rfl, rb3⟩ := hq3
 refine asg rfl rfl (gl_nil (gq_then (gc_seq (gc_region (gv ((ov_index_arr (sz := 3) (q := 0) 0 Try.underlying31 Try.sizeOf29 rfl rfl rfl (by decide)).cv (show _ = vP b2 0 from congrArg (vP b2) (by rfl))) rfl (gl_x (F := fun v_ => (rpQ k).Is h0 v_ a.x) (ox_load_box ty29 (Pc.tx (Pc.here _)) rfl rfl rb2 rfl) (mem1 (.tail _ (.head _))) rfl ?_))))))
 intro v6 r6
 refine gv ((ov_index_arr (sz := 3) (q := 0) 0 Try.underlying31 Try.sizeOf29 rfl rfl rfl (by decide)).cv (show _ = vP b3 0 from congrArg (vP b3) (by rfl))) rfl (gl_x (F := fun v_ => (rpQ l).Is h0 v_ b.x) (ox_load_box ty29 (Pc.tx (Pc.here _)) rfl rfl rb3 rfl) (mem1 (.head _)) rfl ?_)
 intro v8 r8
 refine gl_call (vs := [_, _]) rfl rfl rfl rfl Try.call19 ⟨rfl, rfl, trivial⟩ (fun w hs => o_rref_same hs r6 r8 (by omega)) ?_
 intro v9 h1 hh1 r9
 obtain rfl : v9 = vB (a.x = b.x) := r9
 refine gl_cut (ι := Mem) 7 (fun m_ => MLe h1 m_) (fun _ => [(16, vB ((a.x = b.x) ∧ (a.y = b.y))), (2, vP b2 0), (3, vP b3 0)]) (fun _ => [.var b3 31 cs3, .var b2 31 cs2]) (fun m_ => m_) ?_ ?_
 ·
  refine gl_cases (a.x = b.x) (fun hg => ?_) (fun hg => ?_)
  ·
   refine gl_val (ov_move (v := .bool true) (congrArg some (vB_true hg))) rfl rfl rfl (gl_on rfl rfl rfl (gv ((ov_index_arr (sz := 3) (q := 1) 1 Try.underlying31 Try.sizeOf29 rfl rfl rfl (by decide)).cv (show _ = vP b2 3 from congrArg (vP b2) (by rfl))) rfl (gl_on rfl rfl rfl ?_)))
   replace rb2 := rb2.mono hh1
   refine gl_x (F := fun v_ => (rpQ k).Is h1 v_ a.y) (ox_load_box ty29 (Pc.ty (Pc.here _)) rfl rfl rb2 rfl) (mem1 (.tail _ (.head _))) rfl ?_
   intro v12 r12
   refine gl_on rfl rfl rfl (gv ((ov_index_arr (sz := 3) (q := 1) 1 Try.underlying31 Try.sizeOf29 rfl rfl rfl (by decide)).cv (show _ = vP b3 3 from congrArg (vP b3) (by rfl))) rfl (gl_on rfl rfl rfl ?_))
   replace rb3 := rb3.mono hh1
   refine gl_x (F := fun v_ => (rpQ l).Is h1 v_ b.y) (ox_load_box ty29 (Pc.ty (Pc.here _)) rfl rfl rb3 rfl) (mem1 (.head _)) rfl ?_
   intro v14 r14
   refine gl_on rfl rfl rfl ?_
   refine gl_call (vs := [_, _]) rfl rfl rfl rfl Try.call19 ⟨rfl, rfl, trivial⟩ (fun w hs => o_rref_same hs r12 r14 (by omega)) ?_
   intro v15 h2 hh2 r15
   obtain rfl : v15 = vB (a.y = b.y) := r15
   refine gv (ov_pick_t rfl rfl) rfl (gl_nil ?_)
   refine gq_cut h2 hh2 ⟨?_, rfl, rfl, trivial⟩ rfl rfl
   exact congrArg some (vB_and_t hg)
  ·
   refine gl_val (ov_move (v := .bool false) (congrArg some (vB_false hg))) rfl rfl rfl (gl_off rfl rfl rfl rfl rfl rfl (gl_off rfl rfl rfl rfl rfl rfl (gl_off rfl rfl rfl rfl rfl rfl (gl_off rfl rfl rfl rfl rfl rfl (gl_off rfl rfl rfl rfl rfl rfl (gv (ov_pick_f rfl rfl) rfl (gl_nil ?_)))))))
   refine gq_cut h1 (MLe.refl _) ⟨?_, rfl, rfl, trivial⟩ rfl rfl
   exact congrArg some (vB_and_f hg)
 ·
  intro mg1_5 hmmg1_5
  show GL _ _ _ _ _ _ _ [(16, vB ((a.x = b.x) ∧ (a.y = b.y))), (2, vP b2 0), (3, vP b3 0)] [.var b3 31 cs3, .var b2 31 cs2] mg1_5
  refine gl_cut (ι := Mem) 7 (fun m_ => MLe mg1_5 m_) (fun _ => [(23, vB (((a.x = b.x) ∧ (a.y = b.y)) ∧ (a.z = b.z)))]) (fun _ => [.var b3 31 cs3, .var b2 31 cs2]) (fun m_ => m_) ?_ ?_
  ·
   refine gl_cases ((a.x = b.x) ∧ (a.y = b.y)) (fun hg => ?_) (fun hg => ?_)
   ·
    refine gl_val (ov_move (v := .bool true) (congrArg some (vB_true hg))) rfl rfl rfl (gl_on rfl rfl rfl (gv ((ov_index_arr (sz := 3) (q := 2) 2 Try.underlying31 Try.sizeOf29 rfl rfl rfl (by decide)).cv (show _ = vP b2 6 from congrArg (vP b2) (by rfl))) rfl (gl_on rfl rfl rfl ?_)))
    replace rb2 := rb2.mono (hh1.trans hmmg1_5)
    refine gl_x (F := fun v_ => (rpQ k).Is mg1_5 v_ a.z) (ox_load_box ty29 (Pc.tz (Pc.here _)) rfl rfl rb2 rfl) (mem1 (.tail _ (.head _))) rfl ?_
    intro v19 r19
    refine gl_on rfl rfl rfl (gv ((ov_index_arr (sz := 3) (q := 2) 2 Try.underlying31 Try.sizeOf29 rfl rfl rfl (by decide)).cv (show _ = vP b3 6 from congrArg (vP b3) (by rfl))) rfl (gl_on rfl rfl rfl ?_))
    replace rb3 := rb3.mono (hh1.trans hmmg1_5)
    refine gl_x (F := fun v_ => (rpQ l).Is mg1_5 v_ b.z) (ox_load_box ty29 (Pc.tz (Pc.here _)) rfl rfl rb3 rfl) (mem1 (.head _)) rfl ?_
    intro v21 r21
    refine gl_on rfl rfl rfl ?_
    refine gl_call (vs := [_, _]) rfl rfl rfl rfl Try.call19 ⟨rfl, rfl, trivial⟩ (fun w hs => o_rref_same hs r19 r21 (by omega)) ?_
    intro v22 h2 hh2 r22
    obtain rfl : v22 = vB (a.z = b.z) := r22
    refine gv (ov_pick_t rfl rfl) rfl (gl_nil ?_)
    refine gq_cut h2 hh2 ⟨?_, trivial⟩ rfl rfl
    exact congrArg some (vB_and_t hg)
   ·
    refine gl_val (ov_move (v := .bool false) (congrArg some (vB_false hg))) rfl rfl rfl (gl_off rfl rfl rfl rfl rfl rfl (gl_off rfl rfl rfl rfl rfl rfl (gl_off rfl rfl rfl rfl rfl rfl (gl_off rfl rfl rfl rfl rfl rfl (gl_off rfl rfl rfl rfl rfl rfl (gv (ov_pick_f rfl rfl) rfl (gl_nil ?_)))))))
    refine gq_cut mg1_5 (MLe.refl _) ⟨?_, trivial⟩ rfl rfl
    exact congrArg some (vB_and_f hg)
  ·
   intro mg1_12 hmmg1_12
   show GL _ _ _ _ _ _ _ [(23, vB (((a.x = b.x) ∧ (a.y = b.y)) ∧ (a.z = b.z)))] [.var b3 31 cs3, .var b2 31 cs2] mg1_12
   refine asg rfl rfl (gl_nil (gq_then (gc_ret (gq_body1 rfl rfl ?_))))
   first | exact vB_iff (by rw [t3_eq]; grind) | exact (vB_true (by rw [t3_eq]; grind)).symm | exact (vB_false (by rw [t3_eq]; grind)).symm

theorem o_r4_zero {w0 : World} {h0 : Mem}  (hs : MLe h0 (mem w0)) {k : Nat} {va : Value} {a : (T3 Rat)} (ra : (rpT (rpQ k)).Is h0 va a) (hcd0 : k ≤ 1000000)  :
    Calls Try.prog 26 #[va] w0 (Ret w0 h0 (fun _ r => r = vB (a = (T3.mk (0 : Rat) (0 : Rat) (0 : Rat))))) := by
 refine calls_begin (n := 6) (e := [(0, va)]) (vs := [va]) Try.func26 rfl rfl (Nat.le_of_ble_eq_true rfl) hs ⟨rfl, trivial⟩ (gc_seq (gc_region (gl_newop (new_boxx (ρ := (rpT (rpQ k))) rfl ra) rfl rfl rfl ?_)))
 intro v1 q1 hq1
 obtain ⟨b1, cs1, rfl, rfl, rb1⟩ := hq1
 refine asg rfl rfl (gl_nil (gq_then (gc_seq (gc_region (gl_x (F := fun v_ => (rpT (rpQ k)).Is h0 v_ a) (ox_load_box ty31 (Pc.here _) rfl rfl rb1 rfl) (mem1 (.head _)) rfl ?_)))))
 intro v3 r3
 refine gl_x (F := fun v_ => (rpT (rpQ 1)).Is h0 v_ (T3.mk (0 : Rat) (0 : Rat) (0 : Rat))) (ox_build_arr (ps' := []) Try.underlying31 info31 rfl rfl Try.sizeOf29 trivial rfl (zr_t (zr_q (by decide))) fx_nil) mem0 rfl ?_
 intro v4 r4
 refine gl_call (vs := [_, _]) rfl rfl rfl rfl Try.call30 ⟨rfl, rfl, trivial⟩ (fun w hs => o_r4_same hs r3 r4 (by omega)) ?_
 intro v5 h1 hh1 r5
 obtain rfl : v5 = vB (a = (T3.mk (0 : Rat) (0 : Rat) (0 : Rat))) := r5
 refine asg rfl rfl (gl_nil (gq_then (gc_ret (gq_body1 rfl rfl ?_))))
 rfl

theorem o_r4_dot {w0 : World} {h0 : Mem}  (hs : MLe h0 (mem w0)) {k l : Nat} {va : Value} {a : (T3 Rat)} (ra : (rpT (rpQ k)).Is h0 va a) {vb : Value} {b : (T3 Rat)} (rb : (rpT (rpQ l)).Is h0 vb b) (hcd0 : k + l ≤ 100000000)  :
    Calls Try.prog 35 #[va, vb] w0 (Ret w0 h0 (fun h r => (rpQ (3 * k + 3 * l + 9)).Is h r (dotT a b))) := by
 refine calls_begin (n := 21) (e := [(0, va), (1, vb)]) (vs := [va, vb]) Try.func35 rfl rfl (Nat.le_of_ble_eq_true rfl) hs ⟨rfl, rfl, trivial⟩ (gc_seq (gc_region (gl_newop (new_boxx (ρ := (rpT (rpQ k))) rfl ra) rfl rfl rfl ?_)))
 intro v2 q2 hq2
 obtain ⟨b2, cs2, rfl, rfl, rb2⟩ := hq2
 refine gl_newop (new_boxx (ρ := (rpT (rpQ l))) rfl rb) rfl rfl rfl ?_
 intro v3 q3 hq3
 obtain ⟨b3, cs3, rfl, rfl, rb3⟩ := hq3
 refine gl_newop (new_allocx (ρ := (rpQ (3 * k + 3 * l + 9))) (X := (0 : Rat)) info29 rfl rfl (zr_q (by omega))) rfl rfl rfl ?_
 intro v4 q4 hq4
 obtain ⟨b4, cs4, rfl, rfl, rb4⟩ := hq4
 refine gl_nil (gq_then (gc_seq (gc_region (gl_newop (new_allocx (ρ := (rpQ 1)) (X := (0 : Rat)) info29 rfl rfl (zr_q (by decide))) rfl rfl rfl ?_))))
 intro v5 q5 hq5
 obtain ⟨b5, cs5, rfl, rfl, rb5⟩ := hq5
 refine gl_nil (gq_then (gc_seq (gc_seq (gc_region (asg (v := vI (0)) rfl rfl (gl_nil (gq_then (gc_block (gc_loop1 (gc_seq (gc_seq (gc_region (mv rfl rfl ?_)))))))))))))
 refine gv (OpV.tr (by decide) (ov_lss_i (q := 3) rfl rfl)) rfl (gl_nil (gq_then (gc_cond_t rfl (gc_skip (gq_then (gc_seq (gc_block ?_)))))))
 refine gc_draw 9 _ [] [(0, .q), (1, .q), (2, .q), (3, .q), (4, .q), (5, .q), (6, .q), (7, .c), (8, .c), (9, .t)] mixed (fun x hx => by cases hx) (by kernel_rfl) (fun x hx => by cases hx) (fun r hr => hr) (w_qx (F := fun v_ => (rpQ 1).Is h0 v_ (0 : Rat)) rfl (ox_load_box ty29 (Pc.here _) rfl rfl rb5 rfl) (mem1 (.head _)) rfl ?_)
 intro v11u5 r11u5
 refine w_q rfl (fun h' L' hh hR => ov_move rfl) rfl (w_q rfl (fun h' L' hh hR => (ov_index_arr (sz := 3) 0 Try.underlying31 Try.sizeOf29 rfl rfl rfl (by decide)).cv (show _ = vP b2 0 from congrArg (vP b2) (by rfl))) rfl (w_qx (F := fun v_ => (rpQ k).Is h0 v_ a.x) rfl (ox_load_box ty29 (Pc.tx (Pc.here _)) rfl rfl rb2 rfl) (mem1 (.tail _ (.tail _ (.tail _ (.head _))))) rfl ?_))
 intro v14u5 r14u5
 refine w_q rfl (fun h' L' hh hR => ov_move rfl) rfl (w_q rfl (fun h' L' hh hR => (ov_index_arr (sz := 3) 0 Try.underlying31 Try.sizeOf29 rfl rfl rfl (by decide)).cv (show _ = vP b3 0 from congrArg (vP b3) (by rfl))) rfl (w_qx (F := fun v_ => (rpQ l).Is h0 v_ b.x) rfl (ox_load_box ty29 (Pc.tx (Pc.here _)) rfl rfl rb3 rfl) (mem1 (.tail _ (.tail _ (.head _)))) rfl ?_))
 intro v17u5 r17u5
 refine w_c rfl ?_
 refine s_call (vs := [_, _]) Try.call41 ⟨rfl, rfl, trivial⟩ (fun w hs => o_rref_mul hs r14u5 r17u5 (by omega)) rfl ?_
 intro v18u5 h1 hh1 r18u5
 change (rpQ (k + l)).Is h1 v18u5 (a.x * b.x) at r18u5
 refine w_c rfl ?_
 replace r11u5 := r11u5.mono hh1
 refine s_call (vs := [_, _]) Try.call40 ⟨rfl, rfl, trivial⟩ (fun w hs => o_rref_add hs r11u5 r18u5 (by omega)) rfl ?_
 intro v19u5 h2 hh2 r19u5
 change (rpQ (1 + (k + l) + 1)).Is h2 v19u5 ((0 : Rat) + (a.x * b.x)) at r19u5
 replace r19u5 := Rp.Is.le r19u5 (Le.q (l := k + l + 2) (by omega))
 replace rb5 := rb5.mono (hh1.trans hh2)
 have rw_23 := (Le.q (l := k + l + 2) (by omega)).R rb5
 refine w_tx_upd (A := []) (F := fun c_ => (rpQ (k + l + 2)).R h2 c_ ((0 : Rat) + (a.x * b.x))) rfl (upd_box Try.sizeOf29 (Pc.here _) rfl rfl rfl rw_23 r19u5 rfl) ?_
 intro cs_24 rb_25
 refine w_nil (gq_in (gq_keep (e' := [(2, _), (3, _), (4, _), (5, _), (6, _)]) ⟨rfl, rfl, rfl, rfl, rfl, trivial⟩ (gq_then (gc_region (mv rfl rfl (gv ((ov_add_i (q := 1) rfl rfl (by omega) (by omega)).cv (show _ = vI (1) from rfl)) rfl (asg rfl rfl (gl_nil (gq_loop1 (gc_seq (gc_seq (gc_region (mv rfl rfl ?_)))))))))))))
 refine gv (OpV.tr (by decide) (ov_lss_i (q := 3) rfl rfl)) rfl (gl_nil (gq_then (gc_cond_t rfl (gc_skip (gq_then (gc_seq (gc_block ?_)))))))
 refine gc_draw 9 _ [] [(0, .q), (1, .q), (2, .q), (3, .q), (4, .q), (5, .q), (6, .q), (7, .c), (8, .c), (9, .t)] mixed (fun x hx => by cases hx) (by kernel_rfl) (fun x hx => by cases hx) (fun r hr => hr) (w_qx (F := fun v_ => (rpQ (k + l + 2)).Is h2 v_ ((0 : Rat) + (a.x * b.x))) rfl (ox_load_box ty29 (Pc.here _) rfl rfl rb_25 rfl) (mem1 (.head _)) rfl ?_)
 intro v11u6 r11u6
 refine w_q rfl (fun h' L' hh hR => ov_move rfl) rfl (w_q rfl (fun h' L' hh hR => (ov_index_arr (sz := 3) 1 Try.underlying31 Try.sizeOf29 rfl rfl rfl (by decide)).cv (show _ = vP b2 3 from congrArg (vP b2) (by rfl))) rfl ?_)
 replace rb2 := rb2.mono (hh1.trans hh2)
 refine w_qx (F := fun v_ => (rpQ k).Is h2 v_ a.y) rfl (ox_load_box ty29 (Pc.ty (Pc.here _)) rfl rfl rb2 rfl) (mem1 (.tail _ (.tail _ (.tail _ (.head _))))) rfl ?_
 intro v14u6 r14u6
 refine w_q rfl (fun h' L' hh hR => ov_move rfl) rfl (w_q rfl (fun h' L' hh hR => (ov_index_arr (sz := 3) 1 Try.underlying31 Try.sizeOf29 rfl rfl rfl (by decide)).cv (show _ = vP b3 3 from congrArg (vP b3) (by rfl))) rfl ?_)
 replace rb3 := rb3.mono (hh1.trans hh2)
 refine w_qx (F := fun v_ => (rpQ l).Is h2 v_ b.y) rfl (ox_load_box ty29 (Pc.ty (Pc.here _)) rfl rfl rb3 rfl) (mem1 (.tail _ (.tail _ (.head _)))) rfl ?_
 intro v17u6 r17u6
 refine w_c rfl ?_
 refine s_call (vs := [_, _]) Try.call41 ⟨rfl, rfl, trivial⟩ (fun w hs => o_rref_mul hs r14u6 r17u6 (by omega)) rfl ?_
 intro v18u6 h3 hh3 r18u6
 change (rpQ (k + l)).Is h3 v18u6 (a.y * b.y) at r18u6
 refine w_c rfl ?_
 replace r11u6 := r11u6.mono hh3
 refine s_call (vs := [_, _]) Try.call40 ⟨rfl, rfl, trivial⟩ (fun w hs => o_rref_add hs r11u6 r18u6 (by omega)) rfl ?_
 intro v19u6 h4 hh4 r19u6
 change (rpQ ((k + l + 2) + (k + l) + 1)).Is h4 v19u6 (((0 : Rat) + (a.x * b.x)) + (a.y * b.y)) at r19u6
 replace r19u6 := Rp.Is.le r19u6 (Le.q (l := 2 * k + 2 * l + 3) (by omega))
 replace rb_25 := rb_25.mono (hh3.trans hh4)
 have rw_26 := (Le.q (l := 2 * k + 2 * l + 3) (by omega)).R rb_25
 refine w_tx_upd (A := []) (F := fun c_ => (rpQ (2 * k + 2 * l + 3)).R h4 c_ (((0 : Rat) + (a.x * b.x)) + (a.y * b.y))) rfl (upd_box Try.sizeOf29 (Pc.here _) rfl rfl rfl rw_26 r19u6 rfl) ?_
 intro cs_27 rb_28
 refine w_nil (gq_in (gq_keep (e' := [(2, _), (3, _), (4, _), (5, _), (6, _)]) ⟨rfl, rfl, rfl, rfl, rfl, trivial⟩ (gq_then (gc_region (mv rfl rfl (gv ((ov_add_i (q := 1) rfl rfl (by omega) (by omega)).cv (show _ = vI (2) from rfl)) rfl (asg rfl rfl (gl_nil (gq_loop1 (gc_seq (gc_seq (gc_region (mv rfl rfl ?_)))))))))))))
 refine gv (OpV.tr (by decide) (ov_lss_i (q := 3) rfl rfl)) rfl (gl_nil (gq_then (gc_cond_t rfl (gc_skip (gq_then (gc_seq (gc_block ?_)))))))
 refine gc_draw 9 _ [] [(0, .q), (1, .q), (2, .q), (3, .q), (4, .q), (5, .q), (6, .q), (7, .c), (8, .c), (9, .t)] mixed (fun x hx => by cases hx) (by kernel_rfl) (fun x hx => by cases hx) (fun r hr => hr) (w_qx (F := fun v_ => (rpQ (2 * k + 2 * l + 3)).Is h4 v_ (((0 : Rat) + (a.x * b.x)) + (a.y * b.y))) rfl (ox_load_box ty29 (Pc.here _) rfl rfl rb_28 rfl) (mem1 (.head _)) rfl ?_)
 intro v11u7 r11u7
 refine w_q rfl (fun h' L' hh hR => ov_move rfl) rfl (w_q rfl (fun h' L' hh hR => (ov_index_arr (sz := 3) 2 Try.underlying31 Try.sizeOf29 rfl rfl rfl (by decide)).cv (show _ = vP b2 6 from congrArg (vP b2) (by rfl))) rfl ?_)
 replace rb2 := rb2.mono (hh3.trans hh4)
 refine w_qx (F := fun v_ => (rpQ k).Is h4 v_ a.z) rfl (ox_load_box ty29 (Pc.tz (Pc.here _)) rfl rfl rb2 rfl) (mem1 (.tail _ (.tail _ (.tail _ (.head _))))) rfl ?_
 intro v14u7 r14u7
 refine w_q rfl (fun h' L' hh hR => ov_move rfl) rfl (w_q rfl (fun h' L' hh hR => (ov_index_arr (sz := 3) 2 Try.underlying31 Try.sizeOf29 rfl rfl rfl (by decide)).cv (show _ = vP b3 6 from congrArg (vP b3) (by rfl))) rfl ?_)
 replace rb3 := rb3.mono (hh3.trans hh4)
 refine w_qx (F := fun v_ => (rpQ l).Is h4 v_ b.z) rfl (ox_load_box ty29 (Pc.tz (Pc.here _)) rfl rfl rb3 rfl) (mem1 (.tail _ (.tail _ (.head _)))) rfl ?_
 intro v17u7 r17u7
 refine w_c rfl ?_
 refine s_call (vs := [_, _]) Try.call41 ⟨rfl, rfl, trivial⟩ (fun w hs => o_rref_mul hs r14u7 r17u7 (by omega)) rfl ?_
 intro v18u7 h5 hh5 r18u7
 change (rpQ (k + l)).Is h5 v18u7 (a.z * b.z) at r18u7
 refine w_c rfl ?_
 replace r11u7 := r11u7.mono hh5
 refine s_call (vs := [_, _]) Try.call40 ⟨rfl, rfl, trivial⟩ (fun w hs => o_rref_add hs r11u7 r18u7 (by omega)) rfl ?_
 intro v19u7 h6 hh6 r19u7
 change (rpQ ((2 * k + 2 * l + 3) + (k + l) + 1)).Is h6 v19u7 ((((0 : Rat) + (a.x * b.x)) + (a.y * b.y)) + (a.z * b.z)) at r19u7
 replace r19u7 := Rp.Is.le r19u7 (Le.q (l := 3 * k + 3 * l + 4) (by omega))
 replace rb_28 := rb_28.mono (hh5.trans hh6)
 have rw_29 := (Le.q (l := 3 * k + 3 * l + 4) (by omega)).R rb_28
 refine w_tx_upd (A := []) (F := fun c_ => (rpQ (3 * k + 3 * l + 4)).R h6 c_ ((((0 : Rat) + (a.x * b.x)) + (a.y * b.y)) + (a.z * b.z))) rfl (upd_box Try.sizeOf29 (Pc.here _) rfl rfl rfl rw_29 r19u7 rfl) ?_
 intro cs_30 rb_31
 refine w_nil (gq_in (gq_keep (e' := [(2, _), (3, _), (4, _), (5, _), (6, _)]) ⟨rfl, rfl, rfl, rfl, rfl, trivial⟩ (gq_then (gc_region (mv rfl rfl (gv ((ov_add_i (q := 1) rfl rfl (by omega) (by omega)).cv (show _ = vI (3) from rfl)) rfl (asg rfl rfl (gl_nil (gq_loop1 (gc_seq (gc_seq (gc_region (mv rfl rfl ?_)))))))))))))
 refine gv (OpV.fa (by decide) (ov_lss_i (q := 3) rfl rfl)) rfl (gl_nil (gq_then (gc_cond_f rfl (gc_exit (gx_then (gx_then (gx_here (gq_then (gc_seq (gc_region (gl_x (F := fun v_ => (rpQ (3 * k + 3 * l + 4)).Is h6 v_ ((((0 : Rat) + (a.x * b.x)) + (a.y * b.y)) + (a.z * b.z))) (ox_load_box ty29 (Pc.here _) rfl rfl rb_31 rfl) (mem1 (.head _)) rfl ?_)))))))))))
 intro v20u8 r20u8
 replace rb4 := rb4.mono (((((hh1.trans hh2).trans hh3).trans hh4).trans hh5).trans hh6)
 refine gl_updx (A := [_]) (F := fun c_ => (rpQ (3 * k + 3 * l + 9)).R h6 c_ ((((0 : Rat) + (a.x * b.x)) + (a.y * b.y)) + (a.z * b.z))) (upd_box Try.sizeOf29 (Pc.here _) rfl rfl rfl rb4 (r20u8.le (Le.q (l := 3 * k + 3 * l + 9) (by omega))) rfl) ?_
 intro cs_32 rb_33
 refine gl_nil (gq_then (gc_ret (gq_exv (rv_o (t := 4) ty29 (.tail _ (.head _)) rfl rb_33) ?_)))
 intro w_34 hvw_34 rr_35
 refine gq_res (fun E S => run_res1 rfl hvw_34 E S) ?_
 exact (Rp.Is.cast rr_35 (by unfold dotT; grind))

theorem o_r4_cross {w0 : World} {h0 : Mem}  (hs : MLe h0 (mem w0)) {k l : Nat} {va : Value} {a : (T3 Rat)} (ra : (rpT (rpQ k)).Is h0 va a) {vb : Value} {b : (T3 Rat)} (rb : (rpT (rpQ l)).Is h0 vb b) (hcd0 : k + l ≤ 100000000)  :
    Calls Try.prog 33 #[va, vb] w0 (Ret w0 h0 (fun h r => (rpT (rpQ (2 * k + 2 * l + 3))).Is h r (crossT a b))) := by
 refine calls_begin (n := 37) (e := [(0, va), (1, vb)]) (vs := [va, vb]) Try.func33 rfl rfl (Nat.le_of_ble_eq_true rfl) hs ⟨rfl, rfl, trivial⟩ (gc_seq (gc_region (gl_newop (new_boxx (ρ := (rpT (rpQ k))) rfl ra) rfl rfl rfl ?_)))
 intro v2 q2 hq2
 obtain ⟨b2, cs2, rfl, rfl, rb2⟩ := hq2
 refine gl_newop (new_boxx (ρ := (rpT (rpQ l))) rfl rb) rfl rfl rfl ?_
 intro v3 q3 hq3
 obtain ⟨b3, cs3, rfl, rfl, rb3⟩ := hq3
 refine gl_newop (new_allocx (ρ := (rpT (rpQ (2 * k + 2 * l + 3)))) (X := (T3.mk (0 : Rat) (0 : Rat) (0 : Rat))) info31 rfl rfl (zr_t (zr_q (by omega)))) rfl rfl rfl ?_
 intro v4 q4 hq4
 obtain ⟨b4, cs4, rfl, rfl, rb4⟩ := hq4
 refine gl_nil (gq_then (gc_seq (gc_region (gl_newop (new_allocx (ρ := (rpT (rpQ (2 * k + 2 * l + 3)))) (X := (T3.mk (0 : Rat) (0 : Rat) (0 : Rat))) info31 rfl rfl (zr_t (zr_q (by omega)))) rfl rfl rfl ?_))))
 intro v5 q5 hq5
 obtain ⟨b5, cs5, rfl, rfl, rb5⟩ := hq5
 refine gl_nil (gq_then (gc_seq (gc_seq (gc_region (asg (v := vI (0)) rfl rfl (gl_nil (gq_then (gc_block (gc_loop1 (gc_seq (gc_seq (gc_region (mv rfl rfl ?_)))))))))))))
 refine gv (OpV.tr (by decide) (ov_lss_i (q := 3) rfl rfl)) rfl (gl_nil (gq_then (gc_cond_t rfl (gc_skip (gq_then (gc_seq (gc_block (gc_seq (gc_region (mv rfl rfl (gv ((ov_add_i (q := 1) rfl rfl (by omega) (by omega)).cv (show _ = vI (1) from rfl)) rfl (gv ((ov_rem_i (q := 3) rfl rfl (by omega) (by omega)).cv (show _ = vI (1) from rfl)) rfl (mv rfl rfl ?_)))))))))))))
 refine gv ((ov_add_i (q := 2) rfl rfl (by omega) (by omega)).cv (show _ = vI (2) from rfl)) rfl (gv ((ov_rem_i (q := 3) rfl rfl (by omega) (by omega)).cv (show _ = vI (2) from rfl)) rfl (asg rfl rfl (asg rfl rfl (gl_nil (gq_keep (e' := [(2, _), (3, _), (4, _), (5, _), (6, _), (7, _), (8, _)]) ⟨rfl, rfl, rfl, rfl, rfl, rfl, rfl, trivial⟩ (gq_then ?_))))))
 refine gc_draw 17 _ [] [(0, .q), (1, .q), (2, .q), (3, .q), (4, .q), (5, .q), (6, .q), (8, .q), (9, .q), (10, .q), (11, .q), (12, .q), (13, .q), (7, .c), (14, .c), (15, .c), (16, .q), (17, .t)] mixed (fun x hx => by cases hx) (chk_of [0, 0, 2, 4, 0, 16, 32, 72, 0, 256, 512, 0, 2048, 4096, 9344, 16512, 65535, 131071] [262143, 262143, 262141, 262139, 262143, 262127, 262111, 262071, 262143, 261887, 261631, 262143, 260095, 258047, 252927, 245631, 262142, 163839] (by kernel_rfl)) (fun x hx => by cases hx) (fun r hr => hr) (w_q rfl (fun h' L' hh hR => ov_move rfl) rfl (w_q rfl (fun h' L' hh hR => ov_move rfl) rfl (w_q rfl (fun h' L' hh hR => (ov_index_arr (sz := 3) 1 Try.underlying31 Try.sizeOf29 rfl rfl rfl (by decide)).cv (show _ = vP b2 3 from congrArg (vP b2) (by rfl))) rfl (w_qx (F := fun v_ => (rpQ k).Is h0 v_ a.y) rfl (ox_load_box ty29 (Pc.ty (Pc.here _)) rfl rfl rb2 rfl) (mem1 (.tail _ (.tail _ (.tail _ (.head _))))) rfl ?_))))
 intro v22u9 r22u9
 refine w_q rfl (fun h' L' hh hR => ov_move rfl) rfl (w_q rfl (fun h' L' hh hR => (ov_index_arr (sz := 3) 2 Try.underlying31 Try.sizeOf29 rfl rfl rfl (by decide)).cv (show _ = vP b3 6 from congrArg (vP b3) (by rfl))) rfl (w_qx (F := fun v_ => (rpQ l).Is h0 v_ b.z) rfl (ox_load_box ty29 (Pc.tz (Pc.here _)) rfl rfl rb3 rfl) (mem1 (.tail _ (.tail _ (.head _)))) rfl ?_))
 intro v25u9 r25u9
 refine w_q rfl (fun h' L' hh hR => ov_move rfl) rfl (w_q rfl (fun h' L' hh hR => (ov_index_arr (sz := 3) 2 Try.underlying31 Try.sizeOf29 rfl rfl rfl (by decide)).cv (show _ = vP b2 6 from congrArg (vP b2) (by rfl))) rfl (w_qx (F := fun v_ => (rpQ k).Is h0 v_ a.z) rfl (ox_load_box ty29 (Pc.tz (Pc.here _)) rfl rfl rb2 rfl) (mem1 (.tail _ (.tail _ (.tail _ (.head _))))) rfl ?_))
 intro v29u9 r29u9
 refine w_q rfl (fun h' L' hh hR => ov_move rfl) rfl (w_q rfl (fun h' L' hh hR => (ov_index_arr (sz := 3) 1 Try.underlying31 Try.sizeOf29 rfl rfl rfl (by decide)).cv (show _ = vP b3 3 from congrArg (vP b3) (by rfl))) rfl (w_qx (F := fun v_ => (rpQ l).Is h0 v_ b.y) rfl (ox_load_box ty29 (Pc.ty (Pc.here _)) rfl rfl rb3 rfl) (mem1 (.tail _ (.tail _ (.head _)))) rfl ?_))
 intro v32u9 r32u9
 refine w_c rfl ?_
 refine s_call (vs := [_, _]) Try.call41 ⟨rfl, rfl, trivial⟩ (fun w hs => o_rref_mul hs r22u9 r25u9 (by omega)) rfl ?_
 intro v26u9 h1 hh1 r26u9
 change (rpQ (k + l)).Is h1 v26u9 (a.y * b.z) at r26u9
 refine w_c rfl ?_
 replace r29u9 := r29u9.mono hh1
 replace r32u9 := r32u9.mono hh1
 refine s_call (vs := [_, _]) Try.call41 ⟨rfl, rfl, trivial⟩ (fun w hs => o_rref_mul hs r29u9 r32u9 (by omega)) rfl ?_
 intro v33u9 h2 hh2 r33u9
 change (rpQ (k + l)).Is h2 v33u9 (a.z * b.y) at r33u9
 refine w_c rfl ?_
 replace r26u9 := r26u9.mono hh2
 refine s_call (vs := [_, _]) Try.call43 ⟨rfl, rfl, trivial⟩ (fun w hs => o_rref_sub hs r26u9 r33u9 (by omega)) rfl ?_
 intro v34u9 h3 hh3 r34u9
 change (rpQ ((k + l) + (k + l) + 1)).Is h3 v34u9 ((a.y * b.z) - (a.z * b.y)) at r34u9
 replace r34u9 := Rp.Is.le r34u9 (Le.q (l := 2 * k + 2 * l + 1) (by omega))
 refine w_q rfl (fun h' L' hh hR => (ov_index_arr (sz := 3) 0 Try.underlying31 Try.sizeOf29 rfl rfl rfl (by decide)).cv (show _ = vP b5 0 from congrArg (vP b5) (by rfl))) rfl ?_
 replace rb5 := rb5.mono ((hh1.trans hh2).trans hh3)
 refine w_tx_upd (A := []) (F := fun c_ => (rpT (rpQ (2 * k + 2 * l + 3))).R h3 c_ (T3.mk ((a.y * b.z) - (a.z * b.y)) (0 : Rat) (0 : Rat))) rfl (upd_box Try.sizeOf29 (Pc.tx (Pc.here _)) rfl rfl rfl rb5 (r34u9.le (Le.q (l := 2 * k + 2 * l + 3) (by omega))) rfl) ?_
 intro cs_36 rb_37
 refine w_nil (gq_in (gq_keep (e' := [(2, _), (3, _), (4, _), (5, _), (6, _)]) ⟨rfl, rfl, rfl, rfl, rfl, trivial⟩ (gq_then (gc_region (mv rfl rfl (gv ((ov_add_i (q := 1) rfl rfl (by omega) (by omega)).cv (show _ = vI (1) from rfl)) rfl (asg rfl rfl (gl_nil (gq_loop1 (gc_seq (gc_seq (gc_region (mv rfl rfl ?_)))))))))))))
 refine gv (OpV.tr (by decide) (ov_lss_i (q := 3) rfl rfl)) rfl (gl_nil (gq_then (gc_cond_t rfl (gc_skip (gq_then (gc_seq (gc_block (gc_seq (gc_region (mv rfl rfl (gv ((ov_add_i (q := 1) rfl rfl (by omega) (by omega)).cv (show _ = vI (2) from rfl)) rfl (gv ((ov_rem_i (q := 3) rfl rfl (by omega) (by omega)).cv (show _ = vI (2) from rfl)) rfl (mv rfl rfl ?_)))))))))))))
 refine gv ((ov_add_i (q := 2) rfl rfl (by omega) (by omega)).cv (show _ = vI (3) from rfl)) rfl (gv ((ov_rem_i (q := 3) rfl rfl (by omega) (by omega)).cv (show _ = vI (0) from rfl)) rfl (asg rfl rfl (asg rfl rfl (gl_nil (gq_keep (e' := [(2, _), (3, _), (4, _), (5, _), (6, _), (7, _), (8, _)]) ⟨rfl, rfl, rfl, rfl, rfl, rfl, rfl, trivial⟩ (gq_then ?_))))))
 refine gc_draw 17 _ [] [(0, .q), (1, .q), (2, .q), (3, .q), (4, .q), (5, .q), (6, .q), (8, .q), (9, .q), (10, .q), (11, .q), (12, .q), (13, .q), (7, .c), (14, .c), (15, .c), (16, .q), (17, .t)] mixed (fun x hx => by cases hx) (chk_of [0, 0, 2, 4, 0, 16, 32, 72, 0, 256, 512, 0, 2048, 4096, 9344, 16512, 65535, 131071] [262143, 262143, 262141, 262139, 262143, 262127, 262111, 262071, 262143, 261887, 261631, 262143, 260095, 258047, 252927, 245631, 262142, 163839] (by kernel_rfl)) (fun x hx => by cases hx) (fun r hr => hr) (w_q rfl (fun h' L' hh hR => ov_move rfl) rfl (w_q rfl (fun h' L' hh hR => ov_move rfl) rfl (w_q rfl (fun h' L' hh hR => (ov_index_arr (sz := 3) 2 Try.underlying31 Try.sizeOf29 rfl rfl rfl (by decide)).cv (show _ = vP b2 6 from congrArg (vP b2) (by rfl))) rfl ?_)))
 replace rb2 := rb2.mono ((hh1.trans hh2).trans hh3)
 refine w_qx (F := fun v_ => (rpQ k).Is h3 v_ a.z) rfl (ox_load_box ty29 (Pc.tz (Pc.here _)) rfl rfl rb2 rfl) (mem1 (.tail _ (.tail _ (.tail _ (.head _))))) rfl ?_
 intro v22u10 r22u10
 refine w_q rfl (fun h' L' hh hR => ov_move rfl) rfl (w_q rfl (fun h' L' hh hR => (ov_index_arr (sz := 3) 0 Try.underlying31 Try.sizeOf29 rfl rfl rfl (by decide)).cv (show _ = vP b3 0 from congrArg (vP b3) (by rfl))) rfl ?_)
 replace rb3 := rb3.mono ((hh1.trans hh2).trans hh3)
 refine w_qx (F := fun v_ => (rpQ l).Is h3 v_ b.x) rfl (ox_load_box ty29 (Pc.tx (Pc.here _)) rfl rfl rb3 rfl) (mem1 (.tail _ (.tail _ (.head _)))) rfl ?_
 intro v25u10 r25u10
 refine w_q rfl (fun h' L' hh hR => ov_move rfl) rfl (w_q rfl (fun h' L' hh hR => (ov_index_arr (sz := 3) 0 Try.underlying31 Try.sizeOf29 rfl rfl rfl (by decide)).cv (show _ = vP b2 0 from congrArg (vP b2) (by rfl))) rfl (w_qx (F := fun v_ => (rpQ k).Is h3 v_ a.x) rfl (ox_load_box ty29 (Pc.tx (Pc.here _)) rfl rfl rb2 rfl) (mem1 (.tail _ (.tail _ (.tail _ (.head _))))) rfl ?_))
 intro v29u10 r29u10
 refine w_q rfl (fun h' L' hh hR => ov_move rfl) rfl (w_q rfl (fun h' L' hh hR => (ov_index_arr (sz := 3) 2 Try.underlying31 Try.sizeOf29 rfl rfl rfl (by decide)).cv (show _ = vP b3 6 from congrArg (vP b3) (by rfl))) rfl (w_qx (F := fun v_ => (rpQ l).Is h3 v_ b.z) rfl (ox_load_box ty29 (Pc.tz (Pc.here _)) rfl rfl rb3 rfl) (mem1 (.tail _ (.tail _ (.head _)))) rfl ?_))
 intro v32u10 r32u10
 refine w_c rfl ?_
 refine s_call (vs := [_, _]) Try.call41 ⟨rfl, rfl, trivial⟩ (fun w hs => o_rref_mul hs r22u10 r25u10 (by omega)) rfl ?_
 intro v26u10 h4 hh4 r26u10
 change (rpQ (k + l)).Is h4 v26u10 (a.z * b.x) at r26u10
 refine w_c rfl ?_
 replace r29u10 := r29u10.mono hh4
 replace r32u10 := r32u10.mono hh4
 refine s_call (vs := [_, _]) Try.call41 ⟨rfl, rfl, trivial⟩ (fun w hs => o_rref_mul hs r29u10 r32u10 (by omega)) rfl ?_
 intro v33u10 h5 hh5 r33u10
 change (rpQ (k + l)).Is h5 v33u10 (a.x * b.z) at r33u10
 refine w_c rfl ?_
 replace r26u10 := r26u10.mono hh5
 refine s_call (vs := [_, _]) Try.call43 ⟨rfl, rfl, trivial⟩ (fun w hs => o_rref_sub hs r26u10 r33u10 (by omega)) rfl ?_
 intro v34u10 h6 hh6 r34u10
 change (rpQ ((k + l) + (k + l) + 1)).Is h6 v34u10 ((a.z * b.x) - (a.x * b.z)) at r34u10
 replace r34u10 := Rp.Is.le r34u10 (Le.q (l := 2 * k + 2 * l + 1) (by omega))
 refine w_q rfl (fun h' L' hh hR => (ov_index_arr (sz := 3) 1 Try.underlying31 Try.sizeOf29 rfl rfl rfl (by decide)).cv (show _ = vP b5 3 from congrArg (vP b5) (by rfl))) rfl ?_
 replace rb_37 := rb_37.mono ((hh4.trans hh5).trans hh6)
 refine w_tx_upd (A := []) (F := fun c_ => (rpT (rpQ (2 * k + 2 * l + 3))).R h6 c_ (T3.mk ((a.y * b.z) - (a.z * b.y)) ((a.z * b.x) - (a.x * b.z)) (0 : Rat))) rfl (upd_box Try.sizeOf29 (Pc.ty (Pc.here _)) rfl rfl rfl rb_37 (r34u10.le (Le.q (l := 2 * k + 2 * l + 3) (by omega))) rfl) ?_
 intro cs_38 rb_39
 refine w_nil (gq_in (gq_keep (e' := [(2, _), (3, _), (4, _), (5, _), (6, _)]) ⟨rfl, rfl, rfl, rfl, rfl, trivial⟩ (gq_then (gc_region (mv rfl rfl (gv ((ov_add_i (q := 1) rfl rfl (by omega) (by omega)).cv (show _ = vI (2) from rfl)) rfl (asg rfl rfl (gl_nil (gq_loop1 (gc_seq (gc_seq (gc_region (mv rfl rfl ?_)))))))))))))
 refine gv (OpV.tr (by decide) (ov_lss_i (q := 3) rfl rfl)) rfl (gl_nil (gq_then (gc_cond_t rfl (gc_skip (gq_then (gc_seq (gc_block (gc_seq (gc_region (mv rfl rfl (gv ((ov_add_i (q := 1) rfl rfl (by omega) (by omega)).cv (show _ = vI (3) from rfl)) rfl (gv ((ov_rem_i (q := 3) rfl rfl (by omega) (by omega)).cv (show _ = vI (0) from rfl)) rfl (mv rfl rfl ?_)))))))))))))
 refine gv ((ov_add_i (q := 2) rfl rfl (by omega) (by omega)).cv (show _ = vI (4) from rfl)) rfl (gv ((ov_rem_i (q := 3) rfl rfl (by omega) (by omega)).cv (show _ = vI (1) from rfl)) rfl (asg rfl rfl (asg rfl rfl (gl_nil (gq_keep (e' := [(2, _), (3, _), (4, _), (5, _), (6, _), (7, _), (8, _)]) ⟨rfl, rfl, rfl, rfl, rfl, rfl, rfl, trivial⟩ (gq_then ?_))))))
 refine gc_draw 17 _ [] [(0, .q), (1, .q), (2, .q), (3, .q), (4, .q), (5, .q), (6, .q), (8, .q), (9, .q), (10, .q), (11, .q), (12, .q), (13, .q), (7, .c), (14, .c), (15, .c), (16, .q), (17, .t)] mixed (fun x hx => by cases hx) (chk_of [0, 0, 2, 4, 0, 16, 32, 72, 0, 256, 512, 0, 2048, 4096, 9344, 16512, 65535, 131071] [262143, 262143, 262141, 262139, 262143, 262127, 262111, 262071, 262143, 261887, 261631, 262143, 260095, 258047, 252927, 245631, 262142, 163839] (by kernel_rfl)) (fun x hx => by cases hx) (fun r hr => hr) (w_q rfl (fun h' L' hh hR => ov_move rfl) rfl (w_q rfl (fun h' L' hh hR => ov_move rfl) rfl (w_q rfl (fun h' L' hh hR => (ov_index_arr (sz := 3) 0 Try.underlying31 Try.sizeOf29 rfl rfl rfl (by decide)).cv (show _ = vP b2 0 from congrArg (vP b2) (by rfl))) rfl ?_)))
 replace rb2 := rb2.mono ((hh4.trans hh5).trans hh6)
 refine w_qx (F := fun v_ => (rpQ k).Is h6 v_ a.x) rfl (ox_load_box ty29 (Pc.tx (Pc.here _)) rfl rfl rb2 rfl) (mem1 (.tail _ (.tail _ (.tail _ (.head _))))) rfl ?_
 intro v22u11 r22u11
 refine w_q rfl (fun h' L' hh hR => ov_move rfl) rfl (w_q rfl (fun h' L' hh hR => (ov_index_arr (sz := 3) 1 Try.underlying31 Try.sizeOf29 rfl rfl rfl (by decide)).cv (show _ = vP b3 3 from congrArg (vP b3) (by rfl))) rfl ?_)
 replace rb3 := rb3.mono ((hh4.trans hh5).trans hh6)
 refine w_qx (F := fun v_ => (rpQ l).Is h6 v_ b.y) rfl (ox_load_box ty29 (Pc.ty (Pc.here _)) rfl rfl rb3 rfl) (mem1 (.tail _ (.tail _ (.head _)))) rfl ?_
 intro v25u11 r25u11
 refine w_q rfl (fun h' L' hh hR => ov_move rfl) rfl (w_q rfl (fun h' L' hh hR => (ov_index_arr (sz := 3) 1 Try.underlying31 Try.sizeOf29 rfl rfl rfl (by decide)).cv (show _ = vP b2 3 from congrArg (vP b2) (by rfl))) rfl (w_qx (F := fun v_ => (rpQ k).Is h6 v_ a.y) rfl (ox_load_box ty29 (Pc.ty (Pc.here _)) rfl rfl rb2 rfl) (mem1 (.tail _ (.tail _ (.tail _ (.head _))))) rfl ?_))
 intro v29u11 r29u11
 refine w_q rfl (fun h' L' hh hR => ov_move rfl) rfl (w_q rfl (fun h' L' hh hR => (ov_index_arr (sz := 3) 0 Try.underlying31 Try.sizeOf29 rfl rfl rfl (by decide)).cv (show _ = vP b3 0 from congrArg (vP b3) (by rfl))) rfl (w_qx (F := fun v_ => (rpQ l).Is h6 v_ b.x) rfl (ox_load_box ty29 (Pc.tx (Pc.here _)) rfl rfl rb3 rfl) (mem1 (.tail _ (.tail _ (.head _)))) rfl ?_))
 intro v32u11 r32u11
 refine w_c rfl ?_
 refine s_call (vs := [_, _]) Try.call41 ⟨rfl, rfl, trivial⟩ (fun w hs => o_rref_mul hs r22u11 r25u11 (by omega)) rfl ?_
 intro v26u11 h7 hh7 r26u11
 change (rpQ (k + l)).Is h7 v26u11 (a.x * b.y) at r26u11
 refine w_c rfl ?_
 replace r29u11 := r29u11.mono hh7
 replace r32u11 := r32u11.mono hh7
 refine s_call (vs := [_, _]) Try.call41 ⟨rfl, rfl, trivial⟩ (fun w hs => o_rref_mul hs r29u11 r32u11 (by omega)) rfl ?_
 intro v33u11 h8 hh8 r33u11
 change (rpQ (k + l)).Is h8 v33u11 (a.y * b.x) at r33u11
 refine w_c rfl ?_
 replace r26u11 := r26u11.mono hh8
 refine s_call (vs := [_, _]) Try.call43 ⟨rfl, rfl, trivial⟩ (fun w hs => o_rref_sub hs r26u11 r33u11 (by omega)) rfl ?_
 intro v34u11 h9 hh9 r34u11
 change (rpQ ((k + l) + (k + l) + 1)).Is h9 v34u11 ((a.x * b.y) - (a.y * b.x)) at r34u11
 replace r34u11 := Rp.Is.le r34u11 (Le.q (l := 2 * k + 2 * l + 1) (by omega))
 refine w_q rfl (fun h' L' hh hR => (ov_index_arr (sz := 3) 2 Try.underlying31 Try.sizeOf29 rfl rfl rfl (by decide)).cv (show _ = vP b5 6 from congrArg (vP b5) (by rfl))) rfl ?_
 replace rb_39 := rb_39.mono ((hh7.trans hh8).trans hh9)
 refine w_tx_upd (A := []) (F := fun c_ => (rpT (rpQ (2 * k + 2 * l + 3))).R h9 c_ (T3.mk ((a.y * b.z) - (a.z * b.y)) ((a.z * b.x) - (a.x * b.z)) ((a.x * b.y) - (a.y * b.x)))) rfl (upd_box Try.sizeOf29 (Pc.tz (Pc.here _)) rfl rfl rfl rb_39 (r34u11.le (Le.q (l := 2 * k + 2 * l + 3) (by omega))) rfl) ?_
 intro cs_40 rb_41
 refine w_nil (gq_in (gq_keep (e' := [(2, _), (3, _), (4, _), (5, _), (6, _)]) ⟨rfl, rfl, rfl, rfl, rfl, trivial⟩ (gq_then (gc_region (mv rfl rfl (gv ((ov_add_i (q := 1) rfl rfl (by omega) (by omega)).cv (show _ = vI (3) from rfl)) rfl (asg rfl rfl (gl_nil (gq_loop1 (gc_seq (gc_seq (gc_region (mv rfl rfl ?_)))))))))))))
 refine gv (OpV.fa (by decide) (ov_lss_i (q := 3) rfl rfl)) rfl (gl_nil (gq_then (gc_cond_f rfl (gc_exit (gx_then (gx_then (gx_here (gq_then (gc_seq (gc_region (gl_x (F := fun v_ => (rpT (rpQ (2 * k + 2 * l + 3))).Is h9 v_ (T3.mk ((a.y * b.z) - (a.z * b.y)) ((a.z * b.x) - (a.x * b.z)) ((a.x * b.y) - (a.y * b.x)))) (ox_load_box ty31 (Pc.here _) rfl rfl rb_41 rfl) (mem1 (.head _)) rfl ?_)))))))))))
 intro v36u12 r36u12
 replace rb4 := rb4.mono ((((((((hh1.trans hh2).trans hh3).trans hh4).trans hh5).trans hh6).trans hh7).trans hh8).trans hh9)
 refine gl_updx (A := [_]) (F := fun c_ => (rpT (rpQ (2 * k + 2 * l + 3))).R h9 c_ (T3.mk ((a.y * b.z) - (a.z * b.y)) ((a.z * b.x) - (a.x * b.z)) ((a.x * b.y) - (a.y * b.x)))) (upd_box Try.sizeOf31 (Pc.here _) rfl rfl rfl rb4 r36u12 rfl) ?_
 intro cs_42 rb_43
 refine gl_nil (gq_then (gc_ret (gq_exv (rv_o (t := 4) ty31 (.tail _ (.head _)) rfl rb_43) ?_)))
 intro w_44 hvw_44 rr_45
 refine gq_res (fun E S => run_res1 rfl hvw_44 E S) ?_
 exact rr_45

theorem o_dice_bool {w0 w : World} {h0 h : Mem} {b k : Nat} {vl : Value} {xs : List Int} (hl : Is h vl xs) (hk : k ≤ xs.length) {n : Int} (hn : 0 < n) (hn2 : n < 4611686018427387904) {L : List Res} (hs : St w0 h0 (.var b 59 [vl, vI ↑k] :: L) h w) :
    Calls Try.prog 55 #[vP b 0, vI n] w (RetMut w0 h0 h L (fun g r q' => ∃ k' : Nat, ∃ p : Prop, q' = .var b 59 [vl, vI ↑k'] ∧ k' ≤ xs.length ∧ r = vB p)) := by
 have hlen := hl.lt63
 refine calls_begin_st (n := 11) (e := [(0, vP b 0), (1, vI n)]) (vs := [vP b 0, vI n]) Try.func55 rfl rfl (Nat.le_of_ble_eq_true rfl) hs ⟨rfl, rfl, trivial⟩ (gc_seq (gc_region (asg rfl rfl (gl_nil (gq_then (gc_seq (gc_region (mv rfl rfl (mv rfl rfl ?_)))))))))
 refine gl_call_mut2 (A := []) (vs := [_, _]) Try.call11 ⟨rfl, rfl, trivial⟩ (fun X w hs => dice_next hl (by first | omega | exact Nat.zero_le _) (by omega) (by omega) hs) rfl ?_
 intro v7 g7 q7 hg7 hr7
 obtain ⟨k7, z7, rfl, hk7, rfl, hz7, hy7⟩ := hr7
 refine mv rfl rfl (gv (ov_sub_i (q := 1) rfl rfl (by omega) (by omega)) rfl (gv (ov_eql_i rfl rfl) rfl (asg rfl rfl (gl_nil (gq_then (gc_ret (gq_body1_own rfl rfl ?_)))))))
 exact ⟨_, (List.Sublist.refl _), hg7, _, _, rfl, by omega, rfl⟩

theorem o_dice_plane {w0 w : World} {h0 h : Mem} {b k : Nat} {vl : Value} {xs : List Int} (hl : Is h vl xs) (hk : k ≤ xs.length) {L : List Res} (hs : St w0 h0 (.var b 59 [vl, vI ↑k] :: L) h w) :
    Calls Try.prog 24 #[vP b 0] w (RetMut w0 h0 h L (fun g r q' => ∃ k' : Nat, ∃ m : (T3 Rat) × Rat, q' = .var b 59 [vl, vI ↑k'] ∧ k' ≤ xs.length ∧ (rpP (rpT (rpQ 2)) (rpQ 2)).Is g r m)) := by
 have hlen := hl.lt63
 refine calls_begin_st (n := 30) (e := [(0, vP b 0)]) (vs := [vP b 0]) Try.func24 rfl rfl (Nat.le_of_ble_eq_true rfl) hs ⟨rfl, trivial⟩ (gc_seq (gc_region (gl_newop (new_allocx (ρ := (rpP (rpT (rpQ 2)) (rpQ 2))) (X := ((T3.mk (0 : Rat) (0 : Rat) (0 : Rat)), (0 : Rat))) info46 rfl rfl (zr_p (zr_t (zr_q (by decide))) (zr_q (by decide)))) rfl rfl rfl ?_)))
 intro v2 q2 hq2
 obtain ⟨b2, cs2, rfl, rfl, rb2⟩ := hq2
 refine gl_nil (gq_then (gc_seq (gc_seq (gc_region (mv rfl rfl ?_)))))
 refine gl_call_mut2 (A := [_]) (vs := [_, vI (20)]) Try.call55 ⟨rfl, rfl, trivial⟩ (fun X w hs => o_dice_bool hl (by first | omega | exact Nat.zero_le _) (by omega) (by omega) hs) rfl ?_
 intro v5 g5 q5 hg5 hr5
 obtain ⟨k5, P5, rfl, hk5, rfl⟩ := hr5
 refine gl_nil (gq_then ?_)
 refine gc_cond rfl (fun hc5 => ?_) (fun hc5 => ?_)
 ·
  refine gc_seq (gc_region (gl_x (F := fun v_ => (rpP (rpT (rpQ 1)) (rpQ 1)).Is g5 v_ ((T3.mk (0 : Rat) (0 : Rat) (0 : Rat)), (0 : Rat))) (ox_build (ps' := []) Try.underlying46 info46 rfl rfl (places46 Try.underlying46) trivial rfl (zr_p (zr_t (zr_q (by decide))) (zr_q (by decide))) fx_nil) mem0 rfl ?_))
  intro v6 r6
  replace rb2 := rb2.mono hg5
  refine gl_updx (A := []) (F := fun c_ => (rpP (rpT (rpQ 2)) (rpQ 2)).R g5 c_ ((T3.mk (0 : Rat) (0 : Rat) (0 : Rat)), (0 : Rat))) (upd_box Try.sizeOf46 (Pc.here _) rfl rfl rfl rb2 (r6.le (Le.p (Le.t (Le.q (l := 2) (by decide))) (Le.q (l := 2) (by decide)))) rfl) ?_
  intro cs_46 rb_47
  refine gl_nil (gq_then (gc_ret (gr_then (gq_exv (rv_o (t := 2) ty46 (.head _) rfl rb_47) ?_))))
  intro w_48 hvw_48 rr_49
  refine gq_res_own (fun E S => run_res1 rfl hvw_48 E S) ?_
  exact ⟨_, (.cons _ (List.Sublist.refl _)), hg5, _, _, rfl, by omega, rr_49⟩
 ·
  refine gc_skip (gq_then (gc_seq (gc_region (gl_x (F := fun v_ => (rpT rpI).Is g5 v_ (T3.mk (1 : Int) (0 : Int) (0 : Int))) (ox_build_arr (ps' := [(0, _), (1, _), (2, _)]) Try.underlying76 info76 rfl rfl Try.sizeOf3 ⟨rfl, rfl, rfl, rfl, rfl, rfl, trivial⟩ rfl (zr_t zr_i) (fx_one rfl (Pc.tx (Pc.here _)) (is_i (by decide) (by decide)) (fx_one rfl (Pc.ty (Pc.here _)) (is_i (by decide) (by decide)) (fx_one rfl (Pc.tz (Pc.here _)) (is_i (by decide) (by decide)) fx_nil)))) mem0 rfl ?_))))
  intro v7 r7
  refine gl_x (F := fun v_ => (rpT rpI).Is g5 v_ (T3.mk (0 : Int) (1 : Int) (0 : Int))) (ox_build_arr (ps' := [(0, _), (1, _), (2, _)]) Try.underlying76 info76 rfl rfl Try.sizeOf3 ⟨rfl, rfl, rfl, rfl, rfl, rfl, trivial⟩ rfl (zr_t zr_i) (fx_one rfl (Pc.tx (Pc.here _)) (is_i (by decide) (by decide)) (fx_one rfl (Pc.ty (Pc.here _)) (is_i (by decide) (by decide)) (fx_one rfl (Pc.tz (Pc.here _)) (is_i (by decide) (by decide)) fx_nil)))) mem0 rfl ?_
  intro v8 r8
  refine gl_x (F := fun v_ => (rpT rpI).Is g5 v_ (T3.mk (0 : Int) (0 : Int) (1 : Int))) (ox_build_arr (ps' := [(0, _), (1, _), (2, _)]) Try.underlying76 info76 rfl rfl Try.sizeOf3 ⟨rfl, rfl, rfl, rfl, rfl, rfl, trivial⟩ rfl (zr_t zr_i) (fx_one rfl (Pc.tx (Pc.here _)) (is_i (by decide) (by decide)) (fx_one rfl (Pc.ty (Pc.here _)) (is_i (by decide) (by decide)) (fx_one rfl (Pc.tz (Pc.here _)) (is_i (by decide) (by decide)) fx_nil)))) mem0 rfl ?_
  intro v9 r9
  refine gl_x (F := fun v_ => (rpT rpI).Is g5 v_ (T3.mk (1 : Int) (1 : Int) (0 : Int))) (ox_build_arr (ps' := [(0, _), (1, _), (2, _)]) Try.underlying76 info76 rfl rfl Try.sizeOf3 ⟨rfl, rfl, rfl, rfl, rfl, rfl, trivial⟩ rfl (zr_t zr_i) (fx_one rfl (Pc.tx (Pc.here _)) (is_i (by decide) (by decide)) (fx_one rfl (Pc.ty (Pc.here _)) (is_i (by decide) (by decide)) (fx_one rfl (Pc.tz (Pc.here _)) (is_i (by decide) (by decide)) fx_nil)))) mem0 rfl ?_
  intro v10 r10
  refine gl_x (F := fun v_ => (rpT rpI).Is g5 v_ (T3.mk (-1 : Int) (0 : Int) (0 : Int))) (ox_build_arr (ps' := [(0, _), (1, _), (2, _)]) Try.underlying76 info76 rfl rfl Try.sizeOf3 ⟨rfl, rfl, rfl, rfl, rfl, rfl, trivial⟩ rfl (zr_t zr_i) (fx_one rfl (Pc.tx (Pc.here _)) (is_i (by decide) (by decide)) (fx_one rfl (Pc.ty (Pc.here _)) (is_i (by decide) (by decide)) (fx_one rfl (Pc.tz (Pc.here _)) (is_i (by decide) (by decide)) fx_nil)))) mem0 rfl ?_
  intro v11 r11
  refine gl_x (F := fun v_ => (rpT rpI).Is g5 v_ (T3.mk (1 : Int) (-1 : Int) (2 : Int))) (ox_build_arr (ps' := [(0, _), (1, _), (2, _)]) Try.underlying76 info76 rfl rfl Try.sizeOf3 ⟨rfl, rfl, rfl, rfl, rfl, rfl, trivial⟩ rfl (zr_t zr_i) (fx_one rfl (Pc.tx (Pc.here _)) (is_i (by decide) (by decide)) (fx_one rfl (Pc.ty (Pc.here _)) (is_i (by decide) (by decide)) (fx_one rfl (Pc.tz (Pc.here _)) (is_i (by decide) (by decide)) fx_nil)))) mem0 rfl ?_
  intro v12 r12
  refine gl_x (F := fun v_ => (rpT rpI).Is g5 v_ (T3.mk (0 : Int) (2 : Int) (1 : Int))) (ox_build_arr (ps' := [(0, _), (1, _), (2, _)]) Try.underlying76 info76 rfl rfl Try.sizeOf3 ⟨rfl, rfl, rfl, rfl, rfl, rfl, trivial⟩ rfl (zr_t zr_i) (fx_one rfl (Pc.tx (Pc.here _)) (is_i (by decide) (by decide)) (fx_one rfl (Pc.ty (Pc.here _)) (is_i (by decide) (by decide)) (fx_one rfl (Pc.tz (Pc.here _)) (is_i (by decide) (by decide)) fx_nil)))) mem0 rfl ?_
  intro v13 r13
  refine gl_x (F := fun v_ => (rpA 7 (rpT rpI)).Is g5 v_ [(T3.mk (1 : Int) (0 : Int) (0 : Int)), (T3.mk (0 : Int) (1 : Int) (0 : Int)), (T3.mk (0 : Int) (0 : Int) (1 : Int)), (T3.mk (1 : Int) (1 : Int) (0 : Int)), (T3.mk (-1 : Int) (0 : Int) (0 : Int)), (T3.mk (1 : Int) (-1 : Int) (2 : Int)), (T3.mk (0 : Int) (2 : Int) (1 : Int))]) (ox_build_arr (ps' := [(0, _), (1, _), (2, _), (3, _), (4, _), (5, _), (6, _)]) Try.underlying77 info77 rfl rfl Try.sizeOf76 ⟨rfl, rfl, rfl, rfl, rfl, rfl, rfl, rfl, rfl, rfl, rfl, rfl, rfl, rfl, trivial⟩ rfl (zr_a 7 (zr_t zr_i)) (fx_one rfl (Pc.arr (Pc.here _) (T3.mk (0 : Int) (0 : Int) (0 : Int)) 0 (by decide)) r7 (fx_one rfl (Pc.arr (Pc.here _) (T3.mk (0 : Int) (0 : Int) (0 : Int)) 1 (by decide)) r8 (fx_one rfl (Pc.arr (Pc.here _) (T3.mk (0 : Int) (0 : Int) (0 : Int)) 2 (by decide)) r9 (fx_one rfl (Pc.arr (Pc.here _) (T3.mk (0 : Int) (0 : Int) (0 : Int)) 3 (by decide)) r10 (fx_one rfl (Pc.arr (Pc.here _) (T3.mk (0 : Int) (0 : Int) (0 : Int)) 4 (by decide)) r11 (fx_one rfl (Pc.arr (Pc.here _) (T3.mk (0 : Int) (0 : Int) (0 : Int)) 5 (by decide)) r12 (fx_one rfl (Pc.arr (Pc.here _) (T3.mk (0 : Int) (0 : Int) (0 : Int)) 6 (by decide)) r13 fx_nil)))))))) mem0 rfl ?_
  intro v14 r14
  refine mv rfl rfl ?_
  replace hl := hl.mono hg5
  refine gl_call_mut2 (A := [_]) (vs := [_, vI (7)]) Try.call11 ⟨rfl, rfl, trivial⟩ (fun X w hs => dice_next hl (by first | omega | exact Nat.zero_le _) (by omega) (by omega) hs) rfl ?_
  intro v16 g16 q16 hg16 hr16
  obtain ⟨k16, z16, rfl, hk16, rfl, hz16, hy16⟩ := hr16
  replace r14 := r14.mono hg16
  refine gl_x (F := fun v_ => (rpT rpI).Is g16 v_ ([(T3.mk (1 : Int) (0 : Int) (0 : Int)), (T3.mk (0 : Int) (1 : Int) (0 : Int)), (T3.mk (0 : Int) (0 : Int) (1 : Int)), (T3.mk (1 : Int) (1 : Int) (0 : Int)), (T3.mk (-1 : Int) (0 : Int) (0 : Int)), (T3.mk (1 : Int) (-1 : Int) (2 : Int)), (T3.mk (0 : Int) (2 : Int) (1 : Int))].getD z16.toNat (T3.mk (0 : Int) (0 : Int) (0 : Int)))) (ox_index z16.toNat Try.underlying77 ty76 (Pc.arr (Pc.here _) (T3.mk (0 : Int) (0 : Int) (0 : Int)) z16.toNat (by omega)) rfl rfl rfl rfl r14 (by omega) (by omega) rfl) mem0 rfl ?_
  intro v17 r17
  refine gl_newop (new_allocx (ρ := (rpT rpI)) (X := (T3.mk (0 : Int) (0 : Int) (0 : Int))) info76 rfl rfl (zr_t zr_i)) rfl rfl rfl ?_
  intro v3 q3 hq3
  obtain ⟨b3, cs3, rfl, rfl, rb3⟩ := hq3
  refine gl_updx (A := []) (F := fun c_ => (rpT rpI).R g16 c_ ([(T3.mk (1 : Int) (0 : Int) (0 : Int)), (T3.mk (0 : Int) (1 : Int) (0 : Int)), (T3.mk (0 : Int) (0 : Int) (1 : Int)), (T3.mk (1 : Int) (1 : Int) (0 : Int)), (T3.mk (-1 : Int) (0 : Int) (0 : Int)), (T3.mk (1 : Int) (-1 : Int) (2 : Int)), (T3.mk (0 : Int) (2 : Int) (1 : Int))].getD z16.toNat (T3.mk (0 : Int) (0 : Int) (0 : Int)))) (upd_box Try.sizeOf76 (Pc.here _) rfl rfl rfl rb3 r17 rfl) ?_
  intro cs_50 rb_51
  refine gl_nil (gq_keep (e' := [(0, _), (2, _), (3, _)]) ⟨rfl, rfl, rfl, trivial⟩ (gq_then (gc_seq (gc_region (gv ((ov_index_arr (sz := 1) (q := 0) 0 Try.underlying76 Try.sizeOf3 rfl rfl rfl (by decide)).cv (show _ = vP b3 0 from congrArg (vP b3) (by rfl))) rfl (gl_x (F := fun v_ => rpI.Is g16 v_ (([(T3.mk (1 : Int) (0 : Int) (0 : Int)), (T3.mk (0 : Int) (1 : Int) (0 : Int)), (T3.mk (0 : Int) (0 : Int) (1 : Int)), (T3.mk (1 : Int) (1 : Int) (0 : Int)), (T3.mk (-1 : Int) (0 : Int) (0 : Int)), (T3.mk (1 : Int) (-1 : Int) (2 : Int)), (T3.mk (0 : Int) (2 : Int) (1 : Int))].getD z16.toNat (T3.mk (0 : Int) (0 : Int) (0 : Int))).x)) (ox_load_box ty3 (Pc.tx (Pc.here _)) rfl rfl rb_51 rfl) (mem1 (.head _)) rfl ?_))))))
  intro v19 r19
  obtain ⟨rfl, hl19, hu19⟩ := of_i r19
  refine gv ((ov_index_arr (sz := 1) (q := 1) 1 Try.underlying76 Try.sizeOf3 rfl rfl rfl (by decide)).cv (show _ = vP b3 1 from congrArg (vP b3) (by rfl))) rfl (gl_x (F := fun v_ => rpI.Is g16 v_ (([(T3.mk (1 : Int) (0 : Int) (0 : Int)), (T3.mk (0 : Int) (1 : Int) (0 : Int)), (T3.mk (0 : Int) (0 : Int) (1 : Int)), (T3.mk (1 : Int) (1 : Int) (0 : Int)), (T3.mk (-1 : Int) (0 : Int) (0 : Int)), (T3.mk (1 : Int) (-1 : Int) (2 : Int)), (T3.mk (0 : Int) (2 : Int) (1 : Int))].getD z16.toNat (T3.mk (0 : Int) (0 : Int) (0 : Int))).y)) (ox_load_box ty3 (Pc.ty (Pc.here _)) rfl rfl rb_51 rfl) (mem1 (.head _)) rfl ?_)
  intro v21 r21
  obtain ⟨rfl, hl21, hu21⟩ := of_i r21
  refine gv ((ov_index_arr (sz := 1) (q := 2) 2 Try.underlying76 Try.sizeOf3 rfl rfl rfl (by decide)).cv (show _ = vP b3 2 from congrArg (vP b3) (by rfl))) rfl (gl_x (F := fun v_ => rpI.Is g16 v_ (([(T3.mk (1 : Int) (0 : Int) (0 : Int)), (T3.mk (0 : Int) (1 : Int) (0 : Int)), (T3.mk (0 : Int) (0 : Int) (1 : Int)), (T3.mk (1 : Int) (1 : Int) (0 : Int)), (T3.mk (-1 : Int) (0 : Int) (0 : Int)), (T3.mk (1 : Int) (-1 : Int) (2 : Int)), (T3.mk (0 : Int) (2 : Int) (1 : Int))].getD z16.toNat (T3.mk (0 : Int) (0 : Int) (0 : Int))).z)) (ox_load_box ty3 (Pc.tz (Pc.here _)) rfl rfl rb_51 rfl) (mem1 (.head _)) rfl ?_)
  intro v23 r23
  obtain ⟨rfl, hl23, hu23⟩ := of_i r23
  refine gl_call (vs := [_, _, _]) rfl rfl rfl rfl Try.call36 ⟨rfl, rfl, rfl, trivial⟩ (fun w hs => o_made_at3 hs (by omega) (by omega) (by omega) (by omega) (by omega) (by omega)) ?_
  intro v24 h1 hh1 r24
  change (rpT (rpQ 2)).Is h1 v24 (T3.mk (((([(T3.mk (1 : Int) (0 : Int) (0 : Int)), (T3.mk (0 : Int) (1 : Int) (0 : Int)), (T3.mk (0 : Int) (0 : Int) (1 : Int)), (T3.mk (1 : Int) (1 : Int) (0 : Int)), (T3.mk (-1 : Int) (0 : Int) (0 : Int)), (T3.mk (1 : Int) (-1 : Int) (2 : Int)), (T3.mk (0 : Int) (2 : Int) (1 : Int))].getD z16.toNat (T3.mk (0 : Int) (0 : Int) (0 : Int))).x) : Int) : Rat) (((([(T3.mk (1 : Int) (0 : Int) (0 : Int)), (T3.mk (0 : Int) (1 : Int) (0 : Int)), (T3.mk (0 : Int) (0 : Int) (1 : Int)), (T3.mk (1 : Int) (1 : Int) (0 : Int)), (T3.mk (-1 : Int) (0 : Int) (0 : Int)), (T3.mk (1 : Int) (-1 : Int) (2 : Int)), (T3.mk (0 : Int) (2 : Int) (1 : Int))].getD z16.toNat (T3.mk (0 : Int) (0 : Int) (0 : Int))).y) : Int) : Rat) (((([(T3.mk (1 : Int) (0 : Int) (0 : Int)), (T3.mk (0 : Int) (1 : Int) (0 : Int)), (T3.mk (0 : Int) (0 : Int) (1 : Int)), (T3.mk (1 : Int) (1 : Int) (0 : Int)), (T3.mk (-1 : Int) (0 : Int) (0 : Int)), (T3.mk (1 : Int) (-1 : Int) (2 : Int)), (T3.mk (0 : Int) (2 : Int) (1 : Int))].getD z16.toNat (T3.mk (0 : Int) (0 : Int) (0 : Int))).z) : Int) : Rat)) at r24
  refine mv rfl rfl ?_
  replace hl := hl.mono (hg16.trans hh1)
  refine gl_call_mut2 (A := [_, _]) (vs := [_, vI (9)]) Try.call11 ⟨rfl, rfl, trivial⟩ (fun X w hs => dice_next hl (by first | omega | exact Nat.zero_le _) (by omega) (by omega) hs) rfl ?_
  intro v26 g26 q26 hg26 hr26
  obtain ⟨k26, z26, rfl, hk26, rfl, hz26, hy26⟩ := hr26
  refine gv (ov_sub_i (q := 1) rfl rfl (by omega) (by omega)) rfl ?_
  refine gl_call (vs := [_, vI (2)]) rfl rfl rfl rfl Try.call14 ⟨rfl, rfl, trivial⟩ (fun w hs => o_rref_frac hs (by omega) (by omega) (by decide) (by decide)) ?_
  intro v28 h2 hh2 r28
  change (rpQ 2).Is h2 v28 (makeQ (z26 - (1 : Int)) (2 : Int)) at r28
  replace r24 := r24.mono (hg26.trans hh2)
  refine gl_x (F := fun v_ => (rpP (rpT (rpQ 2)) (rpQ 2)).Is h2 v_ ((T3.mk (((([(T3.mk (1 : Int) (0 : Int) (0 : Int)), (T3.mk (0 : Int) (1 : Int) (0 : Int)), (T3.mk (0 : Int) (0 : Int) (1 : Int)), (T3.mk (1 : Int) (1 : Int) (0 : Int)), (T3.mk (-1 : Int) (0 : Int) (0 : Int)), (T3.mk (1 : Int) (-1 : Int) (2 : Int)), (T3.mk (0 : Int) (2 : Int) (1 : Int))].getD z16.toNat (T3.mk (0 : Int) (0 : Int) (0 : Int))).x) : Int) : Rat) (((([(T3.mk (1 : Int) (0 : Int) (0 : Int)), (T3.mk (0 : Int) (1 : Int) (0 : Int)), (T3.mk (0 : Int) (0 : Int) (1 : Int)), (T3.mk (1 : Int) (1 : Int) (0 : Int)), (T3.mk (-1 : Int) (0 : Int) (0 : Int)), (T3.mk (1 : Int) (-1 : Int) (2 : Int)), (T3.mk (0 : Int) (2 : Int) (1 : Int))].getD z16.toNat (T3.mk (0 : Int) (0 : Int) (0 : Int))).y) : Int) : Rat) (((([(T3.mk (1 : Int) (0 : Int) (0 : Int)), (T3.mk (0 : Int) (1 : Int) (0 : Int)), (T3.mk (0 : Int) (0 : Int) (1 : Int)), (T3.mk (1 : Int) (1 : Int) (0 : Int)), (T3.mk (-1 : Int) (0 : Int) (0 : Int)), (T3.mk (1 : Int) (-1 : Int) (2 : Int)), (T3.mk (0 : Int) (2 : Int) (1 : Int))].getD z16.toNat (T3.mk (0 : Int) (0 : Int) (0 : Int))).z) : Int) : Rat)), makeQ (z26 - (1 : Int)) (2 : Int))) (ox_build (ps' := [(0, _), (1, _)]) Try.underlying46 info46 rfl rfl (places46 Try.underlying46) ⟨rfl, rfl, rfl, rfl, trivial⟩ rfl (zr_p (zr_t (zr_q (by decide))) (zr_q (by decide))) (fx_one rfl (Pc.fst (Pc.here _)) r24 (fx_one rfl (Pc.snd (Pc.here _)) r28 fx_nil))) mem0 rfl ?_
  intro v29 r29
  replace rb2 := rb2.mono ((((hg5.trans hg16).trans hh1).trans hg26).trans hh2)
  refine gl_updx (A := [_]) (F := fun c_ => (rpP (rpT (rpQ 2)) (rpQ 2)).R h2 c_ ((T3.mk (((([(T3.mk (1 : Int) (0 : Int) (0 : Int)), (T3.mk (0 : Int) (1 : Int) (0 : Int)), (T3.mk (0 : Int) (0 : Int) (1 : Int)), (T3.mk (1 : Int) (1 : Int) (0 : Int)), (T3.mk (-1 : Int) (0 : Int) (0 : Int)), (T3.mk (1 : Int) (-1 : Int) (2 : Int)), (T3.mk (0 : Int) (2 : Int) (1 : Int))].getD z16.toNat (T3.mk (0 : Int) (0 : Int) (0 : Int))).x) : Int) : Rat) (((([(T3.mk (1 : Int) (0 : Int) (0 : Int)), (T3.mk (0 : Int) (1 : Int) (0 : Int)), (T3.mk (0 : Int) (0 : Int) (1 : Int)), (T3.mk (1 : Int) (1 : Int) (0 : Int)), (T3.mk (-1 : Int) (0 : Int) (0 : Int)), (T3.mk (1 : Int) (-1 : Int) (2 : Int)), (T3.mk (0 : Int) (2 : Int) (1 : Int))].getD z16.toNat (T3.mk (0 : Int) (0 : Int) (0 : Int))).y) : Int) : Rat) (((([(T3.mk (1 : Int) (0 : Int) (0 : Int)), (T3.mk (0 : Int) (1 : Int) (0 : Int)), (T3.mk (0 : Int) (0 : Int) (1 : Int)), (T3.mk (1 : Int) (1 : Int) (0 : Int)), (T3.mk (-1 : Int) (0 : Int) (0 : Int)), (T3.mk (1 : Int) (-1 : Int) (2 : Int)), (T3.mk (0 : Int) (2 : Int) (1 : Int))].getD z16.toNat (T3.mk (0 : Int) (0 : Int) (0 : Int))).z) : Int) : Rat)), makeQ (z26 - (1 : Int)) (2 : Int))) (upd_box Try.sizeOf46 (Pc.here _) rfl rfl rfl rb2 r29 rfl) ?_
  intro cs_52 rb_53
  refine gl_nil (gq_keep (e' := [(2, _)]) ⟨rfl, trivial⟩ (gq_then (gc_ret (gq_exv (rv_o (t := 2) ty46 (.tail _ (.head _)) rfl rb_53) ?_))))
  intro w_54 hvw_54 rr_55
  refine gq_res_own (fun E S => run_res1 rfl hvw_54 E S) ?_
  exact ⟨_, (.cons _ (.cons _ (List.Sublist.refl _))), ((((hg5.trans hg16).trans hh1).trans hg26).trans hh2), _, _, rfl, by omega, rr_55⟩

theorem law25_polygonturns {w0 : World} {h0 : Mem}  (hs : MLe h0 (mem w0)) {vl : Value} {xsl : List Int} (hl : Is h0 vl xsl)  :
    Calls Try.prog 6 #[vl] w0 (Ret w0 h0 (fun _ r => r = .bool true)) := by
 have hlenl := hl.lt63
 refine calls_begin (n := 79) (e := [(0, vl)]) (vs := [vl]) Try.func6 rfl rfl (Nat.le_of_ble_eq_true rfl) hs ⟨rfl, trivial⟩ (gc_seq (gc_region (asg rfl rfl (gl_nil (gq_then (gc_seq (gc_seq (gc_region (mv rfl rfl ?_)))))))))
 refine gl_call (vs := [_]) rfl rfl rfl rfl Try.call7 ⟨rfl, trivial⟩ (fun w hs => made_light hs hl) ?_
 intro v14 h1 hh1 hr14
 subst hr14
 refine gv (ov_not rfl) rfl (gl_nil (gq_then ?_))
 refine gc_cond rfl (fun hc15 => ?_) (fun hc15 => ?_)
 ·
  refine gc_seq (gc_region ?_)
  refine gl_call (vs := []) rfl rfl rfl rfl Try.call8 trivial (fun w hs => law25_sane hs) ?_
  intro v16 h2 hh2 hr16
  subst hr16
  refine asg rfl rfl (gl_nil (gq_then (gc_ret (gr_then (gq_body1 rfl rfl ?_)))))
  rfl
 ·
  refine gc_skip (gq_then (gc_seq (gc_region (mv rfl rfl ?_))))
  replace hl := hl.mono hh1
  refine gl_call_own (vs := [_]) rfl rfl rfl rfl Try.call9 ⟨rfl, trivial⟩ (fun w hs => made_roll hs hl) ?_
  intro v18 h2 L18 hh2 hr18
  obtain ⟨b18, rfl, rfl⟩ := hr18
  refine asg rfl rfl (gl_nil (gq_then (gc_seq (gc_region (mv rfl rfl ?_)))))
  replace hl := hl.mono hh2
  refine gl_call_mut2 (A := []) (vs := [_]) Try.call24 ⟨rfl, trivial⟩ (fun X w hs => o_dice_plane hl (by first | omega | exact Nat.zero_le _) hs) rfl ?_
  intro v20 g20 q20 hg20 hr20
  obtain ⟨k20, p20, rfl, hk20, hr20⟩ := hr20
  refine gl_newop (new_allocx (ρ := (rpP (rpT (rpQ 1)) (rpQ 1))) (X := ((T3.mk (0 : Rat) (0 : Rat) (0 : Rat)), (0 : Rat))) info46 rfl rfl (zr_p (zr_t (zr_q (by decide))) (zr_q (by decide)))) rfl rfl rfl ?_
  intro v4 q4 hq4
  obtain ⟨b4, cs4, rfl, rfl, rb4⟩ := hq4
  have rw_56 := (Le.p (Le.t (Le.q (l := 2) (by decide))) (Le.q (l := 2) (by decide))).R rb4
  refine gl_updx (A := []) (F := fun c_ => (rpP (rpT (rpQ 2)) (rpQ 2)).R g20 c_ p20) (upd_box Try.sizeOf46 (Pc.here _) rfl rfl rfl rw_56 hr20 rfl) ?_
  intro cs_57 rb_58
  refine gl_nil (gq_then (gc_seq ?_))
  refine gc_draw1 (A := [_]) 10 [(7, (5, 31, [.bool false, .slice none 0 0, .slice none 0 0, .bool false, .slice none 0 0, .slice none 0 0, .bool false, .slice none 0 0, .slice none 0 0]))] [(0, .q), (1, .q), (2, .c), (3, .c), (4, .q), (5, .q), (6, .q), (7, .a), (8, .c), (9, .q)] mixed (AlOk.cons rfl (zero_run info31 rfl rfl) AlOk.nil) (by kernel_rfl) (hae_cons rfl rfl hae_nil) (w_qx (F := fun v_ => (rpP (rpT (rpQ 2)) (rpQ 2)).Is g20 v_ p20) rfl (ox_load_box ty46 (Pc.here _) rfl rfl rb_58 rfl) (mem1 (.head _)) rfl ?_)
  intro v22 r22
  refine w_q rfl (fun h' L' hh hR => ov_move rfl) rfl ?_
  refine w_c rfl ?_
  replace hl := hl.mono hg20
  refine s_call_mut (A := [_]) (vs := [_]) Try.call10 ⟨rfl, trivial⟩ (fun X w hs => o_dice_flat hl (by first | omega | exact Nat.zero_le _) hs) rfl (mem_kept (by simp)) ?_
  intro v24 g24 q24 hg24 hr24
  obtain ⟨k24, p24, rfl, hk24, hr24⟩ := hr24
  refine w_c rfl ?_
  replace r22 := r22.mono hg24
  refine s_call (vs := [_, _]) Try.call27 ⟨rfl, rfl, trivial⟩ (fun w hs => o_pg_lift hs r22 hr24 (by decide) (by decide) (by decide)) rfl ?_
  intro v25 h3 hh3 r25
  obtain ⟨v25_0, rfl, r25_0⟩ := r25
  change (rpT (rpQ (4 * 2 + 2 + 4 * 2 + 9))).Is h3 v25_0 (liftZ p20 p24) at r25_0
  replace r25_0 := Rp.Is.le r25_0 (Le.t (Le.q (l := 27) (by omega)))
  refine w_q rfl (fun h' L' hh hR => ov_move rfl) rfl (w_q rfl (fun h' L' hh hR => ov_extract (vs := [_, _]) rfl rfl) rfl (w_q rfl (fun h' L' hh hR => ov_extract (vs := [_, _]) rfl rfl) rfl ?_))
  refine w_a rfl (fun b5 => ?_)
  have rb5 : (rpT (rpQ 1)).R h3 [.bool false, .slice none 0 0, .slice none 0 0, .bool false, .slice none 0 0, .slice none 0 0, .bool false, .slice none 0 0, .slice none 0 0] (T3.mk (0 : Rat) (0 : Rat) (0 : Rat)) := (zr_t (zr_q (by decide)))
  refine w_c rfl ?_
  have rw_59 := (Le.t (Le.q (l := 27) (by decide))).R rb5
  refine s_updx (A := []) (F := fun c_ => (rpT (rpQ 27)).R h3 c_ (liftZ p20 p24)) (upd_box Try.sizeOf31 (Pc.here _) rfl rfl rfl rw_59 r25_0 rfl) (mem_kept (by simp)) ?_
  intro cs_60 rb_61
  refine w_q rfl (fun h' L' hh hR => ov_assign rfl) rfl (w_nil (gq_keep (e' := [(3, _), (4, _), (5, _), (6, _)]) ⟨rfl, rfl, rfl, rfl, trivial⟩ (gq_then (gc_seq ?_))))
  refine gc_draw1 (A := [_, _]) 10 [(7, (7, 31, [.bool false, .slice none 0 0, .slice none 0 0, .bool false, .slice none 0 0, .slice none 0 0, .bool false, .slice none 0 0, .slice none 0 0]))] [(0, .q), (1, .q), (2, .c), (3, .c), (4, .q), (5, .q), (6, .q), (7, .a), (8, .c), (9, .q)] mixed (AlOk.cons rfl (zero_run info31 rfl rfl) AlOk.nil) (by kernel_rfl) (hae_cons rfl rfl hae_nil) ?_
  replace rb_58 := rb_58.mono (hg24.trans hh3)
  refine w_qx (F := fun v_ => (rpP (rpT (rpQ 2)) (rpQ 2)).Is h3 v_ p20) rfl (ox_load_box ty46 (Pc.here _) rfl rfl rb_58 rfl) (mem1 (.tail _ (.head _))) rfl ?_
  intro v29 r29
  refine w_q rfl (fun h' L' hh hR => ov_move rfl) rfl ?_
  refine w_c rfl ?_
  replace hl := hl.mono (hg24.trans hh3)
  refine s_call_mut (A := [_, _]) (vs := [_]) Try.call10 ⟨rfl, trivial⟩ (fun X w hs => o_dice_flat hl (by first | omega | exact Nat.zero_le _) hs) rfl (mem_kept (by simp)) ?_
  intro v31 g31 q31 hg31 hr31
  obtain ⟨k31, p31, rfl, hk31, hr31⟩ := hr31
  refine w_c rfl ?_
  replace r29 := r29.mono hg31
  refine s_call (vs := [_, _]) Try.call27 ⟨rfl, rfl, trivial⟩ (fun w hs => o_pg_lift hs r29 hr31 (by decide) (by decide) (by decide)) rfl ?_
  intro v32 h4 hh4 r32
  obtain ⟨v32_0, rfl, r32_0⟩ := r32
  change (rpT (rpQ (4 * 2 + 2 + 4 * 2 + 9))).Is h4 v32_0 (liftZ p20 p31) at r32_0
  replace r32_0 := Rp.Is.le r32_0 (Le.t (Le.q (l := 27) (by omega)))
  refine w_q rfl (fun h' L' hh hR => ov_move rfl) rfl (w_q rfl (fun h' L' hh hR => ov_extract (vs := [_, _]) rfl rfl) rfl (w_q rfl (fun h' L' hh hR => ov_extract (vs := [_, _]) rfl rfl) rfl ?_))
  refine w_a rfl (fun b7 => ?_)
  have rb7 : (rpT (rpQ 1)).R h4 [.bool false, .slice none 0 0, .slice none 0 0, .bool false, .slice none 0 0, .slice none 0 0, .bool false, .slice none 0 0, .slice none 0 0] (T3.mk (0 : Rat) (0 : Rat) (0 : Rat)) := (zr_t (zr_q (by decide)))
  refine w_c rfl ?_
  have rw_62 := (Le.t (Le.q (l := 27) (by decide))).R rb7
  refine s_updx (A := []) (F := fun c_ => (rpT (rpQ 27)).R h4 c_ (liftZ p20 p31)) (upd_box Try.sizeOf31 (Pc.here _) rfl rfl rfl rw_62 r32_0 rfl) (mem_kept (by simp)) ?_
  intro cs_63 rb_64
  refine w_q rfl (fun h' L' hh hR => ov_assign rfl) rfl (w_nil (gq_then (gc_seq ?_)))
  refine gc_draw1 (A := [_, _, _]) 10 [(7, (9, 31, [.bool false, .slice none 0 0, .slice none 0 0, .bool false, .slice none 0 0, .slice none 0 0, .bool false, .slice none 0 0, .slice none 0 0]))] [(0, .q), (1, .q), (2, .c), (3, .c), (4, .q), (5, .q), (6, .q), (7, .a), (8, .c), (9, .q)] mixed (AlOk.cons rfl (zero_run info31 rfl rfl) AlOk.nil) (by kernel_rfl) (hae_cons rfl rfl hae_nil) ?_
  replace rb_58 := rb_58.mono (hg31.trans hh4)
  refine w_qx (F := fun v_ => (rpP (rpT (rpQ 2)) (rpQ 2)).Is h4 v_ p20) rfl (ox_load_box ty46 (Pc.here _) rfl rfl rb_58 rfl) (mem1 (.tail _ (.tail _ (.head _)))) rfl ?_
  intro v36 r36
  refine w_q rfl (fun h' L' hh hR => ov_move rfl) rfl ?_
  refine w_c rfl ?_
  replace hl := hl.mono (hg31.trans hh4)
  refine s_call_mut (A := [_, _, _]) (vs := [_]) Try.call10 ⟨rfl, trivial⟩ (fun X w hs => o_dice_flat hl (by first | omega | exact Nat.zero_le _) hs) rfl (mem_kept (by simp)) ?_
  intro v38 g38 q38 hg38 hr38
  obtain ⟨k38, p38, rfl, hk38, hr38⟩ := hr38
  refine w_c rfl ?_
  replace r36 := r36.mono hg38
  refine s_call (vs := [_, _]) Try.call27 ⟨rfl, rfl, trivial⟩ (fun w hs => o_pg_lift hs r36 hr38 (by decide) (by decide) (by decide)) rfl ?_
  intro v39 h5 hh5 r39
  obtain ⟨v39_0, rfl, r39_0⟩ := r39
  change (rpT (rpQ (4 * 2 + 2 + 4 * 2 + 9))).Is h5 v39_0 (liftZ p20 p38) at r39_0
  replace r39_0 := Rp.Is.le r39_0 (Le.t (Le.q (l := 27) (by omega)))
  refine w_q rfl (fun h' L' hh hR => ov_move rfl) rfl (w_q rfl (fun h' L' hh hR => ov_extract (vs := [_, _]) rfl rfl) rfl (w_q rfl (fun h' L' hh hR => ov_extract (vs := [_, _]) rfl rfl) rfl ?_))
  refine w_a rfl (fun b9 => ?_)
  have rb9 : (rpT (rpQ 1)).R h5 [.bool false, .slice none 0 0, .slice none 0 0, .bool false, .slice none 0 0, .slice none 0 0, .bool false, .slice none 0 0, .slice none 0 0] (T3.mk (0 : Rat) (0 : Rat) (0 : Rat)) := (zr_t (zr_q (by decide)))
  refine w_c rfl ?_
  have rw_65 := (Le.t (Le.q (l := 27) (by decide))).R rb9
  refine s_updx (A := []) (F := fun c_ => (rpT (rpQ 27)).R h5 c_ (liftZ p20 p38)) (upd_box Try.sizeOf31 (Pc.here _) rfl rfl rfl rw_65 r39_0 rfl) (mem_kept (by simp)) ?_
  intro cs_66 rb_67
  refine w_q rfl (fun h' L' hh hR => ov_assign rfl) rfl (w_nil (gq_keep (e' := [(4, _), (5, _), (6, _), (7, _), (9, _)]) ⟨rfl, rfl, rfl, rfl, rfl, trivial⟩ (gq_then (gc_seq (gc_seq (gc_region (mv rfl rfl (gv (ov_not rfl) rfl (gl_nil (gq_then ?_))))))))))
  refine gc_cond rfl (fun hc43 => ?_) (fun hc43 => ?_)
  ·
   refine gc_seq (gc_region (gv ((ov_field_addr Try.underlying46 rfl Try.sizeOf31 rfl).cv (show _ = vP b4 0 from congrArg (vP b4) (by rfl))) rfl ?_))
   replace rb_58 := rb_58.mono (hg38.trans hh5)
   refine gl_x (F := fun v_ => (rpT (rpQ 2)).Is h5 v_ p20.1) (ox_load_box ty31 (Pc.fst (Pc.here _)) rfl rfl rb_58 rfl) (mem1 (.tail _ (.tail _ (.tail _ (.head _))))) rfl ?_
   intro v45 r45
   refine gl_call (vs := [_]) rfl rfl rfl rfl Try.call26 ⟨rfl, trivial⟩ (fun w hs => o_r4_zero hs r45 (by decide)) ?_
   intro v46 h6 hh6 r46
   obtain rfl : v46 = .bool true := by rw [show v46 = vB (p20.1 = (T3.mk (0 : Rat) (0 : Rat) (0 : Rat))) from r46, vB_true (by exact (ax_zero _).1 (Classical.not_not.1 hc43))]
   refine mv rfl rfl (gl_on rfl rfl rfl ?_)
   refine gl_call (vs := []) rfl rfl rfl rfl Try.call8 trivial (fun w hs => law25_sane hs) ?_
   intro v48 h7 hh7 hr48
   subst hr48
   refine gv (ov_pick_t rfl rfl) rfl (asg rfl rfl (gl_nil (gq_keep (e' := [(2, _)]) ⟨rfl, trivial⟩ (gq_then (gc_ret (gr_then (gq_body1 rfl rfl ?_)))))))
   rfl
  ·
   refine gc_skip (gq_then (gc_seq ?_))
   refine gc_draw 8 _ [(7, (11, 31, [.bool false, .slice none 0 0, .slice none 0 0, .bool false, .slice none 0 0, .slice none 0 0, .bool false, .slice none 0 0, .slice none 0 0]))] [(0, .q), (1, .q), (3, .q), (4, .q), (2, .c), (5, .c), (6, .c), (7, .a), (8, .t)] mixed (AlOk.cons rfl (zero_run info31 rfl rfl) AlOk.nil) (by kernel_rfl) (hae_cons rfl rfl hae_nil) (fun r hr => hr) ?_
   replace rb_64 := rb_64.mono (hg38.trans hh5)
   refine w_qx (F := fun v_ => (rpT (rpQ 27)).Is h5 v_ (liftZ p20 p31)) rfl (ox_load_box ty31 (Pc.here _) rfl rfl rb_64 rfl) (mem1 (.tail _ (.head _))) rfl ?_
   intro v50 r50
   replace rb_61 := rb_61.mono (((hg31.trans hh4).trans hg38).trans hh5)
   refine w_qx (F := fun v_ => (rpT (rpQ 27)).Is h5 v_ (liftZ p20 p24)) rfl (ox_load_box ty31 (Pc.here _) rfl rfl rb_61 rfl) (mem1 (.tail _ (.tail _ (.head _)))) rfl ?_
   intro v51 r51
   refine w_qx (F := fun v_ => (rpT (rpQ 27)).Is h5 v_ (liftZ p20 p38)) rfl (ox_load_box ty31 (Pc.here _) rfl rfl rb_67 rfl) (mem1 (.head _)) rfl ?_
   intro v53 r53
   refine w_qx (F := fun v_ => (rpT (rpQ 27)).Is h5 v_ (liftZ p20 p24)) rfl (ox_load_box ty31 (Pc.here _) rfl rfl rb_61 rfl) (mem1 (.tail _ (.tail _ (.head _)))) rfl ?_
   intro v54 r54
   refine w_c rfl ?_
   refine s_call (vs := [_, _]) Try.call15 ⟨rfl, rfl, trivial⟩ (fun w hs => o_r4_sub hs r50 r51 (by decide)) rfl ?_
   intro v52 h6 hh6 r52
   change (rpT (rpQ (27 + 3 * 27 + 3))).Is h6 v52 (T3.mk ((liftZ p20 p31).x - (liftZ p20 p24).x) ((liftZ p20 p31).y - (liftZ p20 p24).y) ((liftZ p20 p31).z - (liftZ p20 p24).z)) at r52
   replace r52 := Rp.Is.le r52 (Le.t (Le.q (l := 111) (by omega)))
   refine w_c rfl ?_
   replace r53 := r53.mono hh6
   replace r54 := r54.mono hh6
   refine s_call (vs := [_, _]) Try.call15 ⟨rfl, rfl, trivial⟩ (fun w hs => o_r4_sub hs r53 r54 (by decide)) rfl ?_
   intro v55 h7 hh7 r55
   change (rpT (rpQ (27 + 3 * 27 + 3))).Is h7 v55 (T3.mk ((liftZ p20 p38).x - (liftZ p20 p24).x) ((liftZ p20 p38).y - (liftZ p20 p24).y) ((liftZ p20 p38).z - (liftZ p20 p24).z)) at r55
   replace r55 := Rp.Is.le r55 (Le.t (Le.q (l := 111) (by omega)))
   refine w_c rfl ?_
   replace r52 := r52.mono hh7
   refine s_call (vs := [_, _]) Try.call33 ⟨rfl, rfl, trivial⟩ (fun w hs => o_r4_cross hs r52 r55 (by decide)) rfl ?_
   intro v56 h8 hh8 r56
   change (rpT (rpQ (2 * 111 + 2 * 111 + 3))).Is h8 v56 (crossT (T3.mk ((liftZ p20 p31).x - (liftZ p20 p24).x) ((liftZ p20 p31).y - (liftZ p20 p24).y) ((liftZ p20 p31).z - (liftZ p20 p24).z)) (T3.mk ((liftZ p20 p38).x - (liftZ p20 p24).x) ((liftZ p20 p38).y - (liftZ p20 p24).y) ((liftZ p20 p38).z - (liftZ p20 p24).z))) at r56
   replace r56 := Rp.Is.le r56 (Le.t (Le.q (l := 447) (by omega)))
   refine w_a rfl (fun b11 => ?_)
   have rb11 : (rpT (rpQ 1)).R h8 [.bool false, .slice none 0 0, .slice none 0 0, .bool false, .slice none 0 0, .slice none 0 0, .bool false, .slice none 0 0, .slice none 0 0] (T3.mk (0 : Rat) (0 : Rat) (0 : Rat)) := (zr_t (zr_q (by decide)))
   have rw_68 := (Le.t (Le.q (l := 447) (by decide))).R rb11
   refine w_tx_upd (A := []) (F := fun c_ => (rpT (rpQ 447)).R h8 c_ (crossT (T3.mk ((liftZ p20 p31).x - (liftZ p20 p24).x) ((liftZ p20 p31).y - (liftZ p20 p24).y) ((liftZ p20 p31).z - (liftZ p20 p24).z)) (T3.mk ((liftZ p20 p38).x - (liftZ p20 p24).x) ((liftZ p20 p38).y - (liftZ p20 p24).y) ((liftZ p20 p38).z - (liftZ p20 p24).z)))) rfl (upd_box Try.sizeOf31 (Pc.here _) rfl rfl rfl rw_68 r56 rfl) ?_
   intro cs_69 rb_70
   refine w_nil (gq_keep (e' := [(4, _), (5, _), (7, _), (9, _), (11, _)]) ⟨rfl, rfl, rfl, rfl, rfl, trivial⟩ (gq_then (gc_seq ?_)))
   refine gc_draw 12 _ [(11, (12, 29, [.bool false, .slice none 0 0, .slice none 0 0]))] [(0, .q), (1, .q), (3, .q), (4, .q), (6, .q), (7, .q), (2, .c), (5, .c), (8, .c), (9, .c), (10, .c), (11, .a), (12, .t)] mixed (AlOk.cons rfl (zero_run info29 rfl rfl) AlOk.nil) (chk_of [0, 0, 3, 0, 0, 28, 0, 0, 224, 292, 768, 0, 4095] [8191, 8191, 8188, 8191, 8191, 8167, 8191, 8191, 7999, 7899, 7679, 8191, 5119] (by kernel_rfl)) (hae_cons rfl rfl hae_nil) (fun r hr => hr) ?_
   replace rb_58 := rb_58.mono ((((hg38.trans hh5).trans hh6).trans hh7).trans hh8)
   refine w_qx (F := fun v_ => (rpP (rpT (rpQ 2)) (rpQ 2)).Is h8 v_ p20) rfl (ox_load_box ty46 (Pc.here _) rfl rfl rb_58 rfl) (mem1 (.tail _ (.tail _ (.tail _ (.tail _ (.head _)))))) rfl ?_
   intro v57 r57
   replace rb_61 := rb_61.mono ((hh6.trans hh7).trans hh8)
   refine w_qx (F := fun v_ => (rpT (rpQ 27)).Is h8 v_ (liftZ p20 p24)) rfl (ox_load_box ty31 (Pc.here _) rfl rfl rb_61 rfl) (mem1 (.tail _ (.tail _ (.tail _ (.head _))))) rfl ?_
   intro v58 r58
   refine w_qx (F := fun v_ => (rpP (rpT (rpQ 2)) (rpQ 2)).Is h8 v_ p20) rfl (ox_load_box ty46 (Pc.here _) rfl rfl rb_58 rfl) (mem1 (.tail _ (.tail _ (.tail _ (.tail _ (.head _)))))) rfl ?_
   intro v60 r60
   replace rb_64 := rb_64.mono ((hh6.trans hh7).trans hh8)
   refine w_qx (F := fun v_ => (rpT (rpQ 27)).Is h8 v_ (liftZ p20 p31)) rfl (ox_load_box ty31 (Pc.here _) rfl rfl rb_64 rfl) (mem1 (.tail _ (.tail _ (.head _)))) rfl ?_
   intro v61 r61
   refine w_qx (F := fun v_ => (rpP (rpT (rpQ 2)) (rpQ 2)).Is h8 v_ p20) rfl (ox_load_box ty46 (Pc.here _) rfl rfl rb_58 rfl) (mem1 (.tail _ (.tail _ (.tail _ (.tail _ (.head _)))))) rfl ?_
   intro v63 r63
   replace rb_67 := rb_67.mono ((hh6.trans hh7).trans hh8)
   refine w_qx (F := fun v_ => (rpT (rpQ 27)).Is h8 v_ (liftZ p20 p38)) rfl (ox_load_box ty31 (Pc.here _) rfl rfl rb_67 rfl) (mem1 (.tail _ (.head _))) rfl ?_
   intro v64 r64
   refine w_c rfl ?_
   refine s_call (vs := [_, _]) Try.call28 ⟨rfl, rfl, trivial⟩ (fun w hs => o_pg_flatten hs r57 r58 (by decide) (by decide)) rfl ?_
   intro v59 h9 hh9 r59
   change (rpT (rpQ (27 + 1))).Is h9 v59 (flatZ p20 (liftZ p20 p24)) at r59
   replace r59 := Rp.Is.le r59 (Le.t (Le.q (l := 28) (by omega)))
   refine w_c rfl ?_
   replace r60 := r60.mono hh9
   replace r61 := r61.mono hh9
   refine s_call (vs := [_, _]) Try.call28 ⟨rfl, rfl, trivial⟩ (fun w hs => o_pg_flatten hs r60 r61 (by decide) (by decide)) rfl ?_
   intro v62 h10 hh10 r62
   change (rpT (rpQ (27 + 1))).Is h10 v62 (flatZ p20 (liftZ p20 p31)) at r62
   replace r62 := Rp.Is.le r62 (Le.t (Le.q (l := 28) (by omega)))
   refine w_c rfl ?_
   replace r63 := r63.mono (hh9.trans hh10)
   replace r64 := r64.mono (hh9.trans hh10)
   refine s_call (vs := [_, _]) Try.call28 ⟨rfl, rfl, trivial⟩ (fun w hs => o_pg_flatten hs r63 r64 (by decide) (by decide)) rfl ?_
   intro v65 h11 hh11 r65
   change (rpT (rpQ (27 + 1))).Is h11 v65 (flatZ p20 (liftZ p20 p38)) at r65
   replace r65 := Rp.Is.le r65 (Le.t (Le.q (l := 28) (by omega)))
   refine w_c rfl ?_
   replace r59 := r59.mono (hh10.trans hh11)
   replace r62 := r62.mono hh11
   refine s_new (fun X => new_buildx (ρ := (rpT (rpQ 28))) (m := 3) (xs := [flatZ p20 (liftZ p20 p24), flatZ p20 (liftZ p20 p31), flatZ p20 (liftZ p20 p38)]) (ps' := [(0, _), (1, _), (2, _)]) Try.underlying38 info31 rfl rfl rfl (zr_t (zr_q (by decide))) ⟨rfl, rfl, rfl, rfl, rfl, rfl, trivial⟩ (fx_one rfl (Pc.arr (Pc.here _) (T3.mk (0 : Rat) (0 : Rat) (0 : Rat)) 0 (by decide)) r59 (fx_one rfl (Pc.arr (Pc.here _) (T3.mk (0 : Rat) (0 : Rat) (0 : Rat)) 1 (by decide)) r62 (fx_one rfl (Pc.arr (Pc.here _) (T3.mk (0 : Rat) (0 : Rat) (0 : Rat)) 2 (by decide)) r65 fx_nil))) (show 3 * 9 ≤ 16777216 from by decide) (show 0 < 9 from by decide)) rfl ?_
   intro v66 q66 hq66
   obtain ⟨cs66, rfl, rl66⟩ := hq66
   refine w_c rfl (s_freezex (A := []) (ρ := (rpT (rpQ 28))) rl66 (drop_kept (by simp)) ?_)
   intro h12 hh12 rs_71
   refine s_call (vs := [_]) Try.call20 ⟨rfl, trivial⟩ (fun w hs => o_pg_area hs rs_71 (by decide) (by first | omega | exact (by decide : 3 ≤ 1000))) rfl ?_
   intro v67 h13 hh13 r67
   change (rpQ 1000000000).Is h13 v67 (areaTo [flatZ p20 (liftZ p20 p24), flatZ p20 (liftZ p20 p31), flatZ p20 (liftZ p20 p38)] 0 1 [flatZ p20 (liftZ p20 p24), flatZ p20 (liftZ p20 p31), flatZ p20 (liftZ p20 p38)].length) at r67
   refine w_a rfl (fun b12 => ?_)
   have rb12 : (rpQ 1).R h13 [.bool false, .slice none 0 0, .slice none 0 0] (0 : Rat) := (zr_q (by decide))
   have rw_72 := (Le.q (l := 1000000000) (by decide)).R rb12
   refine w_tx_upd (A := []) (F := fun c_ => (rpQ 1000000000).R h13 c_ (areaTo [flatZ p20 (liftZ p20 p24), flatZ p20 (liftZ p20 p31), flatZ p20 (liftZ p20 p38)] 0 1 [flatZ p20 (liftZ p20 p24), flatZ p20 (liftZ p20 p31), flatZ p20 (liftZ p20 p38)].length)) rfl (upd_box Try.sizeOf29 (Pc.here _) rfl rfl rfl rw_72 r67 rfl) ?_
   intro cs_73 rb_74
   refine w_nil (gq_keep (e' := [(4, _), (11, _), (12, _)]) ⟨rfl, rfl, rfl, trivial⟩ (gq_then (gc_seq ?_)))
   refine gc_draw 12 _ [] [(0, .q), (2, .q), (3, .q), (4, .q), (1, .c), (5, .c), (6, .c), (7, .q), (8, .q), (9, .c), (10, .q), (11, .q)] mixed (fun x hx => by cases hx) (chk_of [0, 1, 0, 0, 8, 22, 32, 66, 192, 256, 768, 2047] [4095, 4094, 4095, 4095, 4087, 4075, 4063, 4029, 3967, 3839, 3327, 3071] (by kernel_rfl)) (fun x hx => by cases hx) (fun r hr => hr) (w_qx (F := fun v_ => (rpQ 1000000000).Is h13 v_ (areaTo [flatZ p20 (liftZ p20 p24), flatZ p20 (liftZ p20 p31), flatZ p20 (liftZ p20 p38)] 0 1 [flatZ p20 (liftZ p20 p24), flatZ p20 (liftZ p20 p31), flatZ p20 (liftZ p20 p38)].length)) rfl (ox_load_box ty29 (Pc.here _) rfl rfl rb_74 rfl) (mem1 (.head _)) rfl ?_)
   intro v68 r68
   replace rb_70 := rb_70.mono ((((hh9.trans hh10).trans hh11).trans hh12).trans hh13)
   refine w_qx (F := fun v_ => (rpT (rpQ 447)).Is h13 v_ (crossT (T3.mk ((liftZ p20 p31).x - (liftZ p20 p24).x) ((liftZ p20 p31).y - (liftZ p20 p24).y) ((liftZ p20 p31).z - (liftZ p20 p24).z)) (T3.mk ((liftZ p20 p38).x - (liftZ p20 p24).x) ((liftZ p20 p38).y - (liftZ p20 p24).y) ((liftZ p20 p38).z - (liftZ p20 p24).z)))) rfl (ox_load_box ty31 (Pc.here _) rfl rfl rb_70 rfl) (mem1 (.tail _ (.head _))) rfl ?_
   intro v70 r70
   refine w_q rfl (fun h' L' hh hR => (ov_field_addr Try.underlying46 rfl Try.sizeOf31 rfl).cv (show _ = vP b4 0 from congrArg (vP b4) (by rfl))) rfl ?_
   replace rb_58 := rb_58.mono ((((hh9.trans hh10).trans hh11).trans hh12).trans hh13)
   refine w_qx (F := fun v_ => (rpT (rpQ 2)).Is h13 v_ p20.1) rfl (ox_load_box ty31 (Pc.fst (Pc.here _)) rfl rfl rb_58 rfl) (mem1 (.tail _ (.tail _ (.tail _ (.tail _ (.tail _ (.head _))))))) rfl ?_
   intro v72 r72
   refine w_c rfl ?_
   refine s_call (vs := [_]) Try.call34 ⟨rfl, trivial⟩ (fun w hs => o_rref_sign hs r68 (by decide)) rfl ?_
   intro v69 h14 hh14 r69
   obtain rfl : v69 = vI (sgnQ (areaTo [flatZ p20 (liftZ p20 p24), flatZ p20 (liftZ p20 p31), flatZ p20 (liftZ p20 p38)] 0 1 [flatZ p20 (liftZ p20 p24), flatZ p20 (liftZ p20 p31), flatZ p20 (liftZ p20 p38)].length)) := r69
   have hsr69 := sgnQ_range (areaTo [flatZ p20 (liftZ p20 p24), flatZ p20 (liftZ p20 p31), flatZ p20 (liftZ p20 p38)] 0 1 [flatZ p20 (liftZ p20 p24), flatZ p20 (liftZ p20 p31), flatZ p20 (liftZ p20 p38)].length)
   refine w_c rfl ?_
   replace r70 := r70.mono hh14
   replace r72 := r72.mono hh14
   refine s_call (vs := [_, _]) Try.call35 ⟨rfl, rfl, trivial⟩ (fun w hs => o_r4_dot hs r70 r72 (by decide)) rfl ?_
   intro v73 h15 hh15 r73
   change (rpQ (3 * 447 + 3 * 2 + 9)).Is h15 v73 (dotT (crossT (T3.mk ((liftZ p20 p31).x - (liftZ p20 p24).x) ((liftZ p20 p31).y - (liftZ p20 p24).y) ((liftZ p20 p31).z - (liftZ p20 p24).z)) (T3.mk ((liftZ p20 p38).x - (liftZ p20 p24).x) ((liftZ p20 p38).y - (liftZ p20 p24).y) ((liftZ p20 p38).z - (liftZ p20 p24).z))) p20.1) at r73
   replace r73 := Rp.Is.le r73 (Le.q (l := 1356) (by omega))
   refine w_c rfl ?_
   refine s_call (vs := [_]) Try.call34 ⟨rfl, trivial⟩ (fun w hs => o_rref_sign hs r73 (by decide)) rfl ?_
   intro v74 h16 hh16 r74
   obtain rfl : v74 = vI (sgnQ (dotT (crossT (T3.mk ((liftZ p20 p31).x - (liftZ p20 p24).x) ((liftZ p20 p31).y - (liftZ p20 p24).y) ((liftZ p20 p31).z - (liftZ p20 p24).z)) (T3.mk ((liftZ p20 p38).x - (liftZ p20 p24).x) ((liftZ p20 p38).y - (liftZ p20 p24).y) ((liftZ p20 p38).z - (liftZ p20 p24).z))) p20.1)) := r74
   have hsr74 := sgnQ_range (dotT (crossT (T3.mk ((liftZ p20 p31).x - (liftZ p20 p24).x) ((liftZ p20 p31).y - (liftZ p20 p24).y) ((liftZ p20 p31).z - (liftZ p20 p24).z)) (T3.mk ((liftZ p20 p38).x - (liftZ p20 p24).x) ((liftZ p20 p38).y - (liftZ p20 p24).y) ((liftZ p20 p38).z - (liftZ p20 p24).z))) p20.1)
   refine w_q rfl (fun h' L' hh hR => OpV.tr (by exact turns_eq _ _ _ _ (Classical.not_not.1 hc43)) (ov_eql_i rfl rfl)) rfl (w_q rfl (fun h' L' hh hR => ov_move rfl) rfl ?_)
   refine w_c rfl (s_on rfl rfl ?_)
   refine s_call (vs := []) Try.call8 trivial (fun w hs => law25_sane hs) rfl ?_
   intro v77 h17 hh17 hr77
   subst hr77
   refine w_q rfl (fun h' L' hh hR => ov_pick_t rfl rfl) rfl (w_q rfl (fun h' L' hh hR => ov_assign rfl) rfl (w_nil (gq_keep (e' := [(2, _)]) ⟨rfl, trivial⟩ (gq_then (gc_ret (gq_body1 rfl rfl ?_))))))
   rfl

end Go.Proofs.Ytfpjclgbieppeaa
