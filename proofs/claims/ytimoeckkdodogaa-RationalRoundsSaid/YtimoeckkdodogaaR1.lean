/- Contracts of functions, walked by their text (rat1/b). -/
import Derived.Test.YtimoeckkdodogaaW11
import Derived.Test.YtimoeckkdodogaaSub
import Derived.Test.YtimoeckkdodogaaRat2
namespace Go.Proofs.Ytimoeckkdodogaa
open Bk Go
set_option linter.unusedVariables false
set_option linter.unusedSimpArgs false
set_option maxRecDepth 10000

theorem rat_one {w0 : World} {h0 : Mem}  (hs : MLe h0 (mem w0))  :
    Calls Try.prog 63 #[] w0 (Ret w0 h0 (fun h r => Us .u32 h r [1])) := by
 refine calls_begin (n := 2) (e := []) (vs := []) Try.func63 rfl rfl (Nat.le_of_ble_eq_true rfl) hs trivial (gc_seq (gc_region (asg rfl rfl (gl_nil (gq_then (gc_seq (gc_region (gl_newop (new_build1 (kd := .u32) (p := 1) Try.underlying22 info61 rfl rfl rfl) rfl rfl rfl ?_))))))))
 intro v1 r1 hr1
 obtain rfl := hr1
 refine gl_freeze_us0 (by intro z hz; simp only [List.mem_singleton] at hz; subst hz; decide) ?_
 intro h1 hh1 h1
 refine asg rfl rfl (gl_nil (gq_then (gc_ret (gq_body1 rfl rfl ?_))))
 exact h1

theorem rat_den {w0 : World} {h0 : Mem}  (hs : MLe h0 (mem w0)) {sa : Bool} {vna vda : Value} {na da : List Nat} (hna : Us .u32 h0 vna na) (hda : Us .u32 h0 vda da) :
    Calls Try.prog 80 #[.agg #[.bool sa, vna, vda]] w0 (Ret w0 h0 (fun h r => Us .u32 h r (if da = [] then [1] else da))) := by
 refine calls_begin (n := 10) (e := [(0, .agg #[.bool sa, vna, vda])]) (vs := [.agg #[.bool sa, vna, vda]]) Try.func80 rfl rfl (Nat.le_of_ble_eq_true rfl) hs ⟨rfl, trivial⟩ (gc_seq (gc_region (gl_newop (new_box (cs := [_, _, _]) rfl rfl) rfl rfl rfl ?_)))
 intro v1 r1 hr1
 obtain ⟨b1, rfl, rfl⟩ := hr1
 refine asg rfl rfl (gl_nil (gq_then (gc_seq (gc_seq (gc_region (gv (ov_field_addr Try.underlying27 rfl Try.sizeOf22 rfl) rfl (gv (ov_load_var (.head _) Try.isAgg22 rfl rfl) rfl (gv (ov_len_us Try.underlying22 rfl hda) rfl (gv (ov_eql_i (q := 0) rfl rfl) rfl (gl_nil (gq_then ?_)))))))))))
 refine gc_cond rfl (fun hc6 => ?_) (fun hc6 => ?_)
 ·
  refine gc_seq (gc_region ?_)
  refine gl_call (vs := []) rfl rfl rfl rfl Try.call63 trivial (fun w hs => rat_one hs) ?_
  intro v7 h1 hh1 hr7
  rw [one_limbs] at hr7
  have hlm7 := len_one
  refine asg rfl rfl (gl_nil (gq_then (gc_ret (gr_then (gq_body1 rfl rfl ?_)))))
  rw [if_pos (List.eq_nil_of_length_eq_zero (by omega)), one_limbs]
  exact hr7
 ·
  refine gc_skip (gq_then (gc_seq (gc_region (gv (ov_field_addr Try.underlying27 rfl Try.sizeOf22 rfl) rfl (gv (ov_load_var (.head _) Try.isAgg22 rfl rfl) rfl (asg rfl rfl (gl_nil (gq_then (gc_ret (gq_body1 rfl rfl ?_))))))))))
  rw [if_neg (fun h => hc6 (by rw [h]; rfl))]
  exact hda

theorem rat_copied {w0 : World} {h0 : Mem}  (hs : MLe h0 (mem w0)) {qa : Rat} {vna vda : Value} (hna : Us .u32 h0 vna (limbs qa.num.natAbs)) (hda : Us .u32 h0 vda (limbs (denN qa.den))) (hl : (limbs qa.num.natAbs).length ≤ 1099511627776) (hl' : (limbs (denN qa.den)).length ≤ 1099511627776) :
    Calls Try.prog 99 #[.agg #[vB (qa.num < 0), vna, vda]] w0 (Ret w0 h0 (fun h r => IsRat h r qa)) := by
 refine calls_begin (n := 12) (e := [(0, .agg #[vB (qa.num < 0), vna, vda])]) (vs := [.agg #[vB (qa.num < 0), vna, vda]]) Try.func99 rfl rfl (Nat.le_of_ble_eq_true rfl) hs ⟨rfl, trivial⟩ (gc_seq (gc_region (gl_newop (new_box (cs := [_, _, _]) rfl rfl) rfl rfl rfl ?_)))
 intro v1 r1 hr1
 obtain ⟨b1, rfl, rfl⟩ := hr1
 refine gl_newop (new_alloc (cs := [vB ((0 : Rat).num < 0), .slice none 0 0, .slice none 0 0]) info27 rfl (by simp only [zb]; rfl)) rfl rfl rfl ?_
 intro v2 r2 hr2
 obtain ⟨b2, rfl, rfl⟩ := hr2
 refine gl_nil (gq_then (gc_seq ?_))
 refine gc_draw 9 _ [] [(0, .q), (1, .q), (2, .q), (3, .q), (5, .q), (6, .q), (4, .c), (7, .c), (8, .c), (9, .t)] mixed (fun x hx => by cases hx) (by kernel_rfl) (fun x hx => by cases hx) (fun r hr => hr) (w_q rfl (fun h' L' hh hR => ov_field_addr Try.underlying27 rfl Try.sizeOf4 rfl) rfl (w_q rfl (fun h' L' hh hR => ov_load_var (hR _ (.tail _ (.head _))) Try.isAgg4 rfl rfl) rfl (w_q rfl (fun h' L' hh hR => ov_field_addr Try.underlying27 rfl Try.sizeOf22 rfl) rfl (w_q rfl (fun h' L' hh hR => ov_load_var (hR _ (.tail _ (.head _))) Try.isAgg22 rfl rfl) rfl (w_q rfl (fun h' L' hh hR => ov_field_addr Try.underlying27 rfl Try.sizeOf22 rfl) rfl (w_q rfl (fun h' L' hh hR => ov_load_var (hR _ (.tail _ (.head _))) Try.isAgg22 rfl rfl) rfl ?_))))))
 refine w_c rfl ?_
 refine s_call_own (vs := [_]) Try.call111 ⟨rfl, trivial⟩ (fun w hs => sl_clone hs hna (by omega)) rfl ?_
 intro v7 h1 L7 hh1 hr7
 obtain rfl := hr7
 refine w_c rfl ?_
 replace hda := hda.mono hh1
 refine s_call_own (vs := [_]) Try.call111 ⟨rfl, trivial⟩ (fun w hs => sl_clone hs hda (by omega)) rfl ?_
 intro v10 h2 L10 hh2 hr10
 obtain rfl := hr10
 refine w_c rfl ?_
 replace hna := hna.mono (hh1.trans hh2)
 refine s_freeze (A := [_]) (by exact hna.lt) (by simp only [List.mem_cons, List.not_mem_nil, or_false]; rintro r (rfl | rfl) _ <;> simp) ?_
 intro h3 hh3 hc1
 replace hda := hda.mono (hh2.trans hh3)
 refine s_freeze (A := []) (by exact hda.lt) (by simp only [List.mem_cons, List.not_mem_nil, or_false]; rintro r (rfl | rfl) _ <;> simp) ?_
 intro h4 hh4 hc2
 replace hc1 := hc1.mono hh4
 refine s_val (fun X => ov_build_parts (ps' := [(0, _), (1, _), (2, _)]) (vs := [vB (qa.num < 0), v7, v10]) Try.underlying27 info27 rfl (places27 Try.underlying27) ⟨rfl, rfl, rfl, rfl, rfl, rfl, trivial⟩ (by obtain ⟨_, _, e0⟩ := hc1.one; obtain ⟨_, _, e1⟩ := hc2.one; rw [e0, e1]; rfl)) rfl (w_t_upd (A := []) (q' := .var b2 27 [vB (qa.num < 0), v7, v10]) rfl (upd_store_var (k := 0) (cs := [_, _, _]) (vs := [_, _, _]) rfl rfl rfl (ocr rfl (ocu hc1 (ocu hc2 oc0))) size27 (Nat.le_of_ble_eq_true rfl)) rfl (w_nil (gq_keep (e' := [(2, _)]) ⟨rfl, trivial⟩ (gq_then (gc_ret (gq_res (fun E S => run_res1 rfl (rv_agg (cs := [_, _, _]) (.head _) Try.underlying27 rfl size27 rfl) E S) ?_))))))
 exact ⟨_, _, rfl, hc1, hc2⟩

theorem rat_neg {w0 : World} {h0 : Mem}  (hs : MLe h0 (mem w0)) {qa : Rat} {vna vda : Value} (hna : Us .u32 h0 vna (limbs qa.num.natAbs)) (hda : Us .u32 h0 vda (limbs (denN qa.den))) (hl : (limbs qa.num.natAbs).length ≤ 1099511627776) (hl' : (limbs (denN qa.den)).length ≤ 1099511627776) :
    Calls Try.prog 50 #[.agg #[vB (qa.num < 0), vna, vda]] w0 (Ret w0 h0 (fun h r => IsRat h r (-qa))) := by
 refine calls_begin (n := 16) (e := [(0, .agg #[vB (qa.num < 0), vna, vda])]) (vs := [.agg #[vB (qa.num < 0), vna, vda]]) Try.func50 rfl rfl (Nat.le_of_ble_eq_true rfl) hs ⟨rfl, trivial⟩ (gc_seq (gc_region (gl_newop (new_box (cs := [_, _, _]) rfl rfl) rfl rfl rfl ?_)))
 intro v1 r1 hr1
 obtain ⟨b1, rfl, rfl⟩ := hr1
 refine gl_newop (new_alloc (cs := [vB ((0 : Rat).num < 0), .slice none 0 0, .slice none 0 0]) info27 rfl (by simp only [zb]; rfl)) rfl rfl rfl ?_
 intro v2 r2 hr2
 obtain ⟨b2, rfl, rfl⟩ := hr2
 refine gl_nil (gq_then (gc_seq (gc_region (gv (ov_load_agg (vs := [_, _, _]) (.tail _ (.head _)) Try.underlying27 rfl size27 rfl rfl) rfl ?_))))
 refine gl_call (vs := [_]) rfl rfl rfl rfl Try.call99 ⟨rfl, trivial⟩ (fun w hs => rat_copied hs hna hda (by omega) (by omega)) ?_
 intro v4 h1 hh1 hr4
 obtain ⟨vn4, vd4, rfl, hn4, hd4⟩ := hr4
 refine gl_upd (A := [_]) (r' := .var b1 27 [vB ((qa).num < 0), vn4, vd4]) (upd_store_var (k := 0) (cs := [_, _, _]) (vs := [_, _, _]) rfl rfl rfl (ocr rfl (ocu hn4 (ocu hd4 oc0))) size27 (Nat.le_of_ble_eq_true rfl)) rfl rfl rfl (gl_nil (gq_then (gc_seq (gc_region (gv (ov_field_addr Try.underlying27 rfl Try.sizeOf4 rfl) rfl (gv (ov_load_var (.tail _ (.head _)) Try.isAgg4 rfl rfl) rfl (gv (ov_not rfl) rfl ?_)))))))
 refine gl_cut (ι := Unit) 6 (fun _ => True) (fun _ => [(13, vB ((¬ qa.num < 0) ∧ ((0 : Int) < ↑(limbs qa.num.natAbs).length))), (1, vP b1 0), (2, vP b2 0)]) (fun _ => [.var b2 27 [vB ((0 : Rat).num < 0), .slice none 0 0, .slice none 0 0], .var b1 27 [vB ((qa).num < 0), vn4, vd4]]) (fun _ => h1) ?_ ?_
 ·
  refine gl_cases (¬ qa.num < 0) (fun hg => ?_) (fun hg => ?_)
  ·
   refine gl_val (ov_move (v := .bool true) (congrArg some (vB_true hg))) rfl rfl rfl (gl_on rfl rfl rfl (gv (ov_field_addr Try.underlying27 rfl Try.sizeOf22 rfl) rfl (gl_on rfl rfl rfl (gv (ov_load_var (.tail _ (.head _)) Try.isAgg22 rfl rfl) rfl (gl_on rfl rfl rfl (gv (ov_len_us Try.underlying22 rfl hn4) rfl (gl_on rfl rfl rfl (gv (ov_gtr_i (q := 0) rfl rfl) rfl (gv (ov_pick_t rfl rfl) rfl (gl_nil ?_))))))))))
   refine gq_cut () trivial ⟨?_, rfl, rfl, trivial⟩ rfl rfl
   exact congrArg some (vB_and_t hg)
  ·
   refine gl_val (ov_move (v := .bool false) (congrArg some (vB_false hg))) rfl rfl rfl (gl_off rfl rfl rfl rfl rfl rfl (gl_off rfl rfl rfl rfl rfl rfl (gl_off rfl rfl rfl rfl rfl rfl (gl_off rfl rfl rfl rfl rfl rfl (gv (ov_pick_f rfl rfl) rfl (gl_nil ?_))))))
   refine gq_cut () trivial ⟨?_, rfl, rfl, trivial⟩ rfl rfl
   exact congrArg some (vB_and_f hg)
 ·
  intro _ _
  show GL _ _ _ _ _ _ _ [(13, vB ((¬ qa.num < 0) ∧ ((0 : Int) < ↑(limbs qa.num.natAbs).length))), (1, vP b1 0), (2, vP b2 0)] [.var b2 27 [vB ((0 : Rat).num < 0), .slice none 0 0, .slice none 0 0], .var b1 27 [vB ((qa).num < 0), vn4, vd4]] h1
  refine gv (ov_field_addr Try.underlying27 rfl Try.sizeOf4 rfl) rfl (gl_upd (A := [_]) (r' := .var b1 27 [vB ((¬ qa.num < 0) ∧ ((0 : Int) < ↑(limbs qa.num.natAbs).length)), vn4, vd4]) (upd_store_var (k := 0) (cs := [_, _, _]) (vs := [_]) rfl rfl rfl rfl size4 (Nat.le_of_ble_eq_true rfl)) rfl rfl rfl (gl_nil (gq_then (gc_seq (gc_region (gv (ov_load_agg (vs := [_, _, _]) (.tail _ (.head _)) Try.underlying27 rfl size27 rfl rfl) rfl (gl_upd (A := []) (r' := .var b2 27 [vB ((¬ qa.num < 0) ∧ ((0 : Int) < ↑(limbs qa.num.natAbs).length)), vn4, vd4]) (upd_store_var (k := 0) (cs := [_, _, _]) (vs := [_, _, _]) rfl rfl rfl (ocr rfl (ocu hn4 (ocu hd4 oc0))) size27 (Nat.le_of_ble_eq_true rfl)) rfl rfl rfl (gl_nil (gq_then (gc_ret (gq_res (fun E S => run_res1 rfl (rv_agg (cs := [_, _, _]) (.head _) Try.underlying27 rfl size27 rfl) E S) ?_)))))))))))
  exact IsRat.negB hn4 hd4

end Go.Proofs.Ytimoeckkdodogaa
