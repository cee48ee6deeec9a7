/- Contracts of functions, walked by their text (law2/r). -/
import Derived.Test.YtimoeckkdodogaaL2
import Derived.Test.YtimoeckkdodogaaV1
namespace Go.Proofs.Ytimoeckkdodogaa
open Bk Go
set_option linter.unusedVariables false
set_option linter.unusedSimpArgs false
set_option maxRecDepth 10000

theorem law2_makes {w0 : World} {h0 : Mem}  (hs : MLe h0 (mem w0))  {n : Int} (hn1 : -9223372036854775808 ≤ n) (hn2 : n < 9223372036854775808) {d : Int} (hd1 : -9223372036854775808 ≤ d) (hd2 : d < 9223372036854775808) :
    Calls Try.prog 4 #[vI n, vI d] w0 (Ret w0 h0 (fun _ r => r = .bool true)) := by
 refine calls_begin (n := 39) (e := [(0, vI n), (1, vI d)]) (vs := [vI n, vI d]) Try.func4 rfl rfl (Nat.le_of_ble_eq_true rfl) hs ⟨rfl, rfl, trivial⟩ (gc_seq (gc_region (asg rfl rfl (gl_nil (gq_then (gc_seq (gc_region (mv rfl rfl (mv rfl rfl ?_)))))))))
 refine gl_call (vs := [_, _]) rfl rfl rfl rfl Try.call21 ⟨rfl, rfl, trivial⟩ (fun w hs => rat_make hs (by omega) (by omega) (by omega) (by omega)) ?_
 intro v12 h1 hh1 hr12
 obtain ⟨_, rfl, vn12, vd12, rfl, hn12, hd12⟩ := hr12
 have hlq12 := lq_make (n := n) (d := d) (by omega) (by omega) (by omega) (by omega)
 refine mv rfl rfl (gv (ov_extract (vs := [_, _]) rfl rfl) rfl (gv (ov_extract (vs := [_, _]) rfl rfl) rfl (gl_newop (new_alloc (cs := [vB ((0 : Rat).num < 0), .slice none 0 0, .slice none 0 0]) info27 rfl (by simp only [zb]; rfl)) rfl rfl rfl ?_)))
 intro v5 r5 hr5
 obtain ⟨b5, rfl, rfl⟩ := hr5
 refine gl_upd (A := []) (r' := .var b5 27 [vB ((makeQ n d).num < 0), vn12, vd12]) (upd_store_var (k := 0) (cs := [_, _, _]) (vs := [_, _, _]) rfl rfl rfl (ocr rfl (ocu hn12 (ocu hd12 oc0))) size27 (Nat.le_of_ble_eq_true rfl)) rfl rfl rfl (asg rfl rfl (gl_nil (gq_then (gc_seq (gc_region (mv rfl rfl (mv rfl rfl ?_)))))))
 refine gl_call (vs := [_, _]) rfl rfl rfl rfl Try.call22 ⟨rfl, rfl, trivial⟩ (fun w hs => rref_make hs (by omega) (by omega) (by omega) (by omega)) ?_
 intro v18 h2 hh2 hr18
 obtain ⟨_, rfl, vn18, vd18, rfl, hn18, hd18⟩ := hr18
 have hlq18 := lq_make (n := n) (d := d) (by omega) (by omega) (by omega) (by omega)
 refine mv rfl rfl (gv (ov_extract (vs := [_, _]) rfl rfl) rfl (gv (ov_extract (vs := [_, _]) rfl rfl) rfl (gl_newop (new_alloc (cs := [vB ((0 : Rat).num < 0), .slice none 0 0, .slice none 0 0]) info27 rfl (by simp only [zb]; rfl)) rfl rfl rfl ?_)))
 intro v7 r7 hr7
 obtain ⟨b7, rfl, rfl⟩ := hr7
 refine gl_upd (A := []) (r' := .var b7 27 [vB ((makeQ n d).num < 0), vn18, vd18]) (upd_store_var (k := 0) (cs := [_, _, _]) (vs := [_, _, _]) rfl rfl rfl (ocr rfl (ocu hn18 (ocu hd18 oc0))) size27 (Nat.le_of_ble_eq_true rfl)) rfl rfl rfl (asg rfl rfl (gl_nil (gq_keep (e' := [(0, _), (5, _), (6, _), (7, _), (8, _)]) ⟨rfl, rfl, rfl, rfl, rfl, trivial⟩ (gq_then (gc_seq (gc_region (mv rfl rfl (mv rfl rfl (gv (OpV.tr (by first | rfl | exact Iff.rfl | exact valid_rat _) (ov_eql_i rfl rfl)) rfl (mv rfl rfl (gl_on rfl rfl rfl (gv (ov_load_agg (vs := [_, _, _]) (.tail _ (.head _)) Try.underlying27 rfl size27 rfl rfl) rfl (gl_on rfl rfl rfl ?_)))))))))))))
 refine gv (ov_load_agg (vs := [_, _, _]) (.head _) Try.underlying27 rfl size27 rfl rfl) rfl (gl_on rfl rfl rfl ?_)
 replace hn12 := hn12.mono hh2
 replace hd12 := hd12.mono hh2
 refine gl_call (vs := [_, _]) rfl rfl rfl rfl Try.call20 ⟨rfl, rfl, trivial⟩ (fun w hs => rref_same hs hn12 hd12 hn18 hd18 (by omega) (by omega)) ?_
 intro v27 h3 hh3 hr27
 rw [vB_true (by first | rfl | exact Iff.rfl | exact valid_rat _)] at hr27
 subst hr27
 refine gv (ov_pick_t rfl rfl) rfl (mv rfl rfl (gl_on rfl rfl rfl (mv rfl rfl (gl_on rfl rfl rfl ?_))))
 refine gl_call (vs := [_]) rfl rfl rfl rfl Try.call23 ⟨rfl, trivial⟩ (fun w hs => rat_int hs (by omega) (by omega)) ?_
 intro v31 h4 hh4 hr31
 obtain ⟨vn31, vd31, rfl, hn31, hd31⟩ := hr31
 have hlq31 := lq_int n (by omega) (by omega)
 refine gl_on rfl rfl rfl (mv rfl rfl (gl_on rfl rfl rfl ?_))
 refine gl_call (vs := [_]) rfl rfl rfl rfl Try.call24 ⟨rfl, trivial⟩ (fun w hs => rref_int hs (by omega) (by omega)) ?_
 intro v33 h5 hh5 hr33
 obtain ⟨vn33, vd33, rfl, hn33, hd33⟩ := hr33
 have hlq33 := lq_int n (by omega) (by omega)
 refine gl_on rfl rfl rfl ?_
 replace hn31 := hn31.mono hh5
 replace hd31 := hd31.mono hh5
 refine gl_call (vs := [_, _]) rfl rfl rfl rfl Try.call20 ⟨rfl, rfl, trivial⟩ (fun w hs => rref_same hs hn31 hd31 hn33 hd33 (by omega) (by omega)) ?_
 intro v34 h6 hh6 hr34
 rw [vB_true (by first | rfl | exact Iff.rfl | exact valid_rat _)] at hr34
 subst hr34
 refine gv (ov_pick_t rfl rfl) rfl (mv rfl rfl (gl_on rfl rfl rfl ?_))
 refine gl_call (vs := []) rfl rfl rfl rfl Try.call14 trivial (fun w hs => law2_awake hs) ?_
 intro v37 h7 hh7 hr37
 subst hr37
 refine gv (ov_pick_t rfl rfl) rfl (asg rfl rfl (gl_nil (gq_keep (e' := [(4, _)]) ⟨rfl, trivial⟩ (gq_then (gc_ret (gq_body1 rfl rfl ?_))))))
 rfl

theorem law2_norms {w0 : World} {h0 : Mem}  (hs : MLe h0 (mem w0)) {sa : Prop} {ba vna vda : Value} {xa ya : List Nat} (hba : ba = vB sa) (hna : Us .u32 h0 vna xa) (hda : Us .u32 h0 vda ya)  :
    Calls Try.prog 5 #[.agg #[ba, vna, vda]] w0 (Ret w0 h0 (fun _ r => r = .bool true)) := by
 subst hba
 have hlxa := limbs_len_le hna.lt
 have hlya := dV_len ya hda.lt
 refine calls_begin (n := 51) (e := [(0, .agg #[vB sa, vna, vda])]) (vs := [.agg #[vB sa, vna, vda]]) Try.func5 rfl rfl (Nat.le_of_ble_eq_true rfl) hs ⟨rfl, trivial⟩ (gc_seq (gc_region (gl_newop (new_box (cs := [_, _, _]) rfl rfl) rfl rfl rfl ?_)))
 intro v1 r1 hr1
 obtain ⟨b1, rfl, rfl⟩ := hr1
 refine asg rfl rfl (gl_nil (gq_then (gc_seq (gc_seq (gc_region (gv (ov_load_agg (vs := [_, _, _]) (.head _) Try.underlying24 rfl size24 rfl rfl) rfl ?_))))))
 refine gl_call (vs := [_]) rfl rfl rfl rfl Try.call13 ⟨rfl, trivial⟩ (fun w hs => law2_light hs rfl hna hda) ?_
 intro v9 h1 hh1 hr9
 subst hr9
 refine gv (ov_not rfl) rfl (gl_nil (gq_then ?_))
 refine gc_cond rfl (fun hc10 => ?_) (fun hc10 => ?_)
 ·
  refine gc_seq (gc_region ?_)
  refine gl_call (vs := []) rfl rfl rfl rfl Try.call14 trivial (fun w hs => law2_awake hs) ?_
  intro v11 h2 hh2 hr11
  subst hr11
  refine asg rfl rfl (gl_nil (gq_then (gc_ret (gr_then (gq_body1 rfl rfl ?_)))))
  rfl
 ·
  refine gc_skip (gq_then (gc_seq (gc_region (gv (ov_field_addr Try.underlying24 rfl Try.sizeOf4 rfl) rfl (gv (ov_load_var (.head _) Try.isAgg4 rfl rfl) rfl (gv (ov_field_addr Try.underlying24 rfl Try.sizeOf22 rfl) rfl (gv (ov_load_var (.head _) Try.isAgg22 rfl rfl) rfl (gv (ov_field_addr Try.underlying24 rfl Try.sizeOf22 rfl) rfl (gv (ov_load_var (.head _) Try.isAgg22 rfl rfl) rfl ?_)))))))))
  replace hna := hna.mono hh1
  replace hda := hda.mono hh1
  refine gv (ov_build_parts (ps' := [(0, _), (1, _), (2, _)]) (vs := [vB sa, vna, vda]) Try.underlying27 info27 rfl (places27 Try.underlying27) ⟨rfl, rfl, rfl, rfl, rfl, rfl, trivial⟩ (by obtain ⟨_, _, e0⟩ := hna.one; obtain ⟨_, _, e1⟩ := hda.one; rw [e0, e1]; rfl)) rfl (gl_newop (new_alloc (cs := [vB ((0 : Rat).num < 0), .slice none 0 0, .slice none 0 0]) info27 rfl (by simp only [zb]; rfl)) rfl rfl rfl ?_)
  intro v3 r3 hr3
  obtain ⟨b3, rfl, rfl⟩ := hr3
  refine gl_upd (A := []) (r' := .var b3 27 [vB sa, vna, vda]) (upd_store_var (k := 0) (cs := [_, _, _]) (vs := [_, _, _]) rfl rfl rfl (ocr rfl (ocu hna (ocu hda oc0))) size27 (Nat.le_of_ble_eq_true rfl)) rfl rfl rfl (gl_nil (gq_keep (e' := [(3, _)]) ⟨rfl, trivial⟩ (gq_then (gc_seq (gc_region (gv (ov_load_agg (vs := [_, _, _]) (.head _) Try.underlying27 rfl size27 rfl rfl) rfl ?_))))))
  refine gl_call (vs := [_]) rfl rfl rfl rfl Try.call25 ⟨rfl, trivial⟩ (fun w hs => rat_norm hs rfl hna hda (by omega) (by omega)) ?_
  intro v21 h2 hh2 hr21
  obtain ⟨_, rfl, vn21, vd21, rfl, hn21, hd21⟩ := hr21
  have hlq21 := lq_norm (sa) (xa) (ya)
  refine mv rfl rfl (gv (ov_extract (vs := [_, _]) rfl rfl) rfl (gv (ov_extract (vs := [_, _]) rfl rfl) rfl (gl_newop (new_alloc (cs := [vB ((0 : Rat).num < 0), .slice none 0 0, .slice none 0 0]) info27 rfl (by simp only [zb]; rfl)) rfl rfl rfl ?_)))
  intro v4 r4 hr4
  obtain ⟨b4, rfl, rfl⟩ := hr4
  refine gl_upd (A := []) (r' := .var b4 27 [vB ((mkRat (sg (sa) (val (xa))) (dV (ya))).num < 0), vn21, vd21]) (upd_store_var (k := 0) (cs := [_, _, _]) (vs := [_, _, _]) rfl rfl rfl (ocr rfl (ocu hn21 (ocu hd21 oc0))) size27 (Nat.le_of_ble_eq_true rfl)) rfl rfl rfl (asg rfl rfl (gl_nil (gq_then (gc_seq (gc_region (gv (ov_load_agg (vs := [_, _, _]) (.tail _ (.head _)) Try.underlying27 rfl size27 rfl rfl) rfl ?_))))))
  replace hna := hna.mono hh2
  replace hda := hda.mono hh2
  refine gl_call (vs := [_]) rfl rfl rfl rfl Try.call26 ⟨rfl, trivial⟩ (fun w hs => rref_norm hs rfl hna hda (by omega) (by omega)) ?_
  intro v26 h3 hh3 hr26
  obtain ⟨_, rfl, vn26, vd26, rfl, hn26, hd26⟩ := hr26
  have hlq26 := lq_norm (sa) (xa) (ya)
  refine mv rfl rfl (gv (ov_extract (vs := [_, _]) rfl rfl) rfl (gv (ov_extract (vs := [_, _]) rfl rfl) rfl (gl_newop (new_alloc (cs := [vB ((0 : Rat).num < 0), .slice none 0 0, .slice none 0 0]) info27 rfl (by simp only [zb]; rfl)) rfl rfl rfl ?_)))
  intro v6 r6 hr6
  obtain ⟨b6, rfl, rfl⟩ := hr6
  refine gl_upd (A := []) (r' := .var b6 27 [vB ((mkRat (sg (sa) (val (xa))) (dV (ya))).num < 0), vn26, vd26]) (upd_store_var (k := 0) (cs := [_, _, _]) (vs := [_, _, _]) rfl rfl rfl (ocr rfl (ocu hn26 (ocu hd26 oc0))) size27 (Nat.le_of_ble_eq_true rfl)) rfl rfl rfl (asg rfl rfl (gl_nil (gq_keep (e' := [(3, _), (4, _), (5, _), (6, _), (7, _)]) ⟨rfl, rfl, rfl, rfl, rfl, trivial⟩ (gq_then (gc_seq ?_)))))
  refine gc_draw 23 _ [] [(0, .q), (2, .q), (1, .c), (3, .c), (4, .q), (5, .q), (6, .q), (7, .q), (8, .q), (9, .q), (10, .q), (11, .q), (12, .q), (13, .c), (14, .q), (15, .q), (16, .q), (17, .c), (18, .q), (19, .q), (20, .c), (21, .q), (22, .q)] mixed (fun x hx => by cases hx) (by kernel_rfl) (fun x hx => by cases hx) (fun r hr => hr) (w_q rfl (fun h' L' hh hR => ov_load_agg (vs := [_, _, _]) (hR _ (.tail _ (.tail _ (.head _)))) Try.underlying27 rfl size27 rfl rfl) rfl (w_q rfl (fun h' L' hh hR => ov_load_agg (vs := [_, _, _]) (hR _ (.tail _ (.tail _ (.head _)))) Try.underlying27 rfl size27 rfl rfl) rfl ?_))
  refine w_c rfl ?_
  replace hna := hna.mono hh3
  replace hda := hda.mono hh3
  refine s_call (vs := [_]) Try.call27 ⟨rfl, trivial⟩ (fun w hs => rat_valid hs rfl hna hda (by first | omega | exact Nat.le_trans (lq_num _) (by omega)) (by first | omega | exact Nat.le_trans (lq_denL _) (by omega))) rfl ?_
  intro v30 h4 hh4 hr30
  subst hr30
  refine w_c rfl ?_
  replace hna := hna.mono hh4
  replace hda := hda.mono hh4
  refine s_call (vs := [_]) Try.call28 ⟨rfl, trivial⟩ (fun w hs => rref_valid hs rfl hna hda (by first | omega | exact Nat.le_trans (lq_num _) (by omega)) (by first | omega | exact Nat.le_trans (lq_denL _) (by omega))) rfl ?_
  intro v32 h5 hh5 hr32
  subst hr32
  refine w_q rfl (fun h' L' hh hR => OpV.tr (by first | rfl | exact Iff.rfl | exact valid_rat _) (ov_eql_b Try.underlying4 rfl rfl)) rfl (w_q rfl (fun h' L' hh hR => ov_move rfl) rfl (w_q_on rfl rfl rfl (fun h' L' hh hR => ov_move rfl) rfl (w_q_on rfl rfl rfl (fun h' L' hh hR => ov_move rfl) rfl (w_q_on rfl rfl rfl (fun h' L' hh hR => OpV.tr (by first | rfl | exact Iff.rfl | exact valid_rat _) (ov_eql_i rfl rfl)) rfl (w_q rfl (fun h' L' hh hR => ov_pick_t rfl rfl) rfl (w_q rfl (fun h' L' hh hR => ov_move rfl) rfl (w_q_on rfl rfl rfl (fun h' L' hh hR => ov_load_agg (vs := [_, _, _]) (hR _ (.tail _ (.head _))) Try.underlying27 rfl size27 rfl rfl) rfl (w_q_on rfl rfl rfl (fun h' L' hh hR => ov_load_agg (vs := [_, _, _]) (hR _ (.head _)) Try.underlying27 rfl size27 rfl rfl) rfl ?_))))))))
  refine w_c rfl (s_on rfl rfl ?_)
  replace hn21 := hn21.mono ((hh3.trans hh4).trans hh5)
  replace hd21 := hd21.mono ((hh3.trans hh4).trans hh5)
  replace hn26 := hn26.mono (hh4.trans hh5)
  replace hd26 := hd26.mono (hh4.trans hh5)
  refine s_call (vs := [_, _]) Try.call20 ⟨rfl, rfl, trivial⟩ (fun w hs => rref_same hs hn21 hd21 hn26 hd26 (by omega) (by omega)) rfl ?_
  intro v42 h6 hh6 hr42
  rw [vB_true (by first | rfl | exact Iff.rfl | exact valid_rat _)] at hr42
  subst hr42
  refine w_q rfl (fun h' L' hh hR => ov_pick_t rfl rfl) rfl (w_q rfl (fun h' L' hh hR => ov_move rfl) rfl (w_q_on rfl rfl rfl (fun h' L' hh hR => ov_load_agg (vs := [_, _, _]) (hR _ (.tail _ (.head _))) Try.underlying27 rfl size27 rfl rfl) rfl ?_))
  refine w_c rfl (s_on rfl rfl ?_)
  replace hn21 := hn21.mono hh6
  replace hd21 := hd21.mono hh6
  refine s_call (vs := [_]) Try.call27 ⟨rfl, trivial⟩ (fun w hs => rat_valid hs rfl hn21 hd21 (by first | omega | exact Nat.le_trans (lq_num _) (by omega)) (by first | omega | exact Nat.le_trans (lq_denL _) (by omega))) rfl ?_
  intro v46 h7 hh7 hr46
  rw [vB_true (by first | rfl | exact Iff.rfl | exact valid_rat _)] at hr46
  subst hr46
  refine w_q rfl (fun h' L' hh hR => ov_pick_t rfl rfl) rfl (w_q rfl (fun h' L' hh hR => ov_move rfl) rfl ?_)
  refine w_c rfl (s_on rfl rfl ?_)
  refine s_call (vs := []) Try.call14 trivial (fun w hs => law2_awake hs) rfl ?_
  intro v49 h8 hh8 hr49
  subst hr49
  refine w_q rfl (fun h' L' hh hR => ov_pick_t rfl rfl) rfl (w_q rfl (fun h' L' hh hR => ov_assign rfl) rfl (w_nil (gq_keep (e' := [(2, _)]) ⟨rfl, trivial⟩ (gq_then (gc_ret (gq_body1 rfl rfl ?_))))))
  rfl

theorem law2_sums {w0 : World} {h0 : Mem}  (hs : MLe h0 (mem w0)) {sa : Prop} {ba vna vda : Value} {xa ya : List Nat} (hba : ba = vB sa) (hna : Us .u32 h0 vna xa) (hda : Us .u32 h0 vda ya) {sb : Prop} {bb vnb vdb : Value} {xb yb : List Nat} (hbb : bb = vB sb) (hnb : Us .u32 h0 vnb xb) (hdb : Us .u32 h0 vdb yb)  :
    Calls Try.prog 8 #[.agg #[ba, vna, vda], .agg #[bb, vnb, vdb]] w0 (Ret w0 h0 (fun _ r => r = .bool true)) := by
 subst hba
 subst hbb
 have hlxa := limbs_len_le hna.lt
 have hlya := dV_len ya hda.lt
 have hlxb := limbs_len_le hnb.lt
 have hlyb := dV_len yb hdb.lt
 refine calls_begin (n := 74) (e := [(0, .agg #[vB sa, vna, vda]), (1, .agg #[vB sb, vnb, vdb])]) (vs := [.agg #[vB sa, vna, vda], .agg #[vB sb, vnb, vdb]]) Try.func8 rfl rfl (Nat.le_of_ble_eq_true rfl) hs ⟨rfl, rfl, trivial⟩ (gc_seq (gc_region (gl_newop (new_box (cs := [_, _, _]) rfl rfl) rfl rfl rfl ?_)))
 intro v2 r2 hr2
 obtain ⟨b2, rfl, rfl⟩ := hr2
 refine gl_newop (new_box (cs := [_, _, _]) rfl rfl) rfl rfl rfl ?_
 intro v3 r3 hr3
 obtain ⟨b3, rfl, rfl⟩ := hr3
 refine asg rfl rfl (gl_nil (gq_then (gc_seq (gc_seq (gc_region (gv (ov_load_agg (vs := [_, _, _]) (.tail _ (.head _)) Try.underlying24 rfl size24 rfl rfl) rfl ?_))))))
 refine gl_call (vs := [_]) rfl rfl rfl rfl Try.call13 ⟨rfl, trivial⟩ (fun w hs => law2_light hs rfl hna hda) ?_
 intro v12 h1 hh1 hr12
 subst hr12
 refine gv (ov_not rfl) rfl ?_
 refine gl_cut (ι := Mem) 5 (fun m_ => MLe h1 m_) (fun _ => [(18, vB ((¬ ((↑((xa)).length : Int) ≤ 16 ∧ (↑((ya)).length : Int) ≤ 16)) ∨ (¬ ((↑((xb)).length : Int) ≤ 16 ∧ (↑((yb)).length : Int) ≤ 16)))), (2, vP b2 0), (3, vP b3 0)]) (fun _ => [.var b3 24 [vB sb, vnb, vdb], .var b2 24 [vB sa, vna, vda]]) (fun m_ => m_) ?_ ?_
 ·
  refine gl_cases (¬ ((↑((xa)).length : Int) ≤ 16 ∧ (↑((ya)).length : Int) ≤ 16)) (fun hg => ?_) (fun hg => ?_)
  ·
   refine gl_val (ov_move (v := .bool true) (congrArg some (vB_true hg))) rfl rfl rfl (gl_off rfl rfl rfl rfl rfl rfl (gl_off rfl rfl rfl rfl rfl rfl (gl_off rfl rfl rfl rfl rfl rfl (gv (ov_pick_t rfl rfl) rfl (gl_nil ?_)))))
   refine gq_cut h1 (MLe.refl _) ⟨?_, rfl, rfl, trivial⟩ rfl rfl
   exact congrArg some (vB_or_t hg)
  ·
   refine gl_val (ov_move (v := .bool false) (congrArg some (vB_false hg))) rfl rfl rfl (gl_on rfl rfl rfl (gv (ov_load_agg (vs := [_, _, _]) (.head _) Try.underlying24 rfl size24 rfl rfl) rfl (gl_on rfl rfl rfl ?_)))
   replace hnb := hnb.mono hh1
   replace hdb := hdb.mono hh1
   refine gl_call (vs := [_]) rfl rfl rfl rfl Try.call13 ⟨rfl, trivial⟩ (fun w hs => law2_light hs rfl hnb hdb) ?_
   intro v16 h2 hh2 hr16
   subst hr16
   refine gl_on rfl rfl rfl (gv (ov_not rfl) rfl (gv (ov_pick_f rfl rfl) rfl (gl_nil ?_)))
   refine gq_cut h2 hh2 ⟨?_, rfl, rfl, trivial⟩ rfl rfl
   exact congrArg some (vB_or_f hg)
 ·
  intro mg1_3 hmmg1_3
  show GL _ _ _ _ _ _ _ [(18, vB ((¬ ((↑((xa)).length : Int) ≤ 16 ∧ (↑((ya)).length : Int) ≤ 16)) ∨ (¬ ((↑((xb)).length : Int) ≤ 16 ∧ (↑((yb)).length : Int) ≤ 16)))), (2, vP b2 0), (3, vP b3 0)] [.var b3 24 [vB sb, vnb, vdb], .var b2 24 [vB sa, vna, vda]] mg1_3
  refine gl_nil (gq_then ?_)
  refine gc_cond rfl (fun hc18 => ?_) (fun hc18 => ?_)
  ·
   refine gc_seq (gc_region ?_)
   refine gl_call (vs := []) rfl rfl rfl rfl Try.call14 trivial (fun w hs => law2_awake hs) ?_
   intro v19 h2 hh2 hr19
   subst hr19
   refine asg rfl rfl (gl_nil (gq_then (gc_ret (gr_then (gq_body1 rfl rfl ?_)))))
   rfl
  ·
   refine gc_skip (gq_then (gc_seq ?_))
   refine gc_draw 6 _ [(4, (5, 27, [vB ((0 : Rat).num < 0), .slice none 0 0, .slice none 0 0])), (5, (6, 27, [vB ((0 : Rat).num < 0), .slice none 0 0, .slice none 0 0]))] [(0, .q), (2, .q), (1, .c), (3, .c), (4, .a), (5, .a), (6, .t), (7, .t)] mixed (AlOk.cons rfl (zero_run info27 rfl (by simp only [zb]; rfl)) (AlOk.cons rfl (zero_run info27 rfl (by simp only [zb]; rfl)) AlOk.nil)) (by kernel_rfl) (hae_cons rfl rfl (hae_cons rfl rfl hae_nil)) (fun r hr => hr) (w_q rfl (fun h' L' hh hR => ov_load_agg (vs := [_, _, _]) (hR _ (.tail _ (.head _))) Try.underlying24 rfl size24 rfl rfl) rfl (w_q rfl (fun h' L' hh hR => ov_load_agg (vs := [_, _, _]) (hR _ (.head _)) Try.underlying24 rfl size24 rfl rfl) rfl ?_))
   refine w_c rfl ?_
   replace hna := hna.mono (hh1.trans hmmg1_3)
   replace hda := hda.mono (hh1.trans hmmg1_3)
   refine s_call (vs := [_]) Try.call15 ⟨rfl, trivial⟩ (fun w hs => law2_number hs rfl hna hda (by constructor <;> omega)) rfl ?_
   intro v21 h2 hh2 hr21
   have hlq21 := lq_numQ (sa) (xa) (ya)
   obtain ⟨vn21, vd21, rfl, hn21, hd21⟩ := hr21
   refine w_c rfl ?_
   replace hnb := hnb.mono ((hh1.trans hmmg1_3).trans hh2)
   replace hdb := hdb.mono ((hh1.trans hmmg1_3).trans hh2)
   refine s_call (vs := [_]) Try.call15 ⟨rfl, trivial⟩ (fun w hs => law2_number hs rfl hnb hdb (by constructor <;> omega)) rfl ?_
   intro v23 h3 hh3 hr23
   have hlq23 := lq_numQ (sb) (xb) (yb)
   obtain ⟨vn23, vd23, rfl, hn23, hd23⟩ := hr23
   refine w_a rfl (fun b5 => ?_)
   refine w_a rfl (fun b6 => ?_)
   replace hn21 := hn21.mono hh3
   replace hd21 := hd21.mono hh3
   refine w_t_upd (A := [_]) (q' := .var b5 27 [vB ((numQ (sa) (xa) (ya)).num < 0), vn21, vd21]) rfl (upd_store_var (k := 0) (cs := [_, _, _]) (vs := [_, _, _]) rfl rfl rfl (ocr rfl (ocu hn21 (ocu hd21 oc0))) size27 (Nat.le_of_ble_eq_true rfl)) rfl (w_t_upd (A := []) (q' := .var b6 27 [vB ((numQ (sb) (xb) (yb)).num < 0), vn23, vd23]) rfl (upd_store_var (k := 0) (cs := [_, _, _]) (vs := [_, _, _]) rfl rfl rfl (ocr rfl (ocu hn23 (ocu hd23 oc0))) size27 (Nat.le_of_ble_eq_true rfl)) rfl (w_nil (gq_then (gc_seq (gc_region (gv (ov_load_agg (vs := [_, _, _]) (.tail _ (.head _)) Try.underlying27 rfl size27 rfl rfl) rfl (gv (ov_load_agg (vs := [_, _, _]) (.head _) Try.underlying27 rfl size27 rfl rfl) rfl ?_)))))))
   refine gl_call (vs := [_, _]) rfl rfl rfl rfl Try.call38 ⟨rfl, rfl, trivial⟩ (fun w hs => rat_quo hs hn21 hd21 hn23 hd23 (by omega) (by omega)) ?_
   intro v27 h4 hh4 hr27
   obtain ⟨_, rfl, vn27, vd27, rfl, hn27, hd27⟩ := hr27
   have hlq27 := lq_quo' (numQ (sa) (xa) (ya)) (numQ (sb) (xb) (yb))
   refine mv rfl rfl (gv (ov_extract (vs := [_, _]) rfl rfl) rfl (gv (ov_extract (vs := [_, _]) rfl rfl) rfl (gl_newop (new_alloc (cs := [vB ((0 : Rat).num < 0), .slice none 0 0, .slice none 0 0]) info27 rfl (by simp only [zb]; rfl)) rfl rfl rfl ?_)))
   intro v7 r7 hr7
   obtain ⟨b7, rfl, rfl⟩ := hr7
   refine gl_upd (A := []) (r' := .var b7 27 [vB ((if (numQ (sb) (xb) (yb)) = 0 then 0 else (numQ (sa) (xa) (ya)) / (numQ (sb) (xb) (yb))).num < 0), vn27, vd27]) (upd_store_var (k := 0) (cs := [_, _, _]) (vs := [_, _, _]) rfl rfl rfl (ocr rfl (ocu hn27 (ocu hd27 oc0))) size27 (Nat.le_of_ble_eq_true rfl)) rfl rfl rfl (asg rfl rfl (gl_nil (gq_keep (e' := [(5, _), (6, _), (7, _), (8, _)]) ⟨rfl, rfl, rfl, rfl, trivial⟩ (gq_then (gc_seq (gc_region (gv (ov_load_agg (vs := [_, _, _]) (.tail _ (.tail _ (.head _))) Try.underlying27 rfl size27 rfl rfl) rfl (gv (ov_load_agg (vs := [_, _, _]) (.tail _ (.head _)) Try.underlying27 rfl size27 rfl rfl) rfl ?_))))))))
   replace hn21 := hn21.mono hh4
   replace hd21 := hd21.mono hh4
   replace hn23 := hn23.mono hh4
   replace hd23 := hd23.mono hh4
   refine gl_call (vs := [_, _]) rfl rfl rfl rfl Try.call39 ⟨rfl, rfl, trivial⟩ (fun w hs => rref_quo hs hn21 hd21 hn23 hd23 (by omega) (by omega)) ?_
   intro v33 h5 hh5 hr33
   obtain ⟨_, rfl, vn33, vd33, rfl, hn33, hd33⟩ := hr33
   have hlq33 := lq_quo' (numQ (sa) (xa) (ya)) (numQ (sb) (xb) (yb))
   refine mv rfl rfl (gv (ov_extract (vs := [_, _]) rfl rfl) rfl (gv (ov_extract (vs := [_, _]) rfl rfl) rfl (gl_newop (new_alloc (cs := [vB ((0 : Rat).num < 0), .slice none 0 0, .slice none 0 0]) info27 rfl (by simp only [zb]; rfl)) rfl rfl rfl ?_)))
   intro v9 r9 hr9
   obtain ⟨b9, rfl, rfl⟩ := hr9
   refine gl_upd (A := []) (r' := .var b9 27 [vB ((if (numQ (sb) (xb) (yb)) = 0 then 0 else (numQ (sa) (xa) (ya)) / (numQ (sb) (xb) (yb))).num < 0), vn33, vd33]) (upd_store_var (k := 0) (cs := [_, _, _]) (vs := [_, _, _]) rfl rfl rfl (ocr rfl (ocu hn33 (ocu hd33 oc0))) size27 (Nat.le_of_ble_eq_true rfl)) rfl rfl rfl (asg rfl rfl (gl_nil (gq_then (gc_seq ?_))))
   refine gc_draw 39 _ [] [(0, .q), (1, .q), (3, .q), (4, .q), (2, .c), (5, .c), (6, .c), (7, .q), (8, .q), (9, .q), (11, .q), (12, .q), (10, .c), (13, .c), (14, .c), (15, .q), (16, .q), (17, .q), (18, .q), (20, .q), (21, .q), (19, .c), (22, .c), (23, .c), (24, .q), (25, .q), (26, .q), (27, .q), (28, .q), (29, .q), (30, .q), (31, .q), (32, .q), (33, .c), (34, .q), (35, .q), (36, .c), (37, .q), (38, .q)] mixed (fun x hx => by cases hx) (by kernel_rfl) (fun x hx => by cases hx) (fun r hr => hr) (w_q rfl (fun h' L' hh hR => ov_load_agg (vs := [_, _, _]) (hR _ (.tail _ (.tail _ (.tail _ (.head _))))) Try.underlying27 rfl size27 rfl rfl) rfl (w_q rfl (fun h' L' hh hR => ov_load_agg (vs := [_, _, _]) (hR _ (.tail _ (.tail _ (.head _)))) Try.underlying27 rfl size27 rfl rfl) rfl (w_q rfl (fun h' L' hh hR => ov_load_agg (vs := [_, _, _]) (hR _ (.tail _ (.tail _ (.tail _ (.head _))))) Try.underlying27 rfl size27 rfl rfl) rfl (w_q rfl (fun h' L' hh hR => ov_load_agg (vs := [_, _, _]) (hR _ (.tail _ (.tail _ (.head _)))) Try.underlying27 rfl size27 rfl rfl) rfl ?_))))
   refine w_c rfl ?_
   replace hn21 := hn21.mono hh5
   replace hd21 := hd21.mono hh5
   replace hn23 := hn23.mono hh5
   replace hd23 := hd23.mono hh5
   refine s_call (vs := [_, _]) Try.call40 ⟨rfl, rfl, trivial⟩ (fun w hs => rat_add hs hn21 hd21 hn23 hd23 (by omega) (by omega)) rfl ?_
   intro v38 h6 hh6 hr38
   obtain ⟨vn38, vd38, rfl, hn38, hd38⟩ := hr38
   have hlq38 := lq_add (numQ (sa) (xa) (ya)) (numQ (sb) (xb) (yb))
   refine w_c rfl ?_
   replace hn21 := hn21.mono hh6
   replace hd21 := hd21.mono hh6
   replace hn23 := hn23.mono hh6
   replace hd23 := hd23.mono hh6
   refine s_call (vs := [_, _]) Try.call41 ⟨rfl, rfl, trivial⟩ (fun w hs => rref_add hs hn21 hd21 hn23 hd23 (by omega) (by omega)) rfl ?_
   intro v41 h7 hh7 hr41
   obtain ⟨vn41, vd41, rfl, hn41, hd41⟩ := hr41
   have hlq41 := lq_add (numQ (sa) (xa) (ya)) (numQ (sb) (xb) (yb))
   refine w_c rfl ?_
   replace hn38 := hn38.mono hh7
   replace hd38 := hd38.mono hh7
   refine s_call (vs := [_, _]) Try.call20 ⟨rfl, rfl, trivial⟩ (fun w hs => rref_same hs hn38 hd38 hn41 hd41 (by omega) (by omega)) rfl ?_
   intro v42 h8 hh8 hr42
   rw [vB_true (by first | rfl | exact Iff.rfl | exact valid_rat _)] at hr42
   subst hr42
   refine w_q rfl (fun h' L' hh hR => ov_move rfl) rfl (w_q_on rfl rfl rfl (fun h' L' hh hR => ov_load_agg (vs := [_, _, _]) (hR _ (.tail _ (.tail _ (.tail _ (.head _))))) Try.underlying27 rfl size27 rfl rfl) rfl (w_q_on rfl rfl rfl (fun h' L' hh hR => ov_load_agg (vs := [_, _, _]) (hR _ (.tail _ (.tail _ (.head _)))) Try.underlying27 rfl size27 rfl rfl) rfl (w_q_on rfl rfl rfl (fun h' L' hh hR => ov_load_agg (vs := [_, _, _]) (hR _ (.tail _ (.tail _ (.tail _ (.head _))))) Try.underlying27 rfl size27 rfl rfl) rfl (w_q_on rfl rfl rfl (fun h' L' hh hR => ov_load_agg (vs := [_, _, _]) (hR _ (.tail _ (.tail _ (.head _)))) Try.underlying27 rfl size27 rfl rfl) rfl ?_))))
   refine w_c rfl (s_on rfl rfl ?_)
   replace hn21 := hn21.mono (hh7.trans hh8)
   replace hd21 := hd21.mono (hh7.trans hh8)
   replace hn23 := hn23.mono (hh7.trans hh8)
   replace hd23 := hd23.mono (hh7.trans hh8)
   refine s_call (vs := [_, _]) Try.call42 ⟨rfl, rfl, trivial⟩ (fun w hs => rat_sub hs hn21 hd21 hn23 hd23 (by omega) (by omega)) rfl ?_
   intro v46 h9 hh9 hr46
   obtain ⟨vn46, vd46, rfl, hn46, hd46⟩ := hr46
   have hlq46 := lq_sub (numQ (sa) (xa) (ya)) (numQ (sb) (xb) (yb))
   refine w_c rfl (s_on rfl rfl ?_)
   replace hn21 := hn21.mono hh9
   replace hd21 := hd21.mono hh9
   replace hn23 := hn23.mono hh9
   replace hd23 := hd23.mono hh9
   refine s_call (vs := [_, _]) Try.call43 ⟨rfl, rfl, trivial⟩ (fun w hs => rref_sub hs hn21 hd21 hn23 hd23 (by omega) (by omega)) rfl ?_
   intro v49 h10 hh10 hr49
   obtain ⟨vn49, vd49, rfl, hn49, hd49⟩ := hr49
   have hlq49 := lq_sub (numQ (sa) (xa) (ya)) (numQ (sb) (xb) (yb))
   refine w_c rfl (s_on rfl rfl ?_)
   replace hn46 := hn46.mono hh10
   replace hd46 := hd46.mono hh10
   refine s_call (vs := [_, _]) Try.call20 ⟨rfl, rfl, trivial⟩ (fun w hs => rref_same hs hn46 hd46 hn49 hd49 (by omega) (by omega)) rfl ?_
   intro v50 h11 hh11 hr50
   rw [vB_true (by first | rfl | exact Iff.rfl | exact valid_rat _)] at hr50
   subst hr50
   refine w_q rfl (fun h' L' hh hR => ov_pick_t rfl rfl) rfl (w_q rfl (fun h' L' hh hR => ov_move rfl) rfl (w_q_on rfl rfl rfl (fun h' L' hh hR => ov_load_agg (vs := [_, _, _]) (hR _ (.tail _ (.tail _ (.tail _ (.head _))))) Try.underlying27 rfl size27 rfl rfl) rfl (w_q_on rfl rfl rfl (fun h' L' hh hR => ov_load_agg (vs := [_, _, _]) (hR _ (.tail _ (.tail _ (.head _)))) Try.underlying27 rfl size27 rfl rfl) rfl (w_q_on rfl rfl rfl (fun h' L' hh hR => ov_load_agg (vs := [_, _, _]) (hR _ (.tail _ (.tail _ (.tail _ (.head _))))) Try.underlying27 rfl size27 rfl rfl) rfl (w_q_on rfl rfl rfl (fun h' L' hh hR => ov_load_agg (vs := [_, _, _]) (hR _ (.tail _ (.tail _ (.head _)))) Try.underlying27 rfl size27 rfl rfl) rfl ?_)))))
   refine w_c rfl (s_on rfl rfl ?_)
   replace hn21 := hn21.mono (hh10.trans hh11)
   replace hd21 := hd21.mono (hh10.trans hh11)
   replace hn23 := hn23.mono (hh10.trans hh11)
   replace hd23 := hd23.mono (hh10.trans hh11)
   refine s_call (vs := [_, _]) Try.call44 ⟨rfl, rfl, trivial⟩ (fun w hs => rat_mul hs hn21 hd21 hn23 hd23 (by omega) (by omega)) rfl ?_
   intro v55 h12 hh12 hr55
   obtain ⟨vn55, vd55, rfl, hn55, hd55⟩ := hr55
   have hlq55 := lq_mul (numQ (sa) (xa) (ya)) (numQ (sb) (xb) (yb))
   refine w_c rfl (s_on rfl rfl ?_)
   replace hn21 := hn21.mono hh12
   replace hd21 := hd21.mono hh12
   replace hn23 := hn23.mono hh12
   replace hd23 := hd23.mono hh12
   refine s_call (vs := [_, _]) Try.call45 ⟨rfl, rfl, trivial⟩ (fun w hs => rref_mul hs hn21 hd21 hn23 hd23 (by omega) (by omega)) rfl ?_
   intro v58 h13 hh13 hr58
   obtain ⟨vn58, vd58, rfl, hn58, hd58⟩ := hr58
   have hlq58 := lq_mul (numQ (sa) (xa) (ya)) (numQ (sb) (xb) (yb))
   refine w_c rfl (s_on rfl rfl ?_)
   replace hn55 := hn55.mono hh13
   replace hd55 := hd55.mono hh13
   refine s_call (vs := [_, _]) Try.call20 ⟨rfl, rfl, trivial⟩ (fun w hs => rref_same hs hn55 hd55 hn58 hd58 (by omega) (by omega)) rfl ?_
   intro v59 h14 hh14 hr59
   rw [vB_true (by first | rfl | exact Iff.rfl | exact valid_rat _)] at hr59
   subst hr59
   refine w_q rfl (fun h' L' hh hR => ov_pick_t rfl rfl) rfl (w_q rfl (fun h' L' hh hR => ov_move rfl) rfl (w_q_on rfl rfl rfl (fun h' L' hh hR => ov_move rfl) rfl (w_q_on rfl rfl rfl (fun h' L' hh hR => ov_move rfl) rfl (w_q_on rfl rfl rfl (fun h' L' hh hR => OpV.tr (by first | rfl | exact Iff.rfl | exact valid_rat _) (ov_eql_i rfl rfl)) rfl (w_q rfl (fun h' L' hh hR => ov_pick_t rfl rfl) rfl (w_q rfl (fun h' L' hh hR => ov_move rfl) rfl (w_q_on rfl rfl rfl (fun h' L' hh hR => ov_load_agg (vs := [_, _, _]) (hR _ (.tail _ (.head _))) Try.underlying27 rfl size27 rfl rfl) rfl (w_q_on rfl rfl rfl (fun h' L' hh hR => ov_load_agg (vs := [_, _, _]) (hR _ (.head _)) Try.underlying27 rfl size27 rfl rfl) rfl ?_))))))))
   refine w_c rfl (s_on rfl rfl ?_)
   replace hn27 := hn27.mono (((((((((hh5.trans hh6).trans hh7).trans hh8).trans hh9).trans hh10).trans hh11).trans hh12).trans hh13).trans hh14)
   replace hd27 := hd27.mono (((((((((hh5.trans hh6).trans hh7).trans hh8).trans hh9).trans hh10).trans hh11).trans hh12).trans hh13).trans hh14)
   replace hn33 := hn33.mono ((((((((hh6.trans hh7).trans hh8).trans hh9).trans hh10).trans hh11).trans hh12).trans hh13).trans hh14)
   replace hd33 := hd33.mono ((((((((hh6.trans hh7).trans hh8).trans hh9).trans hh10).trans hh11).trans hh12).trans hh13).trans hh14)
   refine s_call (vs := [_, _]) Try.call20 ⟨rfl, rfl, trivial⟩ (fun w hs => rref_same hs hn27 hd27 hn33 hd33 (by omega) (by omega)) rfl ?_
   intro v69 h15 hh15 hr69
   rw [vB_true (by first | rfl | exact Iff.rfl | exact valid_rat _)] at hr69
   subst hr69
   refine w_q rfl (fun h' L' hh hR => ov_pick_t rfl rfl) rfl (w_q rfl (fun h' L' hh hR => ov_move rfl) rfl ?_)
   refine w_c rfl (s_on rfl rfl ?_)
   refine s_call (vs := []) Try.call14 trivial (fun w hs => law2_awake hs) rfl ?_
   intro v72 h16 hh16 hr72
   subst hr72
   refine w_q rfl (fun h' L' hh hR => ov_pick_t rfl rfl) rfl (w_q rfl (fun h' L' hh hR => ov_assign rfl) rfl (w_nil (gq_keep (e' := [(4, _)]) ⟨rfl, trivial⟩ (gq_then (gc_ret (gq_body1 rfl rfl ?_))))))
   rfl

theorem law2_compares {w0 : World} {h0 : Mem}  (hs : MLe h0 (mem w0)) {sa : Prop} {ba vna vda : Value} {xa ya : List Nat} (hba : ba = vB sa) (hna : Us .u32 h0 vna xa) (hda : Us .u32 h0 vda ya) {sb : Prop} {bb vnb vdb : Value} {xb yb : List Nat} (hbb : bb = vB sb) (hnb : Us .u32 h0 vnb xb) (hdb : Us .u32 h0 vdb yb)  :
    Calls Try.prog 12 #[.agg #[ba, vna, vda], .agg #[bb, vnb, vdb]] w0 (Ret w0 h0 (fun _ r => r = .bool true)) := by
 subst hba
 subst hbb
 have hlxa := limbs_len_le hna.lt
 have hlya := dV_len ya hda.lt
 have hlxb := limbs_len_le hnb.lt
 have hlyb := dV_len yb hdb.lt
 refine calls_begin (n := 92) (e := [(0, .agg #[vB sa, vna, vda]), (1, .agg #[vB sb, vnb, vdb])]) (vs := [.agg #[vB sa, vna, vda], .agg #[vB sb, vnb, vdb]]) Try.func12 rfl rfl (Nat.le_of_ble_eq_true rfl) hs ⟨rfl, rfl, trivial⟩ (gc_seq (gc_region (gl_newop (new_box (cs := [_, _, _]) rfl rfl) rfl rfl rfl ?_)))
 intro v2 r2 hr2
 obtain ⟨b2, rfl, rfl⟩ := hr2
 refine gl_newop (new_box (cs := [_, _, _]) rfl rfl) rfl rfl rfl ?_
 intro v3 r3 hr3
 obtain ⟨b3, rfl, rfl⟩ := hr3
 refine asg rfl rfl (gl_nil (gq_then (gc_seq (gc_seq (gc_region (gv (ov_load_agg (vs := [_, _, _]) (.tail _ (.head _)) Try.underlying24 rfl size24 rfl rfl) rfl ?_))))))
 refine gl_call (vs := [_]) rfl rfl rfl rfl Try.call13 ⟨rfl, trivial⟩ (fun w hs => law2_light hs rfl hna hda) ?_
 intro v8 h1 hh1 hr8
 subst hr8
 refine gv (ov_not rfl) rfl ?_
 refine gl_cut (ι := Mem) 5 (fun m_ => MLe h1 m_) (fun _ => [(14, vB ((¬ ((↑((xa)).length : Int) ≤ 16 ∧ (↑((ya)).length : Int) ≤ 16)) ∨ (¬ ((↑((xb)).length : Int) ≤ 16 ∧ (↑((yb)).length : Int) ≤ 16)))), (2, vP b2 0), (3, vP b3 0)]) (fun _ => [.var b3 24 [vB sb, vnb, vdb], .var b2 24 [vB sa, vna, vda]]) (fun m_ => m_) ?_ ?_
 ·
  refine gl_cases (¬ ((↑((xa)).length : Int) ≤ 16 ∧ (↑((ya)).length : Int) ≤ 16)) (fun hg => ?_) (fun hg => ?_)
  ·
   refine gl_val (ov_move (v := .bool true) (congrArg some (vB_true hg))) rfl rfl rfl (gl_off rfl rfl rfl rfl rfl rfl (gl_off rfl rfl rfl rfl rfl rfl (gl_off rfl rfl rfl rfl rfl rfl (gv (ov_pick_t rfl rfl) rfl (gl_nil ?_)))))
   refine gq_cut h1 (MLe.refl _) ⟨?_, rfl, rfl, trivial⟩ rfl rfl
   exact congrArg some (vB_or_t hg)
  ·
   refine gl_val (ov_move (v := .bool false) (congrArg some (vB_false hg))) rfl rfl rfl (gl_on rfl rfl rfl (gv (ov_load_agg (vs := [_, _, _]) (.head _) Try.underlying24 rfl size24 rfl rfl) rfl (gl_on rfl rfl rfl ?_)))
   replace hnb := hnb.mono hh1
   replace hdb := hdb.mono hh1
   refine gl_call (vs := [_]) rfl rfl rfl rfl Try.call13 ⟨rfl, trivial⟩ (fun w hs => law2_light hs rfl hnb hdb) ?_
   intro v12 h2 hh2 hr12
   subst hr12
   refine gl_on rfl rfl rfl (gv (ov_not rfl) rfl (gv (ov_pick_f rfl rfl) rfl (gl_nil ?_)))
   refine gq_cut h2 hh2 ⟨?_, rfl, rfl, trivial⟩ rfl rfl
   exact congrArg some (vB_or_f hg)
 ·
  intro mg1_3 hmmg1_3
  show GL _ _ _ _ _ _ _ [(14, vB ((¬ ((↑((xa)).length : Int) ≤ 16 ∧ (↑((ya)).length : Int) ≤ 16)) ∨ (¬ ((↑((xb)).length : Int) ≤ 16 ∧ (↑((yb)).length : Int) ≤ 16)))), (2, vP b2 0), (3, vP b3 0)] [.var b3 24 [vB sb, vnb, vdb], .var b2 24 [vB sa, vna, vda]] mg1_3
  refine gl_nil (gq_then ?_)
  refine gc_cond rfl (fun hc14 => ?_) (fun hc14 => ?_)
  ·
   refine gc_seq (gc_region ?_)
   refine gl_call (vs := []) rfl rfl rfl rfl Try.call14 trivial (fun w hs => law2_awake hs) ?_
   intro v15 h2 hh2 hr15
   subst hr15
   refine asg rfl rfl (gl_nil (gq_then (gc_ret (gr_then (gq_body1 rfl rfl ?_)))))
   rfl
  ·
   refine gc_skip (gq_then (gc_seq ?_))
   refine gc_draw 6 _ [(4, (5, 27, [vB ((0 : Rat).num < 0), .slice none 0 0, .slice none 0 0])), (5, (6, 27, [vB ((0 : Rat).num < 0), .slice none 0 0, .slice none 0 0]))] [(0, .q), (2, .q), (1, .c), (3, .c), (4, .a), (5, .a), (6, .t), (7, .t)] mixed (AlOk.cons rfl (zero_run info27 rfl (by simp only [zb]; rfl)) (AlOk.cons rfl (zero_run info27 rfl (by simp only [zb]; rfl)) AlOk.nil)) (by kernel_rfl) (hae_cons rfl rfl (hae_cons rfl rfl hae_nil)) (fun r hr => hr) (w_q rfl (fun h' L' hh hR => ov_load_agg (vs := [_, _, _]) (hR _ (.tail _ (.head _))) Try.underlying24 rfl size24 rfl rfl) rfl (w_q rfl (fun h' L' hh hR => ov_load_agg (vs := [_, _, _]) (hR _ (.head _)) Try.underlying24 rfl size24 rfl rfl) rfl ?_))
   refine w_c rfl ?_
   replace hna := hna.mono (hh1.trans hmmg1_3)
   replace hda := hda.mono (hh1.trans hmmg1_3)
   refine s_call (vs := [_]) Try.call15 ⟨rfl, trivial⟩ (fun w hs => law2_number hs rfl hna hda (by constructor <;> omega)) rfl ?_
   intro v17 h2 hh2 hr17
   have hlq17 := lq_numQ (sa) (xa) (ya)
   obtain ⟨vn17, vd17, rfl, hn17, hd17⟩ := hr17
   refine w_c rfl ?_
   replace hnb := hnb.mono ((hh1.trans hmmg1_3).trans hh2)
   replace hdb := hdb.mono ((hh1.trans hmmg1_3).trans hh2)
   refine s_call (vs := [_]) Try.call15 ⟨rfl, trivial⟩ (fun w hs => law2_number hs rfl hnb hdb (by constructor <;> omega)) rfl ?_
   intro v19 h3 hh3 hr19
   have hlq19 := lq_numQ (sb) (xb) (yb)
   obtain ⟨vn19, vd19, rfl, hn19, hd19⟩ := hr19
   refine w_a rfl (fun b5 => ?_)
   refine w_a rfl (fun b6 => ?_)
   replace hn17 := hn17.mono hh3
   replace hd17 := hd17.mono hh3
   refine w_t_upd (A := [_]) (q' := .var b5 27 [vB ((numQ (sa) (xa) (ya)).num < 0), vn17, vd17]) rfl (upd_store_var (k := 0) (cs := [_, _, _]) (vs := [_, _, _]) rfl rfl rfl (ocr rfl (ocu hn17 (ocu hd17 oc0))) size27 (Nat.le_of_ble_eq_true rfl)) rfl (w_t_upd (A := []) (q' := .var b6 27 [vB ((numQ (sb) (xb) (yb)).num < 0), vn19, vd19]) rfl (upd_store_var (k := 0) (cs := [_, _, _]) (vs := [_, _, _]) rfl rfl rfl (ocr rfl (ocu hn19 (ocu hd19 oc0))) size27 (Nat.le_of_ble_eq_true rfl)) rfl (w_nil (gq_then (gc_seq ?_))))
   refine gc_draw 73 _ [] [(0, .q), (1, .q), (3, .q), (4, .q), (2, .c), (5, .c), (6, .q), (7, .q), (8, .q), (9, .q), (10, .c), (11, .q), (12, .q), (13, .q), (14, .q), (16, .q), (17, .q), (15, .c), (18, .c), (19, .q), (20, .q), (21, .q), (22, .q), (24, .q), (23, .c), (25, .c), (26, .q), (27, .q), (28, .q), (29, .q), (31, .q), (30, .c), (32, .c), (33, .c), (34, .q), (35, .q), (36, .q), (38, .q), (37, .c), (39, .c), (40, .c), (41, .q), (42, .q), (43, .q), (44, .q), (46, .q), (47, .q), (45, .c), (48, .c), (49, .c), (50, .q), (51, .q), (52, .q), (53, .q), (55, .q), (56, .q), (54, .c), (57, .c), (58, .c), (59, .q), (60, .q), (61, .q), (62, .q), (64, .q), (65, .q), (63, .c), (66, .c), (67, .c), (68, .q), (69, .q), (70, .c), (71, .q), (72, .q)] mixed (fun x hx => by cases hx) (by kernel_rfl) (fun x hx => by cases hx) (fun r hr => hr) (w_q rfl (fun h' L' hh hR => ov_load_agg (vs := [_, _, _]) (hR _ (.tail _ (.head _))) Try.underlying27 rfl size27 rfl rfl) rfl (w_q rfl (fun h' L' hh hR => ov_load_agg (vs := [_, _, _]) (hR _ (.head _)) Try.underlying27 rfl size27 rfl rfl) rfl (w_q rfl (fun h' L' hh hR => ov_load_agg (vs := [_, _, _]) (hR _ (.tail _ (.head _))) Try.underlying27 rfl size27 rfl rfl) rfl (w_q rfl (fun h' L' hh hR => ov_load_agg (vs := [_, _, _]) (hR _ (.head _)) Try.underlying27 rfl size27 rfl rfl) rfl ?_))))
   refine w_c rfl ?_
   refine s_call (vs := [_, _]) Try.call29 ⟨rfl, rfl, trivial⟩ (fun w hs => rat_same hs hn17 hd17 hn19 hd19 (by omega) (by omega)) rfl ?_
   intro v22 h4 hh4 hr22
   subst hr22
   refine w_c rfl ?_
   replace hn17 := hn17.mono hh4
   replace hd17 := hd17.mono hh4
   replace hn19 := hn19.mono hh4
   replace hd19 := hd19.mono hh4
   refine s_call (vs := [_, _]) Try.call20 ⟨rfl, rfl, trivial⟩ (fun w hs => rref_same hs hn17 hd17 hn19 hd19 (by omega) (by omega)) rfl ?_
   intro v25 h5 hh5 hr25
   subst hr25
   refine w_q rfl (fun h' L' hh hR => OpV.tr (by first | rfl | exact Iff.rfl | exact valid_rat _) (ov_eql_b Try.underlying4 rfl rfl)) rfl (w_q rfl (fun h' L' hh hR => ov_move rfl) rfl (w_q_on rfl rfl rfl (fun h' L' hh hR => ov_load_agg (vs := [_, _, _]) (hR _ (.tail _ (.head _))) Try.underlying27 rfl size27 rfl rfl) rfl (w_q_on rfl rfl rfl (fun h' L' hh hR => ov_load_agg (vs := [_, _, _]) (hR _ (.tail _ (.head _))) Try.underlying27 rfl size27 rfl rfl) rfl ?_)))
   refine w_c rfl (s_on rfl rfl ?_)
   replace hn17 := hn17.mono hh5
   replace hd17 := hd17.mono hh5
   refine s_call (vs := [_, _]) Try.call29 ⟨rfl, rfl, trivial⟩ (fun w hs => rat_same hs hn17 hd17 hn17 hd17 (by omega) (by omega)) rfl ?_
   intro v30 h6 hh6 hr30
   rw [vB_true (by first | rfl | exact Iff.rfl | exact valid_rat _)] at hr30
   subst hr30
   refine w_q rfl (fun h' L' hh hR => ov_pick_t rfl rfl) rfl (w_q rfl (fun h' L' hh hR => ov_move rfl) rfl (w_q_on rfl rfl rfl (fun h' L' hh hR => ov_load_agg (vs := [_, _, _]) (hR _ (.tail _ (.head _))) Try.underlying27 rfl size27 rfl rfl) rfl (w_q_on rfl rfl rfl (fun h' L' hh hR => ov_load_agg (vs := [_, _, _]) (hR _ (.head _)) Try.underlying27 rfl size27 rfl rfl) rfl (w_q_on rfl rfl rfl (fun h' L' hh hR => ov_load_agg (vs := [_, _, _]) (hR _ (.tail _ (.head _))) Try.underlying27 rfl size27 rfl rfl) rfl (w_q_on rfl rfl rfl (fun h' L' hh hR => ov_load_agg (vs := [_, _, _]) (hR _ (.head _)) Try.underlying27 rfl size27 rfl rfl) rfl ?_)))))
   refine w_c rfl (s_on rfl rfl ?_)
   replace hn17 := hn17.mono hh6
   replace hd17 := hd17.mono hh6
   replace hn19 := hn19.mono (hh5.trans hh6)
   replace hd19 := hd19.mono (hh5.trans hh6)
   refine s_call (vs := [_, _]) Try.call47 ⟨rfl, rfl, trivial⟩ (fun w hs => rat_cmp hs hn17 hd17 hn19 hd19 (by omega) (by omega)) rfl ?_
   intro v35 h7 hh7 hr35
   have hcr35 := cmpQ_range (numQ (sa) (xa) (ya)) (numQ (sb) (xb) (yb))
   subst hr35
   refine w_c rfl (s_on rfl rfl ?_)
   replace hn17 := hn17.mono hh7
   replace hd17 := hd17.mono hh7
   replace hn19 := hn19.mono hh7
   replace hd19 := hd19.mono hh7
   refine s_call (vs := [_, _]) Try.call48 ⟨rfl, rfl, trivial⟩ (fun w hs => rref_cmp hs hn17 hd17 hn19 hd19 (by omega) (by omega)) rfl ?_
   intro v38 h8 hh8 hr38
   have hcr38 := cmpQ_range (numQ (sa) (xa) (ya)) (numQ (sb) (xb) (yb))
   subst hr38
   refine w_q_on rfl rfl rfl (fun h' L' hh hR => OpV.tr (by first | rfl | exact Iff.rfl | exact valid_rat _) (ov_eql_i rfl rfl)) rfl (w_q rfl (fun h' L' hh hR => ov_pick_t rfl rfl) rfl (w_q rfl (fun h' L' hh hR => ov_move rfl) rfl (w_q_on rfl rfl rfl (fun h' L' hh hR => ov_load_agg (vs := [_, _, _]) (hR _ (.tail _ (.head _))) Try.underlying27 rfl size27 rfl rfl) rfl (w_q_on rfl rfl rfl (fun h' L' hh hR => ov_load_agg (vs := [_, _, _]) (hR _ (.tail _ (.head _))) Try.underlying27 rfl size27 rfl rfl) rfl ?_))))
   refine w_c rfl (s_on rfl rfl ?_)
   replace hn17 := hn17.mono hh8
   replace hd17 := hd17.mono hh8
   refine s_call (vs := [_]) Try.call46 ⟨rfl, trivial⟩ (fun w hs => rat_sign hs hn17 hd17 (by omega)) rfl ?_
   intro v43 h9 hh9 hr43
   have hsr43 := sgnQ_range (numQ (sa) (xa) (ya))
   subst hr43
   refine w_c rfl (s_on rfl rfl ?_)
   replace hn17 := hn17.mono hh9
   replace hd17 := hd17.mono hh9
   refine s_call (vs := [_]) Try.call49 ⟨rfl, trivial⟩ (fun w hs => rref_sign hs hn17 hd17 (by omega)) rfl ?_
   intro v45 h10 hh10 hr45
   have hsr45 := sgnQ_range (numQ (sa) (xa) (ya))
   subst hr45
   refine w_q_on rfl rfl rfl (fun h' L' hh hR => OpV.tr (by first | rfl | exact Iff.rfl | exact valid_rat _) (ov_eql_i rfl rfl)) rfl (w_q rfl (fun h' L' hh hR => ov_pick_t rfl rfl) rfl (w_q rfl (fun h' L' hh hR => ov_move rfl) rfl (w_q_on rfl rfl rfl (fun h' L' hh hR => ov_load_agg (vs := [_, _, _]) (hR _ (.tail _ (.head _))) Try.underlying27 rfl size27 rfl rfl) rfl (w_q_on rfl rfl rfl (fun h' L' hh hR => ov_load_agg (vs := [_, _, _]) (hR _ (.tail _ (.head _))) Try.underlying27 rfl size27 rfl rfl) rfl ?_))))
   refine w_c rfl (s_on rfl rfl ?_)
   replace hn17 := hn17.mono hh10
   replace hd17 := hd17.mono hh10
   refine s_call (vs := [_]) Try.call50 ⟨rfl, trivial⟩ (fun w hs => rat_neg hs hn17 hd17 (by first | omega | exact Nat.le_trans (lq_num _) (by omega)) (by first | omega | exact Nat.le_trans (lq_denL _) (by omega))) rfl ?_
   intro v50 h11 hh11 hr50
   obtain ⟨vn50, vd50, rfl, hn50, hd50⟩ := hr50
   have hlq50 := lq_neg (numQ (sa) (xa) (ya))
   refine w_c rfl (s_on rfl rfl ?_)
   replace hn17 := hn17.mono hh11
   replace hd17 := hd17.mono hh11
   refine s_call (vs := [_]) Try.call51 ⟨rfl, trivial⟩ (fun w hs => rref_neg hs hn17 hd17 (by omega)) rfl ?_
   intro v52 h12 hh12 hr52
   obtain ⟨vn52, vd52, rfl, hn52, hd52⟩ := hr52
   have hlq52 := lq_neg (numQ (sa) (xa) (ya))
   refine w_c rfl (s_on rfl rfl ?_)
   replace hn50 := hn50.mono hh12
   replace hd50 := hd50.mono hh12
   refine s_call (vs := [_, _]) Try.call20 ⟨rfl, rfl, trivial⟩ (fun w hs => rref_same hs hn50 hd50 hn52 hd52 (by omega) (by omega)) rfl ?_
   intro v53 h13 hh13 hr53
   rw [vB_true (by first | rfl | exact Iff.rfl | exact valid_rat _)] at hr53
   subst hr53
   refine w_q rfl (fun h' L' hh hR => ov_pick_t rfl rfl) rfl (w_q rfl (fun h' L' hh hR => ov_move rfl) rfl (w_q_on rfl rfl rfl (fun h' L' hh hR => ov_load_agg (vs := [_, _, _]) (hR _ (.tail _ (.head _))) Try.underlying27 rfl size27 rfl rfl) rfl (w_q_on rfl rfl rfl (fun h' L' hh hR => ov_load_agg (vs := [_, _, _]) (hR _ (.tail _ (.head _))) Try.underlying27 rfl size27 rfl rfl) rfl ?_)))
   refine w_c rfl (s_on rfl rfl ?_)
   replace hn17 := hn17.mono (hh12.trans hh13)
   replace hd17 := hd17.mono (hh12.trans hh13)
   refine s_call (vs := [_]) Try.call52 ⟨rfl, trivial⟩ (fun w hs => rat_abs hs hn17 hd17 (by first | omega | exact Nat.le_trans (lq_num _) (by omega)) (by first | omega | exact Nat.le_trans (lq_denL _) (by omega))) rfl ?_
   intro v57 h14 hh14 hr57
   obtain ⟨vn57, vd57, rfl, hn57, hd57⟩ := hr57
   have hlq57 := lq_abs (numQ (sa) (xa) (ya))
   refine w_c rfl (s_on rfl rfl ?_)
   replace hn17 := hn17.mono hh14
   replace hd17 := hd17.mono hh14
   refine s_call (vs := [_]) Try.call53 ⟨rfl, trivial⟩ (fun w hs => rref_abs hs hn17 hd17 (by omega)) rfl ?_
   intro v59 h15 hh15 hr59
   obtain ⟨vn59, vd59, rfl, hn59, hd59⟩ := hr59
   have hlq59 := lq_abs (numQ (sa) (xa) (ya))
   refine w_c rfl (s_on rfl rfl ?_)
   replace hn57 := hn57.mono hh15
   replace hd57 := hd57.mono hh15
   refine s_call (vs := [_, _]) Try.call20 ⟨rfl, rfl, trivial⟩ (fun w hs => rref_same hs hn57 hd57 hn59 hd59 (by omega) (by omega)) rfl ?_
   intro v60 h16 hh16 hr60
   rw [vB_true (by first | rfl | exact Iff.rfl | exact valid_rat _)] at hr60
   subst hr60
   refine w_q rfl (fun h' L' hh hR => ov_pick_t rfl rfl) rfl (w_q rfl (fun h' L' hh hR => ov_move rfl) rfl (w_q_on rfl rfl rfl (fun h' L' hh hR => ov_load_agg (vs := [_, _, _]) (hR _ (.tail _ (.head _))) Try.underlying27 rfl size27 rfl rfl) rfl (w_q_on rfl rfl rfl (fun h' L' hh hR => ov_load_agg (vs := [_, _, _]) (hR _ (.head _)) Try.underlying27 rfl size27 rfl rfl) rfl (w_q_on rfl rfl rfl (fun h' L' hh hR => ov_load_agg (vs := [_, _, _]) (hR _ (.tail _ (.head _))) Try.underlying27 rfl size27 rfl rfl) rfl (w_q_on rfl rfl rfl (fun h' L' hh hR => ov_load_agg (vs := [_, _, _]) (hR _ (.head _)) Try.underlying27 rfl size27 rfl rfl) rfl ?_)))))
   refine w_c rfl (s_on rfl rfl ?_)
   replace hn17 := hn17.mono (hh15.trans hh16)
   replace hd17 := hd17.mono (hh15.trans hh16)
   replace hn19 := hn19.mono ((((((((hh8.trans hh9).trans hh10).trans hh11).trans hh12).trans hh13).trans hh14).trans hh15).trans hh16)
   replace hd19 := hd19.mono ((((((((hh8.trans hh9).trans hh10).trans hh11).trans hh12).trans hh13).trans hh14).trans hh15).trans hh16)
   refine s_call (vs := [_, _]) Try.call54 ⟨rfl, rfl, trivial⟩ (fun w hs => rat_min hs hn17 hd17 hn19 hd19 (by omega) (by omega)) rfl ?_
   intro v65 h17 hh17 hr65
   obtain ⟨vn65, vd65, rfl, hn65, hd65⟩ := hr65
   have hlq65 := lq_min (numQ (sa) (xa) (ya)) (numQ (sb) (xb) (yb))
   refine w_c rfl (s_on rfl rfl ?_)
   replace hn17 := hn17.mono hh17
   replace hd17 := hd17.mono hh17
   replace hn19 := hn19.mono hh17
   replace hd19 := hd19.mono hh17
   refine s_call (vs := [_, _]) Try.call55 ⟨rfl, rfl, trivial⟩ (fun w hs => rref_min hs hn17 hd17 hn19 hd19 (by omega) (by omega)) rfl ?_
   intro v68 h18 hh18 hr68
   obtain ⟨vn68, vd68, rfl, hn68, hd68⟩ := hr68
   have hlq68 := lq_min (numQ (sa) (xa) (ya)) (numQ (sb) (xb) (yb))
   refine w_c rfl (s_on rfl rfl ?_)
   replace hn65 := hn65.mono hh18
   replace hd65 := hd65.mono hh18
   refine s_call (vs := [_, _]) Try.call20 ⟨rfl, rfl, trivial⟩ (fun w hs => rref_same hs hn65 hd65 hn68 hd68 (by omega) (by omega)) rfl ?_
   intro v69 h19 hh19 hr69
   rw [vB_true (by first | rfl | exact Iff.rfl | exact valid_rat _)] at hr69
   subst hr69
   refine w_q rfl (fun h' L' hh hR => ov_pick_t rfl rfl) rfl (w_q rfl (fun h' L' hh hR => ov_move rfl) rfl (w_q_on rfl rfl rfl (fun h' L' hh hR => ov_load_agg (vs := [_, _, _]) (hR _ (.tail _ (.head _))) Try.underlying27 rfl size27 rfl rfl) rfl (w_q_on rfl rfl rfl (fun h' L' hh hR => ov_load_agg (vs := [_, _, _]) (hR _ (.head _)) Try.underlying27 rfl size27 rfl rfl) rfl (w_q_on rfl rfl rfl (fun h' L' hh hR => ov_load_agg (vs := [_, _, _]) (hR _ (.tail _ (.head _))) Try.underlying27 rfl size27 rfl rfl) rfl (w_q_on rfl rfl rfl (fun h' L' hh hR => ov_load_agg (vs := [_, _, _]) (hR _ (.head _)) Try.underlying27 rfl size27 rfl rfl) rfl ?_)))))
   refine w_c rfl (s_on rfl rfl ?_)
   replace hn17 := hn17.mono (hh18.trans hh19)
   replace hd17 := hd17.mono (hh18.trans hh19)
   replace hn19 := hn19.mono (hh18.trans hh19)
   replace hd19 := hd19.mono (hh18.trans hh19)
   refine s_call (vs := [_, _]) Try.call56 ⟨rfl, rfl, trivial⟩ (fun w hs => rat_max hs hn17 hd17 hn19 hd19 (by omega) (by omega)) rfl ?_
   intro v74 h20 hh20 hr74
   obtain ⟨vn74, vd74, rfl, hn74, hd74⟩ := hr74
   have hlq74 := lq_max (numQ (sa) (xa) (ya)) (numQ (sb) (xb) (yb))
   refine w_c rfl (s_on rfl rfl ?_)
   replace hn17 := hn17.mono hh20
   replace hd17 := hd17.mono hh20
   replace hn19 := hn19.mono hh20
   replace hd19 := hd19.mono hh20
   refine s_call (vs := [_, _]) Try.call57 ⟨rfl, rfl, trivial⟩ (fun w hs => rref_max hs hn17 hd17 hn19 hd19 (by omega) (by omega)) rfl ?_
   intro v77 h21 hh21 hr77
   obtain ⟨vn77, vd77, rfl, hn77, hd77⟩ := hr77
   have hlq77 := lq_max (numQ (sa) (xa) (ya)) (numQ (sb) (xb) (yb))
   refine w_c rfl (s_on rfl rfl ?_)
   replace hn74 := hn74.mono hh21
   replace hd74 := hd74.mono hh21
   refine s_call (vs := [_, _]) Try.call20 ⟨rfl, rfl, trivial⟩ (fun w hs => rref_same hs hn74 hd74 hn77 hd77 (by omega) (by omega)) rfl ?_
   intro v78 h22 hh22 hr78
   rw [vB_true (by first | rfl | exact Iff.rfl | exact valid_rat _)] at hr78
   subst hr78
   refine w_q rfl (fun h' L' hh hR => ov_pick_t rfl rfl) rfl (w_q rfl (fun h' L' hh hR => ov_move rfl) rfl (w_q_on rfl rfl rfl (fun h' L' hh hR => ov_load_agg (vs := [_, _, _]) (hR _ (.tail _ (.head _))) Try.underlying27 rfl size27 rfl rfl) rfl (w_q_on rfl rfl rfl (fun h' L' hh hR => ov_load_agg (vs := [_, _, _]) (hR _ (.head _)) Try.underlying27 rfl size27 rfl rfl) rfl (w_q_on rfl rfl rfl (fun h' L' hh hR => ov_load_agg (vs := [_, _, _]) (hR _ (.tail _ (.head _))) Try.underlying27 rfl size27 rfl rfl) rfl (w_q_on rfl rfl rfl (fun h' L' hh hR => ov_load_agg (vs := [_, _, _]) (hR _ (.head _)) Try.underlying27 rfl size27 rfl rfl) rfl ?_)))))
   refine w_c rfl (s_on rfl rfl ?_)
   replace hn17 := hn17.mono (hh21.trans hh22)
   replace hd17 := hd17.mono (hh21.trans hh22)
   replace hn19 := hn19.mono (hh21.trans hh22)
   replace hd19 := hd19.mono (hh21.trans hh22)
   refine s_call (vs := [_, _]) Try.call58 ⟨rfl, rfl, trivial⟩ (fun w hs => rat_mid hs hn17 hd17 hn19 hd19 (by omega) (by omega)) rfl ?_
   intro v83 h23 hh23 hr83
   obtain ⟨vn83, vd83, rfl, hn83, hd83⟩ := hr83
   have hlq83 := lq_mid (numQ (sa) (xa) (ya)) (numQ (sb) (xb) (yb))
   refine w_c rfl (s_on rfl rfl ?_)
   replace hn17 := hn17.mono hh23
   replace hd17 := hd17.mono hh23
   replace hn19 := hn19.mono hh23
   replace hd19 := hd19.mono hh23
   refine s_call (vs := [_, _]) Try.call59 ⟨rfl, rfl, trivial⟩ (fun w hs => rref_mid hs hn17 hd17 hn19 hd19 (by omega) (by omega)) rfl ?_
   intro v86 h24 hh24 hr86
   obtain ⟨vn86, vd86, rfl, hn86, hd86⟩ := hr86
   have hlq86 := lq_mid (numQ (sa) (xa) (ya)) (numQ (sb) (xb) (yb))
   refine w_c rfl (s_on rfl rfl ?_)
   replace hn83 := hn83.mono hh24
   replace hd83 := hd83.mono hh24
   refine s_call (vs := [_, _]) Try.call20 ⟨rfl, rfl, trivial⟩ (fun w hs => rref_same hs hn83 hd83 hn86 hd86 (by omega) (by omega)) rfl ?_
   intro v87 h25 hh25 hr87
   rw [vB_true (by first | rfl | exact Iff.rfl | exact valid_rat _)] at hr87
   subst hr87
   refine w_q rfl (fun h' L' hh hR => ov_pick_t rfl rfl) rfl (w_q rfl (fun h' L' hh hR => ov_move rfl) rfl ?_)
   refine w_c rfl (s_on rfl rfl ?_)
   refine s_call (vs := []) Try.call14 trivial (fun w hs => law2_awake hs) rfl ?_
   intro v90 h26 hh26 hr90
   subst hr90
   refine w_q rfl (fun h' L' hh hR => ov_pick_t rfl rfl) rfl (w_q rfl (fun h' L' hh hR => ov_assign rfl) rfl (w_nil (gq_keep (e' := [(4, _)]) ⟨rfl, trivial⟩ (gq_then (gc_ret (gq_body1 rfl rfl ?_))))))
   rfl

theorem law2_rounds {w0 : World} {h0 : Mem}  (hs : MLe h0 (mem w0)) {sa : Prop} {ba vna vda : Value} {xa ya : List Nat} (hba : ba = vB sa) (hna : Us .u32 h0 vna xa) (hda : Us .u32 h0 vda ya) {k : Int} (hk1 : -9223372036854775808 ≤ k) (hk2 : k < 9223372036854775808) :
    Calls Try.prog 7 #[.agg #[ba, vna, vda], vI k] w0 (Ret w0 h0 (fun _ r => r = .bool true)) := by
 subst hba
 have hlxa := limbs_len_le hna.lt
 have hlya := dV_len ya hda.lt
 refine calls_begin (n := 53) (e := [(0, .agg #[vB sa, vna, vda]), (1, vI k)]) (vs := [.agg #[vB sa, vna, vda], vI k]) Try.func7 rfl rfl (Nat.le_of_ble_eq_true rfl) hs ⟨rfl, rfl, trivial⟩ (gc_seq (gc_region (gl_newop (new_box (cs := [_, _, _]) rfl rfl) rfl rfl rfl ?_)))
 intro v2 r2 hr2
 obtain ⟨b2, rfl, rfl⟩ := hr2
 refine asg rfl rfl (gl_nil (gq_then (gc_seq (gc_seq (gc_region (gv (ov_load_agg (vs := [_, _, _]) (.head _) Try.underlying24 rfl size24 rfl rfl) rfl ?_))))))
 refine gl_call (vs := [_]) rfl rfl rfl rfl Try.call13 ⟨rfl, trivial⟩ (fun w hs => law2_light hs rfl hna hda) ?_
 intro v7 h1 hh1 hr7
 subst hr7
 refine gv (ov_not rfl) rfl ?_
 refine gl_cut (ι := Unit) 8 (fun _ => True) (fun _ => [(16, vB ((¬ ((↑((xa)).length : Int) ≤ 16 ∧ (↑((ya)).length : Int) ≤ 16)) ∨ (((200 : Int) < k) ∧ (k ≤ (4096 : Int))))), (1, vI k), (2, vP b2 0)]) (fun _ => [.var b2 24 [vB sa, vna, vda]]) (fun _ => h1) ?_ ?_
 ·
  refine gl_cases (¬ ((↑((xa)).length : Int) ≤ 16 ∧ (↑((ya)).length : Int) ≤ 16)) (fun hg => ?_) (fun hg => ?_)
  ·
   refine gl_val (ov_move (v := .bool true) (congrArg some (vB_true hg))) rfl rfl rfl (gl_off rfl rfl rfl rfl rfl rfl (gl_off rfl rfl rfl rfl rfl rfl (gl_off rfl rfl rfl rfl rfl rfl (gl_offu rfl rfl rfl rfl rfl (gl_offu rfl rfl rfl rfl rfl (gl_off rfl rfl rfl rfl rfl rfl (gv (ov_pick_t rfl rfl) rfl (gl_nil ?_))))))))
   refine gq_cut () trivial ⟨?_, rfl, rfl, trivial⟩ rfl rfl
   exact congrArg some (vB_or_t hg)
  ·
   refine gl_val (ov_move (v := .bool false) (congrArg some (vB_false hg))) rfl rfl rfl (gl_on rfl rfl rfl (mv rfl rfl (gl_on rfl rfl rfl (gv (ov_gtr_i (q := 200) rfl rfl) rfl ?_))))
   refine gl_cut (ι := Unit) 4 (fun _ => True) (fun _ => [(15, vB (((200 : Int) < k) ∧ (k ≤ (4096 : Int)))), (1, vI k), (2, vP b2 0), (9, .bool false)]) (fun _ => [.var b2 24 [vB sa, vna, vda]]) (fun _ => h1) ?_ ?_
   ·
    refine gl_cases ((200 : Int) < k) (fun hg => ?_) (fun hg => ?_)
    ·
     refine gl_on rfl rfl rfl (gl_val (ov_move (v := .bool true) (congrArg some (vB_true hg))) rfl rfl rfl (gl_on rfl rfl rfl (mv rfl rfl (gl_on rfl rfl rfl (gv (ov_leq_i (q := 4096) rfl rfl) rfl (gl_on rfl rfl rfl (gv (ov_pick_t rfl rfl) rfl (gl_nil ?_))))))))
     refine gq_cut () trivial ⟨?_, rfl, rfl, rfl, trivial⟩ rfl rfl
     exact congrArg some (vB_and_t hg)
    ·
     refine gl_on rfl rfl rfl (gl_val (ov_move (v := .bool false) (congrArg some (vB_false hg))) rfl rfl rfl (gl_off rfl rfl rfl rfl rfl rfl (gl_off rfl rfl rfl rfl rfl rfl (gl_on rfl rfl rfl (gv (ov_pick_f rfl rfl) rfl (gl_nil ?_))))))
     refine gq_cut () trivial ⟨?_, rfl, rfl, rfl, trivial⟩ rfl rfl
     exact congrArg some (vB_and_f hg)
   ·
    intro _ _
    show GL _ _ _ _ _ _ _ [(15, vB (((200 : Int) < k) ∧ (k ≤ (4096 : Int)))), (1, vI k), (2, vP b2 0), (9, .bool false)] [.var b2 24 [vB sa, vna, vda]] h1
    refine gv (ov_pick_f rfl rfl) rfl (gl_nil ?_)
    refine gq_cut () trivial ⟨?_, rfl, rfl, trivial⟩ rfl rfl
    exact congrArg some (vB_or_f hg)
 ·
  intro _ _
  show GL _ _ _ _ _ _ _ [(16, vB ((¬ ((↑((xa)).length : Int) ≤ 16 ∧ (↑((ya)).length : Int) ≤ 16)) ∨ (((200 : Int) < k) ∧ (k ≤ (4096 : Int))))), (1, vI k), (2, vP b2 0)] [.var b2 24 [vB sa, vna, vda]] h1
  refine gl_nil (gq_then ?_)
  refine gc_cond rfl (fun hc16 => ?_) (fun hc16 => ?_)
  ·
   refine gc_seq (gc_region ?_)
   refine gl_call (vs := []) rfl rfl rfl rfl Try.call14 trivial (fun w hs => law2_awake hs) ?_
   intro v17 h2 hh2 hr17
   subst hr17
   refine asg rfl rfl (gl_nil (gq_then (gc_ret (gr_then (gq_body1 rfl rfl ?_)))))
   rfl
  ·
   refine gc_skip (gq_then (gc_seq (gc_region (gv (ov_load_agg (vs := [_, _, _]) (.head _) Try.underlying24 rfl size24 rfl rfl) rfl ?_))))
   replace hna := hna.mono hh1
   replace hda := hda.mono hh1
   refine gl_call (vs := [_]) rfl rfl rfl rfl Try.call15 ⟨rfl, trivial⟩ (fun w hs => law2_number hs rfl hna hda (by constructor <;> omega)) ?_
   intro v19 h2 hh2 hr19
   have hlq19 := lq_numQ (sa) (xa) (ya)
   obtain ⟨vn19, vd19, rfl, hn19, hd19⟩ := hr19
   refine gl_newop (new_alloc (cs := [vB ((0 : Rat).num < 0), .slice none 0 0, .slice none 0 0]) info27 rfl (by simp only [zb]; rfl)) rfl rfl rfl ?_
   intro v5 r5 hr5
   obtain ⟨b5, rfl, rfl⟩ := hr5
   refine gl_upd (A := []) (r' := .var b5 27 [vB ((numQ (sa) (xa) (ya)).num < 0), vn19, vd19]) (upd_store_var (k := 0) (cs := [_, _, _]) (vs := [_, _, _]) rfl rfl rfl (ocr rfl (ocu hn19 (ocu hd19 oc0))) size27 (Nat.le_of_ble_eq_true rfl)) rfl rfl rfl (gl_nil (gq_then (gc_seq ?_)))
   refine gc_draw 34 _ [] [(0, .q), (2, .q), (1, .c), (3, .c), (4, .c), (5, .q), (6, .q), (7, .q), (9, .q), (10, .q), (8, .c), (11, .c), (12, .c), (13, .q), (14, .q), (15, .q), (16, .q), (18, .q), (19, .q), (17, .c), (20, .c), (21, .c), (22, .q), (23, .q), (24, .q), (26, .q), (25, .c), (27, .c), (28, .q), (29, .q), (30, .q), (31, .c), (32, .q), (33, .q)] mixed (fun x hx => by cases hx) (by kernel_rfl) (fun x hx => by cases hx) (fun r hr => hr) (w_q rfl (fun h' L' hh hR => ov_load_agg (vs := [_, _, _]) (hR _ (.head _)) Try.underlying27 rfl size27 rfl rfl) rfl (w_q rfl (fun h' L' hh hR => ov_load_agg (vs := [_, _, _]) (hR _ (.head _)) Try.underlying27 rfl size27 rfl rfl) rfl ?_))
   refine w_c rfl ?_
   refine s_call (vs := [_]) Try.call30 ⟨rfl, trivial⟩ (fun w hs => rat_floor hs hn19 hd19 (by omega)) rfl ?_
   intro v21 h3 hh3 hr21
   obtain ⟨vn21, vd21, rfl, hn21, hd21⟩ := hr21
   have hlq21 := lq_floor (numQ (sa) (xa) (ya))
   refine w_c rfl ?_
   replace hn19 := hn19.mono hh3
   replace hd19 := hd19.mono hh3
   refine s_call (vs := [_]) Try.call31 ⟨rfl, trivial⟩ (fun w hs => rref_floor hs hn19 hd19 (by omega)) rfl ?_
   intro v23 h4 hh4 hr23
   obtain ⟨vn23, vd23, rfl, hn23, hd23⟩ := hr23
   have hlq23 := lq_floor (numQ (sa) (xa) (ya))
   refine w_c rfl ?_
   replace hn21 := hn21.mono hh4
   replace hd21 := hd21.mono hh4
   refine s_call (vs := [_, _]) Try.call20 ⟨rfl, rfl, trivial⟩ (fun w hs => rref_same hs hn21 hd21 hn23 hd23 (by omega) (by omega)) rfl ?_
   intro v24 h5 hh5 hr24
   rw [vB_true (by first | rfl | exact Iff.rfl | exact valid_rat _)] at hr24
   subst hr24
   refine w_q rfl (fun h' L' hh hR => ov_move rfl) rfl (w_q_on rfl rfl rfl (fun h' L' hh hR => ov_load_agg (vs := [_, _, _]) (hR _ (.head _)) Try.underlying27 rfl size27 rfl rfl) rfl (w_q_on rfl rfl rfl (fun h' L' hh hR => ov_move rfl) rfl (w_q_on rfl rfl rfl (fun h' L' hh hR => ov_load_agg (vs := [_, _, _]) (hR _ (.head _)) Try.underlying27 rfl size27 rfl rfl) rfl (w_q_on rfl rfl rfl (fun h' L' hh hR => ov_move rfl) rfl ?_))))
   refine w_c rfl (s_on rfl rfl ?_)
   replace hn19 := hn19.mono (hh4.trans hh5)
   replace hd19 := hd19.mono (hh4.trans hh5)
   refine s_call (vs := [_, _]) Try.call32 ⟨rfl, rfl, trivial⟩ (fun w hs => rat_down hs hn19 hd19 (by omega) (by omega) (by omega)) rfl ?_
   intro v28 h6 hh6 hr28
   obtain ⟨vn28, vd28, rfl, hn28, hd28⟩ := hr28
   have hlq28 := lq_down (numQ (sa) (xa) (ya)) k
   refine w_c rfl (s_on rfl rfl ?_)
   replace hn19 := hn19.mono hh6
   replace hd19 := hd19.mono hh6
   refine s_call (vs := [_, _]) Try.call33 ⟨rfl, rfl, trivial⟩ (fun w hs => rref_down hs hn19 hd19 (by omega) (by omega) (by omega)) rfl ?_
   intro v31 h7 hh7 hr31
   obtain ⟨vn31, vd31, rfl, hn31, hd31⟩ := hr31
   have hlq31 := lq_down (numQ (sa) (xa) (ya)) k
   refine w_c rfl (s_on rfl rfl ?_)
   replace hn28 := hn28.mono hh7
   replace hd28 := hd28.mono hh7
   refine s_call (vs := [_, _]) Try.call20 ⟨rfl, rfl, trivial⟩ (fun w hs => rref_same hs hn28 hd28 hn31 hd31 (by omega) (by omega)) rfl ?_
   intro v32 h8 hh8 hr32
   rw [vB_true (by first | rfl | exact Iff.rfl | exact valid_rat _)] at hr32
   subst hr32
   refine w_q rfl (fun h' L' hh hR => ov_pick_t rfl rfl) rfl (w_q rfl (fun h' L' hh hR => ov_move rfl) rfl (w_q_on rfl rfl rfl (fun h' L' hh hR => ov_load_agg (vs := [_, _, _]) (hR _ (.head _)) Try.underlying27 rfl size27 rfl rfl) rfl (w_q_on rfl rfl rfl (fun h' L' hh hR => ov_move rfl) rfl (w_q_on rfl rfl rfl (fun h' L' hh hR => ov_load_agg (vs := [_, _, _]) (hR _ (.head _)) Try.underlying27 rfl size27 rfl rfl) rfl (w_q_on rfl rfl rfl (fun h' L' hh hR => ov_move rfl) rfl ?_)))))
   refine w_c rfl (s_on rfl rfl ?_)
   replace hn19 := hn19.mono (hh7.trans hh8)
   replace hd19 := hd19.mono (hh7.trans hh8)
   refine s_call (vs := [_, _]) Try.call34 ⟨rfl, rfl, trivial⟩ (fun w hs => rat_up hs hn19 hd19 (by omega) (by omega) (by omega)) rfl ?_
   intro v37 h9 hh9 hr37
   obtain ⟨vn37, vd37, rfl, hn37, hd37⟩ := hr37
   have hlq37 := lq_up (numQ (sa) (xa) (ya)) k
   refine w_c rfl (s_on rfl rfl ?_)
   replace hn19 := hn19.mono hh9
   replace hd19 := hd19.mono hh9
   refine s_call (vs := [_, _]) Try.call35 ⟨rfl, rfl, trivial⟩ (fun w hs => rref_up hs hn19 hd19 (by omega) (by omega) (by omega)) rfl ?_
   intro v40 h10 hh10 hr40
   obtain ⟨vn40, vd40, rfl, hn40, hd40⟩ := hr40
   have hlq40 := lq_up (numQ (sa) (xa) (ya)) k
   refine w_c rfl (s_on rfl rfl ?_)
   replace hn37 := hn37.mono hh10
   replace hd37 := hd37.mono hh10
   refine s_call (vs := [_, _]) Try.call20 ⟨rfl, rfl, trivial⟩ (fun w hs => rref_same hs hn37 hd37 hn40 hd40 (by omega) (by omega)) rfl ?_
   intro v41 h11 hh11 hr41
   rw [vB_true (by first | rfl | exact Iff.rfl | exact valid_rat _)] at hr41
   subst hr41
   refine w_q rfl (fun h' L' hh hR => ov_pick_t rfl rfl) rfl (w_q rfl (fun h' L' hh hR => ov_move rfl) rfl (w_q_on rfl rfl rfl (fun h' L' hh hR => ov_load_agg (vs := [_, _, _]) (hR _ (.head _)) Try.underlying27 rfl size27 rfl rfl) rfl (w_q_on rfl rfl rfl (fun h' L' hh hR => ov_load_agg (vs := [_, _, _]) (hR _ (.head _)) Try.underlying27 rfl size27 rfl rfl) rfl ?_)))
   refine w_c rfl (s_on rfl rfl ?_)
   replace hn19 := hn19.mono (hh10.trans hh11)
   replace hd19 := hd19.mono (hh10.trans hh11)
   refine s_call (vs := [_]) Try.call36 ⟨rfl, trivial⟩ (fun w hs => rat_bits hs hn19 hd19 (by omega)) rfl ?_
   intro v45 h12 hh12 hr45
   subst hr45
   refine w_c rfl (s_on rfl rfl ?_)
   replace hn19 := hn19.mono hh12
   replace hd19 := hd19.mono hh12
   refine s_call (vs := [_]) Try.call37 ⟨rfl, trivial⟩ (fun w hs => rref_bits hs hn19 hd19 (by omega)) rfl ?_
   intro v47 h13 hh13 hr47
   subst hr47
   refine w_q_on rfl rfl rfl (fun h' L' hh hR => OpV.tr (by first | rfl | exact Iff.rfl | exact valid_rat _) (ov_eql_i rfl rfl)) rfl (w_q rfl (fun h' L' hh hR => ov_pick_t rfl rfl) rfl (w_q rfl (fun h' L' hh hR => ov_move rfl) rfl ?_))
   refine w_c rfl (s_on rfl rfl ?_)
   refine s_call (vs := []) Try.call14 trivial (fun w hs => law2_awake hs) rfl ?_
   intro v51 h14 hh14 hr51
   subst hr51
   refine w_q rfl (fun h' L' hh hR => ov_pick_t rfl rfl) rfl (w_q rfl (fun h' L' hh hR => ov_assign rfl) rfl (w_nil (gq_keep (e' := [(4, _)]) ⟨rfl, trivial⟩ (gq_then (gc_ret (gq_body1 rfl rfl ?_))))))
   rfl

end Go.Proofs.Ytimoeckkdodogaa
