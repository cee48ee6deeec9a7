/- Texts that the proof needs, part 5. -/
import Derived.Test.YtkdmphehabpcfaaGreatK4

namespace Go.Proofs.YtkdmphehabpcfaaGreat
open Bk Go
set_option linter.unusedVariables false
set_option linter.unusedSimpArgs false
set_option maxRecDepth 10000

theorem span_of {w0 : World} {h0 : Mem}  (hs : MLe h0 (mem w0)) {qa : Rat} {vna vda : Value} (hna : Us .u32 h0 vna (limbs qa.num.natAbs)) (hda : Us .u32 h0 vda (limbs (denN qa.den))) {qb : Rat} {vnb vdb : Value} (hnb : Us .u32 h0 vnb (limbs qb.num.natAbs)) (hdb : Us .u32 h0 vdb (limbs (denN qb.den))) (hqa : lq qa ≤ 100000000000) (hqb : lq qb ≤ 100000000000)    :
    Calls Tryz.prog 32 #[.agg #[vB (qa.num < 0), vna, vda], .agg #[vB (qb.num < 0), vnb, vdb]] w0 (Ret w0 h0 (fun h r => IsRats h r [minQ qa qb, maxQ qa qb])) := by
 have hq00 := lq_zero
 refine calls_begin (n := 12) (e := [(0, .agg #[vB (qa.num < 0), vna, vda]), (1, .agg #[vB (qb.num < 0), vnb, vdb])]) (vs := [.agg #[vB (qa.num < 0), vna, vda], .agg #[vB (qb.num < 0), vnb, vdb]]) Tryz.func32 rfl rfl (Nat.le_of_ble_eq_true rfl) hs ⟨rfl, rfl, trivial⟩ (gc_seq (gc_region (gl_newop (new_box (cs := [_, _, _]) rfl rfl) rfl rfl rfl ?_)))
 intro v2 r2 hr2
 obtain ⟨b2, rfl, rfl⟩ := hr2
 refine gl_newop (new_box (cs := [_, _, _]) rfl rfl) rfl rfl rfl ?_
 intro v3 r3 hr3
 obtain ⟨b3, rfl, rfl⟩ := hr3
 refine gl_newop (new_alloc (cs := [vB ((0 : Rat).num < 0), .slice none 0 0, .slice none 0 0, vB ((0 : Rat).num < 0), .slice none 0 0, .slice none 0 0]) info31 rfl (by simp only [zb]; rfl)) rfl rfl rfl ?_
 intro v4 r4 hr4
 obtain ⟨b4, rfl, rfl⟩ := hr4
 refine gl_nil (gq_then (gc_seq ?_))
 refine gc_draw 7 _ [] [(0, .q), (1, .q), (3, .q), (4, .q), (2, .c), (5, .c), (6, .q), (7, .t)] mixed (fun x hx => by cases hx) (by kernel_rfl) (fun x hx => by cases hx) (fun r hr => hr) (w_q rfl (fun h' L' hh hR => ov_load_agg (vs := [_, _, _]) (hR _ (.tail _ (.tail _ (.head _)))) Tryz.underlying29 rfl size29 rfl rfl) rfl (w_q rfl (fun h' L' hh hR => ov_load_agg (vs := [_, _, _]) (hR _ (.tail _ (.head _))) Tryz.underlying29 rfl size29 rfl rfl) rfl (w_q rfl (fun h' L' hh hR => ov_load_agg (vs := [_, _, _]) (hR _ (.tail _ (.tail _ (.head _)))) Tryz.underlying29 rfl size29 rfl rfl) rfl (w_q rfl (fun h' L' hh hR => ov_load_agg (vs := [_, _, _]) (hR _ (.tail _ (.head _))) Tryz.underlying29 rfl size29 rfl rfl) rfl ?_))))
 refine w_c rfl ?_
 refine s_call (vs := [_, _]) Tryz.call63 ⟨rfl, rfl, trivial⟩ (fun w hs => rat_min hs hna hda hnb hdb (by omega) (by omega)) rfl ?_
 intro v7 h1 hh1 hr7
 obtain ⟨vn7, vd7, rfl, hn7, hd7⟩ := hr7
 have hlq7 := lq_min qa qb
 refine w_c rfl ?_
 replace hna := hna.mono hh1
 replace hda := hda.mono hh1
 replace hnb := hnb.mono hh1
 replace hdb := hdb.mono hh1
 refine s_call (vs := [_, _]) Tryz.call62 ⟨rfl, rfl, trivial⟩ (fun w hs => rat_max hs hna hda hnb hdb (by omega) (by omega)) rfl ?_
 intro v10 h2 hh2 hr10
 obtain ⟨vn10, vd10, rfl, hn10, hd10⟩ := hr10
 have hlq10 := lq_max qa qb
 refine w_q rfl (fun h' L' hh hR => ov_build_parts (ps' := [(0, _), (1, _)]) (vs := [vB ((minQ qa qb).num < 0), vn7, vd7, vB ((maxQ qa qb).num < 0), vn10, vd10]) Tryz.underlying31 info31 rfl (places31 Tryz.underlying31) ⟨rfl, rfl, rfl, rfl, trivial⟩ (fill_one (A := []) (B := [_, _, _]) (C := [_, _, _]) (cs := [_, _, _]) (off := 0) (size := 3) rfl rfl rfl rfl rfl (fill_one (A := [_, _, _]) (B := [_, _, _]) (C := []) (cs := [_, _, _]) (off := 3) (size := 3) rfl rfl rfl rfl rfl fill_nil))) rfl ?_
 replace hn7 := hn7.mono hh2
 replace hd7 := hd7.mono hh2
 refine w_t_upd (A := []) (q' := .var b4 31 [vB ((minQ qa qb).num < 0), vn7, vd7, vB ((maxQ qa qb).num < 0), vn10, vd10]) rfl (upd_store_var (k := 0) (cs := [_, _, _, _, _, _]) (vs := [_, _, _, _, _, _]) rfl rfl rfl (ocr rfl (ocu hn7 (ocu hd7 (ocr rfl (ocu hn10 (ocu hd10 oc0)))))) size31 (Nat.le_of_ble_eq_true rfl)) rfl (w_nil (gq_keep (e' := [(4, _)]) ⟨rfl, trivial⟩ (gq_then (gc_ret (gq_res (fun E S => run_res1 rfl (rv_agg (cs := [_, _, _, _, _, _]) (.head _) Tryz.underlying31 rfl size31 rfl) E S) ?_)))))
 exact ⟨_, rfl, _, _, _, rfl, hn7, hd7, _, _, _, rfl, hn10, hd10, rfl⟩

theorem sref_of {w0 : World} {h0 : Mem}  (hs : MLe h0 (mem w0)) {qa : Rat} {vna vda : Value} (hna : Us .u32 h0 vna (limbs qa.num.natAbs)) (hda : Us .u32 h0 vda (limbs (denN qa.den))) {qb : Rat} {vnb vdb : Value} (hnb : Us .u32 h0 vnb (limbs qb.num.natAbs)) (hdb : Us .u32 h0 vdb (limbs (denN qb.den))) (hqa : lq qa ≤ 100000000000) (hqb : lq qb ≤ 100000000000)    :
    Calls Tryz.prog 33 #[.agg #[vB (qa.num < 0), vna, vda], .agg #[vB (qb.num < 0), vnb, vdb]] w0 (Ret w0 h0 (fun h r => IsRats h r [minQ qa qb, maxQ qa qb])) := by
 have hq00 := lq_zero
 refine calls_begin (n := 12) (e := [(0, .agg #[vB (qa.num < 0), vna, vda]), (1, .agg #[vB (qb.num < 0), vnb, vdb])]) (vs := [.agg #[vB (qa.num < 0), vna, vda], .agg #[vB (qb.num < 0), vnb, vdb]]) Tryz.func33 rfl rfl (Nat.le_of_ble_eq_true rfl) hs ⟨rfl, rfl, trivial⟩ (gc_seq (gc_region (gl_newop (new_box (cs := [_, _, _]) rfl rfl) rfl rfl rfl ?_)))
 intro v2 r2 hr2
 obtain ⟨b2, rfl, rfl⟩ := hr2
 refine gl_newop (new_box (cs := [_, _, _]) rfl rfl) rfl rfl rfl ?_
 intro v3 r3 hr3
 obtain ⟨b3, rfl, rfl⟩ := hr3
 refine gl_newop (new_alloc (cs := [vB ((0 : Rat).num < 0), .slice none 0 0, .slice none 0 0, vB ((0 : Rat).num < 0), .slice none 0 0, .slice none 0 0]) info31 rfl (by simp only [zb]; rfl)) rfl rfl rfl ?_
 intro v4 r4 hr4
 obtain ⟨b4, rfl, rfl⟩ := hr4
 refine gl_nil (gq_then (gc_seq ?_))
 refine gc_draw 7 _ [] [(0, .q), (1, .q), (3, .q), (4, .q), (2, .c), (5, .c), (6, .q), (7, .t)] mixed (fun x hx => by cases hx) (by kernel_rfl) (fun x hx => by cases hx) (fun r hr => hr) (w_q rfl (fun h' L' hh hR => ov_load_agg (vs := [_, _, _]) (hR _ (.tail _ (.tail _ (.head _)))) Tryz.underlying29 rfl size29 rfl rfl) rfl (w_q rfl (fun h' L' hh hR => ov_load_agg (vs := [_, _, _]) (hR _ (.tail _ (.head _))) Tryz.underlying29 rfl size29 rfl rfl) rfl (w_q rfl (fun h' L' hh hR => ov_load_agg (vs := [_, _, _]) (hR _ (.tail _ (.tail _ (.head _)))) Tryz.underlying29 rfl size29 rfl rfl) rfl (w_q rfl (fun h' L' hh hR => ov_load_agg (vs := [_, _, _]) (hR _ (.tail _ (.head _))) Tryz.underlying29 rfl size29 rfl rfl) rfl ?_))))
 refine w_c rfl ?_
 refine s_call (vs := [_, _]) Tryz.call58 ⟨rfl, rfl, trivial⟩ (fun w hs => rref_min hs hna hda hnb hdb (by omega) (by omega)) rfl ?_
 intro v7 h1 hh1 hr7
 obtain ⟨vn7, vd7, rfl, hn7, hd7⟩ := hr7
 have hlq7 := lq_min qa qb
 refine w_c rfl ?_
 replace hna := hna.mono hh1
 replace hda := hda.mono hh1
 replace hnb := hnb.mono hh1
 replace hdb := hdb.mono hh1
 refine s_call (vs := [_, _]) Tryz.call59 ⟨rfl, rfl, trivial⟩ (fun w hs => rref_max hs hna hda hnb hdb (by omega) (by omega)) rfl ?_
 intro v10 h2 hh2 hr10
 obtain ⟨vn10, vd10, rfl, hn10, hd10⟩ := hr10
 have hlq10 := lq_max qa qb
 refine w_q rfl (fun h' L' hh hR => ov_build_parts (ps' := [(0, _), (1, _)]) (vs := [vB ((minQ qa qb).num < 0), vn7, vd7, vB ((maxQ qa qb).num < 0), vn10, vd10]) Tryz.underlying31 info31 rfl (places31 Tryz.underlying31) ⟨rfl, rfl, rfl, rfl, trivial⟩ (fill_one (A := []) (B := [_, _, _]) (C := [_, _, _]) (cs := [_, _, _]) (off := 0) (size := 3) rfl rfl rfl rfl rfl (fill_one (A := [_, _, _]) (B := [_, _, _]) (C := []) (cs := [_, _, _]) (off := 3) (size := 3) rfl rfl rfl rfl rfl fill_nil))) rfl ?_
 replace hn7 := hn7.mono hh2
 replace hd7 := hd7.mono hh2
 refine w_t_upd (A := []) (q' := .var b4 31 [vB ((minQ qa qb).num < 0), vn7, vd7, vB ((maxQ qa qb).num < 0), vn10, vd10]) rfl (upd_store_var (k := 0) (cs := [_, _, _, _, _, _]) (vs := [_, _, _, _, _, _]) rfl rfl rfl (ocr rfl (ocu hn7 (ocu hd7 (ocr rfl (ocu hn10 (ocu hd10 oc0)))))) size31 (Nat.le_of_ble_eq_true rfl)) rfl (w_nil (gq_keep (e' := [(4, _)]) ⟨rfl, trivial⟩ (gq_then (gc_ret (gq_res (fun E S => run_res1 rfl (rv_agg (cs := [_, _, _, _, _, _]) (.head _) Tryz.underlying31 rfl size31 rfl) E S) ?_)))))
 exact ⟨_, rfl, _, _, _, rfl, hn7, hd7, _, _, _, rfl, hn10, hd10, rfl⟩

theorem span_point {w0 : World} {h0 : Mem}  (hs : MLe h0 (mem w0)) {qa : Rat} {vna vda : Value} (hna : Us .u32 h0 vna (limbs qa.num.natAbs)) (hda : Us .u32 h0 vda (limbs (denN qa.den))) (hqa : lq qa ≤ 100000000000)    :
    Calls Tryz.prog 34 #[.agg #[vB (qa.num < 0), vna, vda]] w0 (Ret w0 h0 (fun h r => IsRats h r [qa, qa])) := by
 have hq00 := lq_zero
 refine calls_begin (n := 6) (e := [(0, .agg #[vB (qa.num < 0), vna, vda])]) (vs := [.agg #[vB (qa.num < 0), vna, vda]]) Tryz.func34 rfl rfl (Nat.le_of_ble_eq_true rfl) hs ⟨rfl, trivial⟩ (gc_seq (gc_region (gl_newop (new_box (cs := [_, _, _]) rfl rfl) rfl rfl rfl ?_)))
 intro v1 r1 hr1
 obtain ⟨b1, rfl, rfl⟩ := hr1
 refine gl_newop (new_alloc (cs := [vB ((0 : Rat).num < 0), .slice none 0 0, .slice none 0 0, vB ((0 : Rat).num < 0), .slice none 0 0, .slice none 0 0]) info31 rfl (by simp only [zb]; rfl)) rfl rfl rfl ?_
 intro v2 r2 hr2
 obtain ⟨b2, rfl, rfl⟩ := hr2
 refine gl_nil (gq_then (gc_seq (gc_region (gv (ov_load_agg (vs := [_, _, _]) (.tail _ (.head _)) Tryz.underlying29 rfl size29 rfl rfl) rfl (gv (ov_load_agg (vs := [_, _, _]) (.tail _ (.head _)) Tryz.underlying29 rfl size29 rfl rfl) rfl ?_)))))
 refine gl_call (vs := [_, _]) rfl rfl rfl rfl Tryz.call32 ⟨rfl, rfl, trivial⟩ (fun w hs => span_of hs hna hda hna hda (by omega) (by omega)) ?_
 intro v5 h1 hh1 hr5
 have hlq5_0 := lq_min qa qa
 have hlq5_1 := lq_max qa qa
 obtain ⟨_, rfl, vn5_0, vd5_0, _, rfl, hn5_0, hd5_0, vn5_1, vd5_1, _, rfl, hn5_1, hd5_1, rfl⟩ := hr5
 refine gl_upd (A := []) (r' := .var b2 31 [vB ((minQ qa qa).num < 0), vn5_0, vd5_0, vB ((maxQ qa qa).num < 0), vn5_1, vd5_1]) (upd_store_var (k := 0) (cs := [_, _, _, _, _, _]) (vs := [_, _, _, _, _, _]) rfl rfl rfl (ocr rfl (ocu hn5_0 (ocu hd5_0 (ocr rfl (ocu hn5_1 (ocu hd5_1 oc0)))))) size31 (Nat.le_of_ble_eq_true rfl)) rfl rfl rfl (gl_nil (gq_then (gc_ret (gq_res (fun E S => run_res1 rfl (rv_agg (cs := [_, _, _, _, _, _]) (.head _) Tryz.underlying31 rfl size31 rfl) E S) ?_))))
 rw [minQ_self] at hn5_0 hd5_0
 rw [maxQ_self] at hn5_1 hd5_1
 rw [minQ_self, maxQ_self]
 exact ⟨_, rfl, _, _, _, rfl, hn5_0, hd5_0, _, _, _, rfl, hn5_1, hd5_1, rfl⟩

theorem sref_point {w0 : World} {h0 : Mem}  (hs : MLe h0 (mem w0)) {qa : Rat} {vna vda : Value} (hna : Us .u32 h0 vna (limbs qa.num.natAbs)) (hda : Us .u32 h0 vda (limbs (denN qa.den))) (hqa : lq qa ≤ 100000000000)    :
    Calls Tryz.prog 35 #[.agg #[vB (qa.num < 0), vna, vda]] w0 (Ret w0 h0 (fun h r => IsRats h r [qa, qa])) := by
 have hq00 := lq_zero
 refine calls_begin (n := 6) (e := [(0, .agg #[vB (qa.num < 0), vna, vda])]) (vs := [.agg #[vB (qa.num < 0), vna, vda]]) Tryz.func35 rfl rfl (Nat.le_of_ble_eq_true rfl) hs ⟨rfl, trivial⟩ (gc_seq (gc_region (gl_newop (new_box (cs := [_, _, _]) rfl rfl) rfl rfl rfl ?_)))
 intro v1 r1 hr1
 obtain ⟨b1, rfl, rfl⟩ := hr1
 refine gl_newop (new_alloc (cs := [vB ((0 : Rat).num < 0), .slice none 0 0, .slice none 0 0, vB ((0 : Rat).num < 0), .slice none 0 0, .slice none 0 0]) info31 rfl (by simp only [zb]; rfl)) rfl rfl rfl ?_
 intro v2 r2 hr2
 obtain ⟨b2, rfl, rfl⟩ := hr2
 refine gl_nil (gq_then (gc_seq (gc_region (gv (ov_load_agg (vs := [_, _, _]) (.tail _ (.head _)) Tryz.underlying29 rfl size29 rfl rfl) rfl (gv (ov_load_agg (vs := [_, _, _]) (.tail _ (.head _)) Tryz.underlying29 rfl size29 rfl rfl) rfl (gv (ov_build_parts (ps' := [(0, _), (1, _)]) (vs := [vB (qa.num < 0), vna, vda, vB (qa.num < 0), vna, vda]) Tryz.underlying31 info31 rfl (places31 Tryz.underlying31) ⟨rfl, rfl, rfl, rfl, trivial⟩ (fill_one (A := []) (B := [_, _, _]) (C := [_, _, _]) (cs := [_, _, _]) (off := 0) (size := 3) rfl rfl rfl rfl rfl (fill_one (A := [_, _, _]) (B := [_, _, _]) (C := []) (cs := [_, _, _]) (off := 3) (size := 3) rfl rfl rfl rfl rfl fill_nil))) rfl (gl_upd (A := []) (r' := .var b2 31 [vB (qa.num < 0), vna, vda, vB (qa.num < 0), vna, vda]) (upd_store_var (k := 0) (cs := [_, _, _, _, _, _]) (vs := [_, _, _, _, _, _]) rfl rfl rfl (ocr rfl (ocu hna (ocu hda (ocr rfl (ocu hna (ocu hda oc0)))))) size31 (Nat.le_of_ble_eq_true rfl)) rfl rfl rfl (gl_nil (gq_then (gc_ret (gq_res (fun E S => run_res1 rfl (rv_agg (cs := [_, _, _, _, _, _]) (.head _) Tryz.underlying31 rfl size31 rfl) E S) ?_)))))))))))
 exact ⟨_, rfl, _, _, _, rfl, hna, hda, _, _, _, rfl, hna, hda, rfl⟩

theorem span_hull {w0 : World} {h0 : Mem}  (hs : MLe h0 (mem w0)) {qa0 : Rat} {vna0 vda0 : Value} (hna0 : Us .u32 h0 vna0 (limbs qa0.num.natAbs)) (hda0 : Us .u32 h0 vda0 (limbs (denN qa0.den))) {qa1 : Rat} {vna1 vda1 : Value} (hna1 : Us .u32 h0 vna1 (limbs qa1.num.natAbs)) (hda1 : Us .u32 h0 vda1 (limbs (denN qa1.den))) {qb0 : Rat} {vnb0 vdb0 : Value} (hnb0 : Us .u32 h0 vnb0 (limbs qb0.num.natAbs)) (hdb0 : Us .u32 h0 vdb0 (limbs (denN qb0.den))) {qb1 : Rat} {vnb1 vdb1 : Value} (hnb1 : Us .u32 h0 vnb1 (limbs qb1.num.natAbs)) (hdb1 : Us .u32 h0 vdb1 (limbs (denN qb1.den))) (hqa0 : lq qa0 ≤ 100000000000) (hqa1 : lq qa1 ≤ 100000000000) (hqb0 : lq qb0 ≤ 100000000000) (hqb1 : lq qb1 ≤ 100000000000)    :
    Calls Tryz.prog 21 #[.agg #[vB (qa0.num < 0), vna0, vda0, vB (qa1.num < 0), vna1, vda1], .agg #[vB (qb0.num < 0), vnb0, vdb0, vB (qb1.num < 0), vnb1, vdb1]] w0 (Ret w0 h0 (fun h r => IsRats h r [minQ qa0 qb0, maxQ qa1 qb1])) := by
 have hq00 := lq_zero
 refine calls_begin (n := 16) (e := [(0, .agg #[vB (qa0.num < 0), vna0, vda0, vB (qa1.num < 0), vna1, vda1]), (1, .agg #[vB (qb0.num < 0), vnb0, vdb0, vB (qb1.num < 0), vnb1, vdb1])]) (vs := [.agg #[vB (qa0.num < 0), vna0, vda0, vB (qa1.num < 0), vna1, vda1], .agg #[vB (qb0.num < 0), vnb0, vdb0, vB (qb1.num < 0), vnb1, vdb1]]) Tryz.func21 rfl rfl (Nat.le_of_ble_eq_true rfl) hs ⟨rfl, rfl, trivial⟩ (gc_seq (gc_region (gl_newop (new_box (cs := [_, _, _, _, _, _]) rfl rfl) rfl rfl rfl ?_)))
 intro v2 r2 hr2
 obtain ⟨b2, rfl, rfl⟩ := hr2
 refine gl_newop (new_box (cs := [_, _, _, _, _, _]) rfl rfl) rfl rfl rfl ?_
 intro v3 r3 hr3
 obtain ⟨b3, rfl, rfl⟩ := hr3
 refine gl_newop (new_alloc (cs := [vB ((0 : Rat).num < 0), .slice none 0 0, .slice none 0 0, vB ((0 : Rat).num < 0), .slice none 0 0, .slice none 0 0]) info31 rfl (by simp only [zb]; rfl)) rfl rfl rfl ?_
 intro v4 r4 hr4
 obtain ⟨b4, rfl, rfl⟩ := hr4
 refine gl_nil (gq_then (gc_seq ?_))
 refine gc_draw 11 _ [] [(0, .q), (1, .q), (2, .q), (3, .q), (5, .q), (6, .q), (7, .q), (8, .q), (4, .c), (9, .c), (10, .q), (11, .t)] mixed (fun x hx => by cases hx) (by kernel_rfl) (fun x hx => by cases hx) (fun r hr => hr) (w_q rfl (fun h' L' hh hR => ov_field_addr Tryz.underlying31 rfl Tryz.sizeOf29 rfl) rfl (w_q rfl (fun h' L' hh hR => ov_load_agg (vs := [_, _, _]) (hR _ (.tail _ (.tail _ (.head _)))) Tryz.underlying29 rfl size29 rfl rfl) rfl (w_q rfl (fun h' L' hh hR => ov_field_addr Tryz.underlying31 rfl Tryz.sizeOf29 rfl) rfl (w_q rfl (fun h' L' hh hR => ov_load_agg (vs := [_, _, _]) (hR _ (.tail _ (.head _))) Tryz.underlying29 rfl size29 rfl rfl) rfl (w_q rfl (fun h' L' hh hR => ov_field_addr Tryz.underlying31 rfl Tryz.sizeOf29 rfl) rfl (w_q rfl (fun h' L' hh hR => ov_load_agg (vs := [_, _, _]) (hR _ (.tail _ (.tail _ (.head _)))) Tryz.underlying29 rfl size29 rfl rfl) rfl (w_q rfl (fun h' L' hh hR => ov_field_addr Tryz.underlying31 rfl Tryz.sizeOf29 rfl) rfl (w_q rfl (fun h' L' hh hR => ov_load_agg (vs := [_, _, _]) (hR _ (.tail _ (.head _))) Tryz.underlying29 rfl size29 rfl rfl) rfl ?_))))))))
 refine w_c rfl ?_
 refine s_call (vs := [_, _]) Tryz.call63 ⟨rfl, rfl, trivial⟩ (fun w hs => rat_min hs hna0 hda0 hnb0 hdb0 (by omega) (by omega)) rfl ?_
 intro v9 h1 hh1 hr9
 obtain ⟨vn9, vd9, rfl, hn9, hd9⟩ := hr9
 have hlq9 := lq_min qa0 qb0
 refine w_c rfl ?_
 replace hna1 := hna1.mono hh1
 replace hda1 := hda1.mono hh1
 replace hnb1 := hnb1.mono hh1
 replace hdb1 := hdb1.mono hh1
 refine s_call (vs := [_, _]) Tryz.call62 ⟨rfl, rfl, trivial⟩ (fun w hs => rat_max hs hna1 hda1 hnb1 hdb1 (by omega) (by omega)) rfl ?_
 intro v14 h2 hh2 hr14
 obtain ⟨vn14, vd14, rfl, hn14, hd14⟩ := hr14
 have hlq14 := lq_max qa1 qb1
 refine w_q rfl (fun h' L' hh hR => ov_build_parts (ps' := [(0, _), (1, _)]) (vs := [vB ((minQ qa0 qb0).num < 0), vn9, vd9, vB ((maxQ qa1 qb1).num < 0), vn14, vd14]) Tryz.underlying31 info31 rfl (places31 Tryz.underlying31) ⟨rfl, rfl, rfl, rfl, trivial⟩ (fill_one (A := []) (B := [_, _, _]) (C := [_, _, _]) (cs := [_, _, _]) (off := 0) (size := 3) rfl rfl rfl rfl rfl (fill_one (A := [_, _, _]) (B := [_, _, _]) (C := []) (cs := [_, _, _]) (off := 3) (size := 3) rfl rfl rfl rfl rfl fill_nil))) rfl ?_
 replace hn9 := hn9.mono hh2
 replace hd9 := hd9.mono hh2
 refine w_t_upd (A := []) (q' := .var b4 31 [vB ((minQ qa0 qb0).num < 0), vn9, vd9, vB ((maxQ qa1 qb1).num < 0), vn14, vd14]) rfl (upd_store_var (k := 0) (cs := [_, _, _, _, _, _]) (vs := [_, _, _, _, _, _]) rfl rfl rfl (ocr rfl (ocu hn9 (ocu hd9 (ocr rfl (ocu hn14 (ocu hd14 oc0)))))) size31 (Nat.le_of_ble_eq_true rfl)) rfl (w_nil (gq_keep (e' := [(4, _)]) ⟨rfl, trivial⟩ (gq_then (gc_ret (gq_res (fun E S => run_res1 rfl (rv_agg (cs := [_, _, _, _, _, _]) (.head _) Tryz.underlying31 rfl size31 rfl) E S) ?_)))))
 exact ⟨_, rfl, _, _, _, rfl, hn9, hd9, _, _, _, rfl, hn14, hd14, rfl⟩

theorem sref_hull {w0 : World} {h0 : Mem}  (hs : MLe h0 (mem w0)) {qa0 : Rat} {vna0 vda0 : Value} (hna0 : Us .u32 h0 vna0 (limbs qa0.num.natAbs)) (hda0 : Us .u32 h0 vda0 (limbs (denN qa0.den))) {qa1 : Rat} {vna1 vda1 : Value} (hna1 : Us .u32 h0 vna1 (limbs qa1.num.natAbs)) (hda1 : Us .u32 h0 vda1 (limbs (denN qa1.den))) {qb0 : Rat} {vnb0 vdb0 : Value} (hnb0 : Us .u32 h0 vnb0 (limbs qb0.num.natAbs)) (hdb0 : Us .u32 h0 vdb0 (limbs (denN qb0.den))) {qb1 : Rat} {vnb1 vdb1 : Value} (hnb1 : Us .u32 h0 vnb1 (limbs qb1.num.natAbs)) (hdb1 : Us .u32 h0 vdb1 (limbs (denN qb1.den))) (hqa0 : lq qa0 ≤ 100000000000) (hqa1 : lq qa1 ≤ 100000000000) (hqb0 : lq qb0 ≤ 100000000000) (hqb1 : lq qb1 ≤ 100000000000)    :
    Calls Tryz.prog 22 #[.agg #[vB (qa0.num < 0), vna0, vda0, vB (qa1.num < 0), vna1, vda1], .agg #[vB (qb0.num < 0), vnb0, vdb0, vB (qb1.num < 0), vnb1, vdb1]] w0 (Ret w0 h0 (fun h r => IsRats h r [minQ qa0 qb0, maxQ qa1 qb1])) := by
 have hq00 := lq_zero
 refine calls_begin (n := 16) (e := [(0, .agg #[vB (qa0.num < 0), vna0, vda0, vB (qa1.num < 0), vna1, vda1]), (1, .agg #[vB (qb0.num < 0), vnb0, vdb0, vB (qb1.num < 0), vnb1, vdb1])]) (vs := [.agg #[vB (qa0.num < 0), vna0, vda0, vB (qa1.num < 0), vna1, vda1], .agg #[vB (qb0.num < 0), vnb0, vdb0, vB (qb1.num < 0), vnb1, vdb1]]) Tryz.func22 rfl rfl (Nat.le_of_ble_eq_true rfl) hs ⟨rfl, rfl, trivial⟩ (gc_seq (gc_region (gl_newop (new_box (cs := [_, _, _, _, _, _]) rfl rfl) rfl rfl rfl ?_)))
 intro v2 r2 hr2
 obtain ⟨b2, rfl, rfl⟩ := hr2
 refine gl_newop (new_box (cs := [_, _, _, _, _, _]) rfl rfl) rfl rfl rfl ?_
 intro v3 r3 hr3
 obtain ⟨b3, rfl, rfl⟩ := hr3
 refine gl_newop (new_alloc (cs := [vB ((0 : Rat).num < 0), .slice none 0 0, .slice none 0 0, vB ((0 : Rat).num < 0), .slice none 0 0, .slice none 0 0]) info31 rfl (by simp only [zb]; rfl)) rfl rfl rfl ?_
 intro v4 r4 hr4
 obtain ⟨b4, rfl, rfl⟩ := hr4
 refine gl_nil (gq_then (gc_seq ?_))
 refine gc_draw 11 _ [] [(0, .q), (1, .q), (2, .q), (3, .q), (5, .q), (6, .q), (7, .q), (8, .q), (4, .c), (9, .c), (10, .q), (11, .t)] mixed (fun x hx => by cases hx) (by kernel_rfl) (fun x hx => by cases hx) (fun r hr => hr) (w_q rfl (fun h' L' hh hR => ov_field_addr Tryz.underlying31 rfl Tryz.sizeOf29 rfl) rfl (w_q rfl (fun h' L' hh hR => ov_load_agg (vs := [_, _, _]) (hR _ (.tail _ (.tail _ (.head _)))) Tryz.underlying29 rfl size29 rfl rfl) rfl (w_q rfl (fun h' L' hh hR => ov_field_addr Tryz.underlying31 rfl Tryz.sizeOf29 rfl) rfl (w_q rfl (fun h' L' hh hR => ov_load_agg (vs := [_, _, _]) (hR _ (.tail _ (.head _))) Tryz.underlying29 rfl size29 rfl rfl) rfl (w_q rfl (fun h' L' hh hR => ov_field_addr Tryz.underlying31 rfl Tryz.sizeOf29 rfl) rfl (w_q rfl (fun h' L' hh hR => ov_load_agg (vs := [_, _, _]) (hR _ (.tail _ (.tail _ (.head _)))) Tryz.underlying29 rfl size29 rfl rfl) rfl (w_q rfl (fun h' L' hh hR => ov_field_addr Tryz.underlying31 rfl Tryz.sizeOf29 rfl) rfl (w_q rfl (fun h' L' hh hR => ov_load_agg (vs := [_, _, _]) (hR _ (.tail _ (.head _))) Tryz.underlying29 rfl size29 rfl rfl) rfl ?_))))))))
 refine w_c rfl ?_
 refine s_call (vs := [_, _]) Tryz.call58 ⟨rfl, rfl, trivial⟩ (fun w hs => rref_min hs hna0 hda0 hnb0 hdb0 (by omega) (by omega)) rfl ?_
 intro v9 h1 hh1 hr9
 obtain ⟨vn9, vd9, rfl, hn9, hd9⟩ := hr9
 have hlq9 := lq_min qa0 qb0
 refine w_c rfl ?_
 replace hna1 := hna1.mono hh1
 replace hda1 := hda1.mono hh1
 replace hnb1 := hnb1.mono hh1
 replace hdb1 := hdb1.mono hh1
 refine s_call (vs := [_, _]) Tryz.call59 ⟨rfl, rfl, trivial⟩ (fun w hs => rref_max hs hna1 hda1 hnb1 hdb1 (by omega) (by omega)) rfl ?_
 intro v14 h2 hh2 hr14
 obtain ⟨vn14, vd14, rfl, hn14, hd14⟩ := hr14
 have hlq14 := lq_max qa1 qb1
 refine w_q rfl (fun h' L' hh hR => ov_build_parts (ps' := [(0, _), (1, _)]) (vs := [vB ((minQ qa0 qb0).num < 0), vn9, vd9, vB ((maxQ qa1 qb1).num < 0), vn14, vd14]) Tryz.underlying31 info31 rfl (places31 Tryz.underlying31) ⟨rfl, rfl, rfl, rfl, trivial⟩ (fill_one (A := []) (B := [_, _, _]) (C := [_, _, _]) (cs := [_, _, _]) (off := 0) (size := 3) rfl rfl rfl rfl rfl (fill_one (A := [_, _, _]) (B := [_, _, _]) (C := []) (cs := [_, _, _]) (off := 3) (size := 3) rfl rfl rfl rfl rfl fill_nil))) rfl ?_
 replace hn9 := hn9.mono hh2
 replace hd9 := hd9.mono hh2
 refine w_t_upd (A := []) (q' := .var b4 31 [vB ((minQ qa0 qb0).num < 0), vn9, vd9, vB ((maxQ qa1 qb1).num < 0), vn14, vd14]) rfl (upd_store_var (k := 0) (cs := [_, _, _, _, _, _]) (vs := [_, _, _, _, _, _]) rfl rfl rfl (ocr rfl (ocu hn9 (ocu hd9 (ocr rfl (ocu hn14 (ocu hd14 oc0)))))) size31 (Nat.le_of_ble_eq_true rfl)) rfl (w_nil (gq_keep (e' := [(4, _)]) ⟨rfl, trivial⟩ (gq_then (gc_ret (gq_res (fun E S => run_res1 rfl (rv_agg (cs := [_, _, _, _, _, _]) (.head _) Tryz.underlying31 rfl size31 rfl) E S) ?_)))))
 exact ⟨_, rfl, _, _, _, rfl, hn9, hd9, _, _, _, rfl, hn14, hd14, rfl⟩

theorem span_same {w0 : World} {h0 : Mem}  (hs : MLe h0 (mem w0)) {qa0 : Rat} {vna0 vda0 : Value} (hna0 : Us .u32 h0 vna0 (limbs qa0.num.natAbs)) (hda0 : Us .u32 h0 vda0 (limbs (denN qa0.den))) {qa1 : Rat} {vna1 vda1 : Value} (hna1 : Us .u32 h0 vna1 (limbs qa1.num.natAbs)) (hda1 : Us .u32 h0 vda1 (limbs (denN qa1.den))) {qb0 : Rat} {vnb0 vdb0 : Value} (hnb0 : Us .u32 h0 vnb0 (limbs qb0.num.natAbs)) (hdb0 : Us .u32 h0 vdb0 (limbs (denN qb0.den))) {qb1 : Rat} {vnb1 vdb1 : Value} (hnb1 : Us .u32 h0 vnb1 (limbs qb1.num.natAbs)) (hdb1 : Us .u32 h0 vdb1 (limbs (denN qb1.den))) (hqa0 : lq qa0 ≤ 100000000000) (hqa1 : lq qa1 ≤ 100000000000) (hqb0 : lq qb0 ≤ 100000000000) (hqb1 : lq qb1 ≤ 100000000000)    :
    Calls Tryz.prog 19 #[.agg #[vB (qa0.num < 0), vna0, vda0, vB (qa1.num < 0), vna1, vda1], .agg #[vB (qb0.num < 0), vnb0, vdb0, vB (qb1.num < 0), vnb1, vdb1]] w0 (Ret w0 h0 (fun _ r => r = vB (qa0 = qb0 ∧ qa1 = qb1))) := by
 have hq00 := lq_zero
 refine calls_begin (n := 17) (e := [(0, .agg #[vB (qa0.num < 0), vna0, vda0, vB (qa1.num < 0), vna1, vda1]), (1, .agg #[vB (qb0.num < 0), vnb0, vdb0, vB (qb1.num < 0), vnb1, vdb1])]) (vs := [.agg #[vB (qa0.num < 0), vna0, vda0, vB (qa1.num < 0), vna1, vda1], .agg #[vB (qb0.num < 0), vnb0, vdb0, vB (qb1.num < 0), vnb1, vdb1]]) Tryz.func19 rfl rfl (Nat.le_of_ble_eq_true rfl) hs ⟨rfl, rfl, trivial⟩ (gc_seq (gc_region (gl_newop (new_box (cs := [_, _, _, _, _, _]) rfl rfl) rfl rfl rfl ?_)))
 intro v2 r2 hr2
 obtain ⟨b2, rfl, rfl⟩ := hr2
 refine gl_newop (new_box (cs := [_, _, _, _, _, _]) rfl rfl) rfl rfl rfl ?_
 intro v3 r3 hr3
 obtain ⟨b3, rfl, rfl⟩ := hr3
 refine asg rfl rfl (gl_nil (gq_then (gc_seq (gc_region (gv (ov_field_addr Tryz.underlying31 rfl Tryz.sizeOf29 rfl) rfl (gv (ov_load_agg (vs := [_, _, _]) (.tail _ (.head _)) Tryz.underlying29 rfl size29 rfl rfl) rfl (gv (ov_field_addr Tryz.underlying31 rfl Tryz.sizeOf29 rfl) rfl (gv (ov_load_agg (vs := [_, _, _]) (.head _) Tryz.underlying29 rfl size29 rfl rfl) rfl ?_))))))))
 refine gl_call (vs := [_, _]) rfl rfl rfl rfl Tryz.call69 ⟨rfl, rfl, trivial⟩ (fun w hs => rat_same hs hna0 hda0 hnb0 hdb0 (by omega) (by omega)) ?_
 intro v9 h1 hh1 hr9
 subst hr9
 refine gl_cut (ι := Mem) 7 (fun m_ => MLe h1 m_) (fun _ => [(16, vB ((qa0 = qb0) ∧ (qa1 = qb1)))]) (fun _ => [.var b3 31 [vB (qb0.num < 0), vnb0, vdb0, vB (qb1.num < 0), vnb1, vdb1], .var b2 31 [vB (qa0.num < 0), vna0, vda0, vB (qa1.num < 0), vna1, vda1]]) (fun m_ => m_) ?_ ?_
 ·
  refine gl_cases (qa0 = qb0) (fun hg => ?_) (fun hg => ?_)
  ·
   refine gl_val (ov_move (v := .bool true) (congrArg some (vB_true hg))) rfl rfl rfl (gl_on rfl rfl rfl (gv (ov_field_addr Tryz.underlying31 rfl Tryz.sizeOf29 rfl) rfl (gl_on rfl rfl rfl (gv (ov_load_agg (vs := [_, _, _]) (.tail _ (.head _)) Tryz.underlying29 rfl size29 rfl rfl) rfl (gl_on rfl rfl rfl (gv (ov_field_addr Tryz.underlying31 rfl Tryz.sizeOf29 rfl) rfl (gl_on rfl rfl rfl (gv (ov_load_agg (vs := [_, _, _]) (.head _) Tryz.underlying29 rfl size29 rfl rfl) rfl (gl_on rfl rfl rfl ?_)))))))))
   replace hna1 := hna1.mono hh1
   replace hda1 := hda1.mono hh1
   replace hnb1 := hnb1.mono hh1
   replace hdb1 := hdb1.mono hh1
   refine gl_call (vs := [_, _]) rfl rfl rfl rfl Tryz.call69 ⟨rfl, rfl, trivial⟩ (fun w hs => rat_same hs hna1 hda1 hnb1 hdb1 (by omega) (by omega)) ?_
   intro v15 h2 hh2 hr15
   subst hr15
   refine gv (ov_pick_t rfl rfl) rfl (gl_nil ?_)
   refine gq_cut h2 hh2 ⟨?_, trivial⟩ rfl rfl
   exact congrArg some (vB_and_t hg)
  ·
   refine gl_val (ov_move (v := .bool false) (congrArg some (vB_false hg))) rfl rfl rfl (gl_off rfl rfl rfl rfl rfl rfl (gl_off rfl rfl rfl rfl rfl rfl (gl_off rfl rfl rfl rfl rfl rfl (gl_off rfl rfl rfl rfl rfl rfl (gl_off rfl rfl rfl rfl rfl rfl (gv (ov_pick_f rfl rfl) rfl (gl_nil ?_)))))))
   refine gq_cut h1 (MLe.refl _) ⟨?_, trivial⟩ rfl rfl
   exact congrArg some (vB_and_f hg)
 ·
  intro mg1_5 hmmg1_5
  show GL _ _ _ _ _ _ _ [(16, vB ((qa0 = qb0) ∧ (qa1 = qb1)))] [.var b3 31 [vB (qb0.num < 0), vnb0, vdb0, vB (qb1.num < 0), vnb1, vdb1], .var b2 31 [vB (qa0.num < 0), vna0, vda0, vB (qa1.num < 0), vna1, vda1]] mg1_5
  refine asg rfl rfl (gl_nil (gq_then (gc_ret (gq_body1 rfl rfl ?_))))
  rfl

theorem sref_same {w0 : World} {h0 : Mem}  (hs : MLe h0 (mem w0)) {qa0 : Rat} {vna0 vda0 : Value} (hna0 : Us .u32 h0 vna0 (limbs qa0.num.natAbs)) (hda0 : Us .u32 h0 vda0 (limbs (denN qa0.den))) {qa1 : Rat} {vna1 vda1 : Value} (hna1 : Us .u32 h0 vna1 (limbs qa1.num.natAbs)) (hda1 : Us .u32 h0 vda1 (limbs (denN qa1.den))) {qb0 : Rat} {vnb0 vdb0 : Value} (hnb0 : Us .u32 h0 vnb0 (limbs qb0.num.natAbs)) (hdb0 : Us .u32 h0 vdb0 (limbs (denN qb0.den))) {qb1 : Rat} {vnb1 vdb1 : Value} (hnb1 : Us .u32 h0 vnb1 (limbs qb1.num.natAbs)) (hdb1 : Us .u32 h0 vdb1 (limbs (denN qb1.den))) (hqa0 : lq qa0 ≤ 100000000000) (hqa1 : lq qa1 ≤ 100000000000) (hqb0 : lq qb0 ≤ 100000000000) (hqb1 : lq qb1 ≤ 100000000000)    :
    Calls Tryz.prog 20 #[.agg #[vB (qa0.num < 0), vna0, vda0, vB (qa1.num < 0), vna1, vda1], .agg #[vB (qb0.num < 0), vnb0, vdb0, vB (qb1.num < 0), vnb1, vdb1]] w0 (Ret w0 h0 (fun _ r => r = vB (qa0 = qb0 ∧ qa1 = qb1))) := by
 have hq00 := lq_zero
 refine calls_begin (n := 17) (e := [(0, .agg #[vB (qa0.num < 0), vna0, vda0, vB (qa1.num < 0), vna1, vda1]), (1, .agg #[vB (qb0.num < 0), vnb0, vdb0, vB (qb1.num < 0), vnb1, vdb1])]) (vs := [.agg #[vB (qa0.num < 0), vna0, vda0, vB (qa1.num < 0), vna1, vda1], .agg #[vB (qb0.num < 0), vnb0, vdb0, vB (qb1.num < 0), vnb1, vdb1]]) Tryz.func20 rfl rfl (Nat.le_of_ble_eq_true rfl) hs ⟨rfl, rfl, trivial⟩ (gc_seq (gc_region (gl_newop (new_box (cs := [_, _, _, _, _, _]) rfl rfl) rfl rfl rfl ?_)))
 intro v2 r2 hr2
 obtain ⟨b2, rfl, rfl⟩ := hr2
 refine gl_newop (new_box (cs := [_, _, _, _, _, _]) rfl rfl) rfl rfl rfl ?_
 intro v3 r3 hr3
 obtain ⟨b3, rfl, rfl⟩ := hr3
 refine asg rfl rfl (gl_nil (gq_then (gc_seq (gc_region (gv (ov_field_addr Tryz.underlying31 rfl Tryz.sizeOf29 rfl) rfl (gv (ov_load_agg (vs := [_, _, _]) (.tail _ (.head _)) Tryz.underlying29 rfl size29 rfl rfl) rfl (gv (ov_field_addr Tryz.underlying31 rfl Tryz.sizeOf29 rfl) rfl (gv (ov_load_agg (vs := [_, _, _]) (.head _) Tryz.underlying29 rfl size29 rfl rfl) rfl ?_))))))))
 refine gl_call (vs := [_, _]) rfl rfl rfl rfl Tryz.call27 ⟨rfl, rfl, trivial⟩ (fun w hs => rref_same hs hna0 hda0 hnb0 hdb0 (by omega) (by omega)) ?_
 intro v9 h1 hh1 hr9
 subst hr9
 refine gl_cut (ι := Mem) 7 (fun m_ => MLe h1 m_) (fun _ => [(16, vB ((qa0 = qb0) ∧ (qa1 = qb1)))]) (fun _ => [.var b3 31 [vB (qb0.num < 0), vnb0, vdb0, vB (qb1.num < 0), vnb1, vdb1], .var b2 31 [vB (qa0.num < 0), vna0, vda0, vB (qa1.num < 0), vna1, vda1]]) (fun m_ => m_) ?_ ?_
 ·
  refine gl_cases (qa0 = qb0) (fun hg => ?_) (fun hg => ?_)
  ·
   refine gl_val (ov_move (v := .bool true) (congrArg some (vB_true hg))) rfl rfl rfl (gl_on rfl rfl rfl (gv (ov_field_addr Tryz.underlying31 rfl Tryz.sizeOf29 rfl) rfl (gl_on rfl rfl rfl (gv (ov_load_agg (vs := [_, _, _]) (.tail _ (.head _)) Tryz.underlying29 rfl size29 rfl rfl) rfl (gl_on rfl rfl rfl (gv (ov_field_addr Tryz.underlying31 rfl Tryz.sizeOf29 rfl) rfl (gl_on rfl rfl rfl (gv (ov_load_agg (vs := [_, _, _]) (.head _) Tryz.underlying29 rfl size29 rfl rfl) rfl (gl_on rfl rfl rfl ?_)))))))))
   replace hna1 := hna1.mono hh1
   replace hda1 := hda1.mono hh1
   replace hnb1 := hnb1.mono hh1
   replace hdb1 := hdb1.mono hh1
   refine gl_call (vs := [_, _]) rfl rfl rfl rfl Tryz.call27 ⟨rfl, rfl, trivial⟩ (fun w hs => rref_same hs hna1 hda1 hnb1 hdb1 (by omega) (by omega)) ?_
   intro v15 h2 hh2 hr15
   subst hr15
   refine gv (ov_pick_t rfl rfl) rfl (gl_nil ?_)
   refine gq_cut h2 hh2 ⟨?_, trivial⟩ rfl rfl
   exact congrArg some (vB_and_t hg)
  ·
   refine gl_val (ov_move (v := .bool false) (congrArg some (vB_false hg))) rfl rfl rfl (gl_off rfl rfl rfl rfl rfl rfl (gl_off rfl rfl rfl rfl rfl rfl (gl_off rfl rfl rfl rfl rfl rfl (gl_off rfl rfl rfl rfl rfl rfl (gl_off rfl rfl rfl rfl rfl rfl (gv (ov_pick_f rfl rfl) rfl (gl_nil ?_)))))))
   refine gq_cut h1 (MLe.refl _) ⟨?_, trivial⟩ rfl rfl
   exact congrArg some (vB_and_f hg)
 ·
  intro mg1_5 hmmg1_5
  show GL _ _ _ _ _ _ _ [(16, vB ((qa0 = qb0) ∧ (qa1 = qb1)))] [.var b3 31 [vB (qb0.num < 0), vnb0, vdb0, vB (qb1.num < 0), vnb1, vdb1], .var b2 31 [vB (qa0.num < 0), vna0, vda0, vB (qa1.num < 0), vna1, vda1]] mg1_5
  refine asg rfl rfl (gl_nil (gq_then (gc_ret (gq_body1 rfl rfl ?_))))
  rfl

theorem span_has {w0 : World} {h0 : Mem}  (hs : MLe h0 (mem w0)) {qa0 : Rat} {vna0 vda0 : Value} (hna0 : Us .u32 h0 vna0 (limbs qa0.num.natAbs)) (hda0 : Us .u32 h0 vda0 (limbs (denN qa0.den))) {qa1 : Rat} {vna1 vda1 : Value} (hna1 : Us .u32 h0 vna1 (limbs qa1.num.natAbs)) (hda1 : Us .u32 h0 vda1 (limbs (denN qa1.den))) {qr : Rat} {vnr vdr : Value} (hnr : Us .u32 h0 vnr (limbs qr.num.natAbs)) (hdr : Us .u32 h0 vdr (limbs (denN qr.den))) (hqa0 : lq qa0 ≤ 100000000000) (hqa1 : lq qa1 ≤ 100000000000) (hqr : lq qr ≤ 100000000000)    :
    Calls Tryz.prog 23 #[.agg #[vB (qa0.num < 0), vna0, vda0, vB (qa1.num < 0), vna1, vda1], .agg #[vB (qr.num < 0), vnr, vdr]] w0 (Ret w0 h0 (fun _ r => r = vB (hasP qa0 qa1 qr))) := by
 have hq00 := lq_zero
 refine calls_begin (n := 17) (e := [(0, .agg #[vB (qa0.num < 0), vna0, vda0, vB (qa1.num < 0), vna1, vda1]), (1, .agg #[vB (qr.num < 0), vnr, vdr])]) (vs := [.agg #[vB (qa0.num < 0), vna0, vda0, vB (qa1.num < 0), vna1, vda1], .agg #[vB (qr.num < 0), vnr, vdr]]) Tryz.func23 rfl rfl (Nat.le_of_ble_eq_true rfl) hs ⟨rfl, rfl, trivial⟩ (gc_seq (gc_region (gl_newop (new_box (cs := [_, _, _, _, _, _]) rfl rfl) rfl rfl rfl ?_)))
 intro v2 r2 hr2
 obtain ⟨b2, rfl, rfl⟩ := hr2
 refine gl_newop (new_box (cs := [_, _, _]) rfl rfl) rfl rfl rfl ?_
 intro v3 r3 hr3
 obtain ⟨b3, rfl, rfl⟩ := hr3
 refine asg rfl rfl (gl_nil (gq_then (gc_seq (gc_region (gv (ov_field_addr Tryz.underlying31 rfl Tryz.sizeOf29 rfl) rfl (gv (ov_load_agg (vs := [_, _, _]) (.tail _ (.head _)) Tryz.underlying29 rfl size29 rfl rfl) rfl (gv (ov_load_agg (vs := [_, _, _]) (.head _) Tryz.underlying29 rfl size29 rfl rfl) rfl ?_)))))))
 refine gl_call (vs := [_, _]) rfl rfl rfl rfl Tryz.call64 ⟨rfl, rfl, trivial⟩ (fun w hs => rat_cmp hs hna0 hda0 hnr hdr (by omega) (by omega)) ?_
 intro v8 h1 hh1 hr8
 have hcr8 := cmpQ_range qa0 qr
 subst hr8
 refine gv (ov_leq_i (q := 0) rfl rfl) rfl ?_
 refine gl_cut (ι := Mem) 7 (fun m_ => MLe h1 m_) (fun _ => [(16, vB (((cmpQ qa0 qr) ≤ (0 : Int)) ∧ ((cmpQ qr qa1) ≤ (0 : Int))))]) (fun _ => [.var b3 29 [vB (qr.num < 0), vnr, vdr], .var b2 31 [vB (qa0.num < 0), vna0, vda0, vB (qa1.num < 0), vna1, vda1]]) (fun m_ => m_) ?_ ?_
 ·
  refine gl_cases ((cmpQ qa0 qr) ≤ (0 : Int)) (fun hg => ?_) (fun hg => ?_)
  ·
   refine gl_val (ov_move (v := .bool true) (congrArg some (vB_true hg))) rfl rfl rfl (gl_on rfl rfl rfl (gv (ov_load_agg (vs := [_, _, _]) (.head _) Tryz.underlying29 rfl size29 rfl rfl) rfl (gl_on rfl rfl rfl (gv (ov_field_addr Tryz.underlying31 rfl Tryz.sizeOf29 rfl) rfl (gl_on rfl rfl rfl (gv (ov_load_agg (vs := [_, _, _]) (.tail _ (.head _)) Tryz.underlying29 rfl size29 rfl rfl) rfl (gl_on rfl rfl rfl ?_)))))))
   replace hna1 := hna1.mono hh1
   replace hda1 := hda1.mono hh1
   replace hnr := hnr.mono hh1
   replace hdr := hdr.mono hh1
   refine gl_call (vs := [_, _]) rfl rfl rfl rfl Tryz.call64 ⟨rfl, rfl, trivial⟩ (fun w hs => rat_cmp hs hnr hdr hna1 hda1 (by omega) (by omega)) ?_
   intro v14 h2 hh2 hr14
   have hcr14 := cmpQ_range qr qa1
   subst hr14
   refine gl_on rfl rfl rfl (gv (ov_leq_i (q := 0) rfl rfl) rfl (gv (ov_pick_t rfl rfl) rfl (gl_nil ?_)))
   refine gq_cut h2 hh2 ⟨?_, trivial⟩ rfl rfl
   exact congrArg some (vB_and_t hg)
  ·
   refine gl_val (ov_move (v := .bool false) (congrArg some (vB_false hg))) rfl rfl rfl (gl_off rfl rfl rfl rfl rfl rfl (gl_off rfl rfl rfl rfl rfl rfl (gl_off rfl rfl rfl rfl rfl rfl (gl_off rfl rfl rfl rfl rfl rfl (gl_off rfl rfl rfl rfl rfl rfl (gv (ov_pick_f rfl rfl) rfl (gl_nil ?_)))))))
   refine gq_cut h1 (MLe.refl _) ⟨?_, trivial⟩ rfl rfl
   exact congrArg some (vB_and_f hg)
 ·
  intro mg1_5 hmmg1_5
  show GL _ _ _ _ _ _ _ [(16, vB (((cmpQ qa0 qr) ≤ (0 : Int)) ∧ ((cmpQ qr qa1) ≤ (0 : Int))))] [.var b3 29 [vB (qr.num < 0), vnr, vdr], .var b2 31 [vB (qa0.num < 0), vna0, vda0, vB (qa1.num < 0), vna1, vda1]] mg1_5
  refine asg rfl rfl (gl_nil (gq_then (gc_ret (gq_body1 rfl rfl ?_))))
  exact vB_iff has_iff

theorem sref_has {w0 : World} {h0 : Mem}  (hs : MLe h0 (mem w0)) {qa0 : Rat} {vna0 vda0 : Value} (hna0 : Us .u32 h0 vna0 (limbs qa0.num.natAbs)) (hda0 : Us .u32 h0 vda0 (limbs (denN qa0.den))) {qa1 : Rat} {vna1 vda1 : Value} (hna1 : Us .u32 h0 vna1 (limbs qa1.num.natAbs)) (hda1 : Us .u32 h0 vda1 (limbs (denN qa1.den))) {qr : Rat} {vnr vdr : Value} (hnr : Us .u32 h0 vnr (limbs qr.num.natAbs)) (hdr : Us .u32 h0 vdr (limbs (denN qr.den))) (hqa0 : lq qa0 ≤ 100000000000) (hqa1 : lq qa1 ≤ 100000000000) (hqr : lq qr ≤ 100000000000)    :
    Calls Tryz.prog 24 #[.agg #[vB (qa0.num < 0), vna0, vda0, vB (qa1.num < 0), vna1, vda1], .agg #[vB (qr.num < 0), vnr, vdr]] w0 (Ret w0 h0 (fun _ r => r = vB (hasP qa0 qa1 qr))) := by
 have hq00 := lq_zero
 refine calls_begin (n := 17) (e := [(0, .agg #[vB (qa0.num < 0), vna0, vda0, vB (qa1.num < 0), vna1, vda1]), (1, .agg #[vB (qr.num < 0), vnr, vdr])]) (vs := [.agg #[vB (qa0.num < 0), vna0, vda0, vB (qa1.num < 0), vna1, vda1], .agg #[vB (qr.num < 0), vnr, vdr]]) Tryz.func24 rfl rfl (Nat.le_of_ble_eq_true rfl) hs ⟨rfl, rfl, trivial⟩ (gc_seq (gc_region (gl_newop (new_box (cs := [_, _, _, _, _, _]) rfl rfl) rfl rfl rfl ?_)))
 intro v2 r2 hr2
 obtain ⟨b2, rfl, rfl⟩ := hr2
 refine gl_newop (new_box (cs := [_, _, _]) rfl rfl) rfl rfl rfl ?_
 intro v3 r3 hr3
 obtain ⟨b3, rfl, rfl⟩ := hr3
 refine asg rfl rfl (gl_nil (gq_then (gc_seq (gc_region (gv (ov_field_addr Tryz.underlying31 rfl Tryz.sizeOf29 rfl) rfl (gv (ov_load_agg (vs := [_, _, _]) (.tail _ (.head _)) Tryz.underlying29 rfl size29 rfl rfl) rfl (gv (ov_load_agg (vs := [_, _, _]) (.head _) Tryz.underlying29 rfl size29 rfl rfl) rfl ?_)))))))
 refine gl_call (vs := [_, _]) rfl rfl rfl rfl Tryz.call65 ⟨rfl, rfl, trivial⟩ (fun w hs => rref_cmp hs hna0 hda0 hnr hdr (by omega) (by omega)) ?_
 intro v8 h1 hh1 hr8
 have hcr8 := cmpQ_range qa0 qr
 subst hr8
 refine gv (ov_leq_i (q := 0) rfl rfl) rfl ?_
 refine gl_cut (ι := Mem) 7 (fun m_ => MLe h1 m_) (fun _ => [(16, vB (((cmpQ qa0 qr) ≤ (0 : Int)) ∧ ((cmpQ qr qa1) ≤ (0 : Int))))]) (fun _ => [.var b3 29 [vB (qr.num < 0), vnr, vdr], .var b2 31 [vB (qa0.num < 0), vna0, vda0, vB (qa1.num < 0), vna1, vda1]]) (fun m_ => m_) ?_ ?_
 ·
  refine gl_cases ((cmpQ qa0 qr) ≤ (0 : Int)) (fun hg => ?_) (fun hg => ?_)
  ·
   refine gl_val (ov_move (v := .bool true) (congrArg some (vB_true hg))) rfl rfl rfl (gl_on rfl rfl rfl (gv (ov_load_agg (vs := [_, _, _]) (.head _) Tryz.underlying29 rfl size29 rfl rfl) rfl (gl_on rfl rfl rfl (gv (ov_field_addr Tryz.underlying31 rfl Tryz.sizeOf29 rfl) rfl (gl_on rfl rfl rfl (gv (ov_load_agg (vs := [_, _, _]) (.tail _ (.head _)) Tryz.underlying29 rfl size29 rfl rfl) rfl (gl_on rfl rfl rfl ?_)))))))
   replace hna1 := hna1.mono hh1
   replace hda1 := hda1.mono hh1
   replace hnr := hnr.mono hh1
   replace hdr := hdr.mono hh1
   refine gl_call (vs := [_, _]) rfl rfl rfl rfl Tryz.call65 ⟨rfl, rfl, trivial⟩ (fun w hs => rref_cmp hs hnr hdr hna1 hda1 (by omega) (by omega)) ?_
   intro v14 h2 hh2 hr14
   have hcr14 := cmpQ_range qr qa1
   subst hr14
   refine gl_on rfl rfl rfl (gv (ov_leq_i (q := 0) rfl rfl) rfl (gv (ov_pick_t rfl rfl) rfl (gl_nil ?_)))
   refine gq_cut h2 hh2 ⟨?_, trivial⟩ rfl rfl
   exact congrArg some (vB_and_t hg)
  ·
   refine gl_val (ov_move (v := .bool false) (congrArg some (vB_false hg))) rfl rfl rfl (gl_off rfl rfl rfl rfl rfl rfl (gl_off rfl rfl rfl rfl rfl rfl (gl_off rfl rfl rfl rfl rfl rfl (gl_off rfl rfl rfl rfl rfl rfl (gl_off rfl rfl rfl rfl rfl rfl (gv (ov_pick_f rfl rfl) rfl (gl_nil ?_)))))))
   refine gq_cut h1 (MLe.refl _) ⟨?_, trivial⟩ rfl rfl
   exact congrArg some (vB_and_f hg)
 ·
  intro mg1_5 hmmg1_5
  show GL _ _ _ _ _ _ _ [(16, vB (((cmpQ qa0 qr) ≤ (0 : Int)) ∧ ((cmpQ qr qa1) ≤ (0 : Int))))] [.var b3 29 [vB (qr.num < 0), vnr, vdr], .var b2 31 [vB (qa0.num < 0), vna0, vda0, vB (qa1.num < 0), vna1, vda1]] mg1_5
  refine asg rfl rfl (gl_nil (gq_then (gc_ret (gq_body1 rfl rfl ?_))))
  exact vB_iff has_iff

theorem span_inside {w0 : World} {h0 : Mem}  (hs : MLe h0 (mem w0)) {qa0 : Rat} {vna0 vda0 : Value} (hna0 : Us .u32 h0 vna0 (limbs qa0.num.natAbs)) (hda0 : Us .u32 h0 vda0 (limbs (denN qa0.den))) {qa1 : Rat} {vna1 vda1 : Value} (hna1 : Us .u32 h0 vna1 (limbs qa1.num.natAbs)) (hda1 : Us .u32 h0 vda1 (limbs (denN qa1.den))) {qb0 : Rat} {vnb0 vdb0 : Value} (hnb0 : Us .u32 h0 vnb0 (limbs qb0.num.natAbs)) (hdb0 : Us .u32 h0 vdb0 (limbs (denN qb0.den))) {qb1 : Rat} {vnb1 vdb1 : Value} (hnb1 : Us .u32 h0 vnb1 (limbs qb1.num.natAbs)) (hdb1 : Us .u32 h0 vdb1 (limbs (denN qb1.den))) (hqa0 : lq qa0 ≤ 100000000000) (hqa1 : lq qa1 ≤ 100000000000) (hqb0 : lq qb0 ≤ 100000000000) (hqb1 : lq qb1 ≤ 100000000000)    :
    Calls Tryz.prog 25 #[.agg #[vB (qa0.num < 0), vna0, vda0, vB (qa1.num < 0), vna1, vda1], .agg #[vB (qb0.num < 0), vnb0, vdb0, vB (qb1.num < 0), vnb1, vdb1]] w0 (Ret w0 h0 (fun _ r => r = vB (hasP qb0 qb1 qa0 ∧ hasP qb0 qb1 qa1))) := by
 have hq00 := lq_zero
 refine calls_begin (n := 15) (e := [(0, .agg #[vB (qa0.num < 0), vna0, vda0, vB (qa1.num < 0), vna1, vda1]), (1, .agg #[vB (qb0.num < 0), vnb0, vdb0, vB (qb1.num < 0), vnb1, vdb1])]) (vs := [.agg #[vB (qa0.num < 0), vna0, vda0, vB (qa1.num < 0), vna1, vda1], .agg #[vB (qb0.num < 0), vnb0, vdb0, vB (qb1.num < 0), vnb1, vdb1]]) Tryz.func25 rfl rfl (Nat.le_of_ble_eq_true rfl) hs ⟨rfl, rfl, trivial⟩ (gc_seq (gc_region (gl_newop (new_box (cs := [_, _, _, _, _, _]) rfl rfl) rfl rfl rfl ?_)))
 intro v2 r2 hr2
 obtain ⟨b2, rfl, rfl⟩ := hr2
 refine gl_newop (new_box (cs := [_, _, _, _, _, _]) rfl rfl) rfl rfl rfl ?_
 intro v3 r3 hr3
 obtain ⟨b3, rfl, rfl⟩ := hr3
 refine asg rfl rfl (gl_nil (gq_then (gc_seq (gc_region (gv (ov_load_agg (vs := [_, _, _, _, _, _]) (.head _) Tryz.underlying31 rfl size31 rfl rfl) rfl (gv (ov_field_addr Tryz.underlying31 rfl Tryz.sizeOf29 rfl) rfl (gv (ov_load_agg (vs := [_, _, _]) (.tail _ (.head _)) Tryz.underlying29 rfl size29 rfl rfl) rfl ?_)))))))
 refine gl_call (vs := [_, _]) rfl rfl rfl rfl Tryz.call23 ⟨rfl, rfl, trivial⟩ (fun w hs => span_has hs hnb0 hdb0 hnb1 hdb1 hna0 hda0 (by omega) (by omega) (by omega)) ?_
 intro v8 h1 hh1 hr8
 subst hr8
 refine gl_cut (ι := Mem) 6 (fun m_ => MLe h1 m_) (fun _ => [(14, vB ((hasP qb0 qb1 qa0) ∧ (hasP qb0 qb1 qa1)))]) (fun _ => [.var b3 31 [vB (qb0.num < 0), vnb0, vdb0, vB (qb1.num < 0), vnb1, vdb1], .var b2 31 [vB (qa0.num < 0), vna0, vda0, vB (qa1.num < 0), vna1, vda1]]) (fun m_ => m_) ?_ ?_
 ·
  refine gl_cases (hasP qb0 qb1 qa0) (fun hg => ?_) (fun hg => ?_)
  ·
   refine gl_val (ov_move (v := .bool true) (congrArg some (vB_true hg))) rfl rfl rfl (gl_on rfl rfl rfl (gv (ov_load_agg (vs := [_, _, _, _, _, _]) (.head _) Tryz.underlying31 rfl size31 rfl rfl) rfl (gl_on rfl rfl rfl (gv (ov_field_addr Tryz.underlying31 rfl Tryz.sizeOf29 rfl) rfl (gl_on rfl rfl rfl (gv (ov_load_agg (vs := [_, _, _]) (.tail _ (.head _)) Tryz.underlying29 rfl size29 rfl rfl) rfl (gl_on rfl rfl rfl ?_)))))))
   replace hna1 := hna1.mono hh1
   replace hda1 := hda1.mono hh1
   replace hnb0 := hnb0.mono hh1
   replace hdb0 := hdb0.mono hh1
   replace hnb1 := hnb1.mono hh1
   replace hdb1 := hdb1.mono hh1
   refine gl_call (vs := [_, _]) rfl rfl rfl rfl Tryz.call23 ⟨rfl, rfl, trivial⟩ (fun w hs => span_has hs hnb0 hdb0 hnb1 hdb1 hna1 hda1 (by omega) (by omega) (by omega)) ?_
   intro v13 h2 hh2 hr13
   subst hr13
   refine gv (ov_pick_t rfl rfl) rfl (gl_nil ?_)
   refine gq_cut h2 hh2 ⟨?_, trivial⟩ rfl rfl
   exact congrArg some (vB_and_t hg)
  ·
   refine gl_val (ov_move (v := .bool false) (congrArg some (vB_false hg))) rfl rfl rfl (gl_off rfl rfl rfl rfl rfl rfl (gl_off rfl rfl rfl rfl rfl rfl (gl_off rfl rfl rfl rfl rfl rfl (gl_off rfl rfl rfl rfl rfl rfl (gv (ov_pick_f rfl rfl) rfl (gl_nil ?_))))))
   refine gq_cut h1 (MLe.refl _) ⟨?_, trivial⟩ rfl rfl
   exact congrArg some (vB_and_f hg)
 ·
  intro mg1_4 hmmg1_4
  show GL _ _ _ _ _ _ _ [(14, vB ((hasP qb0 qb1 qa0) ∧ (hasP qb0 qb1 qa1)))] [.var b3 31 [vB (qb0.num < 0), vnb0, vdb0, vB (qb1.num < 0), vnb1, vdb1], .var b2 31 [vB (qa0.num < 0), vna0, vda0, vB (qa1.num < 0), vna1, vda1]] mg1_4
  refine asg rfl rfl (gl_nil (gq_then (gc_ret (gq_body1 rfl rfl ?_))))
  rfl

theorem sref_inside {w0 : World} {h0 : Mem}  (hs : MLe h0 (mem w0)) {qa0 : Rat} {vna0 vda0 : Value} (hna0 : Us .u32 h0 vna0 (limbs qa0.num.natAbs)) (hda0 : Us .u32 h0 vda0 (limbs (denN qa0.den))) {qa1 : Rat} {vna1 vda1 : Value} (hna1 : Us .u32 h0 vna1 (limbs qa1.num.natAbs)) (hda1 : Us .u32 h0 vda1 (limbs (denN qa1.den))) {qb0 : Rat} {vnb0 vdb0 : Value} (hnb0 : Us .u32 h0 vnb0 (limbs qb0.num.natAbs)) (hdb0 : Us .u32 h0 vdb0 (limbs (denN qb0.den))) {qb1 : Rat} {vnb1 vdb1 : Value} (hnb1 : Us .u32 h0 vnb1 (limbs qb1.num.natAbs)) (hdb1 : Us .u32 h0 vdb1 (limbs (denN qb1.den))) (hqa0 : lq qa0 ≤ 100000000000) (hqa1 : lq qa1 ≤ 100000000000) (hqb0 : lq qb0 ≤ 100000000000) (hqb1 : lq qb1 ≤ 100000000000)    :
    Calls Tryz.prog 26 #[.agg #[vB (qa0.num < 0), vna0, vda0, vB (qa1.num < 0), vna1, vda1], .agg #[vB (qb0.num < 0), vnb0, vdb0, vB (qb1.num < 0), vnb1, vdb1]] w0 (Ret w0 h0 (fun _ r => r = vB (hasP qb0 qb1 qa0 ∧ hasP qb0 qb1 qa1))) := by
 have hq00 := lq_zero
 refine calls_begin (n := 15) (e := [(0, .agg #[vB (qa0.num < 0), vna0, vda0, vB (qa1.num < 0), vna1, vda1]), (1, .agg #[vB (qb0.num < 0), vnb0, vdb0, vB (qb1.num < 0), vnb1, vdb1])]) (vs := [.agg #[vB (qa0.num < 0), vna0, vda0, vB (qa1.num < 0), vna1, vda1], .agg #[vB (qb0.num < 0), vnb0, vdb0, vB (qb1.num < 0), vnb1, vdb1]]) Tryz.func26 rfl rfl (Nat.le_of_ble_eq_true rfl) hs ⟨rfl, rfl, trivial⟩ (gc_seq (gc_region (gl_newop (new_box (cs := [_, _, _, _, _, _]) rfl rfl) rfl rfl rfl ?_)))
 intro v2 r2 hr2
 obtain ⟨b2, rfl, rfl⟩ := hr2
 refine gl_newop (new_box (cs := [_, _, _, _, _, _]) rfl rfl) rfl rfl rfl ?_
 intro v3 r3 hr3
 obtain ⟨b3, rfl, rfl⟩ := hr3
 refine asg rfl rfl (gl_nil (gq_then (gc_seq (gc_region (gv (ov_load_agg (vs := [_, _, _, _, _, _]) (.head _) Tryz.underlying31 rfl size31 rfl rfl) rfl (gv (ov_field_addr Tryz.underlying31 rfl Tryz.sizeOf29 rfl) rfl (gv (ov_load_agg (vs := [_, _, _]) (.tail _ (.head _)) Tryz.underlying29 rfl size29 rfl rfl) rfl ?_)))))))
 refine gl_call (vs := [_, _]) rfl rfl rfl rfl Tryz.call24 ⟨rfl, rfl, trivial⟩ (fun w hs => sref_has hs hnb0 hdb0 hnb1 hdb1 hna0 hda0 (by omega) (by omega) (by omega)) ?_
 intro v8 h1 hh1 hr8
 subst hr8
 refine gl_cut (ι := Mem) 6 (fun m_ => MLe h1 m_) (fun _ => [(14, vB ((hasP qb0 qb1 qa0) ∧ (hasP qb0 qb1 qa1)))]) (fun _ => [.var b3 31 [vB (qb0.num < 0), vnb0, vdb0, vB (qb1.num < 0), vnb1, vdb1], .var b2 31 [vB (qa0.num < 0), vna0, vda0, vB (qa1.num < 0), vna1, vda1]]) (fun m_ => m_) ?_ ?_
 ·
  refine gl_cases (hasP qb0 qb1 qa0) (fun hg => ?_) (fun hg => ?_)
  ·
   refine gl_val (ov_move (v := .bool true) (congrArg some (vB_true hg))) rfl rfl rfl (gl_on rfl rfl rfl (gv (ov_load_agg (vs := [_, _, _, _, _, _]) (.head _) Tryz.underlying31 rfl size31 rfl rfl) rfl (gl_on rfl rfl rfl (gv (ov_field_addr Tryz.underlying31 rfl Tryz.sizeOf29 rfl) rfl (gl_on rfl rfl rfl (gv (ov_load_agg (vs := [_, _, _]) (.tail _ (.head _)) Tryz.underlying29 rfl size29 rfl rfl) rfl (gl_on rfl rfl rfl ?_)))))))
   replace hna1 := hna1.mono hh1
   replace hda1 := hda1.mono hh1
   replace hnb0 := hnb0.mono hh1
   replace hdb0 := hdb0.mono hh1
   replace hnb1 := hnb1.mono hh1
   replace hdb1 := hdb1.mono hh1
   refine gl_call (vs := [_, _]) rfl rfl rfl rfl Tryz.call24 ⟨rfl, rfl, trivial⟩ (fun w hs => sref_has hs hnb0 hdb0 hnb1 hdb1 hna1 hda1 (by omega) (by omega) (by omega)) ?_
   intro v13 h2 hh2 hr13
   subst hr13
   refine gv (ov_pick_t rfl rfl) rfl (gl_nil ?_)
   refine gq_cut h2 hh2 ⟨?_, trivial⟩ rfl rfl
   exact congrArg some (vB_and_t hg)
  ·
   refine gl_val (ov_move (v := .bool false) (congrArg some (vB_false hg))) rfl rfl rfl (gl_off rfl rfl rfl rfl rfl rfl (gl_off rfl rfl rfl rfl rfl rfl (gl_off rfl rfl rfl rfl rfl rfl (gl_off rfl rfl rfl rfl rfl rfl (gv (ov_pick_f rfl rfl) rfl (gl_nil ?_))))))
   refine gq_cut h1 (MLe.refl _) ⟨?_, trivial⟩ rfl rfl
   exact congrArg some (vB_and_f hg)
 ·
  intro mg1_4 hmmg1_4
  show GL _ _ _ _ _ _ _ [(14, vB ((hasP qb0 qb1 qa0) ∧ (hasP qb0 qb1 qa1)))] [.var b3 31 [vB (qb0.num < 0), vnb0, vdb0, vB (qb1.num < 0), vnb1, vdb1], .var b2 31 [vB (qa0.num < 0), vna0, vda0, vB (qa1.num < 0), vna1, vda1]] mg1_4
  refine asg rfl rfl (gl_nil (gq_then (gc_ret (gq_body1 rfl rfl ?_))))
  rfl

theorem span_width {w0 : World} {h0 : Mem}  (hs : MLe h0 (mem w0)) {qa0 : Rat} {vna0 vda0 : Value} (hna0 : Us .u32 h0 vna0 (limbs qa0.num.natAbs)) (hda0 : Us .u32 h0 vda0 (limbs (denN qa0.den))) {qa1 : Rat} {vna1 vda1 : Value} (hna1 : Us .u32 h0 vna1 (limbs qa1.num.natAbs)) (hda1 : Us .u32 h0 vda1 (limbs (denN qa1.den))) (hqa0 : lq qa0 ≤ 100000000000) (hqa1 : lq qa1 ≤ 100000000000)    :
    Calls Tryz.prog 28 #[.agg #[vB (qa0.num < 0), vna0, vda0, vB (qa1.num < 0), vna1, vda1]] w0 (Ret w0 h0 (fun h r => IsRat h r (qa1 - qa0))) := by
 have hq00 := lq_zero
 refine calls_begin (n := 8) (e := [(0, .agg #[vB (qa0.num < 0), vna0, vda0, vB (qa1.num < 0), vna1, vda1])]) (vs := [.agg #[vB (qa0.num < 0), vna0, vda0, vB (qa1.num < 0), vna1, vda1]]) Tryz.func28 rfl rfl (Nat.le_of_ble_eq_true rfl) hs ⟨rfl, trivial⟩ (gc_seq (gc_region (gl_newop (new_box (cs := [_, _, _, _, _, _]) rfl rfl) rfl rfl rfl ?_)))
 intro v1 r1 hr1
 obtain ⟨b1, rfl, rfl⟩ := hr1
 refine gl_newop (new_alloc (cs := [vB ((0 : Rat).num < 0), .slice none 0 0, .slice none 0 0]) info29 rfl (by simp only [zb]; rfl)) rfl rfl rfl ?_
 intro v2 r2 hr2
 obtain ⟨b2, rfl, rfl⟩ := hr2
 refine gl_nil (gq_then (gc_seq (gc_region (gv (ov_field_addr Tryz.underlying31 rfl Tryz.sizeOf29 rfl) rfl (gv (ov_load_agg (vs := [_, _, _]) (.tail _ (.head _)) Tryz.underlying29 rfl size29 rfl rfl) rfl (gv (ov_field_addr Tryz.underlying31 rfl Tryz.sizeOf29 rfl) rfl (gv (ov_load_agg (vs := [_, _, _]) (.tail _ (.head _)) Tryz.underlying29 rfl size29 rfl rfl) rfl ?_)))))))
 refine gl_call (vs := [_, _]) rfl rfl rfl rfl Tryz.call71 ⟨rfl, rfl, trivial⟩ (fun w hs => rat_sub hs hna1 hda1 hna0 hda0 (by omega) (by omega)) ?_
 intro v7 h1 hh1 hr7
 obtain ⟨vn7, vd7, rfl, hn7, hd7⟩ := hr7
 have hlq7 := lq_sub qa1 qa0
 refine gl_upd (A := []) (r' := .var b2 29 [vB ((qa1 - qa0).num < 0), vn7, vd7]) (upd_store_var (k := 0) (cs := [_, _, _]) (vs := [_, _, _]) rfl rfl rfl (ocr rfl (ocu hn7 (ocu hd7 oc0))) size29 (Nat.le_of_ble_eq_true rfl)) rfl rfl rfl (gl_nil (gq_then (gc_ret (gq_res (fun E S => run_res1 rfl (rv_agg (cs := [_, _, _]) (.head _) Tryz.underlying29 rfl size29 rfl) E S) ?_))))
 exact ⟨_, _, rfl, hn7, hd7⟩

theorem sref_width {w0 : World} {h0 : Mem}  (hs : MLe h0 (mem w0)) {qa0 : Rat} {vna0 vda0 : Value} (hna0 : Us .u32 h0 vna0 (limbs qa0.num.natAbs)) (hda0 : Us .u32 h0 vda0 (limbs (denN qa0.den))) {qa1 : Rat} {vna1 vda1 : Value} (hna1 : Us .u32 h0 vna1 (limbs qa1.num.natAbs)) (hda1 : Us .u32 h0 vda1 (limbs (denN qa1.den))) (hqa0 : lq qa0 ≤ 100000000000) (hqa1 : lq qa1 ≤ 100000000000)    :
    Calls Tryz.prog 29 #[.agg #[vB (qa0.num < 0), vna0, vda0, vB (qa1.num < 0), vna1, vda1]] w0 (Ret w0 h0 (fun h r => IsRat h r (qa1 - qa0))) := by
 have hq00 := lq_zero
 refine calls_begin (n := 8) (e := [(0, .agg #[vB (qa0.num < 0), vna0, vda0, vB (qa1.num < 0), vna1, vda1])]) (vs := [.agg #[vB (qa0.num < 0), vna0, vda0, vB (qa1.num < 0), vna1, vda1]]) Tryz.func29 rfl rfl (Nat.le_of_ble_eq_true rfl) hs ⟨rfl, trivial⟩ (gc_seq (gc_region (gl_newop (new_box (cs := [_, _, _, _, _, _]) rfl rfl) rfl rfl rfl ?_)))
 intro v1 r1 hr1
 obtain ⟨b1, rfl, rfl⟩ := hr1
 refine gl_newop (new_alloc (cs := [vB ((0 : Rat).num < 0), .slice none 0 0, .slice none 0 0]) info29 rfl (by simp only [zb]; rfl)) rfl rfl rfl ?_
 intro v2 r2 hr2
 obtain ⟨b2, rfl, rfl⟩ := hr2
 refine gl_nil (gq_then (gc_seq (gc_region (gv (ov_field_addr Tryz.underlying31 rfl Tryz.sizeOf29 rfl) rfl (gv (ov_load_agg (vs := [_, _, _]) (.tail _ (.head _)) Tryz.underlying29 rfl size29 rfl rfl) rfl (gv (ov_field_addr Tryz.underlying31 rfl Tryz.sizeOf29 rfl) rfl (gv (ov_load_agg (vs := [_, _, _]) (.tail _ (.head _)) Tryz.underlying29 rfl size29 rfl rfl) rfl ?_)))))))
 refine gl_call (vs := [_, _]) rfl rfl rfl rfl Tryz.call53 ⟨rfl, rfl, trivial⟩ (fun w hs => rref_sub hs hna1 hda1 hna0 hda0 (by omega) (by omega)) ?_
 intro v7 h1 hh1 hr7
 obtain ⟨vn7, vd7, rfl, hn7, hd7⟩ := hr7
 have hlq7 := lq_sub qa1 qa0
 refine gl_upd (A := []) (r' := .var b2 29 [vB ((qa1 - qa0).num < 0), vn7, vd7]) (upd_store_var (k := 0) (cs := [_, _, _]) (vs := [_, _, _]) rfl rfl rfl (ocr rfl (ocu hn7 (ocu hd7 oc0))) size29 (Nat.le_of_ble_eq_true rfl)) rfl rfl rfl (gl_nil (gq_then (gc_ret (gq_res (fun E S => run_res1 rfl (rv_agg (cs := [_, _, _]) (.head _) Tryz.underlying29 rfl size29 rfl) E S) ?_))))
 exact ⟨_, _, rfl, hn7, hd7⟩

theorem span_mid {w0 : World} {h0 : Mem}  (hs : MLe h0 (mem w0)) {qa0 : Rat} {vna0 vda0 : Value} (hna0 : Us .u32 h0 vna0 (limbs qa0.num.natAbs)) (hda0 : Us .u32 h0 vda0 (limbs (denN qa0.den))) {qa1 : Rat} {vna1 vda1 : Value} (hna1 : Us .u32 h0 vna1 (limbs qa1.num.natAbs)) (hda1 : Us .u32 h0 vda1 (limbs (denN qa1.den))) (hqa0 : lq qa0 ≤ 10000000000) (hqa1 : lq qa1 ≤ 10000000000)    :
    Calls Tryz.prog 30 #[.agg #[vB (qa0.num < 0), vna0, vda0, vB (qa1.num < 0), vna1, vda1]] w0 (Ret w0 h0 (fun h r => IsRat h r (midQ qa0 qa1))) := by
 have hq00 := lq_zero
 refine calls_begin (n := 8) (e := [(0, .agg #[vB (qa0.num < 0), vna0, vda0, vB (qa1.num < 0), vna1, vda1])]) (vs := [.agg #[vB (qa0.num < 0), vna0, vda0, vB (qa1.num < 0), vna1, vda1]]) Tryz.func30 rfl rfl (Nat.le_of_ble_eq_true rfl) hs ⟨rfl, trivial⟩ (gc_seq (gc_region (gl_newop (new_box (cs := [_, _, _, _, _, _]) rfl rfl) rfl rfl rfl ?_)))
 intro v1 r1 hr1
 obtain ⟨b1, rfl, rfl⟩ := hr1
 refine gl_newop (new_alloc (cs := [vB ((0 : Rat).num < 0), .slice none 0 0, .slice none 0 0]) info29 rfl (by simp only [zb]; rfl)) rfl rfl rfl ?_
 intro v2 r2 hr2
 obtain ⟨b2, rfl, rfl⟩ := hr2
 refine gl_nil (gq_then (gc_seq (gc_region (gv (ov_field_addr Tryz.underlying31 rfl Tryz.sizeOf29 rfl) rfl (gv (ov_load_agg (vs := [_, _, _]) (.tail _ (.head _)) Tryz.underlying29 rfl size29 rfl rfl) rfl (gv (ov_field_addr Tryz.underlying31 rfl Tryz.sizeOf29 rfl) rfl (gv (ov_load_agg (vs := [_, _, _]) (.tail _ (.head _)) Tryz.underlying29 rfl size29 rfl rfl) rfl ?_)))))))
 refine gl_call (vs := [_, _]) rfl rfl rfl rfl Tryz.call72 ⟨rfl, rfl, trivial⟩ (fun w hs => rat_mid hs hna0 hda0 hna1 hda1 (by omega) (by omega)) ?_
 intro v7 h1 hh1 hr7
 obtain ⟨vn7, vd7, rfl, hn7, hd7⟩ := hr7
 have hlq7 := lq_mid qa0 qa1
 refine gl_upd (A := []) (r' := .var b2 29 [vB ((midQ qa0 qa1).num < 0), vn7, vd7]) (upd_store_var (k := 0) (cs := [_, _, _]) (vs := [_, _, _]) rfl rfl rfl (ocr rfl (ocu hn7 (ocu hd7 oc0))) size29 (Nat.le_of_ble_eq_true rfl)) rfl rfl rfl (gl_nil (gq_then (gc_ret (gq_res (fun E S => run_res1 rfl (rv_agg (cs := [_, _, _]) (.head _) Tryz.underlying29 rfl size29 rfl) E S) ?_))))
 exact ⟨_, _, rfl, hn7, hd7⟩

theorem sref_mid {w0 : World} {h0 : Mem}  (hs : MLe h0 (mem w0)) {qa0 : Rat} {vna0 vda0 : Value} (hna0 : Us .u32 h0 vna0 (limbs qa0.num.natAbs)) (hda0 : Us .u32 h0 vda0 (limbs (denN qa0.den))) {qa1 : Rat} {vna1 vda1 : Value} (hna1 : Us .u32 h0 vna1 (limbs qa1.num.natAbs)) (hda1 : Us .u32 h0 vda1 (limbs (denN qa1.den))) (hqa0 : lq qa0 ≤ 10000000000) (hqa1 : lq qa1 ≤ 10000000000)    :
    Calls Tryz.prog 31 #[.agg #[vB (qa0.num < 0), vna0, vda0, vB (qa1.num < 0), vna1, vda1]] w0 (Ret w0 h0 (fun h r => IsRat h r (midQ qa0 qa1))) := by
 have hq00 := lq_zero
 refine calls_begin (n := 8) (e := [(0, .agg #[vB (qa0.num < 0), vna0, vda0, vB (qa1.num < 0), vna1, vda1])]) (vs := [.agg #[vB (qa0.num < 0), vna0, vda0, vB (qa1.num < 0), vna1, vda1]]) Tryz.func31 rfl rfl (Nat.le_of_ble_eq_true rfl) hs ⟨rfl, trivial⟩ (gc_seq (gc_region (gl_newop (new_box (cs := [_, _, _, _, _, _]) rfl rfl) rfl rfl rfl ?_)))
 intro v1 r1 hr1
 obtain ⟨b1, rfl, rfl⟩ := hr1
 refine gl_newop (new_alloc (cs := [vB ((0 : Rat).num < 0), .slice none 0 0, .slice none 0 0]) info29 rfl (by simp only [zb]; rfl)) rfl rfl rfl ?_
 intro v2 r2 hr2
 obtain ⟨b2, rfl, rfl⟩ := hr2
 refine gl_nil (gq_then (gc_seq (gc_region (gv (ov_field_addr Tryz.underlying31 rfl Tryz.sizeOf29 rfl) rfl (gv (ov_load_agg (vs := [_, _, _]) (.tail _ (.head _)) Tryz.underlying29 rfl size29 rfl rfl) rfl (gv (ov_field_addr Tryz.underlying31 rfl Tryz.sizeOf29 rfl) rfl (gv (ov_load_agg (vs := [_, _, _]) (.tail _ (.head _)) Tryz.underlying29 rfl size29 rfl rfl) rfl ?_)))))))
 refine gl_call (vs := [_, _]) rfl rfl rfl rfl Tryz.call73 ⟨rfl, rfl, trivial⟩ (fun w hs => rref_mid hs hna0 hda0 hna1 hda1 (by omega) (by omega)) ?_
 intro v7 h1 hh1 hr7
 obtain ⟨vn7, vd7, rfl, hn7, hd7⟩ := hr7
 have hlq7 := lq_mid qa0 qa1
 refine gl_upd (A := []) (r' := .var b2 29 [vB ((midQ qa0 qa1).num < 0), vn7, vd7]) (upd_store_var (k := 0) (cs := [_, _, _]) (vs := [_, _, _]) rfl rfl rfl (ocr rfl (ocu hn7 (ocu hd7 oc0))) size29 (Nat.le_of_ble_eq_true rfl)) rfl rfl rfl (gl_nil (gq_then (gc_ret (gq_res (fun E S => run_res1 rfl (rv_agg (cs := [_, _, _]) (.head _) Tryz.underlying29 rfl size29 rfl) E S) ?_))))
 exact ⟨_, _, rfl, hn7, hd7⟩

theorem span_add {w0 : World} {h0 : Mem}  (hs : MLe h0 (mem w0)) {qa0 : Rat} {vna0 vda0 : Value} (hna0 : Us .u32 h0 vna0 (limbs qa0.num.natAbs)) (hda0 : Us .u32 h0 vda0 (limbs (denN qa0.den))) {qa1 : Rat} {vna1 vda1 : Value} (hna1 : Us .u32 h0 vna1 (limbs qa1.num.natAbs)) (hda1 : Us .u32 h0 vda1 (limbs (denN qa1.den))) {qb0 : Rat} {vnb0 vdb0 : Value} (hnb0 : Us .u32 h0 vnb0 (limbs qb0.num.natAbs)) (hdb0 : Us .u32 h0 vdb0 (limbs (denN qb0.den))) {qb1 : Rat} {vnb1 vdb1 : Value} (hnb1 : Us .u32 h0 vnb1 (limbs qb1.num.natAbs)) (hdb1 : Us .u32 h0 vdb1 (limbs (denN qb1.den))) (hqa0 : lq qa0 ≤ 100000000000) (hqa1 : lq qa1 ≤ 100000000000) (hqb0 : lq qb0 ≤ 100000000000) (hqb1 : lq qb1 ≤ 100000000000)    :
    Calls Tryz.prog 38 #[.agg #[vB (qa0.num < 0), vna0, vda0, vB (qa1.num < 0), vna1, vda1], .agg #[vB (qb0.num < 0), vnb0, vdb0, vB (qb1.num < 0), vnb1, vdb1]] w0 (Ret w0 h0 (fun h r => IsRats h r [qa0 + qb0, qa1 + qb1])) := by
 have hq00 := lq_zero
 refine calls_begin (n := 16) (e := [(0, .agg #[vB (qa0.num < 0), vna0, vda0, vB (qa1.num < 0), vna1, vda1]), (1, .agg #[vB (qb0.num < 0), vnb0, vdb0, vB (qb1.num < 0), vnb1, vdb1])]) (vs := [.agg #[vB (qa0.num < 0), vna0, vda0, vB (qa1.num < 0), vna1, vda1], .agg #[vB (qb0.num < 0), vnb0, vdb0, vB (qb1.num < 0), vnb1, vdb1]]) Tryz.func38 rfl rfl (Nat.le_of_ble_eq_true rfl) hs ⟨rfl, rfl, trivial⟩ (gc_seq (gc_region (gl_newop (new_box (cs := [_, _, _, _, _, _]) rfl rfl) rfl rfl rfl ?_)))
 intro v2 r2 hr2
 obtain ⟨b2, rfl, rfl⟩ := hr2
 refine gl_newop (new_box (cs := [_, _, _, _, _, _]) rfl rfl) rfl rfl rfl ?_
 intro v3 r3 hr3
 obtain ⟨b3, rfl, rfl⟩ := hr3
 refine gl_newop (new_alloc (cs := [vB ((0 : Rat).num < 0), .slice none 0 0, .slice none 0 0, vB ((0 : Rat).num < 0), .slice none 0 0, .slice none 0 0]) info31 rfl (by simp only [zb]; rfl)) rfl rfl rfl ?_
 intro v4 r4 hr4
 obtain ⟨b4, rfl, rfl⟩ := hr4
 refine gl_nil (gq_then (gc_seq ?_))
 refine gc_draw 11 _ [] [(0, .q), (1, .q), (2, .q), (3, .q), (5, .q), (6, .q), (7, .q), (8, .q), (4, .c), (9, .c), (10, .q), (11, .t)] mixed (fun x hx => by cases hx) (by kernel_rfl) (fun x hx => by cases hx) (fun r hr => hr) (w_q rfl (fun h' L' hh hR => ov_field_addr Tryz.underlying31 rfl Tryz.sizeOf29 rfl) rfl (w_q rfl (fun h' L' hh hR => ov_load_agg (vs := [_, _, _]) (hR _ (.tail _ (.tail _ (.head _)))) Tryz.underlying29 rfl size29 rfl rfl) rfl (w_q rfl (fun h' L' hh hR => ov_field_addr Tryz.underlying31 rfl Tryz.sizeOf29 rfl) rfl (w_q rfl (fun h' L' hh hR => ov_load_agg (vs := [_, _, _]) (hR _ (.tail _ (.head _))) Tryz.underlying29 rfl size29 rfl rfl) rfl (w_q rfl (fun h' L' hh hR => ov_field_addr Tryz.underlying31 rfl Tryz.sizeOf29 rfl) rfl (w_q rfl (fun h' L' hh hR => ov_load_agg (vs := [_, _, _]) (hR _ (.tail _ (.tail _ (.head _)))) Tryz.underlying29 rfl size29 rfl rfl) rfl (w_q rfl (fun h' L' hh hR => ov_field_addr Tryz.underlying31 rfl Tryz.sizeOf29 rfl) rfl (w_q rfl (fun h' L' hh hR => ov_load_agg (vs := [_, _, _]) (hR _ (.tail _ (.head _))) Tryz.underlying29 rfl size29 rfl rfl) rfl ?_))))))))
 refine w_c rfl ?_
 refine s_call (vs := [_, _]) Tryz.call76 ⟨rfl, rfl, trivial⟩ (fun w hs => rat_add hs hna0 hda0 hnb0 hdb0 (by omega) (by omega)) rfl ?_
 intro v9 h1 hh1 hr9
 obtain ⟨vn9, vd9, rfl, hn9, hd9⟩ := hr9
 have hlq9 := lq_add qa0 qb0
 refine w_c rfl ?_
 replace hna1 := hna1.mono hh1
 replace hda1 := hda1.mono hh1
 replace hnb1 := hnb1.mono hh1
 replace hdb1 := hdb1.mono hh1
 refine s_call (vs := [_, _]) Tryz.call76 ⟨rfl, rfl, trivial⟩ (fun w hs => rat_add hs hna1 hda1 hnb1 hdb1 (by omega) (by omega)) rfl ?_
 intro v14 h2 hh2 hr14
 obtain ⟨vn14, vd14, rfl, hn14, hd14⟩ := hr14
 have hlq14 := lq_add qa1 qb1
 refine w_q rfl (fun h' L' hh hR => ov_build_parts (ps' := [(0, _), (1, _)]) (vs := [vB ((qa0 + qb0).num < 0), vn9, vd9, vB ((qa1 + qb1).num < 0), vn14, vd14]) Tryz.underlying31 info31 rfl (places31 Tryz.underlying31) ⟨rfl, rfl, rfl, rfl, trivial⟩ (fill_one (A := []) (B := [_, _, _]) (C := [_, _, _]) (cs := [_, _, _]) (off := 0) (size := 3) rfl rfl rfl rfl rfl (fill_one (A := [_, _, _]) (B := [_, _, _]) (C := []) (cs := [_, _, _]) (off := 3) (size := 3) rfl rfl rfl rfl rfl fill_nil))) rfl ?_
 replace hn9 := hn9.mono hh2
 replace hd9 := hd9.mono hh2
 refine w_t_upd (A := []) (q' := .var b4 31 [vB ((qa0 + qb0).num < 0), vn9, vd9, vB ((qa1 + qb1).num < 0), vn14, vd14]) rfl (upd_store_var (k := 0) (cs := [_, _, _, _, _, _]) (vs := [_, _, _, _, _, _]) rfl rfl rfl (ocr rfl (ocu hn9 (ocu hd9 (ocr rfl (ocu hn14 (ocu hd14 oc0)))))) size31 (Nat.le_of_ble_eq_true rfl)) rfl (w_nil (gq_keep (e' := [(4, _)]) ⟨rfl, trivial⟩ (gq_then (gc_ret (gq_res (fun E S => run_res1 rfl (rv_agg (cs := [_, _, _, _, _, _]) (.head _) Tryz.underlying31 rfl size31 rfl) E S) ?_)))))
 exact ⟨_, rfl, _, _, _, rfl, hn9, hd9, _, _, _, rfl, hn14, hd14, rfl⟩

theorem sref_add {w0 : World} {h0 : Mem}  (hs : MLe h0 (mem w0)) {qa0 : Rat} {vna0 vda0 : Value} (hna0 : Us .u32 h0 vna0 (limbs qa0.num.natAbs)) (hda0 : Us .u32 h0 vda0 (limbs (denN qa0.den))) {qa1 : Rat} {vna1 vda1 : Value} (hna1 : Us .u32 h0 vna1 (limbs qa1.num.natAbs)) (hda1 : Us .u32 h0 vda1 (limbs (denN qa1.den))) {qb0 : Rat} {vnb0 vdb0 : Value} (hnb0 : Us .u32 h0 vnb0 (limbs qb0.num.natAbs)) (hdb0 : Us .u32 h0 vdb0 (limbs (denN qb0.den))) {qb1 : Rat} {vnb1 vdb1 : Value} (hnb1 : Us .u32 h0 vnb1 (limbs qb1.num.natAbs)) (hdb1 : Us .u32 h0 vdb1 (limbs (denN qb1.den))) (hqa0 : lq qa0 ≤ 100000000000) (hqa1 : lq qa1 ≤ 100000000000) (hqb0 : lq qb0 ≤ 100000000000) (hqb1 : lq qb1 ≤ 100000000000)    :
    Calls Tryz.prog 39 #[.agg #[vB (qa0.num < 0), vna0, vda0, vB (qa1.num < 0), vna1, vda1], .agg #[vB (qb0.num < 0), vnb0, vdb0, vB (qb1.num < 0), vnb1, vdb1]] w0 (Ret w0 h0 (fun h r => IsRats h r [qa0 + qb0, qa1 + qb1])) := by
 have hq00 := lq_zero
 refine calls_begin (n := 16) (e := [(0, .agg #[vB (qa0.num < 0), vna0, vda0, vB (qa1.num < 0), vna1, vda1]), (1, .agg #[vB (qb0.num < 0), vnb0, vdb0, vB (qb1.num < 0), vnb1, vdb1])]) (vs := [.agg #[vB (qa0.num < 0), vna0, vda0, vB (qa1.num < 0), vna1, vda1], .agg #[vB (qb0.num < 0), vnb0, vdb0, vB (qb1.num < 0), vnb1, vdb1]]) Tryz.func39 rfl rfl (Nat.le_of_ble_eq_true rfl) hs ⟨rfl, rfl, trivial⟩ (gc_seq (gc_region (gl_newop (new_box (cs := [_, _, _, _, _, _]) rfl rfl) rfl rfl rfl ?_)))
 intro v2 r2 hr2
 obtain ⟨b2, rfl, rfl⟩ := hr2
 refine gl_newop (new_box (cs := [_, _, _, _, _, _]) rfl rfl) rfl rfl rfl ?_
 intro v3 r3 hr3
 obtain ⟨b3, rfl, rfl⟩ := hr3
 refine gl_newop (new_alloc (cs := [vB ((0 : Rat).num < 0), .slice none 0 0, .slice none 0 0, vB ((0 : Rat).num < 0), .slice none 0 0, .slice none 0 0]) info31 rfl (by simp only [zb]; rfl)) rfl rfl rfl ?_
 intro v4 r4 hr4
 obtain ⟨b4, rfl, rfl⟩ := hr4
 refine gl_nil (gq_then (gc_seq ?_))
 refine gc_draw 11 _ [] [(0, .q), (1, .q), (2, .q), (3, .q), (5, .q), (6, .q), (7, .q), (8, .q), (4, .c), (9, .c), (10, .q), (11, .t)] mixed (fun x hx => by cases hx) (by kernel_rfl) (fun x hx => by cases hx) (fun r hr => hr) (w_q rfl (fun h' L' hh hR => ov_field_addr Tryz.underlying31 rfl Tryz.sizeOf29 rfl) rfl (w_q rfl (fun h' L' hh hR => ov_load_agg (vs := [_, _, _]) (hR _ (.tail _ (.tail _ (.head _)))) Tryz.underlying29 rfl size29 rfl rfl) rfl (w_q rfl (fun h' L' hh hR => ov_field_addr Tryz.underlying31 rfl Tryz.sizeOf29 rfl) rfl (w_q rfl (fun h' L' hh hR => ov_load_agg (vs := [_, _, _]) (hR _ (.tail _ (.head _))) Tryz.underlying29 rfl size29 rfl rfl) rfl (w_q rfl (fun h' L' hh hR => ov_field_addr Tryz.underlying31 rfl Tryz.sizeOf29 rfl) rfl (w_q rfl (fun h' L' hh hR => ov_load_agg (vs := [_, _, _]) (hR _ (.tail _ (.tail _ (.head _)))) Tryz.underlying29 rfl size29 rfl rfl) rfl (w_q rfl (fun h' L' hh hR => ov_field_addr Tryz.underlying31 rfl Tryz.sizeOf29 rfl) rfl (w_q rfl (fun h' L' hh hR => ov_load_agg (vs := [_, _, _]) (hR _ (.tail _ (.head _))) Tryz.underlying29 rfl size29 rfl rfl) rfl ?_))))))))
 refine w_c rfl ?_
 refine s_call (vs := [_, _]) Tryz.call52 ⟨rfl, rfl, trivial⟩ (fun w hs => rref_add hs hna0 hda0 hnb0 hdb0 (by omega) (by omega)) rfl ?_
 intro v9 h1 hh1 hr9
 obtain ⟨vn9, vd9, rfl, hn9, hd9⟩ := hr9
 have hlq9 := lq_add qa0 qb0
 refine w_c rfl ?_
 replace hna1 := hna1.mono hh1
 replace hda1 := hda1.mono hh1
 replace hnb1 := hnb1.mono hh1
 replace hdb1 := hdb1.mono hh1
 refine s_call (vs := [_, _]) Tryz.call52 ⟨rfl, rfl, trivial⟩ (fun w hs => rref_add hs hna1 hda1 hnb1 hdb1 (by omega) (by omega)) rfl ?_
 intro v14 h2 hh2 hr14
 obtain ⟨vn14, vd14, rfl, hn14, hd14⟩ := hr14
 have hlq14 := lq_add qa1 qb1
 refine w_q rfl (fun h' L' hh hR => ov_build_parts (ps' := [(0, _), (1, _)]) (vs := [vB ((qa0 + qb0).num < 0), vn9, vd9, vB ((qa1 + qb1).num < 0), vn14, vd14]) Tryz.underlying31 info31 rfl (places31 Tryz.underlying31) ⟨rfl, rfl, rfl, rfl, trivial⟩ (fill_one (A := []) (B := [_, _, _]) (C := [_, _, _]) (cs := [_, _, _]) (off := 0) (size := 3) rfl rfl rfl rfl rfl (fill_one (A := [_, _, _]) (B := [_, _, _]) (C := []) (cs := [_, _, _]) (off := 3) (size := 3) rfl rfl rfl rfl rfl fill_nil))) rfl ?_
 replace hn9 := hn9.mono hh2
 replace hd9 := hd9.mono hh2
 refine w_t_upd (A := []) (q' := .var b4 31 [vB ((qa0 + qb0).num < 0), vn9, vd9, vB ((qa1 + qb1).num < 0), vn14, vd14]) rfl (upd_store_var (k := 0) (cs := [_, _, _, _, _, _]) (vs := [_, _, _, _, _, _]) rfl rfl rfl (ocr rfl (ocu hn9 (ocu hd9 (ocr rfl (ocu hn14 (ocu hd14 oc0)))))) size31 (Nat.le_of_ble_eq_true rfl)) rfl (w_nil (gq_keep (e' := [(4, _)]) ⟨rfl, trivial⟩ (gq_then (gc_ret (gq_res (fun E S => run_res1 rfl (rv_agg (cs := [_, _, _, _, _, _]) (.head _) Tryz.underlying31 rfl size31 rfl) E S) ?_)))))
 exact ⟨_, rfl, _, _, _, rfl, hn9, hd9, _, _, _, rfl, hn14, hd14, rfl⟩

theorem span_neg {w0 : World} {h0 : Mem}  (hs : MLe h0 (mem w0)) {qa0 : Rat} {vna0 vda0 : Value} (hna0 : Us .u32 h0 vna0 (limbs qa0.num.natAbs)) (hda0 : Us .u32 h0 vda0 (limbs (denN qa0.den))) {qa1 : Rat} {vna1 vda1 : Value} (hna1 : Us .u32 h0 vna1 (limbs qa1.num.natAbs)) (hda1 : Us .u32 h0 vda1 (limbs (denN qa1.den))) (hqa0 : lq qa0 ≤ 100000000000) (hqa1 : lq qa1 ≤ 100000000000)    :
    Calls Tryz.prog 42 #[.agg #[vB (qa0.num < 0), vna0, vda0, vB (qa1.num < 0), vna1, vda1]] w0 (Ret w0 h0 (fun h r => IsRats h r [-qa1, -qa0])) := by
 have hq00 := lq_zero
 refine calls_begin (n := 10) (e := [(0, .agg #[vB (qa0.num < 0), vna0, vda0, vB (qa1.num < 0), vna1, vda1])]) (vs := [.agg #[vB (qa0.num < 0), vna0, vda0, vB (qa1.num < 0), vna1, vda1]]) Tryz.func42 rfl rfl (Nat.le_of_ble_eq_true rfl) hs ⟨rfl, trivial⟩ (gc_seq (gc_region (gl_newop (new_box (cs := [_, _, _, _, _, _]) rfl rfl) rfl rfl rfl ?_)))
 intro v1 r1 hr1
 obtain ⟨b1, rfl, rfl⟩ := hr1
 refine gl_newop (new_alloc (cs := [vB ((0 : Rat).num < 0), .slice none 0 0, .slice none 0 0, vB ((0 : Rat).num < 0), .slice none 0 0, .slice none 0 0]) info31 rfl (by simp only [zb]; rfl)) rfl rfl rfl ?_
 intro v2 r2 hr2
 obtain ⟨b2, rfl, rfl⟩ := hr2
 refine gl_nil (gq_then (gc_seq ?_))
 refine gc_draw 7 _ [] [(0, .q), (1, .q), (3, .q), (4, .q), (2, .c), (5, .c), (6, .q), (7, .t)] mixed (fun x hx => by cases hx) (by kernel_rfl) (fun x hx => by cases hx) (fun r hr => hr) (w_q rfl (fun h' L' hh hR => ov_field_addr Tryz.underlying31 rfl Tryz.sizeOf29 rfl) rfl (w_q rfl (fun h' L' hh hR => ov_load_agg (vs := [_, _, _]) (hR _ (.tail _ (.head _))) Tryz.underlying29 rfl size29 rfl rfl) rfl (w_q rfl (fun h' L' hh hR => ov_field_addr Tryz.underlying31 rfl Tryz.sizeOf29 rfl) rfl (w_q rfl (fun h' L' hh hR => ov_load_agg (vs := [_, _, _]) (hR _ (.tail _ (.head _))) Tryz.underlying29 rfl size29 rfl rfl) rfl ?_))))
 refine w_c rfl ?_
 refine s_call (vs := [_]) Tryz.call77 ⟨rfl, trivial⟩ (fun w hs => rat_neg hs hna1 hda1 (by first | omega | exact Nat.le_trans (lq_num _) (by omega)) (by first | omega | exact Nat.le_trans (lq_denL _) (by omega))) rfl ?_
 intro v5 h1 hh1 hr5
 obtain ⟨vn5, vd5, rfl, hn5, hd5⟩ := hr5
 have hlq5 := lq_neg qa1
 refine w_c rfl ?_
 replace hna0 := hna0.mono hh1
 replace hda0 := hda0.mono hh1
 refine s_call (vs := [_]) Tryz.call77 ⟨rfl, trivial⟩ (fun w hs => rat_neg hs hna0 hda0 (by first | omega | exact Nat.le_trans (lq_num _) (by omega)) (by first | omega | exact Nat.le_trans (lq_denL _) (by omega))) rfl ?_
 intro v8 h2 hh2 hr8
 obtain ⟨vn8, vd8, rfl, hn8, hd8⟩ := hr8
 have hlq8 := lq_neg qa0
 refine w_q rfl (fun h' L' hh hR => ov_build_parts (ps' := [(0, _), (1, _)]) (vs := [vB ((-qa1).num < 0), vn5, vd5, vB ((-qa0).num < 0), vn8, vd8]) Tryz.underlying31 info31 rfl (places31 Tryz.underlying31) ⟨rfl, rfl, rfl, rfl, trivial⟩ (fill_one (A := []) (B := [_, _, _]) (C := [_, _, _]) (cs := [_, _, _]) (off := 0) (size := 3) rfl rfl rfl rfl rfl (fill_one (A := [_, _, _]) (B := [_, _, _]) (C := []) (cs := [_, _, _]) (off := 3) (size := 3) rfl rfl rfl rfl rfl fill_nil))) rfl ?_
 replace hn5 := hn5.mono hh2
 replace hd5 := hd5.mono hh2
 refine w_t_upd (A := []) (q' := .var b2 31 [vB ((-qa1).num < 0), vn5, vd5, vB ((-qa0).num < 0), vn8, vd8]) rfl (upd_store_var (k := 0) (cs := [_, _, _, _, _, _]) (vs := [_, _, _, _, _, _]) rfl rfl rfl (ocr rfl (ocu hn5 (ocu hd5 (ocr rfl (ocu hn8 (ocu hd8 oc0)))))) size31 (Nat.le_of_ble_eq_true rfl)) rfl (w_nil (gq_then (gc_ret (gq_res (fun E S => run_res1 rfl (rv_agg (cs := [_, _, _, _, _, _]) (.head _) Tryz.underlying31 rfl size31 rfl) E S) ?_))))
 exact ⟨_, rfl, _, _, _, rfl, hn5, hd5, _, _, _, rfl, hn8, hd8, rfl⟩

theorem sref_neg {w0 : World} {h0 : Mem}  (hs : MLe h0 (mem w0)) {qa0 : Rat} {vna0 vda0 : Value} (hna0 : Us .u32 h0 vna0 (limbs qa0.num.natAbs)) (hda0 : Us .u32 h0 vda0 (limbs (denN qa0.den))) {qa1 : Rat} {vna1 vda1 : Value} (hna1 : Us .u32 h0 vna1 (limbs qa1.num.natAbs)) (hda1 : Us .u32 h0 vda1 (limbs (denN qa1.den))) (hqa0 : lq qa0 ≤ 100000000000) (hqa1 : lq qa1 ≤ 100000000000)    :
    Calls Tryz.prog 43 #[.agg #[vB (qa0.num < 0), vna0, vda0, vB (qa1.num < 0), vna1, vda1]] w0 (Ret w0 h0 (fun h r => IsRats h r [-qa1, -qa0])) := by
 have hq00 := lq_zero
 refine calls_begin (n := 10) (e := [(0, .agg #[vB (qa0.num < 0), vna0, vda0, vB (qa1.num < 0), vna1, vda1])]) (vs := [.agg #[vB (qa0.num < 0), vna0, vda0, vB (qa1.num < 0), vna1, vda1]]) Tryz.func43 rfl rfl (Nat.le_of_ble_eq_true rfl) hs ⟨rfl, trivial⟩ (gc_seq (gc_region (gl_newop (new_box (cs := [_, _, _, _, _, _]) rfl rfl) rfl rfl rfl ?_)))
 intro v1 r1 hr1
 obtain ⟨b1, rfl, rfl⟩ := hr1
 refine gl_newop (new_alloc (cs := [vB ((0 : Rat).num < 0), .slice none 0 0, .slice none 0 0, vB ((0 : Rat).num < 0), .slice none 0 0, .slice none 0 0]) info31 rfl (by simp only [zb]; rfl)) rfl rfl rfl ?_
 intro v2 r2 hr2
 obtain ⟨b2, rfl, rfl⟩ := hr2
 refine gl_nil (gq_then (gc_seq ?_))
 refine gc_draw 7 _ [] [(0, .q), (1, .q), (3, .q), (4, .q), (2, .c), (5, .c), (6, .q), (7, .t)] mixed (fun x hx => by cases hx) (by kernel_rfl) (fun x hx => by cases hx) (fun r hr => hr) (w_q rfl (fun h' L' hh hR => ov_field_addr Tryz.underlying31 rfl Tryz.sizeOf29 rfl) rfl (w_q rfl (fun h' L' hh hR => ov_load_agg (vs := [_, _, _]) (hR _ (.tail _ (.head _))) Tryz.underlying29 rfl size29 rfl rfl) rfl (w_q rfl (fun h' L' hh hR => ov_field_addr Tryz.underlying31 rfl Tryz.sizeOf29 rfl) rfl (w_q rfl (fun h' L' hh hR => ov_load_agg (vs := [_, _, _]) (hR _ (.tail _ (.head _))) Tryz.underlying29 rfl size29 rfl rfl) rfl ?_))))
 refine w_c rfl ?_
 refine s_call (vs := [_]) Tryz.call78 ⟨rfl, trivial⟩ (fun w hs => rref_neg hs hna1 hda1 (by omega)) rfl ?_
 intro v5 h1 hh1 hr5
 obtain ⟨vn5, vd5, rfl, hn5, hd5⟩ := hr5
 have hlq5 := lq_neg qa1
 refine w_c rfl ?_
 replace hna0 := hna0.mono hh1
 replace hda0 := hda0.mono hh1
 refine s_call (vs := [_]) Tryz.call78 ⟨rfl, trivial⟩ (fun w hs => rref_neg hs hna0 hda0 (by omega)) rfl ?_
 intro v8 h2 hh2 hr8
 obtain ⟨vn8, vd8, rfl, hn8, hd8⟩ := hr8
 have hlq8 := lq_neg qa0
 refine w_q rfl (fun h' L' hh hR => ov_build_parts (ps' := [(0, _), (1, _)]) (vs := [vB ((-qa1).num < 0), vn5, vd5, vB ((-qa0).num < 0), vn8, vd8]) Tryz.underlying31 info31 rfl (places31 Tryz.underlying31) ⟨rfl, rfl, rfl, rfl, trivial⟩ (fill_one (A := []) (B := [_, _, _]) (C := [_, _, _]) (cs := [_, _, _]) (off := 0) (size := 3) rfl rfl rfl rfl rfl (fill_one (A := [_, _, _]) (B := [_, _, _]) (C := []) (cs := [_, _, _]) (off := 3) (size := 3) rfl rfl rfl rfl rfl fill_nil))) rfl ?_
 replace hn5 := hn5.mono hh2
 replace hd5 := hd5.mono hh2
 refine w_t_upd (A := []) (q' := .var b2 31 [vB ((-qa1).num < 0), vn5, vd5, vB ((-qa0).num < 0), vn8, vd8]) rfl (upd_store_var (k := 0) (cs := [_, _, _, _, _, _]) (vs := [_, _, _, _, _, _]) rfl rfl rfl (ocr rfl (ocu hn5 (ocu hd5 (ocr rfl (ocu hn8 (ocu hd8 oc0)))))) size31 (Nat.le_of_ble_eq_true rfl)) rfl (w_nil (gq_then (gc_ret (gq_res (fun E S => run_res1 rfl (rv_agg (cs := [_, _, _, _, _, _]) (.head _) Tryz.underlying31 rfl size31 rfl) E S) ?_))))
 exact ⟨_, rfl, _, _, _, rfl, hn5, hd5, _, _, _, rfl, hn8, hd8, rfl⟩

theorem span_sub {w0 : World} {h0 : Mem}  (hs : MLe h0 (mem w0)) {qa0 : Rat} {vna0 vda0 : Value} (hna0 : Us .u32 h0 vna0 (limbs qa0.num.natAbs)) (hda0 : Us .u32 h0 vda0 (limbs (denN qa0.den))) {qa1 : Rat} {vna1 vda1 : Value} (hna1 : Us .u32 h0 vna1 (limbs qa1.num.natAbs)) (hda1 : Us .u32 h0 vda1 (limbs (denN qa1.den))) {qb0 : Rat} {vnb0 vdb0 : Value} (hnb0 : Us .u32 h0 vnb0 (limbs qb0.num.natAbs)) (hdb0 : Us .u32 h0 vdb0 (limbs (denN qb0.den))) {qb1 : Rat} {vnb1 vdb1 : Value} (hnb1 : Us .u32 h0 vnb1 (limbs qb1.num.natAbs)) (hdb1 : Us .u32 h0 vdb1 (limbs (denN qb1.den))) (hqa0 : lq qa0 ≤ 100000000000) (hqa1 : lq qa1 ≤ 100000000000) (hqb0 : lq qb0 ≤ 100000000000) (hqb1 : lq qb1 ≤ 100000000000)    :
    Calls Tryz.prog 40 #[.agg #[vB (qa0.num < 0), vna0, vda0, vB (qa1.num < 0), vna1, vda1], .agg #[vB (qb0.num < 0), vnb0, vdb0, vB (qb1.num < 0), vnb1, vdb1]] w0 (Ret w0 h0 (fun h r => IsRats h r [qa0 - qb1, qa1 - qb0])) := by
 have hq00 := lq_zero
 refine calls_begin (n := 16) (e := [(0, .agg #[vB (qa0.num < 0), vna0, vda0, vB (qa1.num < 0), vna1, vda1]), (1, .agg #[vB (qb0.num < 0), vnb0, vdb0, vB (qb1.num < 0), vnb1, vdb1])]) (vs := [.agg #[vB (qa0.num < 0), vna0, vda0, vB (qa1.num < 0), vna1, vda1], .agg #[vB (qb0.num < 0), vnb0, vdb0, vB (qb1.num < 0), vnb1, vdb1]]) Tryz.func40 rfl rfl (Nat.le_of_ble_eq_true rfl) hs ⟨rfl, rfl, trivial⟩ (gc_seq (gc_region (gl_newop (new_box (cs := [_, _, _, _, _, _]) rfl rfl) rfl rfl rfl ?_)))
 intro v2 r2 hr2
 obtain ⟨b2, rfl, rfl⟩ := hr2
 refine gl_newop (new_box (cs := [_, _, _, _, _, _]) rfl rfl) rfl rfl rfl ?_
 intro v3 r3 hr3
 obtain ⟨b3, rfl, rfl⟩ := hr3
 refine gl_newop (new_alloc (cs := [vB ((0 : Rat).num < 0), .slice none 0 0, .slice none 0 0, vB ((0 : Rat).num < 0), .slice none 0 0, .slice none 0 0]) info31 rfl (by simp only [zb]; rfl)) rfl rfl rfl ?_
 intro v4 r4 hr4
 obtain ⟨b4, rfl, rfl⟩ := hr4
 refine gl_nil (gq_then (gc_seq ?_))
 refine gc_draw 11 _ [] [(0, .q), (1, .q), (2, .q), (3, .q), (5, .q), (6, .q), (7, .q), (8, .q), (4, .c), (9, .c), (10, .q), (11, .t)] mixed (fun x hx => by cases hx) (by kernel_rfl) (fun x hx => by cases hx) (fun r hr => hr) (w_q rfl (fun h' L' hh hR => ov_field_addr Tryz.underlying31 rfl Tryz.sizeOf29 rfl) rfl (w_q rfl (fun h' L' hh hR => ov_load_agg (vs := [_, _, _]) (hR _ (.tail _ (.tail _ (.head _)))) Tryz.underlying29 rfl size29 rfl rfl) rfl (w_q rfl (fun h' L' hh hR => ov_field_addr Tryz.underlying31 rfl Tryz.sizeOf29 rfl) rfl (w_q rfl (fun h' L' hh hR => ov_load_agg (vs := [_, _, _]) (hR _ (.tail _ (.head _))) Tryz.underlying29 rfl size29 rfl rfl) rfl (w_q rfl (fun h' L' hh hR => ov_field_addr Tryz.underlying31 rfl Tryz.sizeOf29 rfl) rfl (w_q rfl (fun h' L' hh hR => ov_load_agg (vs := [_, _, _]) (hR _ (.tail _ (.tail _ (.head _)))) Tryz.underlying29 rfl size29 rfl rfl) rfl (w_q rfl (fun h' L' hh hR => ov_field_addr Tryz.underlying31 rfl Tryz.sizeOf29 rfl) rfl (w_q rfl (fun h' L' hh hR => ov_load_agg (vs := [_, _, _]) (hR _ (.tail _ (.head _))) Tryz.underlying29 rfl size29 rfl rfl) rfl ?_))))))))
 refine w_c rfl ?_
 refine s_call (vs := [_, _]) Tryz.call71 ⟨rfl, rfl, trivial⟩ (fun w hs => rat_sub hs hna0 hda0 hnb1 hdb1 (by omega) (by omega)) rfl ?_
 intro v9 h1 hh1 hr9
 obtain ⟨vn9, vd9, rfl, hn9, hd9⟩ := hr9
 have hlq9 := lq_sub qa0 qb1
 refine w_c rfl ?_
 replace hna1 := hna1.mono hh1
 replace hda1 := hda1.mono hh1
 replace hnb0 := hnb0.mono hh1
 replace hdb0 := hdb0.mono hh1
 refine s_call (vs := [_, _]) Tryz.call71 ⟨rfl, rfl, trivial⟩ (fun w hs => rat_sub hs hna1 hda1 hnb0 hdb0 (by omega) (by omega)) rfl ?_
 intro v14 h2 hh2 hr14
 obtain ⟨vn14, vd14, rfl, hn14, hd14⟩ := hr14
 have hlq14 := lq_sub qa1 qb0
 refine w_q rfl (fun h' L' hh hR => ov_build_parts (ps' := [(0, _), (1, _)]) (vs := [vB ((qa0 - qb1).num < 0), vn9, vd9, vB ((qa1 - qb0).num < 0), vn14, vd14]) Tryz.underlying31 info31 rfl (places31 Tryz.underlying31) ⟨rfl, rfl, rfl, rfl, trivial⟩ (fill_one (A := []) (B := [_, _, _]) (C := [_, _, _]) (cs := [_, _, _]) (off := 0) (size := 3) rfl rfl rfl rfl rfl (fill_one (A := [_, _, _]) (B := [_, _, _]) (C := []) (cs := [_, _, _]) (off := 3) (size := 3) rfl rfl rfl rfl rfl fill_nil))) rfl ?_
 replace hn9 := hn9.mono hh2
 replace hd9 := hd9.mono hh2
 refine w_t_upd (A := []) (q' := .var b4 31 [vB ((qa0 - qb1).num < 0), vn9, vd9, vB ((qa1 - qb0).num < 0), vn14, vd14]) rfl (upd_store_var (k := 0) (cs := [_, _, _, _, _, _]) (vs := [_, _, _, _, _, _]) rfl rfl rfl (ocr rfl (ocu hn9 (ocu hd9 (ocr rfl (ocu hn14 (ocu hd14 oc0)))))) size31 (Nat.le_of_ble_eq_true rfl)) rfl (w_nil (gq_keep (e' := [(4, _)]) ⟨rfl, trivial⟩ (gq_then (gc_ret (gq_res (fun E S => run_res1 rfl (rv_agg (cs := [_, _, _, _, _, _]) (.head _) Tryz.underlying31 rfl size31 rfl) E S) ?_)))))
 exact ⟨_, rfl, _, _, _, rfl, hn9, hd9, _, _, _, rfl, hn14, hd14, rfl⟩

theorem sref_sub {w0 : World} {h0 : Mem}  (hs : MLe h0 (mem w0)) {qa0 : Rat} {vna0 vda0 : Value} (hna0 : Us .u32 h0 vna0 (limbs qa0.num.natAbs)) (hda0 : Us .u32 h0 vda0 (limbs (denN qa0.den))) {qa1 : Rat} {vna1 vda1 : Value} (hna1 : Us .u32 h0 vna1 (limbs qa1.num.natAbs)) (hda1 : Us .u32 h0 vda1 (limbs (denN qa1.den))) {qb0 : Rat} {vnb0 vdb0 : Value} (hnb0 : Us .u32 h0 vnb0 (limbs qb0.num.natAbs)) (hdb0 : Us .u32 h0 vdb0 (limbs (denN qb0.den))) {qb1 : Rat} {vnb1 vdb1 : Value} (hnb1 : Us .u32 h0 vnb1 (limbs qb1.num.natAbs)) (hdb1 : Us .u32 h0 vdb1 (limbs (denN qb1.den))) (hqa0 : lq qa0 ≤ 100000000000) (hqa1 : lq qa1 ≤ 100000000000) (hqb0 : lq qb0 ≤ 100000000000) (hqb1 : lq qb1 ≤ 100000000000)    :
    Calls Tryz.prog 41 #[.agg #[vB (qa0.num < 0), vna0, vda0, vB (qa1.num < 0), vna1, vda1], .agg #[vB (qb0.num < 0), vnb0, vdb0, vB (qb1.num < 0), vnb1, vdb1]] w0 (Ret w0 h0 (fun h r => IsRats h r [qa0 - qb1, qa1 - qb0])) := by
 have hq00 := lq_zero
 refine calls_begin (n := 9) (e := [(0, .agg #[vB (qa0.num < 0), vna0, vda0, vB (qa1.num < 0), vna1, vda1]), (1, .agg #[vB (qb0.num < 0), vnb0, vdb0, vB (qb1.num < 0), vnb1, vdb1])]) (vs := [.agg #[vB (qa0.num < 0), vna0, vda0, vB (qa1.num < 0), vna1, vda1], .agg #[vB (qb0.num < 0), vnb0, vdb0, vB (qb1.num < 0), vnb1, vdb1]]) Tryz.func41 rfl rfl (Nat.le_of_ble_eq_true rfl) hs ⟨rfl, rfl, trivial⟩ (gc_seq (gc_region (gl_newop (new_box (cs := [_, _, _, _, _, _]) rfl rfl) rfl rfl rfl ?_)))
 intro v2 r2 hr2
 obtain ⟨b2, rfl, rfl⟩ := hr2
 refine gl_newop (new_box (cs := [_, _, _, _, _, _]) rfl rfl) rfl rfl rfl ?_
 intro v3 r3 hr3
 obtain ⟨b3, rfl, rfl⟩ := hr3
 refine gl_newop (new_alloc (cs := [vB ((0 : Rat).num < 0), .slice none 0 0, .slice none 0 0, vB ((0 : Rat).num < 0), .slice none 0 0, .slice none 0 0]) info31 rfl (by simp only [zb]; rfl)) rfl rfl rfl ?_
 intro v4 r4 hr4
 obtain ⟨b4, rfl, rfl⟩ := hr4
 refine gl_nil (gq_then (gc_seq ?_))
 refine gc_draw 4 _ [] [(0, .q), (1, .q), (2, .c), (3, .c), (4, .t)] mixed (fun x hx => by cases hx) (by kernel_rfl) (fun x hx => by cases hx) (fun r hr => hr) (w_q rfl (fun h' L' hh hR => ov_load_agg (vs := [_, _, _, _, _, _]) (hR _ (.tail _ (.tail _ (.head _)))) Tryz.underlying31 rfl size31 rfl rfl) rfl (w_q rfl (fun h' L' hh hR => ov_load_agg (vs := [_, _, _, _, _, _]) (hR _ (.tail _ (.head _))) Tryz.underlying31 rfl size31 rfl rfl) rfl ?_))
 refine w_c rfl ?_
 refine s_call (vs := [_]) Tryz.call43 ⟨rfl, trivial⟩ (fun w hs => sref_neg hs hnb0 hdb0 hnb1 hdb1 (by omega) (by omega)) rfl ?_
 intro v7 h1 hh1 hr7
 have hlq7_0 := lq_neg qb1
 have hlq7_1 := lq_neg qb0
 obtain ⟨_, rfl, vn7_0, vd7_0, _, rfl, hn7_0, hd7_0, vn7_1, vd7_1, _, rfl, hn7_1, hd7_1, rfl⟩ := hr7
 refine w_c rfl ?_
 replace hna0 := hna0.mono hh1
 replace hda0 := hda0.mono hh1
 replace hna1 := hna1.mono hh1
 replace hda1 := hda1.mono hh1
 refine s_call (vs := [_, _]) Tryz.call39 ⟨rfl, rfl, trivial⟩ (fun w hs => sref_add hs hna0 hda0 hna1 hda1 hn7_0 hd7_0 hn7_1 hd7_1 (by omega) (by omega) (by omega) (by omega)) rfl ?_
 intro v8 h2 hh2 hr8
 have hlq8_0 := lq_add qa0 (-qb1)
 have hlq8_1 := lq_add qa1 (-qb0)
 obtain ⟨_, rfl, vn8_0, vd8_0, _, rfl, hn8_0, hd8_0, vn8_1, vd8_1, _, rfl, hn8_1, hd8_1, rfl⟩ := hr8
 refine w_t_upd (A := []) (q' := .var b4 31 [vB ((qa0 + (-qb1)).num < 0), vn8_0, vd8_0, vB ((qa1 + (-qb0)).num < 0), vn8_1, vd8_1]) rfl (upd_store_var (k := 0) (cs := [_, _, _, _, _, _]) (vs := [_, _, _, _, _, _]) rfl rfl rfl (ocr rfl (ocu hn8_0 (ocu hd8_0 (ocr rfl (ocu hn8_1 (ocu hd8_1 oc0)))))) size31 (Nat.le_of_ble_eq_true rfl)) rfl (w_nil (gq_then (gc_ret (gq_res (fun E S => run_res1 rfl (rv_agg (cs := [_, _, _, _, _, _]) (.head _) Tryz.underlying31 rfl size31 rfl) E S) ?_))))
 rw [← Rat.sub_eq_add_neg] at hn8_0 hd8_0
 rw [← Rat.sub_eq_add_neg] at hn8_1 hd8_1
 rw [← Rat.sub_eq_add_neg, ← Rat.sub_eq_add_neg]
 exact ⟨_, rfl, _, _, _, rfl, hn8_0, hd8_0, _, _, _, rfl, hn8_1, hd8_1, rfl⟩

theorem span_mul {w0 : World} {h0 : Mem}  (hs : MLe h0 (mem w0)) {qa0 : Rat} {vna0 vda0 : Value} (hna0 : Us .u32 h0 vna0 (limbs qa0.num.natAbs)) (hda0 : Us .u32 h0 vda0 (limbs (denN qa0.den))) {qa1 : Rat} {vna1 vda1 : Value} (hna1 : Us .u32 h0 vna1 (limbs qa1.num.natAbs)) (hda1 : Us .u32 h0 vda1 (limbs (denN qa1.den))) {qb0 : Rat} {vnb0 vdb0 : Value} (hnb0 : Us .u32 h0 vnb0 (limbs qb0.num.natAbs)) (hdb0 : Us .u32 h0 vdb0 (limbs (denN qb0.den))) {qb1 : Rat} {vnb1 vdb1 : Value} (hnb1 : Us .u32 h0 vnb1 (limbs qb1.num.natAbs)) (hdb1 : Us .u32 h0 vdb1 (limbs (denN qb1.den))) (hqa0 : lq qa0 ≤ 10000000000) (hqa1 : lq qa1 ≤ 10000000000) (hqb0 : lq qb0 ≤ 10000000000) (hqb1 : lq qb1 ≤ 10000000000)    :
    Calls Tryz.prog 44 #[.agg #[vB (qa0.num < 0), vna0, vda0, vB (qa1.num < 0), vna1, vda1], .agg #[vB (qb0.num < 0), vnb0, vdb0, vB (qb1.num < 0), vnb1, vdb1]] w0 (Ret w0 h0 (fun h r => IsRats h r [mulLo qa0 qa1 qb0 qb1, mulHi qa0 qa1 qb0 qb1])) := by
 have hq00 := lq_zero
 refine calls_begin (n := 43) (e := [(0, .agg #[vB (qa0.num < 0), vna0, vda0, vB (qa1.num < 0), vna1, vda1]), (1, .agg #[vB (qb0.num < 0), vnb0, vdb0, vB (qb1.num < 0), vnb1, vdb1])]) (vs := [.agg #[vB (qa0.num < 0), vna0, vda0, vB (qa1.num < 0), vna1, vda1], .agg #[vB (qb0.num < 0), vnb0, vdb0, vB (qb1.num < 0), vnb1, vdb1]]) Tryz.func44 rfl rfl (Nat.le_of_ble_eq_true rfl) hs ⟨rfl, rfl, trivial⟩ (gc_seq (gc_region (gl_newop (new_box (cs := [_, _, _, _, _, _]) rfl rfl) rfl rfl rfl ?_)))
 intro v2 r2 hr2
 obtain ⟨b2, rfl, rfl⟩ := hr2
 refine gl_newop (new_box (cs := [_, _, _, _, _, _]) rfl rfl) rfl rfl rfl ?_
 intro v3 r3 hr3
 obtain ⟨b3, rfl, rfl⟩ := hr3
 refine gl_newop (new_alloc (cs := [vB ((0 : Rat).num < 0), .slice none 0 0, .slice none 0 0, vB ((0 : Rat).num < 0), .slice none 0 0, .slice none 0 0]) info31 rfl (by simp only [zb]; rfl)) rfl rfl rfl ?_
 intro v4 r4 hr4
 obtain ⟨b4, rfl, rfl⟩ := hr4
 refine gl_nil (gq_then (gc_seq (gc_region (gv (ov_field_addr Tryz.underlying31 rfl Tryz.sizeOf29 rfl) rfl (gv (ov_load_agg (vs := [_, _, _]) (.tail _ (.tail _ (.head _))) Tryz.underlying29 rfl size29 rfl rfl) rfl (gv (ov_field_addr Tryz.underlying31 rfl Tryz.sizeOf29 rfl) rfl (gv (ov_load_agg (vs := [_, _, _]) (.tail _ (.head _)) Tryz.underlying29 rfl size29 rfl rfl) rfl ?_)))))))
 refine gl_call (vs := [_, _]) rfl rfl rfl rfl Tryz.call79 ⟨rfl, rfl, trivial⟩ (fun w hs => rat_mul hs hna0 hda0 hnb0 hdb0 (by omega) (by omega)) ?_
 intro v12 h1 hh1 hr12
 obtain ⟨vn12, vd12, rfl, hn12, hd12⟩ := hr12
 have hlq12 := lq_mul qa0 qb0
 refine gl_call (vs := [_]) rfl rfl rfl rfl Tryz.call34 ⟨rfl, trivial⟩ (fun w hs => span_point hs hn12 hd12 (by omega)) ?_
 intro v13 h2 hh2 hr13
 obtain ⟨_, rfl, vn13_0, vd13_0, _, rfl, hn13_0, hd13_0, vn13_1, vd13_1, _, rfl, hn13_1, hd13_1, rfl⟩ := hr13
 refine gl_newop (new_alloc (cs := [vB ((0 : Rat).num < 0), .slice none 0 0, .slice none 0 0, vB ((0 : Rat).num < 0), .slice none 0 0, .slice none 0 0]) info31 rfl (by simp only [zb]; rfl)) rfl rfl rfl ?_
 intro v5 r5 hr5
 obtain ⟨b5, rfl, rfl⟩ := hr5
 refine gl_upd (A := []) (r' := .var b5 31 [vB (((qa0 * qb0)).num < 0), vn13_0, vd13_0, vB (((qa0 * qb0)).num < 0), vn13_1, vd13_1]) (upd_store_var (k := 0) (cs := [_, _, _, _, _, _]) (vs := [_, _, _, _, _, _]) rfl rfl rfl (ocr rfl (ocu hn13_0 (ocu hd13_0 (ocr rfl (ocu hn13_1 (ocu hd13_1 oc0)))))) size31 (Nat.le_of_ble_eq_true rfl)) rfl rfl rfl (gl_nil (gq_then (gc_seq (gc_seq (gc_region (gv (ov_field_addr Tryz.underlying31 rfl Tryz.sizeOf29 rfl) rfl (gv (ov_load_agg (vs := [_, _, _]) (.tail _ (.tail _ (.tail _ (.head _)))) Tryz.underlying29 rfl size29 rfl rfl) rfl (gv (ov_field_addr Tryz.underlying31 rfl Tryz.sizeOf29 rfl) rfl (gv (ov_load_agg (vs := [_, _, _]) (.tail _ (.tail _ (.head _))) Tryz.underlying29 rfl size29 rfl rfl) rfl (gv (ov_build_arr (sz := 3) (ps' := [(0, _), (1, _)]) (vs := [vB (qa0.num < 0), vna0, vda0, vB (qb1.num < 0), vnb1, vdb1]) Tryz.underlying73 info73 rfl Tryz.sizeOf29 ⟨rfl, rfl, rfl, rfl, trivial⟩ (fill_one (A := []) (B := [_, _, _]) (C := [_, _, _]) (cs := [_, _, _]) (off := 0) (size := 3) rfl rfl rfl rfl rfl (fill_one (A := [_, _, _]) (B := [_, _, _]) (C := []) (cs := [_, _, _]) (off := 3) (size := 3) rfl rfl rfl rfl rfl fill_nil))) rfl (gv (ov_field_addr Tryz.underlying31 rfl Tryz.sizeOf29 rfl) rfl (gv (ov_load_agg (vs := [_, _, _]) (.tail _ (.tail _ (.tail _ (.head _)))) Tryz.underlying29 rfl size29 rfl rfl) rfl (gv (ov_field_addr Tryz.underlying31 rfl Tryz.sizeOf29 rfl) rfl ?_)))))))))))))
 refine gv (ov_load_agg (vs := [_, _, _]) (.tail _ (.tail _ (.head _))) Tryz.underlying29 rfl size29 rfl rfl) rfl (gv (ov_build_arr (sz := 3) (ps' := [(0, _), (1, _)]) (vs := [vB (qa1.num < 0), vna1, vda1, vB (qb0.num < 0), vnb0, vdb0]) Tryz.underlying73 info73 rfl Tryz.sizeOf29 ⟨rfl, rfl, rfl, rfl, trivial⟩ (fill_one (A := []) (B := [_, _, _]) (C := [_, _, _]) (cs := [_, _, _]) (off := 0) (size := 3) rfl rfl rfl rfl rfl (fill_one (A := [_, _, _]) (B := [_, _, _]) (C := []) (cs := [_, _, _]) (off := 3) (size := 3) rfl rfl rfl rfl rfl fill_nil))) rfl (gv (ov_field_addr Tryz.underlying31 rfl Tryz.sizeOf29 rfl) rfl (gv (ov_load_agg (vs := [_, _, _]) (.tail _ (.tail _ (.tail _ (.head _)))) Tryz.underlying29 rfl size29 rfl rfl) rfl (gv (ov_field_addr Tryz.underlying31 rfl Tryz.sizeOf29 rfl) rfl (gv (ov_load_agg (vs := [_, _, _]) (.tail _ (.tail _ (.head _))) Tryz.underlying29 rfl size29 rfl rfl) rfl (gv (ov_build_arr (sz := 3) (ps' := [(0, _), (1, _)]) (vs := [vB (qa1.num < 0), vna1, vda1, vB (qb1.num < 0), vnb1, vdb1]) Tryz.underlying73 info73 rfl Tryz.sizeOf29 ⟨rfl, rfl, rfl, rfl, trivial⟩ (fill_one (A := []) (B := [_, _, _]) (C := [_, _, _]) (cs := [_, _, _]) (off := 0) (size := 3) rfl rfl rfl rfl rfl (fill_one (A := [_, _, _]) (B := [_, _, _]) (C := []) (cs := [_, _, _]) (off := 3) (size := 3) rfl rfl rfl rfl rfl fill_nil))) rfl (gv (ov_build_arr (sz := 6) (ps' := [(0, _), (1, _), (2, _)]) (vs := [vB (qa0.num < 0), vna0, vda0, vB (qb1.num < 0), vnb1, vdb1, vB (qa1.num < 0), vna1, vda1, vB (qb0.num < 0), vnb0, vdb0, vB (qa1.num < 0), vna1, vda1, vB (qb1.num < 0), vnb1, vdb1]) Tryz.underlying74 info74 rfl Tryz.sizeOf73 ⟨rfl, rfl, rfl, rfl, rfl, rfl, trivial⟩ (fill_one (A := []) (B := [_, _, _, _, _, _]) (C := [_, _, _, _, _, _, _, _, _, _, _, _]) (cs := [_, _, _, _, _, _]) (off := 0) (size := 6) rfl rfl rfl rfl rfl (fill_one (A := [_, _, _, _, _, _]) (B := [_, _, _, _, _, _]) (C := [_, _, _, _, _, _]) (cs := [_, _, _, _, _, _]) (off := 6) (size := 6) rfl rfl rfl rfl rfl (fill_one (A := [_, _, _, _, _, _, _, _, _, _, _, _]) (B := [_, _, _, _, _, _]) (C := []) (cs := [_, _, _, _, _, _]) (off := 12) (size := 6) rfl rfl rfl rfl rfl fill_nil)))) rfl (mv (v := vI (0)) rfl rfl (gl_nil (gq_keep (e' := [(4, _), (5, _), (29, _), (30, _)]) ⟨rfl, rfl, rfl, rfl, trivial⟩ (gq_then (gc_block (gc_loop1 ?_)))))))))))))
 refine gc_seq (gc_region (gv (OpV.tr (by decide) (ov_lss_i (q := 3) rfl rfl)) rfl (gl_nil (gq_then (gc_seq (gc_cond_t rfl (gc_skip (gq_then (gc_seq (gc_block (gc_seq (gc_region (gv (ov_index_agg (cs := [_, _, _, _, _, _, _, _, _, _, _, _, _, _, _, _, _, _]) (v := .agg #[_, _, _, _, _, _]) 0 Tryz.underlying74 Tryz.sizeOf73 rfl rfl rfl (by decide) (part_agg Tryz.underlying73 rfl Tryz.sizeOf73 rfl)) rfl ?_)))))))))))))
 refine gl_newop (new_alloc (cs := [vB ((0 : Rat).num < 0), .slice none 0 0, .slice none 0 0, vB ((0 : Rat).num < 0), .slice none 0 0, .slice none 0 0]) info73 rfl (by simp only [zb]; rfl)) rfl rfl rfl ?_
 intro v7u1 r7u1 hr7u1
 obtain ⟨b7u1, rfl, rfl⟩ := hr7u1
 replace hna0 := hna0.mono (hh1.trans hh2)
 replace hda0 := hda0.mono (hh1.trans hh2)
 replace hnb1 := hnb1.mono (hh1.trans hh2)
 replace hdb1 := hdb1.mono (hh1.trans hh2)
 refine gl_upd (A := []) (r' := .var b7u1 73 [vB (qa0.num < 0), vna0, vda0, vB (qb1.num < 0), vnb1, vdb1]) (upd_store_var (k := 0) (cs := [_, _, _, _, _, _]) (vs := [_, _, _, _, _, _]) rfl rfl rfl (ocr rfl (ocu hna0 (ocu hda0 (ocr rfl (ocu hnb1 (ocu hdb1 oc0)))))) size73 (Nat.le_of_ble_eq_true rfl)) rfl rfl rfl (gl_nil (gq_then ?_))
 refine gc_draw 8 _ [] [(0, .q), (1, .q), (2, .q), (3, .q), (4, .q), (5, .c), (6, .c), (7, .c), (8, .t)] mixed (fun x hx => by cases hx) (by kernel_rfl) (fun x hx => by cases hx) (fun r hr => hr) (w_q rfl (fun h' L' hh hR => ov_load_agg (vs := [_, _, _, _, _, _]) (hR _ (.tail _ (.head _))) Tryz.underlying31 rfl size31 rfl rfl) rfl (w_q rfl (fun h' L' hh hR => (ov_index_arr (sz := 3) 0 Tryz.underlying73 Tryz.sizeOf29 rfl rfl rfl (by decide)).cv (show _ = vP b7u1 0 from rfl)) rfl (w_q rfl (fun h' L' hh hR => ov_load_agg (vs := [_, _, _]) (hR _ (.head _)) Tryz.underlying29 rfl size29 rfl rfl) rfl (w_q rfl (fun h' L' hh hR => (ov_index_arr (sz := 3) 1 Tryz.underlying73 Tryz.sizeOf29 rfl rfl rfl (by decide)).cv (show _ = vP b7u1 3 from rfl)) rfl (w_q rfl (fun h' L' hh hR => ov_load_agg (vs := [_, _, _]) (hR _ (.head _)) Tryz.underlying29 rfl size29 rfl rfl) rfl ?_)))))
 refine w_c rfl ?_
 refine s_call (vs := [_, _]) Tryz.call79 ⟨rfl, rfl, trivial⟩ (fun w hs => rat_mul hs hna0 hda0 hnb1 hdb1 (by omega) (by omega)) rfl ?_
 intro v38u1 h3 hh3 hr38u1
 obtain ⟨vn38u1, vd38u1, rfl, hn38u1, hd38u1⟩ := hr38u1
 have hlq38u1 := lq_mul qa0 qb1
 refine w_c rfl ?_
 refine s_call (vs := [_]) Tryz.call34 ⟨rfl, trivial⟩ (fun w hs => span_point hs hn38u1 hd38u1 (by omega)) rfl ?_
 intro v39u1 h4 hh4 hr39u1
 obtain ⟨_, rfl, vn39u1_0, vd39u1_0, _, rfl, hn39u1_0, hd39u1_0, vn39u1_1, vd39u1_1, _, rfl, hn39u1_1, hd39u1_1, rfl⟩ := hr39u1
 refine w_c rfl ?_
 replace hn13_0 := hn13_0.mono (hh3.trans hh4)
 replace hd13_0 := hd13_0.mono (hh3.trans hh4)
 replace hn13_1 := hn13_1.mono (hh3.trans hh4)
 replace hd13_1 := hd13_1.mono (hh3.trans hh4)
 refine s_call (vs := [_, _]) Tryz.call21 ⟨rfl, rfl, trivial⟩ (fun w hs => span_hull hs hn13_0 hd13_0 hn13_1 hd13_1 hn39u1_0 hd39u1_0 hn39u1_1 hd39u1_1 (by omega) (by omega) (by omega) (by omega)) rfl ?_
 intro v40u1 h5 hh5 hr40u1
 have hlq40u1_0 := lq_min ((qa0 * qb0)) ((qa0 * qb1))
 have hlq40u1_1 := lq_max ((qa0 * qb0)) ((qa0 * qb1))
 obtain ⟨_, rfl, vn40u1_0, vd40u1_0, _, rfl, hn40u1_0, hd40u1_0, vn40u1_1, vd40u1_1, _, rfl, hn40u1_1, hd40u1_1, rfl⟩ := hr40u1
 refine w_t_upd (A := [_]) (q' := .var b5 31 [vB ((minQ ((qa0 * qb0)) ((qa0 * qb1))).num < 0), vn40u1_0, vd40u1_0, vB ((maxQ ((qa0 * qb0)) ((qa0 * qb1))).num < 0), vn40u1_1, vd40u1_1]) rfl (upd_store_var (k := 0) (cs := [_, _, _, _, _, _]) (vs := [_, _, _, _, _, _]) rfl rfl rfl (ocr rfl (ocu hn40u1_0 (ocu hd40u1_0 (ocr rfl (ocu hn40u1_1 (ocu hd40u1_1 oc0)))))) size31 (Nat.le_of_ble_eq_true rfl)) rfl (w_nil (gq_in (gq_keep (e' := [(4, _), (5, _), (29, _), (30, _)]) ⟨rfl, rfl, rfl, rfl, trivial⟩ (gq_then (gc_region (gv ((ov_add_i (q := 1) rfl rfl (by omega) (by omega)).cv (show _ = vI (1) from rfl)) rfl (mv rfl rfl (gl_nil (gq_loop1 (gc_seq (gc_region (gv (OpV.tr (by decide) (ov_lss_i (q := 3) rfl rfl)) rfl (gl_nil ?_)))))))))))))
 refine gq_then (gc_seq (gc_cond_t rfl (gc_skip (gq_then (gc_seq (gc_block (gc_seq (gc_region (gv (ov_index_agg (cs := [_, _, _, _, _, _, _, _, _, _, _, _, _, _, _, _, _, _]) (v := .agg #[_, _, _, _, _, _]) 1 Tryz.underlying74 Tryz.sizeOf73 rfl rfl rfl (by decide) (part_agg Tryz.underlying73 rfl Tryz.sizeOf73 rfl)) rfl (gl_newop (new_alloc (cs := [vB ((0 : Rat).num < 0), .slice none 0 0, .slice none 0 0, vB ((0 : Rat).num < 0), .slice none 0 0, .slice none 0 0]) info73 rfl (by simp only [zb]; rfl)) rfl rfl rfl ?_))))))))))
 intro v7u2 r7u2 hr7u2
 obtain ⟨b7u2, rfl, rfl⟩ := hr7u2
 replace hna1 := hna1.mono ((((hh1.trans hh2).trans hh3).trans hh4).trans hh5)
 replace hda1 := hda1.mono ((((hh1.trans hh2).trans hh3).trans hh4).trans hh5)
 replace hnb0 := hnb0.mono ((((hh1.trans hh2).trans hh3).trans hh4).trans hh5)
 replace hdb0 := hdb0.mono ((((hh1.trans hh2).trans hh3).trans hh4).trans hh5)
 refine gl_upd (A := []) (r' := .var b7u2 73 [vB (qa1.num < 0), vna1, vda1, vB (qb0.num < 0), vnb0, vdb0]) (upd_store_var (k := 0) (cs := [_, _, _, _, _, _]) (vs := [_, _, _, _, _, _]) rfl rfl rfl (ocr rfl (ocu hna1 (ocu hda1 (ocr rfl (ocu hnb0 (ocu hdb0 oc0)))))) size73 (Nat.le_of_ble_eq_true rfl)) rfl rfl rfl (gl_nil (gq_then ?_))
 refine gc_draw 8 _ [] [(0, .q), (1, .q), (2, .q), (3, .q), (4, .q), (5, .c), (6, .c), (7, .c), (8, .t)] mixed (fun x hx => by cases hx) (by kernel_rfl) (fun x hx => by cases hx) (fun r hr => hr) (w_q rfl (fun h' L' hh hR => ov_load_agg (vs := [_, _, _, _, _, _]) (hR _ (.tail _ (.tail _ (.head _)))) Tryz.underlying31 rfl size31 rfl rfl) rfl (w_q rfl (fun h' L' hh hR => (ov_index_arr (sz := 3) 0 Tryz.underlying73 Tryz.sizeOf29 rfl rfl rfl (by decide)).cv (show _ = vP b7u2 0 from rfl)) rfl (w_q rfl (fun h' L' hh hR => ov_load_agg (vs := [_, _, _]) (hR _ (.head _)) Tryz.underlying29 rfl size29 rfl rfl) rfl (w_q rfl (fun h' L' hh hR => (ov_index_arr (sz := 3) 1 Tryz.underlying73 Tryz.sizeOf29 rfl rfl rfl (by decide)).cv (show _ = vP b7u2 3 from rfl)) rfl (w_q rfl (fun h' L' hh hR => ov_load_agg (vs := [_, _, _]) (hR _ (.head _)) Tryz.underlying29 rfl size29 rfl rfl) rfl ?_)))))
 refine w_c rfl ?_
 refine s_call (vs := [_, _]) Tryz.call79 ⟨rfl, rfl, trivial⟩ (fun w hs => rat_mul hs hna1 hda1 hnb0 hdb0 (by omega) (by omega)) rfl ?_
 intro v38u2 h6 hh6 hr38u2
 obtain ⟨vn38u2, vd38u2, rfl, hn38u2, hd38u2⟩ := hr38u2
 have hlq38u2 := lq_mul qa1 qb0
 refine w_c rfl ?_
 refine s_call (vs := [_]) Tryz.call34 ⟨rfl, trivial⟩ (fun w hs => span_point hs hn38u2 hd38u2 (by omega)) rfl ?_
 intro v39u2 h7 hh7 hr39u2
 obtain ⟨_, rfl, vn39u2_0, vd39u2_0, _, rfl, hn39u2_0, hd39u2_0, vn39u2_1, vd39u2_1, _, rfl, hn39u2_1, hd39u2_1, rfl⟩ := hr39u2
 refine w_c rfl ?_
 replace hn40u1_0 := hn40u1_0.mono (hh6.trans hh7)
 replace hd40u1_0 := hd40u1_0.mono (hh6.trans hh7)
 replace hn40u1_1 := hn40u1_1.mono (hh6.trans hh7)
 replace hd40u1_1 := hd40u1_1.mono (hh6.trans hh7)
 refine s_call (vs := [_, _]) Tryz.call21 ⟨rfl, rfl, trivial⟩ (fun w hs => span_hull hs hn40u1_0 hd40u1_0 hn40u1_1 hd40u1_1 hn39u2_0 hd39u2_0 hn39u2_1 hd39u2_1 (by omega) (by omega) (by omega) (by omega)) rfl ?_
 intro v40u2 h8 hh8 hr40u2
 have hlq40u2_0 := lq_min (minQ ((qa0 * qb0)) ((qa0 * qb1))) ((qa1 * qb0))
 have hlq40u2_1 := lq_max (maxQ ((qa0 * qb0)) ((qa0 * qb1))) ((qa1 * qb0))
 obtain ⟨_, rfl, vn40u2_0, vd40u2_0, _, rfl, hn40u2_0, hd40u2_0, vn40u2_1, vd40u2_1, _, rfl, hn40u2_1, hd40u2_1, rfl⟩ := hr40u2
 refine w_t_upd (A := [_, _]) (q' := .var b5 31 [vB ((minQ (minQ ((qa0 * qb0)) ((qa0 * qb1))) ((qa1 * qb0))).num < 0), vn40u2_0, vd40u2_0, vB ((maxQ (maxQ ((qa0 * qb0)) ((qa0 * qb1))) ((qa1 * qb0))).num < 0), vn40u2_1, vd40u2_1]) rfl (upd_store_var (k := 0) (cs := [_, _, _, _, _, _]) (vs := [_, _, _, _, _, _]) rfl rfl rfl (ocr rfl (ocu hn40u2_0 (ocu hd40u2_0 (ocr rfl (ocu hn40u2_1 (ocu hd40u2_1 oc0)))))) size31 (Nat.le_of_ble_eq_true rfl)) rfl (w_nil (gq_in (gq_keep (e' := [(4, _), (5, _), (29, _), (30, _)]) ⟨rfl, rfl, rfl, rfl, trivial⟩ (gq_then (gc_region (gv ((ov_add_i (q := 1) rfl rfl (by omega) (by omega)).cv (show _ = vI (2) from rfl)) rfl (mv rfl rfl (gl_nil (gq_loop1 (gc_seq (gc_region (gv (OpV.tr (by decide) (ov_lss_i (q := 3) rfl rfl)) rfl (gl_nil ?_)))))))))))))
 refine gq_then (gc_seq (gc_cond_t rfl (gc_skip (gq_then (gc_seq (gc_block (gc_seq (gc_region (gv (ov_index_agg (cs := [_, _, _, _, _, _, _, _, _, _, _, _, _, _, _, _, _, _]) (v := .agg #[_, _, _, _, _, _]) 2 Tryz.underlying74 Tryz.sizeOf73 rfl rfl rfl (by decide) (part_agg Tryz.underlying73 rfl Tryz.sizeOf73 rfl)) rfl (gl_newop (new_alloc (cs := [vB ((0 : Rat).num < 0), .slice none 0 0, .slice none 0 0, vB ((0 : Rat).num < 0), .slice none 0 0, .slice none 0 0]) info73 rfl (by simp only [zb]; rfl)) rfl rfl rfl ?_))))))))))
 intro v7u3 r7u3 hr7u3
 obtain ⟨b7u3, rfl, rfl⟩ := hr7u3
 replace hna1 := hna1.mono ((hh6.trans hh7).trans hh8)
 replace hda1 := hda1.mono ((hh6.trans hh7).trans hh8)
 replace hnb1 := hnb1.mono (((((hh3.trans hh4).trans hh5).trans hh6).trans hh7).trans hh8)
 replace hdb1 := hdb1.mono (((((hh3.trans hh4).trans hh5).trans hh6).trans hh7).trans hh8)
 refine gl_upd (A := []) (r' := .var b7u3 73 [vB (qa1.num < 0), vna1, vda1, vB (qb1.num < 0), vnb1, vdb1]) (upd_store_var (k := 0) (cs := [_, _, _, _, _, _]) (vs := [_, _, _, _, _, _]) rfl rfl rfl (ocr rfl (ocu hna1 (ocu hda1 (ocr rfl (ocu hnb1 (ocu hdb1 oc0)))))) size73 (Nat.le_of_ble_eq_true rfl)) rfl rfl rfl (gl_nil (gq_then ?_))
 refine gc_draw 8 _ [] [(0, .q), (1, .q), (2, .q), (3, .q), (4, .q), (5, .c), (6, .c), (7, .c), (8, .t)] mixed (fun x hx => by cases hx) (by kernel_rfl) (fun x hx => by cases hx) (fun r hr => hr) (w_q rfl (fun h' L' hh hR => ov_load_agg (vs := [_, _, _, _, _, _]) (hR _ (.tail _ (.tail _ (.tail _ (.head _))))) Tryz.underlying31 rfl size31 rfl rfl) rfl (w_q rfl (fun h' L' hh hR => (ov_index_arr (sz := 3) 0 Tryz.underlying73 Tryz.sizeOf29 rfl rfl rfl (by decide)).cv (show _ = vP b7u3 0 from rfl)) rfl (w_q rfl (fun h' L' hh hR => ov_load_agg (vs := [_, _, _]) (hR _ (.head _)) Tryz.underlying29 rfl size29 rfl rfl) rfl (w_q rfl (fun h' L' hh hR => (ov_index_arr (sz := 3) 1 Tryz.underlying73 Tryz.sizeOf29 rfl rfl rfl (by decide)).cv (show _ = vP b7u3 3 from rfl)) rfl (w_q rfl (fun h' L' hh hR => ov_load_agg (vs := [_, _, _]) (hR _ (.head _)) Tryz.underlying29 rfl size29 rfl rfl) rfl ?_)))))
 refine w_c rfl ?_
 refine s_call (vs := [_, _]) Tryz.call79 ⟨rfl, rfl, trivial⟩ (fun w hs => rat_mul hs hna1 hda1 hnb1 hdb1 (by omega) (by omega)) rfl ?_
 intro v38u3 h9 hh9 hr38u3
 obtain ⟨vn38u3, vd38u3, rfl, hn38u3, hd38u3⟩ := hr38u3
 have hlq38u3 := lq_mul qa1 qb1
 refine w_c rfl ?_
 refine s_call (vs := [_]) Tryz.call34 ⟨rfl, trivial⟩ (fun w hs => span_point hs hn38u3 hd38u3 (by omega)) rfl ?_
 intro v39u3 h10 hh10 hr39u3
 obtain ⟨_, rfl, vn39u3_0, vd39u3_0, _, rfl, hn39u3_0, hd39u3_0, vn39u3_1, vd39u3_1, _, rfl, hn39u3_1, hd39u3_1, rfl⟩ := hr39u3
 refine w_c rfl ?_
 replace hn40u2_0 := hn40u2_0.mono (hh9.trans hh10)
 replace hd40u2_0 := hd40u2_0.mono (hh9.trans hh10)
 replace hn40u2_1 := hn40u2_1.mono (hh9.trans hh10)
 replace hd40u2_1 := hd40u2_1.mono (hh9.trans hh10)
 refine s_call (vs := [_, _]) Tryz.call21 ⟨rfl, rfl, trivial⟩ (fun w hs => span_hull hs hn40u2_0 hd40u2_0 hn40u2_1 hd40u2_1 hn39u3_0 hd39u3_0 hn39u3_1 hd39u3_1 (by omega) (by omega) (by omega) (by omega)) rfl ?_
 intro v40u3 h11 hh11 hr40u3
 have hlq40u3_0 := lq_min (minQ (minQ ((qa0 * qb0)) ((qa0 * qb1))) ((qa1 * qb0))) ((qa1 * qb1))
 have hlq40u3_1 := lq_max (maxQ (maxQ ((qa0 * qb0)) ((qa0 * qb1))) ((qa1 * qb0))) ((qa1 * qb1))
 obtain ⟨_, rfl, vn40u3_0, vd40u3_0, _, rfl, hn40u3_0, hd40u3_0, vn40u3_1, vd40u3_1, _, rfl, hn40u3_1, hd40u3_1, rfl⟩ := hr40u3
 refine w_t_upd (A := [_, _, _]) (q' := .var b5 31 [vB ((minQ (minQ (minQ ((qa0 * qb0)) ((qa0 * qb1))) ((qa1 * qb0))) ((qa1 * qb1))).num < 0), vn40u3_0, vd40u3_0, vB ((maxQ (maxQ (maxQ ((qa0 * qb0)) ((qa0 * qb1))) ((qa1 * qb0))) ((qa1 * qb1))).num < 0), vn40u3_1, vd40u3_1]) rfl (upd_store_var (k := 0) (cs := [_, _, _, _, _, _]) (vs := [_, _, _, _, _, _]) rfl rfl rfl (ocr rfl (ocu hn40u3_0 (ocu hd40u3_0 (ocr rfl (ocu hn40u3_1 (ocu hd40u3_1 oc0)))))) size31 (Nat.le_of_ble_eq_true rfl)) rfl (w_nil (gq_in (gq_keep (e' := [(4, _), (5, _), (29, _), (30, _)]) ⟨rfl, rfl, rfl, rfl, trivial⟩ (gq_then (gc_region (gv ((ov_add_i (q := 1) rfl rfl (by omega) (by omega)).cv (show _ = vI (3) from rfl)) rfl (mv rfl rfl (gl_nil (gq_loop1 (gc_seq (gc_region (gv (OpV.fa (by decide) (ov_lss_i (q := 3) rfl rfl)) rfl (gl_nil ?_)))))))))))))
 refine gq_then (gc_seq (gc_cond_f rfl (gc_exit (gx_then (gx_then (gx_here (gq_then (gc_seq (gc_region (gv (ov_load_agg (vs := [_, _, _, _, _, _]) (.tail _ (.tail _ (.tail _ (.head _)))) Tryz.underlying31 rfl size31 rfl rfl) rfl (gl_upd (A := [_, _, _, _]) (r' := .var b4 31 [vB ((minQ (minQ (minQ ((qa0 * qb0)) ((qa0 * qb1))) ((qa1 * qb0))) ((qa1 * qb1))).num < 0), vn40u3_0, vd40u3_0, vB ((maxQ (maxQ (maxQ ((qa0 * qb0)) ((qa0 * qb1))) ((qa1 * qb0))) ((qa1 * qb1))).num < 0), vn40u3_1, vd40u3_1]) (upd_store_var (k := 0) (cs := [_, _, _, _, _, _]) (vs := [_, _, _, _, _, _]) rfl rfl rfl (ocr rfl (ocu hn40u3_0 (ocu hd40u3_0 (ocr rfl (ocu hn40u3_1 (ocu hd40u3_1 oc0)))))) size31 (Nat.le_of_ble_eq_true rfl)) rfl rfl rfl (gl_nil (gq_then ?_)))))))))))))
 refine gc_ret (gq_res (fun E S => run_res1 rfl (rv_agg (cs := [_, _, _, _, _, _]) (.tail _ (.tail _ (.tail _ (.tail _ (.head _))))) Tryz.underlying31 rfl size31 rfl) E S) ?_)
 exact ⟨_, rfl, _, _, _, rfl, hn40u3_0, hd40u3_0, _, _, _, rfl, hn40u3_1, hd40u3_1, rfl⟩

theorem sref_mul {w0 : World} {h0 : Mem}  (hs : MLe h0 (mem w0)) {qa0 : Rat} {vna0 vda0 : Value} (hna0 : Us .u32 h0 vna0 (limbs qa0.num.natAbs)) (hda0 : Us .u32 h0 vda0 (limbs (denN qa0.den))) {qa1 : Rat} {vna1 vda1 : Value} (hna1 : Us .u32 h0 vna1 (limbs qa1.num.natAbs)) (hda1 : Us .u32 h0 vda1 (limbs (denN qa1.den))) {qb0 : Rat} {vnb0 vdb0 : Value} (hnb0 : Us .u32 h0 vnb0 (limbs qb0.num.natAbs)) (hdb0 : Us .u32 h0 vdb0 (limbs (denN qb0.den))) {qb1 : Rat} {vnb1 vdb1 : Value} (hnb1 : Us .u32 h0 vnb1 (limbs qb1.num.natAbs)) (hdb1 : Us .u32 h0 vdb1 (limbs (denN qb1.den))) (hqa0 : lq qa0 ≤ 10000000000) (hqa1 : lq qa1 ≤ 10000000000) (hqb0 : lq qb0 ≤ 10000000000) (hqb1 : lq qb1 ≤ 10000000000)    :
    Calls Tryz.prog 45 #[.agg #[vB (qa0.num < 0), vna0, vda0, vB (qa1.num < 0), vna1, vda1], .agg #[vB (qb0.num < 0), vnb0, vdb0, vB (qb1.num < 0), vnb1, vdb1]] w0 (Ret w0 h0 (fun h r => IsRats h r [mulLo qa0 qa1 qb0 qb1, mulHi qa0 qa1 qb0 qb1])) := by
 have hq00 := lq_zero
 refine calls_begin (n := 36) (e := [(0, .agg #[vB (qa0.num < 0), vna0, vda0, vB (qa1.num < 0), vna1, vda1]), (1, .agg #[vB (qb0.num < 0), vnb0, vdb0, vB (qb1.num < 0), vnb1, vdb1])]) (vs := [.agg #[vB (qa0.num < 0), vna0, vda0, vB (qa1.num < 0), vna1, vda1], .agg #[vB (qb0.num < 0), vnb0, vdb0, vB (qb1.num < 0), vnb1, vdb1]]) Tryz.func45 rfl rfl (Nat.le_of_ble_eq_true rfl) hs ⟨rfl, rfl, trivial⟩ (gc_seq (gc_region (gl_newop (new_box (cs := [_, _, _, _, _, _]) rfl rfl) rfl rfl rfl ?_)))
 intro v2 r2 hr2
 obtain ⟨b2, rfl, rfl⟩ := hr2
 refine gl_newop (new_box (cs := [_, _, _, _, _, _]) rfl rfl) rfl rfl rfl ?_
 intro v3 r3 hr3
 obtain ⟨b3, rfl, rfl⟩ := hr3
 refine gl_newop (new_alloc (cs := [vB ((0 : Rat).num < 0), .slice none 0 0, .slice none 0 0, vB ((0 : Rat).num < 0), .slice none 0 0, .slice none 0 0]) info31 rfl (by simp only [zb]; rfl)) rfl rfl rfl ?_
 intro v4 r4 hr4
 obtain ⟨b4, rfl, rfl⟩ := hr4
 refine gl_nil (gq_then (gc_seq (gc_region (gv (ov_field_addr Tryz.underlying31 rfl Tryz.sizeOf29 rfl) rfl (gv (ov_load_agg (vs := [_, _, _]) (.tail _ (.tail _ (.head _))) Tryz.underlying29 rfl size29 rfl rfl) rfl (gv (ov_field_addr Tryz.underlying31 rfl Tryz.sizeOf29 rfl) rfl (gv (ov_load_agg (vs := [_, _, _]) (.tail _ (.head _)) Tryz.underlying29 rfl size29 rfl rfl) rfl ?_)))))))
 refine gl_call (vs := [_, _]) rfl rfl rfl rfl Tryz.call54 ⟨rfl, rfl, trivial⟩ (fun w hs => rref_mul hs hna0 hda0 hnb0 hdb0 (by omega) (by omega)) ?_
 intro v10 h1 hh1 hr10
 obtain ⟨vn10, vd10, rfl, hn10, hd10⟩ := hr10
 have hlq10 := lq_mul qa0 qb0
 refine gl_call (vs := [_]) rfl rfl rfl rfl Tryz.call35 ⟨rfl, trivial⟩ (fun w hs => sref_point hs hn10 hd10 (by omega)) ?_
 intro v11 h2 hh2 hr11
 obtain ⟨_, rfl, vn11_0, vd11_0, _, rfl, hn11_0, hd11_0, vn11_1, vd11_1, _, rfl, hn11_1, hd11_1, rfl⟩ := hr11
 refine gl_newop (new_alloc (cs := [vB ((0 : Rat).num < 0), .slice none 0 0, .slice none 0 0, vB ((0 : Rat).num < 0), .slice none 0 0, .slice none 0 0]) info31 rfl (by simp only [zb]; rfl)) rfl rfl rfl ?_
 intro v5 r5 hr5
 obtain ⟨b5, rfl, rfl⟩ := hr5
 refine gl_upd (A := []) (r' := .var b5 31 [vB (((qa0 * qb0)).num < 0), vn11_0, vd11_0, vB (((qa0 * qb0)).num < 0), vn11_1, vd11_1]) (upd_store_var (k := 0) (cs := [_, _, _, _, _, _]) (vs := [_, _, _, _, _, _]) rfl rfl rfl (ocr rfl (ocu hn11_0 (ocu hd11_0 (ocr rfl (ocu hn11_1 (ocu hd11_1 oc0)))))) size31 (Nat.le_of_ble_eq_true rfl)) rfl rfl rfl (gl_nil (gq_then (gc_seq ?_)))
 refine gc_draw 8 _ [] [(0, .q), (1, .q), (2, .q), (3, .q), (4, .q), (5, .c), (6, .c), (7, .c), (8, .t)] mixed (fun x hx => by cases hx) (by kernel_rfl) (fun x hx => by cases hx) (fun r hr => hr) (w_q rfl (fun h' L' hh hR => ov_load_agg (vs := [_, _, _, _, _, _]) (hR _ (.head _)) Tryz.underlying31 rfl size31 rfl rfl) rfl (w_q rfl (fun h' L' hh hR => ov_field_addr Tryz.underlying31 rfl Tryz.sizeOf29 rfl) rfl (w_q rfl (fun h' L' hh hR => ov_load_agg (vs := [_, _, _]) (hR _ (.tail _ (.tail _ (.tail _ (.head _))))) Tryz.underlying29 rfl size29 rfl rfl) rfl (w_q rfl (fun h' L' hh hR => ov_field_addr Tryz.underlying31 rfl Tryz.sizeOf29 rfl) rfl (w_q rfl (fun h' L' hh hR => ov_load_agg (vs := [_, _, _]) (hR _ (.tail _ (.tail _ (.head _)))) Tryz.underlying29 rfl size29 rfl rfl) rfl ?_)))))
 refine w_c rfl ?_
 replace hna0 := hna0.mono (hh1.trans hh2)
 replace hda0 := hda0.mono (hh1.trans hh2)
 replace hnb1 := hnb1.mono (hh1.trans hh2)
 replace hdb1 := hdb1.mono (hh1.trans hh2)
 refine s_call (vs := [_, _]) Tryz.call54 ⟨rfl, rfl, trivial⟩ (fun w hs => rref_mul hs hna0 hda0 hnb1 hdb1 (by omega) (by omega)) rfl ?_
 intro v17 h3 hh3 hr17
 obtain ⟨vn17, vd17, rfl, hn17, hd17⟩ := hr17
 have hlq17 := lq_mul qa0 qb1
 refine w_c rfl ?_
 refine s_call (vs := [_]) Tryz.call35 ⟨rfl, trivial⟩ (fun w hs => sref_point hs hn17 hd17 (by omega)) rfl ?_
 intro v18 h4 hh4 hr18
 obtain ⟨_, rfl, vn18_0, vd18_0, _, rfl, hn18_0, hd18_0, vn18_1, vd18_1, _, rfl, hn18_1, hd18_1, rfl⟩ := hr18
 refine w_c rfl ?_
 replace hn11_0 := hn11_0.mono (hh3.trans hh4)
 replace hd11_0 := hd11_0.mono (hh3.trans hh4)
 replace hn11_1 := hn11_1.mono (hh3.trans hh4)
 replace hd11_1 := hd11_1.mono (hh3.trans hh4)
 refine s_call (vs := [_, _]) Tryz.call22 ⟨rfl, rfl, trivial⟩ (fun w hs => sref_hull hs hn11_0 hd11_0 hn11_1 hd11_1 hn18_0 hd18_0 hn18_1 hd18_1 (by omega) (by omega) (by omega) (by omega)) rfl ?_
 intro v19 h5 hh5 hr19
 have hlq19_0 := lq_min ((qa0 * qb0)) ((qa0 * qb1))
 have hlq19_1 := lq_max ((qa0 * qb0)) ((qa0 * qb1))
 obtain ⟨_, rfl, vn19_0, vd19_0, _, rfl, hn19_0, hd19_0, vn19_1, vd19_1, _, rfl, hn19_1, hd19_1, rfl⟩ := hr19
 refine w_t_upd (A := []) (q' := .var b5 31 [vB ((minQ ((qa0 * qb0)) ((qa0 * qb1))).num < 0), vn19_0, vd19_0, vB ((maxQ ((qa0 * qb0)) ((qa0 * qb1))).num < 0), vn19_1, vd19_1]) rfl (upd_store_var (k := 0) (cs := [_, _, _, _, _, _]) (vs := [_, _, _, _, _, _]) rfl rfl rfl (ocr rfl (ocu hn19_0 (ocu hd19_0 (ocr rfl (ocu hn19_1 (ocu hd19_1 oc0)))))) size31 (Nat.le_of_ble_eq_true rfl)) rfl (w_nil (gq_keep (e' := [(2, _), (3, _), (4, _), (5, _)]) ⟨rfl, rfl, rfl, rfl, trivial⟩ (gq_then (gc_seq ?_))))
 refine gc_draw 8 _ [] [(0, .q), (1, .q), (2, .q), (3, .q), (4, .q), (5, .c), (6, .c), (7, .c), (8, .t)] mixed (fun x hx => by cases hx) (by kernel_rfl) (fun x hx => by cases hx) (fun r hr => hr) (w_q rfl (fun h' L' hh hR => ov_load_agg (vs := [_, _, _, _, _, _]) (hR _ (.head _)) Tryz.underlying31 rfl size31 rfl rfl) rfl (w_q rfl (fun h' L' hh hR => ov_field_addr Tryz.underlying31 rfl Tryz.sizeOf29 rfl) rfl (w_q rfl (fun h' L' hh hR => ov_load_agg (vs := [_, _, _]) (hR _ (.tail _ (.tail _ (.tail _ (.head _))))) Tryz.underlying29 rfl size29 rfl rfl) rfl (w_q rfl (fun h' L' hh hR => ov_field_addr Tryz.underlying31 rfl Tryz.sizeOf29 rfl) rfl (w_q rfl (fun h' L' hh hR => ov_load_agg (vs := [_, _, _]) (hR _ (.tail _ (.tail _ (.head _)))) Tryz.underlying29 rfl size29 rfl rfl) rfl ?_)))))
 refine w_c rfl ?_
 replace hna1 := hna1.mono ((((hh1.trans hh2).trans hh3).trans hh4).trans hh5)
 replace hda1 := hda1.mono ((((hh1.trans hh2).trans hh3).trans hh4).trans hh5)
 replace hnb0 := hnb0.mono ((((hh1.trans hh2).trans hh3).trans hh4).trans hh5)
 replace hdb0 := hdb0.mono ((((hh1.trans hh2).trans hh3).trans hh4).trans hh5)
 refine s_call (vs := [_, _]) Tryz.call54 ⟨rfl, rfl, trivial⟩ (fun w hs => rref_mul hs hna1 hda1 hnb0 hdb0 (by omega) (by omega)) rfl ?_
 intro v25 h6 hh6 hr25
 obtain ⟨vn25, vd25, rfl, hn25, hd25⟩ := hr25
 have hlq25 := lq_mul qa1 qb0
 refine w_c rfl ?_
 refine s_call (vs := [_]) Tryz.call35 ⟨rfl, trivial⟩ (fun w hs => sref_point hs hn25 hd25 (by omega)) rfl ?_
 intro v26 h7 hh7 hr26
 obtain ⟨_, rfl, vn26_0, vd26_0, _, rfl, hn26_0, hd26_0, vn26_1, vd26_1, _, rfl, hn26_1, hd26_1, rfl⟩ := hr26
 refine w_c rfl ?_
 replace hn19_0 := hn19_0.mono (hh6.trans hh7)
 replace hd19_0 := hd19_0.mono (hh6.trans hh7)
 replace hn19_1 := hn19_1.mono (hh6.trans hh7)
 replace hd19_1 := hd19_1.mono (hh6.trans hh7)
 refine s_call (vs := [_, _]) Tryz.call22 ⟨rfl, rfl, trivial⟩ (fun w hs => sref_hull hs hn19_0 hd19_0 hn19_1 hd19_1 hn26_0 hd26_0 hn26_1 hd26_1 (by omega) (by omega) (by omega) (by omega)) rfl ?_
 intro v27 h8 hh8 hr27
 have hlq27_0 := lq_min (minQ ((qa0 * qb0)) ((qa0 * qb1))) ((qa1 * qb0))
 have hlq27_1 := lq_max (maxQ ((qa0 * qb0)) ((qa0 * qb1))) ((qa1 * qb0))
 obtain ⟨_, rfl, vn27_0, vd27_0, _, rfl, hn27_0, hd27_0, vn27_1, vd27_1, _, rfl, hn27_1, hd27_1, rfl⟩ := hr27
 refine w_t_upd (A := []) (q' := .var b5 31 [vB ((minQ (minQ ((qa0 * qb0)) ((qa0 * qb1))) ((qa1 * qb0))).num < 0), vn27_0, vd27_0, vB ((maxQ (maxQ ((qa0 * qb0)) ((qa0 * qb1))) ((qa1 * qb0))).num < 0), vn27_1, vd27_1]) rfl (upd_store_var (k := 0) (cs := [_, _, _, _, _, _]) (vs := [_, _, _, _, _, _]) rfl rfl rfl (ocr rfl (ocu hn27_0 (ocu hd27_0 (ocr rfl (ocu hn27_1 (ocu hd27_1 oc0)))))) size31 (Nat.le_of_ble_eq_true rfl)) rfl (w_nil (gq_then (gc_seq ?_)))
 refine gc_draw 8 _ [] [(0, .q), (1, .q), (2, .q), (3, .q), (4, .q), (5, .c), (6, .c), (7, .c), (8, .t)] mixed (fun x hx => by cases hx) (by kernel_rfl) (fun x hx => by cases hx) (fun r hr => hr) (w_q rfl (fun h' L' hh hR => ov_load_agg (vs := [_, _, _, _, _, _]) (hR _ (.head _)) Tryz.underlying31 rfl size31 rfl rfl) rfl (w_q rfl (fun h' L' hh hR => ov_field_addr Tryz.underlying31 rfl Tryz.sizeOf29 rfl) rfl (w_q rfl (fun h' L' hh hR => ov_load_agg (vs := [_, _, _]) (hR _ (.tail _ (.tail _ (.tail _ (.head _))))) Tryz.underlying29 rfl size29 rfl rfl) rfl (w_q rfl (fun h' L' hh hR => ov_field_addr Tryz.underlying31 rfl Tryz.sizeOf29 rfl) rfl (w_q rfl (fun h' L' hh hR => ov_load_agg (vs := [_, _, _]) (hR _ (.tail _ (.tail _ (.head _)))) Tryz.underlying29 rfl size29 rfl rfl) rfl ?_)))))
 refine w_c rfl ?_
 replace hna1 := hna1.mono ((hh6.trans hh7).trans hh8)
 replace hda1 := hda1.mono ((hh6.trans hh7).trans hh8)
 replace hnb1 := hnb1.mono (((((hh3.trans hh4).trans hh5).trans hh6).trans hh7).trans hh8)
 replace hdb1 := hdb1.mono (((((hh3.trans hh4).trans hh5).trans hh6).trans hh7).trans hh8)
 refine s_call (vs := [_, _]) Tryz.call54 ⟨rfl, rfl, trivial⟩ (fun w hs => rref_mul hs hna1 hda1 hnb1 hdb1 (by omega) (by omega)) rfl ?_
 intro v33 h9 hh9 hr33
 obtain ⟨vn33, vd33, rfl, hn33, hd33⟩ := hr33
 have hlq33 := lq_mul qa1 qb1
 refine w_c rfl ?_
 refine s_call (vs := [_]) Tryz.call35 ⟨rfl, trivial⟩ (fun w hs => sref_point hs hn33 hd33 (by omega)) rfl ?_
 intro v34 h10 hh10 hr34
 obtain ⟨_, rfl, vn34_0, vd34_0, _, rfl, hn34_0, hd34_0, vn34_1, vd34_1, _, rfl, hn34_1, hd34_1, rfl⟩ := hr34
 refine w_c rfl ?_
 replace hn27_0 := hn27_0.mono (hh9.trans hh10)
 replace hd27_0 := hd27_0.mono (hh9.trans hh10)
 replace hn27_1 := hn27_1.mono (hh9.trans hh10)
 replace hd27_1 := hd27_1.mono (hh9.trans hh10)
 refine s_call (vs := [_, _]) Tryz.call22 ⟨rfl, rfl, trivial⟩ (fun w hs => sref_hull hs hn27_0 hd27_0 hn27_1 hd27_1 hn34_0 hd34_0 hn34_1 hd34_1 (by omega) (by omega) (by omega) (by omega)) rfl ?_
 intro v35 h11 hh11 hr35
 have hlq35_0 := lq_min (minQ (minQ ((qa0 * qb0)) ((qa0 * qb1))) ((qa1 * qb0))) ((qa1 * qb1))
 have hlq35_1 := lq_max (maxQ (maxQ ((qa0 * qb0)) ((qa0 * qb1))) ((qa1 * qb0))) ((qa1 * qb1))
 obtain ⟨_, rfl, vn35_0, vd35_0, _, rfl, hn35_0, hd35_0, vn35_1, vd35_1, _, rfl, hn35_1, hd35_1, rfl⟩ := hr35
 refine w_t_upd (A := [_]) (q' := .var b4 31 [vB ((minQ (minQ (minQ ((qa0 * qb0)) ((qa0 * qb1))) ((qa1 * qb0))) ((qa1 * qb1))).num < 0), vn35_0, vd35_0, vB ((maxQ (maxQ (maxQ ((qa0 * qb0)) ((qa0 * qb1))) ((qa1 * qb0))) ((qa1 * qb1))).num < 0), vn35_1, vd35_1]) rfl (upd_store_var (k := 0) (cs := [_, _, _, _, _, _]) (vs := [_, _, _, _, _, _]) rfl rfl rfl (ocr rfl (ocu hn35_0 (ocu hd35_0 (ocr rfl (ocu hn35_1 (ocu hd35_1 oc0)))))) size31 (Nat.le_of_ble_eq_true rfl)) rfl (w_nil (gq_keep (e' := [(4, _)]) ⟨rfl, trivial⟩ (gq_then (gc_ret (gq_res (fun E S => run_res1 rfl (rv_agg (cs := [_, _, _, _, _, _]) (.tail _ (.head _)) Tryz.underlying31 rfl size31 rfl) E S) ?_)))))
 exact ⟨_, rfl, _, _, _, rfl, hn35_0, hd35_0, _, _, _, rfl, hn35_1, hd35_1, rfl⟩

theorem span_sqr {w0 : World} {h0 : Mem}  (hs : MLe h0 (mem w0)) {qa0 : Rat} {vna0 vda0 : Value} (hna0 : Us .u32 h0 vna0 (limbs qa0.num.natAbs)) (hda0 : Us .u32 h0 vda0 (limbs (denN qa0.den))) {qa1 : Rat} {vna1 vda1 : Value} (hna1 : Us .u32 h0 vna1 (limbs qa1.num.natAbs)) (hda1 : Us .u32 h0 vda1 (limbs (denN qa1.den))) (hqa0 : lq qa0 ≤ 10000000000) (hqa1 : lq qa1 ≤ 10000000000)    :
    Calls Tryz.prog 46 #[.agg #[vB (qa0.num < 0), vna0, vda0, vB (qa1.num < 0), vna1, vda1]] w0 (Ret w0 h0 (fun h r => IsRats h r [sqrLo qa0 qa1, sqrHi qa0 qa1])) := by
 have hq00 := lq_zero
 refine calls_begin (n := 21) (e := [(0, .agg #[vB (qa0.num < 0), vna0, vda0, vB (qa1.num < 0), vna1, vda1])]) (vs := [.agg #[vB (qa0.num < 0), vna0, vda0, vB (qa1.num < 0), vna1, vda1]]) Tryz.func46 rfl rfl (Nat.le_of_ble_eq_true rfl) hs ⟨rfl, trivial⟩ (gc_seq (gc_region (gl_newop (new_box (cs := [_, _, _, _, _, _]) rfl rfl) rfl rfl rfl ?_)))
 intro v1 r1 hr1
 obtain ⟨b1, rfl, rfl⟩ := hr1
 refine gl_newop (new_alloc (cs := [vB ((0 : Rat).num < 0), .slice none 0 0, .slice none 0 0, vB ((0 : Rat).num < 0), .slice none 0 0, .slice none 0 0]) info31 rfl (by simp only [zb]; rfl)) rfl rfl rfl ?_
 intro v2 r2 hr2
 obtain ⟨b2, rfl, rfl⟩ := hr2
 refine gl_nil (gq_then (gc_seq ?_))
 refine gc_draw 12 _ [(11, (3, 31, [vB ((0 : Rat).num < 0), .slice none 0 0, .slice none 0 0, vB ((0 : Rat).num < 0), .slice none 0 0, .slice none 0 0]))] [(0, .q), (1, .q), (2, .q), (3, .q), (5, .q), (6, .q), (7, .q), (8, .q), (4, .c), (9, .c), (10, .c), (11, .a), (12, .t)] mixed (AlOk.cons rfl (zero_run info31 rfl (by simp only [zb]; rfl)) AlOk.nil) (by kernel_rfl) (hae_cons rfl rfl hae_nil) (fun r hr => hr) (w_q rfl (fun h' L' hh hR => ov_field_addr Tryz.underlying31 rfl Tryz.sizeOf29 rfl) rfl (w_q rfl (fun h' L' hh hR => ov_load_agg (vs := [_, _, _]) (hR _ (.tail _ (.head _))) Tryz.underlying29 rfl size29 rfl rfl) rfl (w_q rfl (fun h' L' hh hR => ov_field_addr Tryz.underlying31 rfl Tryz.sizeOf29 rfl) rfl (w_q rfl (fun h' L' hh hR => ov_load_agg (vs := [_, _, _]) (hR _ (.tail _ (.head _))) Tryz.underlying29 rfl size29 rfl rfl) rfl (w_q rfl (fun h' L' hh hR => ov_field_addr Tryz.underlying31 rfl Tryz.sizeOf29 rfl) rfl (w_q rfl (fun h' L' hh hR => ov_load_agg (vs := [_, _, _]) (hR _ (.tail _ (.head _))) Tryz.underlying29 rfl size29 rfl rfl) rfl (w_q rfl (fun h' L' hh hR => ov_field_addr Tryz.underlying31 rfl Tryz.sizeOf29 rfl) rfl (w_q rfl (fun h' L' hh hR => ov_load_agg (vs := [_, _, _]) (hR _ (.tail _ (.head _))) Tryz.underlying29 rfl size29 rfl rfl) rfl ?_))))))))
 refine w_c rfl ?_
 refine s_call (vs := [_, _]) Tryz.call79 ⟨rfl, rfl, trivial⟩ (fun w hs => rat_mul hs hna0 hda0 hna0 hda0 (by omega) (by omega)) rfl ?_
 intro v8 h1 hh1 hr8
 obtain ⟨vn8, vd8, rfl, hn8, hd8⟩ := hr8
 have hlq8 := lq_mul qa0 qa0
 refine w_c rfl ?_
 replace hna1 := hna1.mono hh1
 replace hda1 := hda1.mono hh1
 refine s_call (vs := [_, _]) Tryz.call79 ⟨rfl, rfl, trivial⟩ (fun w hs => rat_mul hs hna1 hda1 hna1 hda1 (by omega) (by omega)) rfl ?_
 intro v13 h2 hh2 hr13
 obtain ⟨vn13, vd13, rfl, hn13, hd13⟩ := hr13
 have hlq13 := lq_mul qa1 qa1
 refine w_c rfl ?_
 replace hn8 := hn8.mono hh2
 replace hd8 := hd8.mono hh2
 refine s_call (vs := [_, _]) Tryz.call32 ⟨rfl, rfl, trivial⟩ (fun w hs => span_of hs hn8 hd8 hn13 hd13 (by omega) (by omega)) rfl ?_
 intro v14 h3 hh3 hr14
 have hlq14_0 := lq_min (qa0 * qa0) (qa1 * qa1)
 have hlq14_1 := lq_max (qa0 * qa0) (qa1 * qa1)
 obtain ⟨_, rfl, vn14_0, vd14_0, _, rfl, hn14_0, hd14_0, vn14_1, vd14_1, _, rfl, hn14_1, hd14_1, rfl⟩ := hr14
 refine w_a rfl (fun b3 => ?_)
 refine w_t_upd (A := []) (q' := .var b3 31 [vB ((minQ (qa0 * qa0) (qa1 * qa1)).num < 0), vn14_0, vd14_0, vB ((maxQ (qa0 * qa0) (qa1 * qa1)).num < 0), vn14_1, vd14_1]) rfl (upd_store_var (k := 0) (cs := [_, _, _, _, _, _]) (vs := [_, _, _, _, _, _]) rfl rfl rfl (ocr rfl (ocu hn14_0 (ocu hd14_0 (ocr rfl (ocu hn14_1 (ocu hd14_1 oc0)))))) size31 (Nat.le_of_ble_eq_true rfl)) rfl (w_nil (gq_keep (e' := [(1, _), (2, _), (3, _)]) ⟨rfl, rfl, rfl, trivial⟩ (gq_then (gc_seq (gc_seq (gc_region (gv (ov_load_agg (vs := [_, _, _, _, _, _]) (.tail _ (.tail _ (.head _))) Tryz.underlying31 rfl size31 rfl rfl) rfl (gv (ov_build_parts (ps' := []) (vs := [vB ((0 : Rat).num < 0), .slice none 0 0, .slice none 0 0]) Tryz.underlying29 info29 rfl (places29 Tryz.underlying29) trivial (by simp only [zb]; exact fill_nil)) rfl ?_))))))))
 replace hna0 := hna0.mono ((hh1.trans hh2).trans hh3)
 replace hda0 := hda0.mono ((hh1.trans hh2).trans hh3)
 replace hna1 := hna1.mono (hh2.trans hh3)
 replace hda1 := hda1.mono (hh2.trans hh3)
 refine gl_call (vs := [_, _]) rfl rfl rfl rfl Tryz.call23 ⟨rfl, rfl, trivial⟩ (fun w hs => span_has hs hna0 hda0 hna1 hda1 (us_zero_num _) (us_zero_den _) (by omega) (by omega) (by omega)) ?_
 intro v17 h4 hh4 hr17
 subst hr17
 refine gl_nil (gq_then ?_)
 refine gc_cond rfl (fun hc17 => ?_) (fun hc17 => ?_)
 ·
  refine gc_region (gv (ov_build_parts (ps' := []) (vs := [vB ((0 : Rat).num < 0), .slice none 0 0, .slice none 0 0]) Tryz.underlying29 info29 rfl (places29 Tryz.underlying29) trivial (by simp only [zb]; exact fill_nil)) rfl (gv (ov_field_addr Tryz.underlying31 rfl Tryz.sizeOf29 rfl) rfl (gl_upd (A := []) (r' := .var b3 31 [vB ((0 : Rat).num < 0), .slice none 0 0, .slice none 0 0, vB ((maxQ (qa0 * qa0) (qa1 * qa1)).num < 0), vn14_1, vd14_1]) (upd_store_var (k := 0) (cs := [_, _, _, _, _, _]) (vs := [_, _, _]) rfl rfl rfl rfl size29 (Nat.le_of_ble_eq_true rfl)) rfl rfl rfl (gl_nil (gq_then (gc_seq (gc_region (gv (ov_load_agg (vs := [_, _, _, _, _, _]) (.head _) Tryz.underlying31 rfl size31 rfl rfl) rfl ?_))))))))
  replace hn14_1 := hn14_1.mono hh4
  replace hd14_1 := hd14_1.mono hh4
  refine gl_upd (A := [_]) (r' := .var b2 31 [vB ((0 : Rat).num < 0), .slice none 0 0, .slice none 0 0, vB ((maxQ (qa0 * qa0) (qa1 * qa1)).num < 0), vn14_1, vd14_1]) (upd_store_var (k := 0) (cs := [_, _, _, _, _, _]) (vs := [_, _, _, _, _, _]) rfl rfl rfl (ocr rfl (ocr rfl (ocr rfl (ocr rfl (ocu hn14_1 (ocu hd14_1 oc0)))))) size31 (Nat.le_of_ble_eq_true rfl)) rfl rfl rfl (gl_nil (gq_then (gc_ret (gq_res (fun E S => run_res1 rfl (rv_agg (cs := [_, _, _, _, _, _]) (.tail _ (.head _)) Tryz.underlying31 rfl size31 rfl) E S) ?_))))
  have e : sqrLo qa0 qa1 = 0 := if_pos hc17
  rw [e]
  exact ⟨_, rfl, _, _, _, rfl, (us_zero_num _), (us_zero_den _), _, _, _, rfl, hn14_1, hd14_1, rfl⟩
 ·
  refine gc_skip (gq_then (gc_seq (gc_region (gv (ov_load_agg (vs := [_, _, _, _, _, _]) (.head _) Tryz.underlying31 rfl size31 rfl rfl) rfl ?_))))
  replace hn14_0 := hn14_0.mono hh4
  replace hd14_0 := hd14_0.mono hh4
  replace hn14_1 := hn14_1.mono hh4
  replace hd14_1 := hd14_1.mono hh4
  refine gl_upd (A := [_]) (r' := .var b2 31 [vB ((minQ (qa0 * qa0) (qa1 * qa1)).num < 0), vn14_0, vd14_0, vB ((maxQ (qa0 * qa0) (qa1 * qa1)).num < 0), vn14_1, vd14_1]) (upd_store_var (k := 0) (cs := [_, _, _, _, _, _]) (vs := [_, _, _, _, _, _]) rfl rfl rfl (ocr rfl (ocu hn14_0 (ocu hd14_0 (ocr rfl (ocu hn14_1 (ocu hd14_1 oc0)))))) size31 (Nat.le_of_ble_eq_true rfl)) rfl rfl rfl (gl_nil (gq_then (gc_ret (gq_res (fun E S => run_res1 rfl (rv_agg (cs := [_, _, _, _, _, _]) (.tail _ (.head _)) Tryz.underlying31 rfl size31 rfl) E S) ?_))))
  have e : sqrLo qa0 qa1 = minQ (qa0 * qa0) (qa1 * qa1) := if_neg hc17
  rw [e]
  exact ⟨_, rfl, _, _, _, rfl, hn14_0, hd14_0, _, _, _, rfl, hn14_1, hd14_1, rfl⟩

theorem sref_sqr {w0 : World} {h0 : Mem}  (hs : MLe h0 (mem w0)) {qa0 : Rat} {vna0 vda0 : Value} (hna0 : Us .u32 h0 vna0 (limbs qa0.num.natAbs)) (hda0 : Us .u32 h0 vda0 (limbs (denN qa0.den))) {qa1 : Rat} {vna1 vda1 : Value} (hna1 : Us .u32 h0 vna1 (limbs qa1.num.natAbs)) (hda1 : Us .u32 h0 vda1 (limbs (denN qa1.den))) (hqa0 : lq qa0 ≤ 10000000000) (hqa1 : lq qa1 ≤ 10000000000)    :
    Calls Tryz.prog 47 #[.agg #[vB (qa0.num < 0), vna0, vda0, vB (qa1.num < 0), vna1, vda1]] w0 (Ret w0 h0 (fun h r => IsRats h r [sqrLo qa0 qa1, sqrHi qa0 qa1])) := by
 have hq00 := lq_zero
 refine calls_begin (n := 21) (e := [(0, .agg #[vB (qa0.num < 0), vna0, vda0, vB (qa1.num < 0), vna1, vda1])]) (vs := [.agg #[vB (qa0.num < 0), vna0, vda0, vB (qa1.num < 0), vna1, vda1]]) Tryz.func47 rfl rfl (Nat.le_of_ble_eq_true rfl) hs ⟨rfl, trivial⟩ (gc_seq (gc_region (gl_newop (new_box (cs := [_, _, _, _, _, _]) rfl rfl) rfl rfl rfl ?_)))
 intro v1 r1 hr1
 obtain ⟨b1, rfl, rfl⟩ := hr1
 refine gl_newop (new_alloc (cs := [vB ((0 : Rat).num < 0), .slice none 0 0, .slice none 0 0, vB ((0 : Rat).num < 0), .slice none 0 0, .slice none 0 0]) info31 rfl (by simp only [zb]; rfl)) rfl rfl rfl ?_
 intro v2 r2 hr2
 obtain ⟨b2, rfl, rfl⟩ := hr2
 refine gl_nil (gq_then (gc_seq ?_))
 refine gc_draw 12 _ [(11, (3, 31, [vB ((0 : Rat).num < 0), .slice none 0 0, .slice none 0 0, vB ((0 : Rat).num < 0), .slice none 0 0, .slice none 0 0]))] [(0, .q), (1, .q), (2, .q), (3, .q), (5, .q), (6, .q), (7, .q), (8, .q), (4, .c), (9, .c), (10, .c), (11, .a), (12, .t)] mixed (AlOk.cons rfl (zero_run info31 rfl (by simp only [zb]; rfl)) AlOk.nil) (by kernel_rfl) (hae_cons rfl rfl hae_nil) (fun r hr => hr) (w_q rfl (fun h' L' hh hR => ov_field_addr Tryz.underlying31 rfl Tryz.sizeOf29 rfl) rfl (w_q rfl (fun h' L' hh hR => ov_load_agg (vs := [_, _, _]) (hR _ (.tail _ (.head _))) Tryz.underlying29 rfl size29 rfl rfl) rfl (w_q rfl (fun h' L' hh hR => ov_field_addr Tryz.underlying31 rfl Tryz.sizeOf29 rfl) rfl (w_q rfl (fun h' L' hh hR => ov_load_agg (vs := [_, _, _]) (hR _ (.tail _ (.head _))) Tryz.underlying29 rfl size29 rfl rfl) rfl (w_q rfl (fun h' L' hh hR => ov_field_addr Tryz.underlying31 rfl Tryz.sizeOf29 rfl) rfl (w_q rfl (fun h' L' hh hR => ov_load_agg (vs := [_, _, _]) (hR _ (.tail _ (.head _))) Tryz.underlying29 rfl size29 rfl rfl) rfl (w_q rfl (fun h' L' hh hR => ov_field_addr Tryz.underlying31 rfl Tryz.sizeOf29 rfl) rfl (w_q rfl (fun h' L' hh hR => ov_load_agg (vs := [_, _, _]) (hR _ (.tail _ (.head _))) Tryz.underlying29 rfl size29 rfl rfl) rfl ?_))))))))
 refine w_c rfl ?_
 refine s_call (vs := [_, _]) Tryz.call54 ⟨rfl, rfl, trivial⟩ (fun w hs => rref_mul hs hna0 hda0 hna0 hda0 (by omega) (by omega)) rfl ?_
 intro v8 h1 hh1 hr8
 obtain ⟨vn8, vd8, rfl, hn8, hd8⟩ := hr8
 have hlq8 := lq_mul qa0 qa0
 refine w_c rfl ?_
 replace hna1 := hna1.mono hh1
 replace hda1 := hda1.mono hh1
 refine s_call (vs := [_, _]) Tryz.call54 ⟨rfl, rfl, trivial⟩ (fun w hs => rref_mul hs hna1 hda1 hna1 hda1 (by omega) (by omega)) rfl ?_
 intro v13 h2 hh2 hr13
 obtain ⟨vn13, vd13, rfl, hn13, hd13⟩ := hr13
 have hlq13 := lq_mul qa1 qa1
 refine w_c rfl ?_
 replace hn8 := hn8.mono hh2
 replace hd8 := hd8.mono hh2
 refine s_call (vs := [_, _]) Tryz.call33 ⟨rfl, rfl, trivial⟩ (fun w hs => sref_of hs hn8 hd8 hn13 hd13 (by omega) (by omega)) rfl ?_
 intro v14 h3 hh3 hr14
 have hlq14_0 := lq_min (qa0 * qa0) (qa1 * qa1)
 have hlq14_1 := lq_max (qa0 * qa0) (qa1 * qa1)
 obtain ⟨_, rfl, vn14_0, vd14_0, _, rfl, hn14_0, hd14_0, vn14_1, vd14_1, _, rfl, hn14_1, hd14_1, rfl⟩ := hr14
 refine w_a rfl (fun b3 => ?_)
 refine w_t_upd (A := []) (q' := .var b3 31 [vB ((minQ (qa0 * qa0) (qa1 * qa1)).num < 0), vn14_0, vd14_0, vB ((maxQ (qa0 * qa0) (qa1 * qa1)).num < 0), vn14_1, vd14_1]) rfl (upd_store_var (k := 0) (cs := [_, _, _, _, _, _]) (vs := [_, _, _, _, _, _]) rfl rfl rfl (ocr rfl (ocu hn14_0 (ocu hd14_0 (ocr rfl (ocu hn14_1 (ocu hd14_1 oc0)))))) size31 (Nat.le_of_ble_eq_true rfl)) rfl (w_nil (gq_keep (e' := [(1, _), (2, _), (3, _)]) ⟨rfl, rfl, rfl, trivial⟩ (gq_then (gc_seq (gc_seq (gc_region (gv (ov_load_agg (vs := [_, _, _, _, _, _]) (.tail _ (.tail _ (.head _))) Tryz.underlying31 rfl size31 rfl rfl) rfl (gv (ov_build_parts (ps' := []) (vs := [vB ((0 : Rat).num < 0), .slice none 0 0, .slice none 0 0]) Tryz.underlying29 info29 rfl (places29 Tryz.underlying29) trivial (by simp only [zb]; exact fill_nil)) rfl ?_))))))))
 replace hna0 := hna0.mono ((hh1.trans hh2).trans hh3)
 replace hda0 := hda0.mono ((hh1.trans hh2).trans hh3)
 replace hna1 := hna1.mono (hh2.trans hh3)
 replace hda1 := hda1.mono (hh2.trans hh3)
 refine gl_call (vs := [_, _]) rfl rfl rfl rfl Tryz.call24 ⟨rfl, rfl, trivial⟩ (fun w hs => sref_has hs hna0 hda0 hna1 hda1 (us_zero_num _) (us_zero_den _) (by omega) (by omega) (by omega)) ?_
 intro v17 h4 hh4 hr17
 subst hr17
 refine gl_nil (gq_then ?_)
 refine gc_cond rfl (fun hc17 => ?_) (fun hc17 => ?_)
 ·
  refine gc_region (gv (ov_build_parts (ps' := []) (vs := [vB ((0 : Rat).num < 0), .slice none 0 0, .slice none 0 0]) Tryz.underlying29 info29 rfl (places29 Tryz.underlying29) trivial (by simp only [zb]; exact fill_nil)) rfl (gv (ov_field_addr Tryz.underlying31 rfl Tryz.sizeOf29 rfl) rfl (gl_upd (A := []) (r' := .var b3 31 [vB ((0 : Rat).num < 0), .slice none 0 0, .slice none 0 0, vB ((maxQ (qa0 * qa0) (qa1 * qa1)).num < 0), vn14_1, vd14_1]) (upd_store_var (k := 0) (cs := [_, _, _, _, _, _]) (vs := [_, _, _]) rfl rfl rfl rfl size29 (Nat.le_of_ble_eq_true rfl)) rfl rfl rfl (gl_nil (gq_then (gc_seq (gc_region (gv (ov_load_agg (vs := [_, _, _, _, _, _]) (.head _) Tryz.underlying31 rfl size31 rfl rfl) rfl ?_))))))))
  replace hn14_1 := hn14_1.mono hh4
  replace hd14_1 := hd14_1.mono hh4
  refine gl_upd (A := [_]) (r' := .var b2 31 [vB ((0 : Rat).num < 0), .slice none 0 0, .slice none 0 0, vB ((maxQ (qa0 * qa0) (qa1 * qa1)).num < 0), vn14_1, vd14_1]) (upd_store_var (k := 0) (cs := [_, _, _, _, _, _]) (vs := [_, _, _, _, _, _]) rfl rfl rfl (ocr rfl (ocr rfl (ocr rfl (ocr rfl (ocu hn14_1 (ocu hd14_1 oc0)))))) size31 (Nat.le_of_ble_eq_true rfl)) rfl rfl rfl (gl_nil (gq_then (gc_ret (gq_res (fun E S => run_res1 rfl (rv_agg (cs := [_, _, _, _, _, _]) (.tail _ (.head _)) Tryz.underlying31 rfl size31 rfl) E S) ?_))))
  have e : sqrLo qa0 qa1 = 0 := if_pos hc17
  rw [e]
  exact ⟨_, rfl, _, _, _, rfl, (us_zero_num _), (us_zero_den _), _, _, _, rfl, hn14_1, hd14_1, rfl⟩
 ·
  refine gc_skip (gq_then (gc_seq (gc_region (gv (ov_load_agg (vs := [_, _, _, _, _, _]) (.head _) Tryz.underlying31 rfl size31 rfl rfl) rfl ?_))))
  replace hn14_0 := hn14_0.mono hh4
  replace hd14_0 := hd14_0.mono hh4
  replace hn14_1 := hn14_1.mono hh4
  replace hd14_1 := hd14_1.mono hh4
  refine gl_upd (A := [_]) (r' := .var b2 31 [vB ((minQ (qa0 * qa0) (qa1 * qa1)).num < 0), vn14_0, vd14_0, vB ((maxQ (qa0 * qa0) (qa1 * qa1)).num < 0), vn14_1, vd14_1]) (upd_store_var (k := 0) (cs := [_, _, _, _, _, _]) (vs := [_, _, _, _, _, _]) rfl rfl rfl (ocr rfl (ocu hn14_0 (ocu hd14_0 (ocr rfl (ocu hn14_1 (ocu hd14_1 oc0)))))) size31 (Nat.le_of_ble_eq_true rfl)) rfl rfl rfl (gl_nil (gq_then (gc_ret (gq_res (fun E S => run_res1 rfl (rv_agg (cs := [_, _, _, _, _, _]) (.tail _ (.head _)) Tryz.underlying31 rfl size31 rfl) E S) ?_))))
  have e : sqrLo qa0 qa1 = minQ (qa0 * qa0) (qa1 * qa1) := if_neg hc17
  rw [e]
  exact ⟨_, rfl, _, _, _, rfl, hn14_0, hd14_0, _, _, _, rfl, hn14_1, hd14_1, rfl⟩

theorem span_round {w0 : World} {h0 : Mem}  (hs : MLe h0 (mem w0)) {qa0 : Rat} {vna0 vda0 : Value} (hna0 : Us .u32 h0 vna0 (limbs qa0.num.natAbs)) (hda0 : Us .u32 h0 vda0 (limbs (denN qa0.den))) {qa1 : Rat} {vna1 vda1 : Value} (hna1 : Us .u32 h0 vna1 (limbs qa1.num.natAbs)) (hda1 : Us .u32 h0 vda1 (limbs (denN qa1.den))) (hqa0 : lq qa0 ≤ 10000000000) (hqa1 : lq qa1 ≤ 10000000000) {k : Int} (hk1 : -9223372036854775808 ≤ k) (hk2 : k < 9223372036854775808)   :
    Calls Tryz.prog 55 #[.agg #[vB (qa0.num < 0), vna0, vda0, vB (qa1.num < 0), vna1, vda1], vI k] w0 (Ret w0 h0 (fun h r => IsRats h r [downQ qa0 k, upQ qa1 k])) := by
 have hq00 := lq_zero
 refine calls_begin (n := 14) (e := [(0, .agg #[vB (qa0.num < 0), vna0, vda0, vB (qa1.num < 0), vna1, vda1]), (1, vI k)]) (vs := [.agg #[vB (qa0.num < 0), vna0, vda0, vB (qa1.num < 0), vna1, vda1], vI k]) Tryz.func55 rfl rfl (Nat.le_of_ble_eq_true rfl) hs ⟨rfl, rfl, trivial⟩ (gc_seq (gc_region (gl_newop (new_box (cs := [_, _, _, _, _, _]) rfl rfl) rfl rfl rfl ?_)))
 intro v2 r2 hr2
 obtain ⟨b2, rfl, rfl⟩ := hr2
 refine gl_newop (new_alloc (cs := [vB ((0 : Rat).num < 0), .slice none 0 0, .slice none 0 0, vB ((0 : Rat).num < 0), .slice none 0 0, .slice none 0 0]) info31 rfl (by simp only [zb]; rfl)) rfl rfl rfl ?_
 intro v4 r4 hr4
 obtain ⟨b4, rfl, rfl⟩ := hr4
 refine gl_nil (gq_then (gc_seq ?_))
 refine gc_draw 9 _ [] [(0, .q), (1, .q), (2, .q), (4, .q), (5, .q), (6, .q), (3, .c), (7, .c), (8, .q), (9, .t)] mixed (fun x hx => by cases hx) (by kernel_rfl) (fun x hx => by cases hx) (fun r hr => hr) (w_q rfl (fun h' L' hh hR => ov_field_addr Tryz.underlying31 rfl Tryz.sizeOf29 rfl) rfl (w_q rfl (fun h' L' hh hR => ov_load_agg (vs := [_, _, _]) (hR _ (.tail _ (.head _))) Tryz.underlying29 rfl size29 rfl rfl) rfl (w_q rfl (fun h' L' hh hR => ov_move rfl) rfl (w_q rfl (fun h' L' hh hR => ov_field_addr Tryz.underlying31 rfl Tryz.sizeOf29 rfl) rfl (w_q rfl (fun h' L' hh hR => ov_load_agg (vs := [_, _, _]) (hR _ (.tail _ (.head _))) Tryz.underlying29 rfl size29 rfl rfl) rfl (w_q rfl (fun h' L' hh hR => ov_move rfl) rfl ?_))))))
 refine w_c rfl ?_
 refine s_call (vs := [_, _]) Tryz.call94 ⟨rfl, rfl, trivial⟩ (fun w hs => rat_down hs hna0 hda0 (by omega) (by omega) (by omega)) rfl ?_
 intro v8 h1 hh1 hr8
 obtain ⟨vn8, vd8, rfl, hn8, hd8⟩ := hr8
 have hlq8 := lq_down qa0 k
 refine w_c rfl ?_
 replace hna1 := hna1.mono hh1
 replace hda1 := hda1.mono hh1
 refine s_call (vs := [_, _]) Tryz.call95 ⟨rfl, rfl, trivial⟩ (fun w hs => rat_up hs hna1 hda1 (by omega) (by omega) (by omega)) rfl ?_
 intro v12 h2 hh2 hr12
 obtain ⟨vn12, vd12, rfl, hn12, hd12⟩ := hr12
 have hlq12 := lq_up qa1 k
 refine w_q rfl (fun h' L' hh hR => ov_build_parts (ps' := [(0, _), (1, _)]) (vs := [vB ((downQ qa0 k).num < 0), vn8, vd8, vB ((upQ qa1 k).num < 0), vn12, vd12]) Tryz.underlying31 info31 rfl (places31 Tryz.underlying31) ⟨rfl, rfl, rfl, rfl, trivial⟩ (fill_one (A := []) (B := [_, _, _]) (C := [_, _, _]) (cs := [_, _, _]) (off := 0) (size := 3) rfl rfl rfl rfl rfl (fill_one (A := [_, _, _]) (B := [_, _, _]) (C := []) (cs := [_, _, _]) (off := 3) (size := 3) rfl rfl rfl rfl rfl fill_nil))) rfl ?_
 replace hn8 := hn8.mono hh2
 replace hd8 := hd8.mono hh2
 refine w_t_upd (A := []) (q' := .var b4 31 [vB ((downQ qa0 k).num < 0), vn8, vd8, vB ((upQ qa1 k).num < 0), vn12, vd12]) rfl (upd_store_var (k := 0) (cs := [_, _, _, _, _, _]) (vs := [_, _, _, _, _, _]) rfl rfl rfl (ocr rfl (ocu hn8 (ocu hd8 (ocr rfl (ocu hn12 (ocu hd12 oc0)))))) size31 (Nat.le_of_ble_eq_true rfl)) rfl (w_nil (gq_keep (e' := [(4, _)]) ⟨rfl, trivial⟩ (gq_then (gc_ret (gq_res (fun E S => run_res1 rfl (rv_agg (cs := [_, _, _, _, _, _]) (.head _) Tryz.underlying31 rfl size31 rfl) E S) ?_)))))
 exact ⟨_, rfl, _, _, _, rfl, hn8, hd8, _, _, _, rfl, hn12, hd12, rfl⟩

theorem span_quo {w0 : World} {h0 : Mem}  (hs : MLe h0 (mem w0)) {qa0 : Rat} {vna0 vda0 : Value} (hna0 : Us .u32 h0 vna0 (limbs qa0.num.natAbs)) (hda0 : Us .u32 h0 vda0 (limbs (denN qa0.den))) {qa1 : Rat} {vna1 vda1 : Value} (hna1 : Us .u32 h0 vna1 (limbs qa1.num.natAbs)) (hda1 : Us .u32 h0 vda1 (limbs (denN qa1.den))) {qb0 : Rat} {vnb0 vdb0 : Value} (hnb0 : Us .u32 h0 vnb0 (limbs qb0.num.natAbs)) (hdb0 : Us .u32 h0 vdb0 (limbs (denN qb0.den))) {qb1 : Rat} {vnb1 vdb1 : Value} (hnb1 : Us .u32 h0 vnb1 (limbs qb1.num.natAbs)) (hdb1 : Us .u32 h0 vdb1 (limbs (denN qb1.den))) (hqa0 : lq qa0 ≤ 1000000000) (hqa1 : lq qa1 ≤ 1000000000) (hqb0 : lq qb0 ≤ 1000000000) (hqb1 : lq qb1 ≤ 1000000000)    :
    Calls Tryz.prog 36 #[.agg #[vB (qa0.num < 0), vna0, vda0, vB (qa1.num < 0), vna1, vda1], .agg #[vB (qb0.num < 0), vnb0, vdb0, vB (qb1.num < 0), vnb1, vdb1]] w0 (Ret w0 h0 (fun h r => ∃ u0, r = .tuple #[u0, vI (quoE qb0 qb1)] ∧ IsRats h u0 [quoLo qa0 qa1 qb0 qb1, quoHi qa0 qa1 qb0 qb1])) := by
 have hq00 := lq_zero
 have hi0 := lq_inv qb0
 have hi1 := lq_inv qb1
 have h1q := lq_one
 unfold invQ at hi0 hi1
 refine calls_begin (n := 35) (e := [(0, .agg #[vB (qa0.num < 0), vna0, vda0, vB (qa1.num < 0), vna1, vda1]), (1, .agg #[vB (qb0.num < 0), vnb0, vdb0, vB (qb1.num < 0), vnb1, vdb1])]) (vs := [.agg #[vB (qa0.num < 0), vna0, vda0, vB (qa1.num < 0), vna1, vda1], .agg #[vB (qb0.num < 0), vnb0, vdb0, vB (qb1.num < 0), vnb1, vdb1]]) Tryz.func36 rfl rfl (Nat.le_of_ble_eq_true rfl) hs ⟨rfl, rfl, trivial⟩ (gc_seq (gc_region (gl_newop (new_box (cs := [_, _, _, _, _, _]) rfl rfl) rfl rfl rfl ?_)))
 intro v2 r2 hr2
 obtain ⟨b2, rfl, rfl⟩ := hr2
 refine gl_newop (new_box (cs := [_, _, _, _, _, _]) rfl rfl) rfl rfl rfl ?_
 intro v3 r3 hr3
 obtain ⟨b3, rfl, rfl⟩ := hr3
 refine gl_newop (new_alloc (cs := [vB ((0 : Rat).num < 0), .slice none 0 0, .slice none 0 0, vB ((0 : Rat).num < 0), .slice none 0 0, .slice none 0 0]) info31 rfl (by simp only [zb]; rfl)) rfl rfl rfl ?_
 intro v4 r4 hr4
 obtain ⟨b4, rfl, rfl⟩ := hr4
 refine asg (v := vI (0)) rfl rfl (gl_nil (gq_then (gc_seq (gc_seq (gc_region (gv (ov_load_agg (vs := [_, _, _, _, _, _]) (.tail _ (.head _)) Tryz.underlying31 rfl size31 rfl rfl) rfl (gv (ov_build_parts (ps' := []) (vs := [vB ((0 : Rat).num < 0), .slice none 0 0, .slice none 0 0]) Tryz.underlying29 info29 rfl (places29 Tryz.underlying29) trivial (by simp only [zb]; exact fill_nil)) rfl ?_)))))))
 refine gl_call (vs := [_, _]) rfl rfl rfl rfl Tryz.call23 ⟨rfl, rfl, trivial⟩ (fun w hs => span_has hs hnb0 hdb0 hnb1 hdb1 (us_zero_num _) (us_zero_den _) (by omega) (by omega) (by omega)) ?_
 intro v13 h1 hh1 hr13
 subst hr13
 refine gl_nil (gq_then ?_)
 refine gc_cond rfl (fun hc13 => ?_) (fun hc13 => ?_)
 ·
  refine gc_seq (gc_region (gv (ov_build_parts (ps' := []) (vs := [vB ((0 : Rat).num < 0), .slice none 0 0, .slice none 0 0, vB ((0 : Rat).num < 0), .slice none 0 0, .slice none 0 0]) Tryz.underlying31 info31 rfl (places31 Tryz.underlying31) trivial (by simp only [zb]; exact fill_nil)) rfl (gl_upd (A := []) (r' := .var b4 31 [vB ((0 : Rat).num < 0), .slice none 0 0, .slice none 0 0, vB ((0 : Rat).num < 0), .slice none 0 0, .slice none 0 0]) (upd_store_var (k := 0) (cs := [_, _, _, _, _, _]) (vs := [_, _, _, _, _, _]) rfl rfl rfl rfl size31 (Nat.le_of_ble_eq_true rfl)) rfl rfl rfl (asg (v := vI (3)) rfl rfl (gl_nil (gq_then (gc_ret (gr_then (gq_res (fun E S => run_res2 rfl (rv_agg (cs := [_, _, _, _, _, _]) (.head _) Tryz.underlying31 rfl size31 rfl) (rv_tmp rfl) E S) ?_)))))))))
  obtain ⟨e1, e2, e3⟩ := quo_t (a := qa0) (b := qa1) hc13
  rw [e1, e2, e3]
  exact ⟨_, rfl, _, rfl, _, _, _, rfl, (us_zero_num _), (us_zero_den _), _, _, _, rfl, (us_zero_num _), (us_zero_den _), rfl⟩
 ·
  refine gc_skip (gq_then (gc_seq (gc_region ?_)))
  refine gl_call (vs := [vI (1)]) rfl rfl rfl rfl Tryz.call74 ⟨rfl, trivial⟩ (fun w hs => rat_int hs (by omega) (by omega)) ?_
  intro v15 h2 hh2 hr15
  obtain ⟨vn15, vd15, rfl, hn15, hd15⟩ := hr15
  have hlq15 := lq_int (1 : Int) (by omega) (by omega)
  refine gl_newop (new_alloc (cs := [vB ((0 : Rat).num < 0), .slice none 0 0, .slice none 0 0]) info29 rfl (by simp only [zb]; rfl)) rfl rfl rfl ?_
  intro v6 r6 hr6
  obtain ⟨b6, rfl, rfl⟩ := hr6
  refine gl_upd (A := []) (r' := .var b6 29 [vB ((((1 : Int) : Rat)).num < 0), vn15, vd15]) (upd_store_var (k := 0) (cs := [_, _, _]) (vs := [_, _, _]) rfl rfl rfl (ocr rfl (ocu hn15 (ocu hd15 oc0))) size29 (Nat.le_of_ble_eq_true rfl)) rfl rfl rfl (gl_nil (gq_then (gc_seq (gc_region (gv (ov_load_agg (vs := [_, _, _]) (.head _) Tryz.underlying29 rfl size29 rfl rfl) rfl (gv (ov_field_addr Tryz.underlying31 rfl Tryz.sizeOf29 rfl) rfl (gv (ov_load_agg (vs := [_, _, _]) (.tail _ (.tail _ (.head _))) Tryz.underlying29 rfl size29 rfl rfl) rfl ?_)))))))
  replace hnb0 := hnb0.mono (hh1.trans hh2)
  replace hdb0 := hdb0.mono (hh1.trans hh2)
  refine gl_call (vs := [_, _]) rfl rfl rfl rfl Tryz.call75 ⟨rfl, rfl, trivial⟩ (fun w hs => rat_quo hs hn15 hd15 hnb0 hdb0 (by omega) (by omega)) ?_
  intro v20 h3 hh3 hr20
  obtain ⟨_, rfl, vn20, vd20, rfl, hn20, hd20⟩ := hr20
  have hlq20 := lq_quo' (((1 : Int) : Rat)) qb0
  refine mv rfl rfl (gv (ov_extract (vs := [_, _]) rfl rfl) rfl (gv (ov_extract (vs := [_, _]) rfl rfl) rfl (gl_newop (new_alloc (cs := [vB ((0 : Rat).num < 0), .slice none 0 0, .slice none 0 0]) info29 rfl (by simp only [zb]; rfl)) rfl rfl rfl ?_)))
  intro v7 r7 hr7
  obtain ⟨b7, rfl, rfl⟩ := hr7
  refine gl_upd (A := []) (r' := .var b7 29 [vB ((if qb0 = 0 then 0 else (((1 : Int) : Rat)) / qb0).num < 0), vn20, vd20]) (upd_store_var (k := 0) (cs := [_, _, _]) (vs := [_, _, _]) rfl rfl rfl (ocr rfl (ocu hn20 (ocu hd20 oc0))) size29 (Nat.le_of_ble_eq_true rfl)) rfl rfl rfl (asg rfl rfl (gl_nil (gq_keep (e' := [(2, _), (3, _), (4, _), (6, _), (7, _)]) ⟨rfl, rfl, rfl, rfl, rfl, trivial⟩ (gq_then (gc_seq (gc_region (gv (ov_load_agg (vs := [_, _, _]) (.tail _ (.head _)) Tryz.underlying29 rfl size29 rfl rfl) rfl (gv (ov_field_addr Tryz.underlying31 rfl Tryz.sizeOf29 rfl) rfl (gv (ov_load_agg (vs := [_, _, _]) (.tail _ (.tail _ (.tail _ (.head _)))) Tryz.underlying29 rfl size29 rfl rfl) rfl ?_)))))))))
  replace hnb1 := hnb1.mono ((hh1.trans hh2).trans hh3)
  replace hdb1 := hdb1.mono ((hh1.trans hh2).trans hh3)
  replace hn15 := hn15.mono hh3
  replace hd15 := hd15.mono hh3
  refine gl_call (vs := [_, _]) rfl rfl rfl rfl Tryz.call75 ⟨rfl, rfl, trivial⟩ (fun w hs => rat_quo hs hn15 hd15 hnb1 hdb1 (by omega) (by omega)) ?_
  intro v27 h4 hh4 hr27
  obtain ⟨_, rfl, vn27, vd27, rfl, hn27, hd27⟩ := hr27
  have hlq27 := lq_quo' (((1 : Int) : Rat)) qb1
  refine mv rfl rfl (gv (ov_extract (vs := [_, _]) rfl rfl) rfl (gv (ov_extract (vs := [_, _]) rfl rfl) rfl (gl_newop (new_alloc (cs := [vB ((0 : Rat).num < 0), .slice none 0 0, .slice none 0 0]) info29 rfl (by simp only [zb]; rfl)) rfl rfl rfl ?_)))
  intro v9 r9 hr9
  obtain ⟨b9, rfl, rfl⟩ := hr9
  refine gl_upd (A := []) (r' := .var b9 29 [vB ((if qb1 = 0 then 0 else (((1 : Int) : Rat)) / qb1).num < 0), vn27, vd27]) (upd_store_var (k := 0) (cs := [_, _, _]) (vs := [_, _, _]) rfl rfl rfl (ocr rfl (ocu hn27 (ocu hd27 oc0))) size29 (Nat.le_of_ble_eq_true rfl)) rfl rfl rfl (asg rfl rfl (gl_nil (gq_keep (e' := [(2, _), (4, _), (7, _), (9, _)]) ⟨rfl, rfl, rfl, rfl, trivial⟩ (gq_then (gc_seq ?_)))))
  refine gc_draw 5 _ [] [(0, .q), (1, .q), (2, .q), (3, .c), (4, .c), (5, .t), (6, .t)] mixed (fun x hx => by cases hx) (by kernel_rfl) (fun x hx => by cases hx) (fun r hr => hr) (w_q rfl (fun h' L' hh hR => ov_load_agg (vs := [_, _, _, _, _, _]) (hR _ (.tail _ (.tail _ (.tail _ (.tail _ (.tail _ (.head _))))))) Tryz.underlying31 rfl size31 rfl rfl) rfl (w_q rfl (fun h' L' hh hR => ov_load_agg (vs := [_, _, _]) (hR _ (.tail _ (.head _))) Tryz.underlying29 rfl size29 rfl rfl) rfl (w_q rfl (fun h' L' hh hR => ov_load_agg (vs := [_, _, _]) (hR _ (.head _)) Tryz.underlying29 rfl size29 rfl rfl) rfl ?_)))
  refine w_c rfl ?_
  replace hn20 := hn20.mono hh4
  replace hd20 := hd20.mono hh4
  refine s_call (vs := [_, _]) Tryz.call32 ⟨rfl, rfl, trivial⟩ (fun w hs => span_of hs hn20 hd20 hn27 hd27 (by omega) (by omega)) rfl ?_
  intro v33 h5 hh5 hr33
  have hlq33_0 := lq_min (if qb0 = 0 then 0 else (((1 : Int) : Rat)) / qb0) (if qb1 = 0 then 0 else (((1 : Int) : Rat)) / qb1)
  have hlq33_1 := lq_max (if qb0 = 0 then 0 else (((1 : Int) : Rat)) / qb0) (if qb1 = 0 then 0 else (((1 : Int) : Rat)) / qb1)
  obtain ⟨_, rfl, vn33_0, vd33_0, _, rfl, hn33_0, hd33_0, vn33_1, vd33_1, _, rfl, hn33_1, hd33_1, rfl⟩ := hr33
  refine w_c rfl ?_
  replace hna0 := hna0.mono ((((hh1.trans hh2).trans hh3).trans hh4).trans hh5)
  replace hda0 := hda0.mono ((((hh1.trans hh2).trans hh3).trans hh4).trans hh5)
  replace hna1 := hna1.mono ((((hh1.trans hh2).trans hh3).trans hh4).trans hh5)
  replace hda1 := hda1.mono ((((hh1.trans hh2).trans hh3).trans hh4).trans hh5)
  refine s_call (vs := [_, _]) Tryz.call44 ⟨rfl, rfl, trivial⟩ (fun w hs => span_mul hs hna0 hda0 hna1 hda1 hn33_0 hd33_0 hn33_1 hd33_1 (by omega) (by omega) (by omega) (by omega)) rfl ?_
  intro v34 h6 hh6 hr34
  have hlq34_0 := lq_mulLo qa0 qa1 (minQ (if qb0 = 0 then 0 else (((1 : Int) : Rat)) / qb0) (if qb1 = 0 then 0 else (((1 : Int) : Rat)) / qb1)) (maxQ (if qb0 = 0 then 0 else (((1 : Int) : Rat)) / qb0) (if qb1 = 0 then 0 else (((1 : Int) : Rat)) / qb1))
  have hlq34_1 := lq_mulHi qa0 qa1 (minQ (if qb0 = 0 then 0 else (((1 : Int) : Rat)) / qb0) (if qb1 = 0 then 0 else (((1 : Int) : Rat)) / qb1)) (maxQ (if qb0 = 0 then 0 else (((1 : Int) : Rat)) / qb0) (if qb1 = 0 then 0 else (((1 : Int) : Rat)) / qb1))
  obtain ⟨_, rfl, vn34_0, vd34_0, _, rfl, hn34_0, hd34_0, vn34_1, vd34_1, _, rfl, hn34_1, hd34_1, rfl⟩ := hr34
  refine w_t_upd (A := [_, _, _]) (q' := .var b4 31 [vB ((mulLo qa0 qa1 (minQ (if qb0 = 0 then 0 else (((1 : Int) : Rat)) / qb0) (if qb1 = 0 then 0 else (((1 : Int) : Rat)) / qb1)) (maxQ (if qb0 = 0 then 0 else (((1 : Int) : Rat)) / qb0) (if qb1 = 0 then 0 else (((1 : Int) : Rat)) / qb1))).num < 0), vn34_0, vd34_0, vB ((mulHi qa0 qa1 (minQ (if qb0 = 0 then 0 else (((1 : Int) : Rat)) / qb0) (if qb1 = 0 then 0 else (((1 : Int) : Rat)) / qb1)) (maxQ (if qb0 = 0 then 0 else (((1 : Int) : Rat)) / qb0) (if qb1 = 0 then 0 else (((1 : Int) : Rat)) / qb1))).num < 0), vn34_1, vd34_1]) rfl (upd_store_var (k := 0) (cs := [_, _, _, _, _, _]) (vs := [_, _, _, _, _, _]) rfl rfl rfl (ocr rfl (ocu hn34_0 (ocu hd34_0 (ocr rfl (ocu hn34_1 (ocu hd34_1 oc0)))))) size31 (Nat.le_of_ble_eq_true rfl)) rfl (w_t_val rfl (ov_assign (v := vI (0)) rfl) rfl (w_nil (gq_then (gc_ret (gq_res (fun E S => run_res2 rfl (rv_agg (cs := [_, _, _, _, _, _]) (.tail _ (.tail _ (.tail _ (.head _)))) Tryz.underlying31 rfl size31 rfl) (rv_tmp rfl) E S) ?_)))))
  obtain ⟨e1, e2, e3⟩ := quo_f (a := qa0) (b := qa1) hc13
  rw [e1, e2, e3]
  exact ⟨_, rfl, _, rfl, _, _, _, rfl, hn34_0, hd34_0, _, _, _, rfl, hn34_1, hd34_1, rfl⟩

theorem sref_quo {w0 : World} {h0 : Mem}  (hs : MLe h0 (mem w0)) {qa0 : Rat} {vna0 vda0 : Value} (hna0 : Us .u32 h0 vna0 (limbs qa0.num.natAbs)) (hda0 : Us .u32 h0 vda0 (limbs (denN qa0.den))) {qa1 : Rat} {vna1 vda1 : Value} (hna1 : Us .u32 h0 vna1 (limbs qa1.num.natAbs)) (hda1 : Us .u32 h0 vda1 (limbs (denN qa1.den))) {qb0 : Rat} {vnb0 vdb0 : Value} (hnb0 : Us .u32 h0 vnb0 (limbs qb0.num.natAbs)) (hdb0 : Us .u32 h0 vdb0 (limbs (denN qb0.den))) {qb1 : Rat} {vnb1 vdb1 : Value} (hnb1 : Us .u32 h0 vnb1 (limbs qb1.num.natAbs)) (hdb1 : Us .u32 h0 vdb1 (limbs (denN qb1.den))) (hqa0 : lq qa0 ≤ 1000000000) (hqa1 : lq qa1 ≤ 1000000000) (hqb0 : lq qb0 ≤ 1000000000) (hqb1 : lq qb1 ≤ 1000000000)    :
    Calls Tryz.prog 37 #[.agg #[vB (qa0.num < 0), vna0, vda0, vB (qa1.num < 0), vna1, vda1], .agg #[vB (qb0.num < 0), vnb0, vdb0, vB (qb1.num < 0), vnb1, vdb1]] w0 (Ret w0 h0 (fun h r => ∃ u0, r = .tuple #[u0, vI (quoE qb0 qb1)] ∧ IsRats h u0 [quoLo qa0 qa1 qb0 qb1, quoHi qa0 qa1 qb0 qb1])) := by
 have hq00 := lq_zero
 have hi0 := lq_inv qb0
 have hi1 := lq_inv qb1
 have h1q := lq_one
 unfold invQ at hi0 hi1
 refine calls_begin (n := 23) (e := [(0, .agg #[vB (qa0.num < 0), vna0, vda0, vB (qa1.num < 0), vna1, vda1]), (1, .agg #[vB (qb0.num < 0), vnb0, vdb0, vB (qb1.num < 0), vnb1, vdb1])]) (vs := [.agg #[vB (qa0.num < 0), vna0, vda0, vB (qa1.num < 0), vna1, vda1], .agg #[vB (qb0.num < 0), vnb0, vdb0, vB (qb1.num < 0), vnb1, vdb1]]) Tryz.func37 rfl rfl (Nat.le_of_ble_eq_true rfl) hs ⟨rfl, rfl, trivial⟩ (gc_seq (gc_region (gl_newop (new_box (cs := [_, _, _, _, _, _]) rfl rfl) rfl rfl rfl ?_)))
 intro v2 r2 hr2
 obtain ⟨b2, rfl, rfl⟩ := hr2
 refine gl_newop (new_box (cs := [_, _, _, _, _, _]) rfl rfl) rfl rfl rfl ?_
 intro v3 r3 hr3
 obtain ⟨b3, rfl, rfl⟩ := hr3
 refine gl_newop (new_alloc (cs := [vB ((0 : Rat).num < 0), .slice none 0 0, .slice none 0 0, vB ((0 : Rat).num < 0), .slice none 0 0, .slice none 0 0]) info31 rfl (by simp only [zb]; rfl)) rfl rfl rfl ?_
 intro v4 r4 hr4
 obtain ⟨b4, rfl, rfl⟩ := hr4
 refine asg (v := vI (0)) rfl rfl (gl_nil (gq_then (gc_seq (gc_seq (gc_region (gv (ov_load_agg (vs := [_, _, _, _, _, _]) (.tail _ (.head _)) Tryz.underlying31 rfl size31 rfl rfl) rfl (gv (ov_build_parts (ps' := []) (vs := [vB ((0 : Rat).num < 0), .slice none 0 0, .slice none 0 0]) Tryz.underlying29 info29 rfl (places29 Tryz.underlying29) trivial (by simp only [zb]; exact fill_nil)) rfl ?_)))))))
 refine gl_call (vs := [_, _]) rfl rfl rfl rfl Tryz.call24 ⟨rfl, rfl, trivial⟩ (fun w hs => sref_has hs hnb0 hdb0 hnb1 hdb1 (us_zero_num _) (us_zero_den _) (by omega) (by omega) (by omega)) ?_
 intro v9 h1 hh1 hr9
 subst hr9
 refine gl_nil (gq_then ?_)
 refine gc_cond rfl (fun hc9 => ?_) (fun hc9 => ?_)
 ·
  refine gc_seq (gc_region (gv (ov_build_parts (ps' := []) (vs := [vB ((0 : Rat).num < 0), .slice none 0 0, .slice none 0 0, vB ((0 : Rat).num < 0), .slice none 0 0, .slice none 0 0]) Tryz.underlying31 info31 rfl (places31 Tryz.underlying31) trivial (by simp only [zb]; exact fill_nil)) rfl (gl_upd (A := []) (r' := .var b4 31 [vB ((0 : Rat).num < 0), .slice none 0 0, .slice none 0 0, vB ((0 : Rat).num < 0), .slice none 0 0, .slice none 0 0]) (upd_store_var (k := 0) (cs := [_, _, _, _, _, _]) (vs := [_, _, _, _, _, _]) rfl rfl rfl rfl size31 (Nat.le_of_ble_eq_true rfl)) rfl rfl rfl (asg (v := vI (3)) rfl rfl (gl_nil (gq_then (gc_ret (gr_then (gq_res (fun E S => run_res2 rfl (rv_agg (cs := [_, _, _, _, _, _]) (.head _) Tryz.underlying31 rfl size31 rfl) (rv_tmp rfl) E S) ?_)))))))))
  obtain ⟨e1, e2, e3⟩ := quo_t (a := qa0) (b := qa1) hc9
  rw [e1, e2, e3]
  exact ⟨_, rfl, _, rfl, _, _, _, rfl, (us_zero_num _), (us_zero_den _), _, _, _, rfl, (us_zero_num _), (us_zero_den _), rfl⟩
 ·
  refine gc_skip (gq_then (gc_seq (gc_region ?_)))
  refine gl_call (vs := [vI (1)]) rfl rfl rfl rfl Tryz.call18 ⟨rfl, trivial⟩ (fun w hs => rref_int hs (by omega) (by omega)) ?_
  intro v11 h2 hh2 hr11
  obtain ⟨vn11, vd11, rfl, hn11, hd11⟩ := hr11
  have hlq11 := lq_int (1 : Int) (by omega) (by omega)
  refine gl_newop (new_alloc (cs := [vB ((0 : Rat).num < 0), .slice none 0 0, .slice none 0 0]) info29 rfl (by simp only [zb]; rfl)) rfl rfl rfl ?_
  intro v6 r6 hr6
  obtain ⟨b6, rfl, rfl⟩ := hr6
  refine gl_upd (A := []) (r' := .var b6 29 [vB ((((1 : Int) : Rat)).num < 0), vn11, vd11]) (upd_store_var (k := 0) (cs := [_, _, _]) (vs := [_, _, _]) rfl rfl rfl (ocr rfl (ocu hn11 (ocu hd11 oc0))) size29 (Nat.le_of_ble_eq_true rfl)) rfl rfl rfl (gl_nil (gq_then (gc_seq ?_)))
  refine gc_draw 11 _ [] [(0, .q), (1, .q), (2, .q), (3, .q), (5, .q), (6, .q), (7, .q), (4, .c), (8, .c), (9, .c), (10, .c), (11, .t), (12, .t)] mixed (fun x hx => by cases hx) (by kernel_rfl) (fun x hx => by cases hx) (fun r hr => hr) (w_q rfl (fun h' L' hh hR => ov_load_agg (vs := [_, _, _, _, _, _]) (hR _ (.tail _ (.tail _ (.tail _ (.head _))))) Tryz.underlying31 rfl size31 rfl rfl) rfl (w_q rfl (fun h' L' hh hR => ov_load_agg (vs := [_, _, _]) (hR _ (.head _)) Tryz.underlying29 rfl size29 rfl rfl) rfl (w_q rfl (fun h' L' hh hR => ov_field_addr Tryz.underlying31 rfl Tryz.sizeOf29 rfl) rfl (w_q rfl (fun h' L' hh hR => ov_load_agg (vs := [_, _, _]) (hR _ (.tail _ (.tail _ (.head _)))) Tryz.underlying29 rfl size29 rfl rfl) rfl (w_q rfl (fun h' L' hh hR => ov_load_agg (vs := [_, _, _]) (hR _ (.head _)) Tryz.underlying29 rfl size29 rfl rfl) rfl (w_q rfl (fun h' L' hh hR => ov_field_addr Tryz.underlying31 rfl Tryz.sizeOf29 rfl) rfl (w_q rfl (fun h' L' hh hR => ov_load_agg (vs := [_, _, _]) (hR _ (.tail _ (.tail _ (.head _)))) Tryz.underlying29 rfl size29 rfl rfl) rfl ?_)))))))
  refine w_c rfl ?_
  replace hnb0 := hnb0.mono (hh1.trans hh2)
  replace hdb0 := hdb0.mono (hh1.trans hh2)
  refine s_call (vs := [_, _]) Tryz.call49 ⟨rfl, rfl, trivial⟩ (fun w hs => rref_over hs hn11 hd11 hnb0 hdb0 (by omega) (by omega)) rfl ?_
  intro v16 h3 hh3 hr16
  obtain ⟨vn16, vd16, rfl, hn16, hd16⟩ := hr16
  have hlq16 := lq_quo' (((1 : Int) : Rat)) qb0
  refine w_c rfl ?_
  replace hnb1 := hnb1.mono ((hh1.trans hh2).trans hh3)
  replace hdb1 := hdb1.mono ((hh1.trans hh2).trans hh3)
  replace hn11 := hn11.mono hh3
  replace hd11 := hd11.mono hh3
  refine s_call (vs := [_, _]) Tryz.call49 ⟨rfl, rfl, trivial⟩ (fun w hs => rref_over hs hn11 hd11 hnb1 hdb1 (by omega) (by omega)) rfl ?_
  intro v20 h4 hh4 hr20
  obtain ⟨vn20, vd20, rfl, hn20, hd20⟩ := hr20
  have hlq20 := lq_quo' (((1 : Int) : Rat)) qb1
  refine w_c rfl ?_
  replace hn16 := hn16.mono hh4
  replace hd16 := hd16.mono hh4
  refine s_call (vs := [_, _]) Tryz.call33 ⟨rfl, rfl, trivial⟩ (fun w hs => sref_of hs hn16 hd16 hn20 hd20 (by omega) (by omega)) rfl ?_
  intro v21 h5 hh5 hr21
  have hlq21_0 := lq_min (if qb0 = 0 then 0 else (((1 : Int) : Rat)) / qb0) (if qb1 = 0 then 0 else (((1 : Int) : Rat)) / qb1)
  have hlq21_1 := lq_max (if qb0 = 0 then 0 else (((1 : Int) : Rat)) / qb0) (if qb1 = 0 then 0 else (((1 : Int) : Rat)) / qb1)
  obtain ⟨_, rfl, vn21_0, vd21_0, _, rfl, hn21_0, hd21_0, vn21_1, vd21_1, _, rfl, hn21_1, hd21_1, rfl⟩ := hr21
  refine w_c rfl ?_
  replace hna0 := hna0.mono ((((hh1.trans hh2).trans hh3).trans hh4).trans hh5)
  replace hda0 := hda0.mono ((((hh1.trans hh2).trans hh3).trans hh4).trans hh5)
  replace hna1 := hna1.mono ((((hh1.trans hh2).trans hh3).trans hh4).trans hh5)
  replace hda1 := hda1.mono ((((hh1.trans hh2).trans hh3).trans hh4).trans hh5)
  refine s_call (vs := [_, _]) Tryz.call45 ⟨rfl, rfl, trivial⟩ (fun w hs => sref_mul hs hna0 hda0 hna1 hda1 hn21_0 hd21_0 hn21_1 hd21_1 (by omega) (by omega) (by omega) (by omega)) rfl ?_
  intro v22 h6 hh6 hr22
  have hlq22_0 := lq_mulLo qa0 qa1 (minQ (if qb0 = 0 then 0 else (((1 : Int) : Rat)) / qb0) (if qb1 = 0 then 0 else (((1 : Int) : Rat)) / qb1)) (maxQ (if qb0 = 0 then 0 else (((1 : Int) : Rat)) / qb0) (if qb1 = 0 then 0 else (((1 : Int) : Rat)) / qb1))
  have hlq22_1 := lq_mulHi qa0 qa1 (minQ (if qb0 = 0 then 0 else (((1 : Int) : Rat)) / qb0) (if qb1 = 0 then 0 else (((1 : Int) : Rat)) / qb1)) (maxQ (if qb0 = 0 then 0 else (((1 : Int) : Rat)) / qb0) (if qb1 = 0 then 0 else (((1 : Int) : Rat)) / qb1))
  obtain ⟨_, rfl, vn22_0, vd22_0, _, rfl, hn22_0, hd22_0, vn22_1, vd22_1, _, rfl, hn22_1, hd22_1, rfl⟩ := hr22
  refine w_t_upd (A := [_]) (q' := .var b4 31 [vB ((mulLo qa0 qa1 (minQ (if qb0 = 0 then 0 else (((1 : Int) : Rat)) / qb0) (if qb1 = 0 then 0 else (((1 : Int) : Rat)) / qb1)) (maxQ (if qb0 = 0 then 0 else (((1 : Int) : Rat)) / qb0) (if qb1 = 0 then 0 else (((1 : Int) : Rat)) / qb1))).num < 0), vn22_0, vd22_0, vB ((mulHi qa0 qa1 (minQ (if qb0 = 0 then 0 else (((1 : Int) : Rat)) / qb0) (if qb1 = 0 then 0 else (((1 : Int) : Rat)) / qb1)) (maxQ (if qb0 = 0 then 0 else (((1 : Int) : Rat)) / qb0) (if qb1 = 0 then 0 else (((1 : Int) : Rat)) / qb1))).num < 0), vn22_1, vd22_1]) rfl (upd_store_var (k := 0) (cs := [_, _, _, _, _, _]) (vs := [_, _, _, _, _, _]) rfl rfl rfl (ocr rfl (ocu hn22_0 (ocu hd22_0 (ocr rfl (ocu hn22_1 (ocu hd22_1 oc0)))))) size31 (Nat.le_of_ble_eq_true rfl)) rfl (w_t_val rfl (ov_assign (v := vI (0)) rfl) rfl (w_nil (gq_keep (e' := [(4, _), (5, _)]) ⟨rfl, rfl, trivial⟩ (gq_then (gc_ret (gq_res (fun E S => run_res2 rfl (rv_agg (cs := [_, _, _, _, _, _]) (.tail _ (.head _)) Tryz.underlying31 rfl size31 rfl) (rv_tmp rfl) E S) ?_))))))
  obtain ⟨e1, e2, e3⟩ := quo_f (a := qa0) (b := qa1) hc9
  rw [e1, e2, e3]
  exact ⟨_, rfl, _, rfl, _, _, _, rfl, hn22_0, hd22_0, _, _, _, rfl, hn22_1, hd22_1, rfl⟩

theorem span_sign {w0 : World} {h0 : Mem}  (hs : MLe h0 (mem w0)) {qa0 : Rat} {vna0 vda0 : Value} (hna0 : Us .u32 h0 vna0 (limbs qa0.num.natAbs)) (hda0 : Us .u32 h0 vda0 (limbs (denN qa0.den))) {qa1 : Rat} {vna1 vda1 : Value} (hna1 : Us .u32 h0 vna1 (limbs qa1.num.natAbs)) (hda1 : Us .u32 h0 vda1 (limbs (denN qa1.den))) (hqa0 : lq qa0 ≤ 100000000000) (hqa1 : lq qa1 ≤ 100000000000)    :
    Calls Tryz.prog 13 #[.agg #[vB (qa0.num < 0), vna0, vda0, vB (qa1.num < 0), vna1, vda1]] w0 (Ret w0 h0 (fun h r => r = .tuple #[vI (if sgnQ qa0 = sgnQ qa1 then sgnQ qa0 else 0), vB (sgnQ qa0 = sgnQ qa1)])) := by
 have hq00 := lq_zero
 refine calls_begin (n := 16) (e := [(0, .agg #[vB (qa0.num < 0), vna0, vda0, vB (qa1.num < 0), vna1, vda1])]) (vs := [.agg #[vB (qa0.num < 0), vna0, vda0, vB (qa1.num < 0), vna1, vda1]]) Tryz.func13 rfl rfl (Nat.le_of_ble_eq_true rfl) hs ⟨rfl, trivial⟩ (gc_seq (gc_region (gl_newop (new_box (cs := [_, _, _, _, _, _]) rfl rfl) rfl rfl rfl ?_)))
 intro v1 r1 hr1
 obtain ⟨b1, rfl, rfl⟩ := hr1
 refine asg (v := vI (0)) rfl rfl (asg rfl rfl (gl_nil (gq_then (gc_seq ?_))))
 refine gc_draw 8 _ [] [(0, .q), (1, .q), (3, .q), (4, .q), (2, .c), (5, .c), (6, .q), (7, .q)] mixed (fun x hx => by cases hx) (by kernel_rfl) (fun x hx => by cases hx) (fun r hr => hr) (w_q rfl (fun h' L' hh hR => ov_field_addr Tryz.underlying31 rfl Tryz.sizeOf29 rfl) rfl (w_q rfl (fun h' L' hh hR => ov_load_agg (vs := [_, _, _]) (hR _ (.head _)) Tryz.underlying29 rfl size29 rfl rfl) rfl (w_q rfl (fun h' L' hh hR => ov_field_addr Tryz.underlying31 rfl Tryz.sizeOf29 rfl) rfl (w_q rfl (fun h' L' hh hR => ov_load_agg (vs := [_, _, _]) (hR _ (.head _)) Tryz.underlying29 rfl size29 rfl rfl) rfl ?_))))
 refine w_c rfl ?_
 refine s_call (vs := [_]) Tryz.call66 ⟨rfl, trivial⟩ (fun w hs => rat_sign hs hna0 hda0 (by omega)) rfl ?_
 intro v8 h1 hh1 hr8
 have hsr8 := sgnQ_range qa0
 subst hr8
 refine w_c rfl ?_
 replace hna1 := hna1.mono hh1
 replace hda1 := hda1.mono hh1
 refine s_call (vs := [_]) Tryz.call66 ⟨rfl, trivial⟩ (fun w hs => rat_sign hs hna1 hda1 (by omega)) rfl ?_
 intro v11 h2 hh2 hr11
 have hsr11 := sgnQ_range qa1
 subst hr11
 refine w_q rfl (fun h' L' hh hR => ov_assign rfl) rfl (w_q rfl (fun h' L' hh hR => ov_assign rfl) rfl (w_nil (gq_keep (e' := [(4, _), (5, _)]) ⟨rfl, rfl, trivial⟩ (gq_then (gc_seq (gc_seq (gc_region (mv rfl rfl (mv rfl rfl (gv (ov_neq_i rfl rfl) rfl (gl_nil (gq_then ?_))))))))))))
 refine gc_cond rfl (fun hc14 => ?_) (fun hc14 => ?_)
 ·
  refine gc_seq (gc_region (asg (v := vI (0)) rfl rfl (asg rfl rfl (gl_nil (gq_then (gc_ret (gr_then (gq_body2 rfl rfl rfl ?_))))))))
  rw [if_neg hc14, vB_false hc14]
 ·
  refine gc_skip (gq_then (gc_seq (gc_region (mv rfl rfl (asg rfl rfl (asg rfl rfl (gl_nil (gq_then (gc_ret (gq_body2 rfl rfl rfl ?_))))))))))
  rw [if_pos (Classical.not_not.1 hc14), vB_true (Classical.not_not.1 hc14)]

theorem sref_sign {w0 : World} {h0 : Mem}  (hs : MLe h0 (mem w0)) {qa0 : Rat} {vna0 vda0 : Value} (hna0 : Us .u32 h0 vna0 (limbs qa0.num.natAbs)) (hda0 : Us .u32 h0 vda0 (limbs (denN qa0.den))) {qa1 : Rat} {vna1 vda1 : Value} (hna1 : Us .u32 h0 vna1 (limbs qa1.num.natAbs)) (hda1 : Us .u32 h0 vda1 (limbs (denN qa1.den))) (hqa0 : lq qa0 ≤ 100000000000) (hqa1 : lq qa1 ≤ 100000000000)    :
    Calls Tryz.prog 14 #[.agg #[vB (qa0.num < 0), vna0, vda0, vB (qa1.num < 0), vna1, vda1]] w0 (Ret w0 h0 (fun h r => r = .tuple #[vI (if 0 < sgnQ qa0 then 1 else if sgnQ qa1 < 0 then -1 else 0), vB (0 < sgnQ qa0 ∨ sgnQ qa1 < 0 ∨ (sgnQ qa0 = 0 ∧ sgnQ qa1 = 0))])) := by
 have hq00 := lq_zero
 refine calls_begin (n := 22) (e := [(0, .agg #[vB (qa0.num < 0), vna0, vda0, vB (qa1.num < 0), vna1, vda1])]) (vs := [.agg #[vB (qa0.num < 0), vna0, vda0, vB (qa1.num < 0), vna1, vda1]]) Tryz.func14 rfl rfl (Nat.le_of_ble_eq_true rfl) hs ⟨rfl, trivial⟩ (gc_seq (gc_region (gl_newop (new_box (cs := [_, _, _, _, _, _]) rfl rfl) rfl rfl rfl ?_)))
 intro v1 r1 hr1
 obtain ⟨b1, rfl, rfl⟩ := hr1
 refine asg (v := vI (0)) rfl rfl (asg rfl rfl (gl_nil (gq_then (gc_seq ?_))))
 refine gc_draw 8 _ [] [(0, .q), (1, .q), (3, .q), (4, .q), (2, .c), (5, .c), (6, .q), (7, .q)] mixed (fun x hx => by cases hx) (by kernel_rfl) (fun x hx => by cases hx) (fun r hr => hr) (w_q rfl (fun h' L' hh hR => ov_field_addr Tryz.underlying31 rfl Tryz.sizeOf29 rfl) rfl (w_q rfl (fun h' L' hh hR => ov_load_agg (vs := [_, _, _]) (hR _ (.head _)) Tryz.underlying29 rfl size29 rfl rfl) rfl (w_q rfl (fun h' L' hh hR => ov_field_addr Tryz.underlying31 rfl Tryz.sizeOf29 rfl) rfl (w_q rfl (fun h' L' hh hR => ov_load_agg (vs := [_, _, _]) (hR _ (.head _)) Tryz.underlying29 rfl size29 rfl rfl) rfl ?_))))
 refine w_c rfl ?_
 refine s_call (vs := [_]) Tryz.call51 ⟨rfl, trivial⟩ (fun w hs => rref_sign hs hna0 hda0 (by omega)) rfl ?_
 intro v8 h1 hh1 hr8
 have hsr8 := sgnQ_range qa0
 subst hr8
 refine w_c rfl ?_
 replace hna1 := hna1.mono hh1
 replace hda1 := hda1.mono hh1
 refine s_call (vs := [_]) Tryz.call51 ⟨rfl, trivial⟩ (fun w hs => rref_sign hs hna1 hda1 (by omega)) rfl ?_
 intro v11 h2 hh2 hr11
 have hsr11 := sgnQ_range qa1
 subst hr11
 refine w_q rfl (fun h' L' hh hR => ov_assign rfl) rfl (w_q rfl (fun h' L' hh hR => ov_assign rfl) rfl (w_nil (gq_keep (e' := [(4, _), (5, _)]) ⟨rfl, rfl, trivial⟩ (gq_then (gc_seq (gc_seq (gc_region (mv rfl rfl (gv (ov_gtr_i (q := 0) rfl rfl) rfl (gl_nil (gq_then ?_)))))))))))
 refine gc_cond rfl (fun hc13 => ?_) (fun hc13 => ?_)
 ·
  refine gc_seq (gc_region (asg (v := vI (1)) rfl rfl (asg rfl rfl (gl_nil (gq_then (gc_ret (gr_then (gq_body2 rfl rfl rfl ?_))))))))
  rw [if_pos hc13, vB_true (.inl hc13)]
 ·
  refine gc_skip (gq_then (gc_seq (gc_seq (gc_region (mv rfl rfl (gv (ov_lss_i (q := 0) rfl rfl) rfl (gl_nil (gq_then ?_))))))))
  refine gc_cond rfl (fun hc15 => ?_) (fun hc15 => ?_)
  ·
   refine gc_seq (gc_region (asg (v := vI (-1)) rfl rfl (asg rfl rfl (gl_nil (gq_then (gc_ret (gr_then (gq_body2 rfl rfl rfl ?_))))))))
   rw [if_neg hc13, if_pos hc15, vB_true (.inr (.inl hc15))]
  ·
   refine gc_skip (gq_then (gc_seq (gc_region (mv rfl rfl (gv (ov_eql_i (q := 0) rfl rfl) rfl ?_)))))
   refine gl_cut (ι := Unit) 4 (fun _ => True) (fun _ => [(21, vB (((sgnQ qa0) = (0 : Int)) ∧ ((sgnQ qa1) = (0 : Int))))]) (fun _ => [.var b1 31 [vB (qa0.num < 0), vna0, vda0, vB (qa1.num < 0), vna1, vda1]]) (fun _ => h2) ?_ ?_
   ·
    refine gl_cases ((sgnQ qa0) = (0 : Int)) (fun hg => ?_) (fun hg => ?_)
    ·
     refine gl_val (ov_move (v := .bool true) (congrArg some (vB_true hg))) rfl rfl rfl (gl_on rfl rfl rfl (mv rfl rfl (gl_on rfl rfl rfl (gv (ov_eql_i (q := 0) rfl rfl) rfl (gv (ov_pick_t rfl rfl) rfl (gl_nil ?_))))))
     refine gq_cut () trivial ⟨?_, trivial⟩ rfl rfl
     exact congrArg some (vB_and_t hg)
    ·
     refine gl_val (ov_move (v := .bool false) (congrArg some (vB_false hg))) rfl rfl rfl (gl_off rfl rfl rfl rfl rfl rfl (gl_off rfl rfl rfl rfl rfl rfl (gv (ov_pick_f rfl rfl) rfl (gl_nil ?_))))
     refine gq_cut () trivial ⟨?_, trivial⟩ rfl rfl
     exact congrArg some (vB_and_f hg)
   ·
    intro _ _
    show GL _ _ _ _ _ _ _ [(21, vB (((sgnQ qa0) = (0 : Int)) ∧ ((sgnQ qa1) = (0 : Int))))] [.var b1 31 [vB (qa0.num < 0), vna0, vda0, vB (qa1.num < 0), vna1, vda1]] h2
    refine asg (v := vI (0)) rfl rfl (asg rfl rfl (gl_nil (gq_then (gc_ret (gq_body2 rfl rfl rfl ?_)))))
    rw [if_neg hc13, if_neg hc15, vB_iff (q := 0 < sgnQ qa0 ∨ sgnQ qa1 < 0 ∨ (sgnQ qa0 = 0 ∧ sgnQ qa1 = 0)) ⟨fun h => .inr (.inr h), fun h => (h.resolve_left hc13).resolve_left hc15⟩]

theorem span_meet {w0 : World} {h0 : Mem}  (hs : MLe h0 (mem w0)) {qa0 : Rat} {vna0 vda0 : Value} (hna0 : Us .u32 h0 vna0 (limbs qa0.num.natAbs)) (hda0 : Us .u32 h0 vda0 (limbs (denN qa0.den))) {qa1 : Rat} {vna1 vda1 : Value} (hna1 : Us .u32 h0 vna1 (limbs qa1.num.natAbs)) (hda1 : Us .u32 h0 vda1 (limbs (denN qa1.den))) {qb0 : Rat} {vnb0 vdb0 : Value} (hnb0 : Us .u32 h0 vnb0 (limbs qb0.num.natAbs)) (hdb0 : Us .u32 h0 vdb0 (limbs (denN qb0.den))) {qb1 : Rat} {vnb1 vdb1 : Value} (hnb1 : Us .u32 h0 vnb1 (limbs qb1.num.natAbs)) (hdb1 : Us .u32 h0 vdb1 (limbs (denN qb1.den))) (hqa0 : lq qa0 ≤ 100000000000) (hqa1 : lq qa1 ≤ 100000000000) (hqb0 : lq qb0 ≤ 100000000000) (hqb1 : lq qb1 ≤ 100000000000)    :
    Calls Tryz.prog 11 #[.agg #[vB (qa0.num < 0), vna0, vda0, vB (qa1.num < 0), vna1, vda1], .agg #[vB (qb0.num < 0), vnb0, vdb0, vB (qb1.num < 0), vnb1, vdb1]] w0 (Ret w0 h0 (fun h r => ∃ u0, r = .tuple #[u0, vB (¬ minQ qa1 qb1 < maxQ qa0 qb0)] ∧ IsRats h u0 [if minQ qa1 qb1 < maxQ qa0 qb0 then 0 else maxQ qa0 qb0, if minQ qa1 qb1 < maxQ qa0 qb0 then 0 else minQ qa1 qb1])) := by
 have hq00 := lq_zero
 refine calls_begin (n := 26) (e := [(0, .agg #[vB (qa0.num < 0), vna0, vda0, vB (qa1.num < 0), vna1, vda1]), (1, .agg #[vB (qb0.num < 0), vnb0, vdb0, vB (qb1.num < 0), vnb1, vdb1])]) (vs := [.agg #[vB (qa0.num < 0), vna0, vda0, vB (qa1.num < 0), vna1, vda1], .agg #[vB (qb0.num < 0), vnb0, vdb0, vB (qb1.num < 0), vnb1, vdb1]]) Tryz.func11 rfl rfl (Nat.le_of_ble_eq_true rfl) hs ⟨rfl, rfl, trivial⟩ (gc_seq (gc_region (gl_newop (new_box (cs := [_, _, _, _, _, _]) rfl rfl) rfl rfl rfl ?_)))
 intro v2 r2 hr2
 obtain ⟨b2, rfl, rfl⟩ := hr2
 refine gl_newop (new_box (cs := [_, _, _, _, _, _]) rfl rfl) rfl rfl rfl ?_
 intro v3 r3 hr3
 obtain ⟨b3, rfl, rfl⟩ := hr3
 refine gl_newop (new_alloc (cs := [vB ((0 : Rat).num < 0), .slice none 0 0, .slice none 0 0, vB ((0 : Rat).num < 0), .slice none 0 0, .slice none 0 0]) info31 rfl (by simp only [zb]; rfl)) rfl rfl rfl ?_
 intro v4 r4 hr4
 obtain ⟨b4, rfl, rfl⟩ := hr4
 refine asg rfl rfl (gl_nil (gq_then (gc_seq ?_)))
 refine gc_draw 12 _ [(11, (6, 31, [vB ((0 : Rat).num < 0), .slice none 0 0, .slice none 0 0, vB ((0 : Rat).num < 0), .slice none 0 0, .slice none 0 0]))] [(0, .q), (1, .q), (2, .q), (3, .q), (5, .q), (6, .q), (7, .q), (8, .q), (4, .c), (9, .c), (10, .q), (11, .a), (12, .t)] mixed (AlOk.cons rfl (zero_run info31 rfl (by simp only [zb]; rfl)) AlOk.nil) (by kernel_rfl) (hae_cons rfl rfl hae_nil) (fun r hr => hr) (w_q rfl (fun h' L' hh hR => ov_field_addr Tryz.underlying31 rfl Tryz.sizeOf29 rfl) rfl (w_q rfl (fun h' L' hh hR => ov_load_agg (vs := [_, _, _]) (hR _ (.tail _ (.tail _ (.head _)))) Tryz.underlying29 rfl size29 rfl rfl) rfl (w_q rfl (fun h' L' hh hR => ov_field_addr Tryz.underlying31 rfl Tryz.sizeOf29 rfl) rfl (w_q rfl (fun h' L' hh hR => ov_load_agg (vs := [_, _, _]) (hR _ (.tail _ (.head _))) Tryz.underlying29 rfl size29 rfl rfl) rfl (w_q rfl (fun h' L' hh hR => ov_field_addr Tryz.underlying31 rfl Tryz.sizeOf29 rfl) rfl (w_q rfl (fun h' L' hh hR => ov_load_agg (vs := [_, _, _]) (hR _ (.tail _ (.tail _ (.head _)))) Tryz.underlying29 rfl size29 rfl rfl) rfl (w_q rfl (fun h' L' hh hR => ov_field_addr Tryz.underlying31 rfl Tryz.sizeOf29 rfl) rfl (w_q rfl (fun h' L' hh hR => ov_load_agg (vs := [_, _, _]) (hR _ (.tail _ (.head _))) Tryz.underlying29 rfl size29 rfl rfl) rfl ?_))))))))
 refine w_c rfl ?_
 refine s_call (vs := [_, _]) Tryz.call62 ⟨rfl, rfl, trivial⟩ (fun w hs => rat_max hs hna0 hda0 hnb0 hdb0 (by omega) (by omega)) rfl ?_
 intro v11 h1 hh1 hr11
 obtain ⟨vn11, vd11, rfl, hn11, hd11⟩ := hr11
 have hlq11 := lq_max qa0 qb0
 refine w_c rfl ?_
 replace hna1 := hna1.mono hh1
 replace hda1 := hda1.mono hh1
 replace hnb1 := hnb1.mono hh1
 replace hdb1 := hdb1.mono hh1
 refine s_call (vs := [_, _]) Tryz.call63 ⟨rfl, rfl, trivial⟩ (fun w hs => rat_min hs hna1 hda1 hnb1 hdb1 (by omega) (by omega)) rfl ?_
 intro v16 h2 hh2 hr16
 obtain ⟨vn16, vd16, rfl, hn16, hd16⟩ := hr16
 have hlq16 := lq_min qa1 qb1
 refine w_q rfl (fun h' L' hh hR => ov_build_parts (ps' := [(0, _), (1, _)]) (vs := [vB ((maxQ qa0 qb0).num < 0), vn11, vd11, vB ((minQ qa1 qb1).num < 0), vn16, vd16]) Tryz.underlying31 info31 rfl (places31 Tryz.underlying31) ⟨rfl, rfl, rfl, rfl, trivial⟩ (fill_one (A := []) (B := [_, _, _]) (C := [_, _, _]) (cs := [_, _, _]) (off := 0) (size := 3) rfl rfl rfl rfl rfl (fill_one (A := [_, _, _]) (B := [_, _, _]) (C := []) (cs := [_, _, _]) (off := 3) (size := 3) rfl rfl rfl rfl rfl fill_nil))) rfl ?_
 refine w_a rfl (fun b6 => ?_)
 replace hn11 := hn11.mono hh2
 replace hd11 := hd11.mono hh2
 refine w_t_upd (A := []) (q' := .var b6 31 [vB ((maxQ qa0 qb0).num < 0), vn11, vd11, vB ((minQ qa1 qb1).num < 0), vn16, vd16]) rfl (upd_store_var (k := 0) (cs := [_, _, _, _, _, _]) (vs := [_, _, _, _, _, _]) rfl rfl rfl (ocr rfl (ocu hn11 (ocu hd11 (ocr rfl (ocu hn16 (ocu hd16 oc0)))))) size31 (Nat.le_of_ble_eq_true rfl)) rfl (w_nil (gq_keep (e' := [(4, _), (6, _)]) ⟨rfl, rfl, trivial⟩ (gq_then (gc_seq (gc_seq (gc_region (gv (ov_field_addr Tryz.underlying31 rfl Tryz.sizeOf29 rfl) rfl (gv (ov_load_agg (vs := [_, _, _]) (.head _) Tryz.underlying29 rfl size29 rfl rfl) rfl (gv (ov_field_addr Tryz.underlying31 rfl Tryz.sizeOf29 rfl) rfl (gv (ov_load_agg (vs := [_, _, _]) (.head _) Tryz.underlying29 rfl size29 rfl rfl) rfl ?_))))))))))
 refine gl_call (vs := [_, _]) rfl rfl rfl rfl Tryz.call64 ⟨rfl, rfl, trivial⟩ (fun w hs => rat_cmp hs hn11 hd11 hn16 hd16 (by omega) (by omega)) ?_
 intro v22 h3 hh3 hr22
 have hcr22 := cmpQ_range (maxQ qa0 qb0) (minQ qa1 qb1)
 subst hr22
 refine gv (ov_gtr_i (q := 0) rfl rfl) rfl (gl_nil (gq_then ?_))
 refine gc_cond rfl (fun hc23 => ?_) (fun hc23 => ?_)
 ·
  refine gc_seq (gc_region (gv (ov_build_parts (ps' := []) (vs := [vB ((0 : Rat).num < 0), .slice none 0 0, .slice none 0 0, vB ((0 : Rat).num < 0), .slice none 0 0, .slice none 0 0]) Tryz.underlying31 info31 rfl (places31 Tryz.underlying31) trivial (by simp only [zb]; exact fill_nil)) rfl (gl_upd (A := [_]) (r' := .var b4 31 [vB ((0 : Rat).num < 0), .slice none 0 0, .slice none 0 0, vB ((0 : Rat).num < 0), .slice none 0 0, .slice none 0 0]) (upd_store_var (k := 0) (cs := [_, _, _, _, _, _]) (vs := [_, _, _, _, _, _]) rfl rfl rfl rfl size31 (Nat.le_of_ble_eq_true rfl)) rfl rfl rfl (asg rfl rfl (gl_nil (gq_then (gc_ret (gr_then (gq_res (fun E S => run_res2 rfl (rv_agg (cs := [_, _, _, _, _, _]) (.tail _ (.head _)) Tryz.underlying31 rfl size31 rfl) (rv_tmp rfl) E S) ?_)))))))))
  have e := cmpQ_pos.1 hc23
  rw [if_pos e, if_pos e, vB_false (p := ¬ minQ qa1 qb1 < maxQ qa0 qb0) (fun h => h e)]
  exact ⟨_, rfl, _, rfl, _, _, _, rfl, (us_zero_num _), (us_zero_den _), _, _, _, rfl, (us_zero_num _), (us_zero_den _), rfl⟩
 ·
  refine gc_skip (gq_then (gc_seq (gc_region (gv (ov_load_agg (vs := [_, _, _, _, _, _]) (.head _) Tryz.underlying31 rfl size31 rfl rfl) rfl ?_))))
  replace hn11 := hn11.mono hh3
  replace hd11 := hd11.mono hh3
  replace hn16 := hn16.mono hh3
  replace hd16 := hd16.mono hh3
  refine gl_upd (A := [_]) (r' := .var b4 31 [vB ((maxQ qa0 qb0).num < 0), vn11, vd11, vB ((minQ qa1 qb1).num < 0), vn16, vd16]) (upd_store_var (k := 0) (cs := [_, _, _, _, _, _]) (vs := [_, _, _, _, _, _]) rfl rfl rfl (ocr rfl (ocu hn11 (ocu hd11 (ocr rfl (ocu hn16 (ocu hd16 oc0)))))) size31 (Nat.le_of_ble_eq_true rfl)) rfl rfl rfl (asg rfl rfl (gl_nil (gq_then (gc_ret (gq_res (fun E S => run_res2 rfl (rv_agg (cs := [_, _, _, _, _, _]) (.tail _ (.head _)) Tryz.underlying31 rfl size31 rfl) (rv_tmp rfl) E S) ?_)))))
  have e : ¬ minQ qa1 qb1 < maxQ qa0 qb0 := fun h => hc23 (cmpQ_pos.2 h)
  rw [if_neg e, if_neg e, vB_true (p := ¬ minQ qa1 qb1 < maxQ qa0 qb0) e]
  exact ⟨_, rfl, _, rfl, _, _, _, rfl, hn11, hd11, _, _, _, rfl, hn16, hd16, rfl⟩

theorem sref_meet {w0 : World} {h0 : Mem}  (hs : MLe h0 (mem w0)) {qa0 : Rat} {vna0 vda0 : Value} (hna0 : Us .u32 h0 vna0 (limbs qa0.num.natAbs)) (hda0 : Us .u32 h0 vda0 (limbs (denN qa0.den))) {qa1 : Rat} {vna1 vda1 : Value} (hna1 : Us .u32 h0 vna1 (limbs qa1.num.natAbs)) (hda1 : Us .u32 h0 vda1 (limbs (denN qa1.den))) {qb0 : Rat} {vnb0 vdb0 : Value} (hnb0 : Us .u32 h0 vnb0 (limbs qb0.num.natAbs)) (hdb0 : Us .u32 h0 vdb0 (limbs (denN qb0.den))) {qb1 : Rat} {vnb1 vdb1 : Value} (hnb1 : Us .u32 h0 vnb1 (limbs qb1.num.natAbs)) (hdb1 : Us .u32 h0 vdb1 (limbs (denN qb1.den))) (hqa0 : lq qa0 ≤ 100000000000) (hqa1 : lq qa1 ≤ 100000000000) (hqb0 : lq qb0 ≤ 100000000000) (hqb1 : lq qb1 ≤ 100000000000)    :
    Calls Tryz.prog 12 #[.agg #[vB (qa0.num < 0), vna0, vda0, vB (qa1.num < 0), vna1, vda1], .agg #[vB (qb0.num < 0), vnb0, vdb0, vB (qb1.num < 0), vnb1, vdb1]] w0 (Ret w0 h0 (fun h r => ∃ u0, r = .tuple #[u0, vB (¬ minQ qa1 qb1 < maxQ qa0 qb0)] ∧ IsRats h u0 [if minQ qa1 qb1 < maxQ qa0 qb0 then 0 else maxQ qa0 qb0, if minQ qa1 qb1 < maxQ qa0 qb0 then 0 else minQ qa1 qb1])) := by
 have hq00 := lq_zero
 refine calls_begin (n := 26) (e := [(0, .agg #[vB (qa0.num < 0), vna0, vda0, vB (qa1.num < 0), vna1, vda1]), (1, .agg #[vB (qb0.num < 0), vnb0, vdb0, vB (qb1.num < 0), vnb1, vdb1])]) (vs := [.agg #[vB (qa0.num < 0), vna0, vda0, vB (qa1.num < 0), vna1, vda1], .agg #[vB (qb0.num < 0), vnb0, vdb0, vB (qb1.num < 0), vnb1, vdb1]]) Tryz.func12 rfl rfl (Nat.le_of_ble_eq_true rfl) hs ⟨rfl, rfl, trivial⟩ (gc_seq (gc_region (gl_newop (new_box (cs := [_, _, _, _, _, _]) rfl rfl) rfl rfl rfl ?_)))
 intro v2 r2 hr2
 obtain ⟨b2, rfl, rfl⟩ := hr2
 refine gl_newop (new_box (cs := [_, _, _, _, _, _]) rfl rfl) rfl rfl rfl ?_
 intro v3 r3 hr3
 obtain ⟨b3, rfl, rfl⟩ := hr3
 refine gl_newop (new_alloc (cs := [vB ((0 : Rat).num < 0), .slice none 0 0, .slice none 0 0, vB ((0 : Rat).num < 0), .slice none 0 0, .slice none 0 0]) info31 rfl (by simp only [zb]; rfl)) rfl rfl rfl ?_
 intro v4 r4 hr4
 obtain ⟨b4, rfl, rfl⟩ := hr4
 refine asg rfl rfl (gl_nil (gq_then (gc_seq ?_)))
 refine gc_draw 12 _ [(11, (6, 31, [vB ((0 : Rat).num < 0), .slice none 0 0, .slice none 0 0, vB ((0 : Rat).num < 0), .slice none 0 0, .slice none 0 0]))] [(0, .q), (1, .q), (2, .q), (3, .q), (5, .q), (6, .q), (7, .q), (8, .q), (4, .c), (9, .c), (10, .q), (11, .a), (12, .t)] mixed (AlOk.cons rfl (zero_run info31 rfl (by simp only [zb]; rfl)) AlOk.nil) (by kernel_rfl) (hae_cons rfl rfl hae_nil) (fun r hr => hr) (w_q rfl (fun h' L' hh hR => ov_field_addr Tryz.underlying31 rfl Tryz.sizeOf29 rfl) rfl (w_q rfl (fun h' L' hh hR => ov_load_agg (vs := [_, _, _]) (hR _ (.tail _ (.tail _ (.head _)))) Tryz.underlying29 rfl size29 rfl rfl) rfl (w_q rfl (fun h' L' hh hR => ov_field_addr Tryz.underlying31 rfl Tryz.sizeOf29 rfl) rfl (w_q rfl (fun h' L' hh hR => ov_load_agg (vs := [_, _, _]) (hR _ (.tail _ (.head _))) Tryz.underlying29 rfl size29 rfl rfl) rfl (w_q rfl (fun h' L' hh hR => ov_field_addr Tryz.underlying31 rfl Tryz.sizeOf29 rfl) rfl (w_q rfl (fun h' L' hh hR => ov_load_agg (vs := [_, _, _]) (hR _ (.tail _ (.tail _ (.head _)))) Tryz.underlying29 rfl size29 rfl rfl) rfl (w_q rfl (fun h' L' hh hR => ov_field_addr Tryz.underlying31 rfl Tryz.sizeOf29 rfl) rfl (w_q rfl (fun h' L' hh hR => ov_load_agg (vs := [_, _, _]) (hR _ (.tail _ (.head _))) Tryz.underlying29 rfl size29 rfl rfl) rfl ?_))))))))
 refine w_c rfl ?_
 refine s_call (vs := [_, _]) Tryz.call59 ⟨rfl, rfl, trivial⟩ (fun w hs => rref_max hs hna0 hda0 hnb0 hdb0 (by omega) (by omega)) rfl ?_
 intro v11 h1 hh1 hr11
 obtain ⟨vn11, vd11, rfl, hn11, hd11⟩ := hr11
 have hlq11 := lq_max qa0 qb0
 refine w_c rfl ?_
 replace hna1 := hna1.mono hh1
 replace hda1 := hda1.mono hh1
 replace hnb1 := hnb1.mono hh1
 replace hdb1 := hdb1.mono hh1
 refine s_call (vs := [_, _]) Tryz.call58 ⟨rfl, rfl, trivial⟩ (fun w hs => rref_min hs hna1 hda1 hnb1 hdb1 (by omega) (by omega)) rfl ?_
 intro v16 h2 hh2 hr16
 obtain ⟨vn16, vd16, rfl, hn16, hd16⟩ := hr16
 have hlq16 := lq_min qa1 qb1
 refine w_q rfl (fun h' L' hh hR => ov_build_parts (ps' := [(0, _), (1, _)]) (vs := [vB ((maxQ qa0 qb0).num < 0), vn11, vd11, vB ((minQ qa1 qb1).num < 0), vn16, vd16]) Tryz.underlying31 info31 rfl (places31 Tryz.underlying31) ⟨rfl, rfl, rfl, rfl, trivial⟩ (fill_one (A := []) (B := [_, _, _]) (C := [_, _, _]) (cs := [_, _, _]) (off := 0) (size := 3) rfl rfl rfl rfl rfl (fill_one (A := [_, _, _]) (B := [_, _, _]) (C := []) (cs := [_, _, _]) (off := 3) (size := 3) rfl rfl rfl rfl rfl fill_nil))) rfl ?_
 refine w_a rfl (fun b6 => ?_)
 replace hn11 := hn11.mono hh2
 replace hd11 := hd11.mono hh2
 refine w_t_upd (A := []) (q' := .var b6 31 [vB ((maxQ qa0 qb0).num < 0), vn11, vd11, vB ((minQ qa1 qb1).num < 0), vn16, vd16]) rfl (upd_store_var (k := 0) (cs := [_, _, _, _, _, _]) (vs := [_, _, _, _, _, _]) rfl rfl rfl (ocr rfl (ocu hn11 (ocu hd11 (ocr rfl (ocu hn16 (ocu hd16 oc0)))))) size31 (Nat.le_of_ble_eq_true rfl)) rfl (w_nil (gq_keep (e' := [(4, _), (6, _)]) ⟨rfl, rfl, trivial⟩ (gq_then (gc_seq (gc_seq (gc_region (gv (ov_field_addr Tryz.underlying31 rfl Tryz.sizeOf29 rfl) rfl (gv (ov_load_agg (vs := [_, _, _]) (.head _) Tryz.underlying29 rfl size29 rfl rfl) rfl (gv (ov_field_addr Tryz.underlying31 rfl Tryz.sizeOf29 rfl) rfl (gv (ov_load_agg (vs := [_, _, _]) (.head _) Tryz.underlying29 rfl size29 rfl rfl) rfl ?_))))))))))
 refine gl_call (vs := [_, _]) rfl rfl rfl rfl Tryz.call65 ⟨rfl, rfl, trivial⟩ (fun w hs => rref_cmp hs hn11 hd11 hn16 hd16 (by omega) (by omega)) ?_
 intro v22 h3 hh3 hr22
 have hcr22 := cmpQ_range (maxQ qa0 qb0) (minQ qa1 qb1)
 subst hr22
 refine gv (ov_gtr_i (q := 0) rfl rfl) rfl (gl_nil (gq_then ?_))
 refine gc_cond rfl (fun hc23 => ?_) (fun hc23 => ?_)
 ·
  refine gc_seq (gc_region (gv (ov_build_parts (ps' := []) (vs := [vB ((0 : Rat).num < 0), .slice none 0 0, .slice none 0 0, vB ((0 : Rat).num < 0), .slice none 0 0, .slice none 0 0]) Tryz.underlying31 info31 rfl (places31 Tryz.underlying31) trivial (by simp only [zb]; exact fill_nil)) rfl (gl_upd (A := [_]) (r' := .var b4 31 [vB ((0 : Rat).num < 0), .slice none 0 0, .slice none 0 0, vB ((0 : Rat).num < 0), .slice none 0 0, .slice none 0 0]) (upd_store_var (k := 0) (cs := [_, _, _, _, _, _]) (vs := [_, _, _, _, _, _]) rfl rfl rfl rfl size31 (Nat.le_of_ble_eq_true rfl)) rfl rfl rfl (asg rfl rfl (gl_nil (gq_then (gc_ret (gr_then (gq_res (fun E S => run_res2 rfl (rv_agg (cs := [_, _, _, _, _, _]) (.tail _ (.head _)) Tryz.underlying31 rfl size31 rfl) (rv_tmp rfl) E S) ?_)))))))))
  have e := cmpQ_pos.1 hc23
  rw [if_pos e, if_pos e, vB_false (p := ¬ minQ qa1 qb1 < maxQ qa0 qb0) (fun h => h e)]
  exact ⟨_, rfl, _, rfl, _, _, _, rfl, (us_zero_num _), (us_zero_den _), _, _, _, rfl, (us_zero_num _), (us_zero_den _), rfl⟩
 ·
  refine gc_skip (gq_then (gc_seq (gc_region (gv (ov_load_agg (vs := [_, _, _, _, _, _]) (.head _) Tryz.underlying31 rfl size31 rfl rfl) rfl ?_))))
  replace hn11 := hn11.mono hh3
  replace hd11 := hd11.mono hh3
  replace hn16 := hn16.mono hh3
  replace hd16 := hd16.mono hh3
  refine gl_upd (A := [_]) (r' := .var b4 31 [vB ((maxQ qa0 qb0).num < 0), vn11, vd11, vB ((minQ qa1 qb1).num < 0), vn16, vd16]) (upd_store_var (k := 0) (cs := [_, _, _, _, _, _]) (vs := [_, _, _, _, _, _]) rfl rfl rfl (ocr rfl (ocu hn11 (ocu hd11 (ocr rfl (ocu hn16 (ocu hd16 oc0)))))) size31 (Nat.le_of_ble_eq_true rfl)) rfl rfl rfl (asg rfl rfl (gl_nil (gq_then (gc_ret (gq_res (fun E S => run_res2 rfl (rv_agg (cs := [_, _, _, _, _, _]) (.tail _ (.head _)) Tryz.underlying31 rfl size31 rfl) (rv_tmp rfl) E S) ?_)))))
  have e : ¬ minQ qa1 qb1 < maxQ qa0 qb0 := fun h => hc23 (cmpQ_pos.2 h)
  rw [if_neg e, if_neg e, vB_true (p := ¬ minQ qa1 qb1 < maxQ qa0 qb0) e]
  exact ⟨_, rfl, _, rfl, _, _, _, rfl, hn11, hd11, _, _, _, rfl, hn16, hd16, rfl⟩

end Go.Proofs.YtkdmphehabpcfaaGreat

namespace Go.Proofs.YtkdmphehabpcfaaGreat
open Bk Go
set_option linter.unusedVariables false
set_option linter.unusedSimpArgs false
set_option maxRecDepth 10000

theorem span_root {w0 : World} {h0 : Mem}  (hs : MLe h0 (mem w0)) {v : Value} {X : Nat} (hv : Us .u32 h0 v (limbs X)) (hl : (limbs X).length ≤ 1000) :
    Calls Tryz.prog 84 #[v] w0 (Ret w0 h0 (fun h r => Us .u32 h r (limbs (sqN X)))) := by
 have hl1 := len_one
 have hbl := bits_len X
 have hsl := start_len hl
 refine calls_begin (n := 42) (e := [(0, v)]) (vs := [v]) Tryz.func84 rfl rfl (Nat.le_of_ble_eq_true rfl) hs ⟨rfl, trivial⟩ (gc_seq (gc_region (asg rfl rfl (gl_nil (gq_then (gc_seq (gc_seq (gc_region (mv rfl rfl ?_)))))))))
 refine gl_call (vs := [_]) rfl rfl rfl rfl Tryz.call103 ⟨rfl, trivial⟩ (fun w hs => nat_bits hs hv (by omega)) ?_
 intro v11 h1 hh1 hr11
 try simp only [val_limbs] at hr11
 subst hr11
 refine gv (ov_eql_i (q := 0) rfl rfl) rfl (gl_nil (gq_then ?_))
 refine gc_cond rfl (fun hc12 => ?_) (fun hc12 => ?_)
 ·
  refine gc_seq (gc_region (asg rfl rfl (gl_nil (gq_then (gc_ret (gr_then (gq_body1 rfl rfl ?_)))))))
  rw [root_nil hc12]
  exact Us.nil _ _
 ·
  have hX : X ≠ 0 := fun e => hc12 (by rw [e, bitsN_zero]; rfl)
  refine gc_skip (gq_then (gc_seq (gc_region (gl_newop (new_build1 (kd := .u32) (p := 1) Tryz.underlying27 info78 rfl rfl rfl) rfl rfl rfl ?_))))
  intro v14 r14 hr14
  obtain rfl := hr14
  refine gl_freeze_us0 (by intro z hz; simp only [List.mem_singleton] at hz; subst hz; decide) ?_
  intro h2 hh2 hone1
  rw [one_limbs] at hone1
  refine mv rfl rfl ?_
  replace hv := hv.mono (hh1.trans hh2)
  refine gl_call (vs := [_]) rfl rfl rfl rfl Tryz.call103 ⟨rfl, trivial⟩ (fun w hs => nat_bits hs hv (by omega)) ?_
  intro v16 h3 hh3 hr16
  try simp only [val_limbs] at hr16
  subst hr16
  refine gv (ov_add_i (q := 1) rfl rfl (by omega) (by omega)) rfl (gv (ov_quo_i (q := 2) rfl rfl (by omega) (by omega) (by omega)) rfl ?_)
  replace hone1 := hone1.mono hh3
  refine gl_call (vs := [_, _]) rfl rfl rfl rfl Tryz.call82 ⟨rfl, rfl, trivial⟩ (fun w hs => nat_shift hs hone1 (by omega) (by omega) (by omega)) ?_
  intro v19 h4 hh4 hr19
  obtain ⟨u19, rfl, hu19⟩ := hr19
  try simp only [val_limbs] at hu19
  rw [shift_start hl] at hu19
  refine mv rfl rfl (gv (ov_extract (vs := [_, _]) rfl rfl) rfl (gv (ov_extract (vs := [_, _]) rfl rfl) rfl (asg rfl rfl (asg rfl rfl (gl_nil (gq_keep (e' := [(0, _), (3, _)]) ⟨rfl, rfl, trivial⟩ (gq_then (gc_block ?_))))))))
  refine gc_loop (ι := Nat × Value × Mem) (fun (x_ : (Nat × Value × Mem)) => match x_ with | (x, vx, m) => MLe h4 m ∧ (Us .u32 m vx (limbs x) ∧ sqN X ≤ x ∧ 0 < x ∧ (limbs x).length ≤ 1001)) (fun (x_ : (Nat × Value × Mem)) => match x_ with | (x, vx, m) => [(0, v), (3, vx)]) (fun (x_ : (Nat × Value × Mem)) => match x_ with | (x, vx, m) => []) (fun (x_ : (Nat × Value × Mem)) => match x_ with | (x, vx, m) => m) (fun (x_ : (Nat × Value × Mem)) => match x_ with | (x, vx, m) => x) ((2 ^ ((bitsN X + 1) / 2)), u19, h4) ?_ ⟨rfl, rfl, trivial⟩ rfl rfl ?_
  ·
   refine ⟨MLe.refl _, ?_⟩
   exact ⟨hu19, newton_start X, Nat.pow_pos (by omega), hsl⟩
  ·
   intro x hx
   obtain ⟨x, vx, m⟩ := x
   obtain ⟨hmm, hinv⟩ := hx
   show GC _ _ _ _ _ _ [(0, v), (3, vx)] [] m
   obtain ⟨hx, hi1, hi2, hi3⟩ := hinv
   refine gc_block (gc_seq (gc_region (mv rfl rfl (mv rfl rfl ?_))))
   replace hv := hv.mono ((hh3.trans hh4).trans hmm)
   refine gl_call (vs := [_, _]) rfl rfl rfl rfl Tryz.call115 ⟨rfl, rfl, trivial⟩ (fun w hs => nat_div hs hv hx (by omega) (by omega)) ?_
   intro v25 h5 hh5 hr25
   obtain ⟨q25, r25, rfl, hq25, hr25⟩ := hr25
   try simp only [val_limbs] at hq25 hr25 ⊢
   have hlm25 := limbs_len_mono (Nat.div_le_self ((X)) ((x)))
   refine mv rfl rfl (gv (ov_extract (vs := [_, _, _]) rfl rfl) rfl (gv (ov_extract (vs := [_, _, _]) rfl rfl) rfl (gv (ov_extract (vs := [_, _, _]) rfl rfl) rfl (asg rfl rfl (asg rfl rfl (asg rfl rfl (gl_nil (gq_then (gc_seq (gc_region (mv rfl rfl (mv rfl rfl ?_))))))))))))
   replace hx := hx.mono hh5
   refine gl_call (vs := [_, _]) rfl rfl rfl rfl Tryz.call87 ⟨rfl, rfl, trivial⟩ (fun w hs => nat_add hs hx hq25 (by omega) (by omega)) ?_
   intro v32 h6 hh6 hr32
   try simp only [val_limbs] at hr32
   have hlm32 := limbs_len_add ((x)) (((((X)) / ((x)))))
   have hdl := limbs_len_mono (Nat.div_le_self X x)
   have hal := limbs_len_add x (X / x)
   refine gl_call (vs := [_, vI (-1)]) rfl rfl rfl rfl Tryz.call82 ⟨rfl, rfl, trivial⟩ (fun w hs => nat_shift hs hr32 (by omega) (by omega) (by omega)) ?_
   intro v33 h7 hh7 hr33
   obtain ⟨u33, rfl, hu33⟩ := hr33
   try simp only [val_limbs] at hu33
   rw [shift_half] at hu33
   refine mv rfl rfl (gv (ov_extract (vs := [_, _]) rfl rfl) rfl (gv (ov_extract (vs := [_, _]) rfl rfl) rfl (asg rfl rfl (asg rfl rfl (gl_nil (gq_keep (e' := [(0, _), (3, _), (8, _)]) ⟨rfl, rfl, rfl, trivial⟩ (gq_then (gc_seq (gc_seq (gc_region (mv rfl rfl (mv rfl rfl ?_))))))))))))
   replace hx := hx.mono (hh6.trans hh7)
   refine gl_call (vs := [_, _]) rfl rfl rfl rfl Tryz.call85 ⟨rfl, rfl, trivial⟩ (fun w hs => nat_cmp hs hu33 hx) ?_
   intro v38 h8 hh8 hr38
   try simp only [val_limbs] at hr38
   subst hr38
   refine gv (ov_geq_i (q := 0) rfl rfl) rfl (gl_nil (gq_then ?_))
   refine gc_cond rfl (fun hc39 => ?_) (fun hc39 => ?_)
   ·
    have hst := newton_stop hi2 hi1 (by have := cmpN_neg (m := (x + X / x) / 2) (n := x); omega)
    refine gc_seq (gc_region (mv rfl rfl (asg rfl rfl (gl_nil (gq_then (gc_ret (gr_then (gr_in (gr_then (gr_in (gq_body1 rfl rfl ?_)))))))))))
    replace hx := hx.mono hh8
    rw [← hst]
    exact hx
   ·
    refine gc_skip (gq_then (gc_region (mv rfl rfl (asg rfl rfl (gl_nil (gq_in ?_))))))
    have hlt := cmpN_neg.1 (show cmpN ((x + X / x) / 2) x < 0 by omega)
    have hml := limbs_len_mono (Nat.le_of_lt hlt)
    have hng := newton_ge (n := X) hi2
    refine gq_round (((x + X / x) / 2), u33, h8) ?_ ?_ ⟨?_, ?_, trivial⟩ ?_ rfl
    ·
     refine ⟨((((hmm.trans hh5).trans hh6).trans hh7).trans hh8), ?_⟩
     replace hu33 := hu33.mono hh8
     refine ⟨hu33, hng, ?_, Nat.le_trans hml hi3⟩
     refine Nat.pos_of_ne_zero fun e => ?_
     have := newton_zero hi2 hi1 e
     omega
    ·
     dsimp only
     exact hlt
    · exact rfl
    · exact rfl
    · exact rfl

theorem span_scaled {w0 : World} {h0 : Mem}  (hs : MLe h0 (mem w0)) {q : Rat} {vn vd : Value} (hn : Us .u32 h0 vn (limbs q.num.natAbs)) (hd : Us .u32 h0 vd (limbs (denN q.den))) {K : Nat} (hK : K ≤ 4096) (hl : lq q ≤ 500) :
    Calls Tryz.prog 83 #[.agg #[vB (q.num < 0), vn, vd], vI ↑K] w0 (Ret w0 h0 (fun h r => ∃ u, r = .tuple #[u, vB (moreP q K)] ∧ Us .u32 h u (limbs (flN q K)))) := by
 obtain ⟨hs1, hs2, hs3⟩ := scaled_len hl hK
 have hln := lq_num q
 have hld := lq_denL q
 have hrr := rest_len (q.num.natAbs * 2 ^ K * 2 ^ K) q.den
 have hmm := limbs_len_mono (Nat.div_le_self (q.num.natAbs * 2 ^ K * 2 ^ K) (denN q.den))
 refine calls_begin (n := 38) (e := [(0, .agg #[vB (q.num < 0), vn, vd]), (1, vI ↑K)]) (vs := [.agg #[vB (q.num < 0), vn, vd], vI ↑K]) Tryz.func83 rfl rfl (Nat.le_of_ble_eq_true rfl) hs ⟨rfl, rfl, trivial⟩ (gc_seq (gc_region (gl_newop (new_box (cs := [_, _, _]) rfl rfl) rfl rfl rfl ?_)))
 intro v2 r2 hr2
 obtain ⟨b2, rfl, rfl⟩ := hr2
 refine asg rfl rfl (asg rfl rfl (gl_nil (gq_then (gc_seq (gc_region (gv (ov_field_addr Tryz.underlying29 rfl Tryz.sizeOf27 rfl) rfl (gv (ov_load_var (.head _) Tryz.isAgg27 rfl rfl) rfl (asg rfl rfl (gl_nil (gq_then (gc_seq (gc_seq (gc_region ?_)))))))))))))
 refine mv (v := vI (0)) rfl rfl (gl_nil (gq_then (gc_block (gc_loop1 (gc_seq (gc_region (gv (OpV.tr (by decide) (ov_lss_i (q := 2) rfl rfl)) rfl (gl_nil (gq_then (gc_seq (gc_cond_t rfl (gc_skip (gq_then ?_)))))))))))))
 refine gc_seq (gc_block (gc_region (mv rfl rfl (mv rfl rfl ?_))))
 refine gl_call (vs := [_, _]) rfl rfl rfl rfl Tryz.call82 ⟨rfl, rfl, trivial⟩ (fun w hs => nat_shift hs hn (by omega) (by omega) (by omega)) ?_
 intro v17u1 h1 hh1 hr17u1
 obtain ⟨u17u1, rfl, hu17u1⟩ := hr17u1
 try simp only [val_limbs] at hu17u1
 rw [scale_k _ _ hK] at hu17u1
 refine mv rfl rfl (gv (ov_extract (vs := [_, _]) rfl rfl) rfl (gv (ov_extract (vs := [_, _]) rfl rfl) rfl (asg rfl rfl (gl_nil (gq_in (gq_keep (e' := [(1, _), (2, _), (12, _), (6, _)]) ⟨rfl, rfl, rfl, rfl, trivial⟩ (gq_then (gc_region (gv ((ov_add_i (q := 1) rfl rfl (by omega) (by omega)).cv (show _ = vI (1) from rfl)) rfl (mv rfl rfl (gl_nil (gq_loop1 (gc_seq ?_)))))))))))))
 refine gc_region (gv (OpV.tr (by decide) (ov_lss_i (q := 2) rfl rfl)) rfl (gl_nil (gq_then (gc_seq (gc_cond_t rfl (gc_skip (gq_then (gc_seq (gc_block (gc_region (mv rfl rfl (mv rfl rfl ?_))))))))))))
 refine gl_call (vs := [_, _]) rfl rfl rfl rfl Tryz.call82 ⟨rfl, rfl, trivial⟩ (fun w hs => nat_shift hs hu17u1 (by omega) (by omega) (by omega)) ?_
 intro v17u2 h2 hh2 hr17u2
 obtain ⟨u17u2, rfl, hu17u2⟩ := hr17u2
 try simp only [val_limbs] at hu17u2
 rw [scale_k _ _ hK] at hu17u2
 refine mv rfl rfl (gv (ov_extract (vs := [_, _]) rfl rfl) rfl (gv (ov_extract (vs := [_, _]) rfl rfl) rfl (asg rfl rfl (gl_nil (gq_in (gq_then (gc_region (gv ((ov_add_i (q := 1) rfl rfl (by omega) (by omega)).cv (show _ = vI (2) from rfl)) rfl (mv rfl rfl (gl_nil (gq_loop1 (gc_seq (gc_region ?_)))))))))))))
 refine gv (OpV.fa (by decide) (ov_lss_i (q := 2) rfl rfl)) rfl (gl_nil (gq_then (gc_seq (gc_cond_f rfl (gc_exit (gx_then (gx_then (gx_here (gq_keep (e' := [(2, _), (6, _)]) ⟨rfl, rfl, trivial⟩ (gq_then (gc_seq (gc_seq (gc_region ?_)))))))))))))
 refine gv (ov_field_addr Tryz.underlying29 rfl Tryz.sizeOf27 rfl) rfl (gv (ov_load_var (.head _) Tryz.isAgg27 rfl rfl) rfl ?_)
 replace hd := hd.mono (hh1.trans hh2)
 refine gv (ov_len_us Tryz.underlying27 rfl hd) rfl (gv (ov_eql_i (q := 0) rfl rfl) rfl (gl_nil (gq_then ?_)))
 refine gc_cond rfl (fun hc24 => ?_) (fun hc24 => ?_)
 ·
  refine gc_seq (gc_region (mv rfl rfl (asg rfl rfl (asg rfl rfl (gl_nil (gq_then (gc_ret (gr_then (gq_body2 rfl rfl rfl ?_)))))))))
  have e := (denL_nil_iff q.den_nz).1 (len_zero.1 hc24)
  rw [vB_false (fun h => h (by rw [e, Nat.mod_one])), show flN q K = q.num.natAbs * 2 ^ K * 2 ^ K by unfold flN; rw [e, Nat.div_one]]
  exact ⟨_, rfl, hu17u2⟩
 ·
  refine gc_skip (gq_then (gc_seq (gc_region (mv rfl rfl (gv (ov_field_addr Tryz.underlying29 rfl Tryz.sizeOf27 rfl) rfl (gv (ov_load_var (.head _) Tryz.isAgg27 rfl rfl) rfl ?_))))))
  refine gl_call (vs := [_, _]) rfl rfl rfl rfl Tryz.call115 ⟨rfl, rfl, trivial⟩ (fun w hs => nat_div hs hu17u2 hd (by omega) (by omega)) ?_
  intro v30u3 h3 hh3 hr30u3
  obtain ⟨q30u3, r30u3, rfl, hq30u3, hr30u3⟩ := hr30u3
  try simp only [val_limbs] at hq30u3 hr30u3 ⊢
  have hlm30u3 := limbs_len_mono (Nat.div_le_self ((((((((q.num.natAbs)) * 2 ^ K))) * 2 ^ K))) (((denN q.den))))
  refine mv rfl rfl (gv (ov_extract (vs := [_, _, _]) rfl rfl) rfl (gv (ov_extract (vs := [_, _, _]) rfl rfl) rfl (gv (ov_extract (vs := [_, _, _]) rfl rfl) rfl (asg rfl rfl (asg rfl rfl (asg rfl rfl (gl_nil (gq_keep (e' := [(7, _), (8, _)]) ⟨rfl, rfl, trivial⟩ (gq_then (gc_seq (gc_region (mv rfl rfl (mv rfl rfl ?_)))))))))))))
  refine gl_call (vs := [_]) rfl rfl rfl rfl Tryz.call103 ⟨rfl, trivial⟩ (fun w hs => nat_bits hs hr30u3 (by omega)) ?_
  intro v36u3 h4 hh4 hr36u3
  try simp only [val_limbs] at hr36u3
  subst hr36u3
  refine gv (ov_gtr_i (q := 0) rfl rfl) rfl (asg rfl rfl (asg rfl rfl (gl_nil (gq_then (gc_ret (gq_body2 rfl rfl rfl ?_))))))
  replace hq30u3 := hq30u3.mono hh4
  have e : denN q.den = q.den := denN_ne (fun h => hc24 (by rw [h, denN_one, limbs_zero]; rfl))
  rw [show denN q.den = q.den from e] at hq30u3
  refine ⟨_, congrArg (fun z => Value.tuple #[_, z]) (vB_iff ?_), hq30u3⟩
  rw [e, if_neg q.den_nz]
  unfold moreP
  have := bitsN_eq_zero (n := q.num.natAbs * 2 ^ K * 2 ^ K % q.den)
  omega

theorem span_rootS {w0 : World} {h0 : Mem}  (hs : MLe h0 (mem w0)) {k : Nat} {vs : Value} {s : (Rat × Rat)} (rs : (rpP (rpQ k) (rpQ k)).Is h0 vs s) {n : Int} (hn1 : -9223372036854775808 ≤ n) (hn2 : n < 9223372036854775808) (hcd0 : k ≤ 500)  :
    Calls Tryz.prog 50 #[vs, vI n] w0 (Ret w0 h0 (fun h r => ∃ u0, r = .tuple #[u0, vI (rtE s.2)] ∧ (rpP (rpQ (k + 140)) (rpQ (k + 140))).Is h u0 (rtLo s.1 s.2 n, rtHi s.2 n))) := by
 have hl1 := len_one
 have hkn : kN n ≤ 4096 := by unfold kN; omega
 have hk1 := p2_len hkn
 obtain ⟨hls1, hls2⟩ := span_lq rs
 obtain ⟨hlo1, hlo2⟩ := lq_loN hls1 n
 obtain ⟨hhi1, hhi2⟩ := lq_hiN hls2 n
 obtain ⟨hsa1, hsa2, hsa3⟩ := scaled_len hls1 hkn
 obtain ⟨hsb1, hsb2, hsb3⟩ := scaled_len hls2 hkn
 have hq1 := limbs_len_mono (sqN_self (flN s.2 (kN n)))
 have hq0 := limbs_len_mono (sqN_self (flN s.1 (kN n)))
 refine calls_begin (n := 83) (e := [(0, vs), (1, vI n)]) (vs := [vs, vI n]) Tryz.func50 rfl rfl (Nat.le_of_ble_eq_true rfl) hs ⟨rfl, rfl, trivial⟩ (gc_seq (gc_region (gl_newop (new_boxx (ρ := (rpP (rpQ k) (rpQ k))) rfl rs) rfl rfl rfl ?_)))
 intro v2 q2 hq2
 obtain ⟨b2, cs2, rfl, rfl, rb2⟩ := hq2
 refine gl_newop (new_allocx (ρ := (rpP (rpQ (k + 140)) (rpQ (k + 140)))) (X := ((0 : Rat), (0 : Rat))) info31 rfl rfl (zr_p (zr_q (by omega)) (zr_q (by omega)))) rfl rfl rfl ?_
 intro v4 q4 hq4
 obtain ⟨b4, cs4, rfl, rfl, rb4⟩ := hq4
 refine asg (v := vI (0)) rfl rfl (gl_nil (gq_then (gc_seq (gc_seq (gc_region (gv ((ov_field_addr Tryz.underlying31 rfl Tryz.sizeOf29 rfl).cv (show _ = vP b2 3 from congrArg (vP b2) (by rfl))) rfl (gl_x (F := fun v_ => (rpQ k).Is h0 v_ s.2) (ox_load_box ty29 (Pc.snd (Pc.here _)) rfl rfl rb2 rfl) (mem1 (.tail _ (.head _))) rfl ?_)))))))
 intro v19 r19
 refine gl_call (vs := [_]) rfl rfl rfl rfl Tryz.call66 ⟨rfl, trivial⟩ (fun w hs => o_rat_sign hs r19 (by omega)) ?_
 intro v20 h1 hh1 r20
 obtain rfl : v20 = vI (sgnQ s.2) := r20
 have hsr20 := sgnQ_range s.2
 refine gv (ov_lss_i (q := 0) rfl rfl) rfl (gl_nil (gq_then ?_))
 refine gc_cond rfl (fun hc21 => ?_) (fun hc21 => ?_)
 ·
  have hneg := sgn_neg.1 hc21
  refine gc_seq (gc_region (gl_x (F := fun v_ => (rpP (rpQ 1) (rpQ 1)).Is h1 v_ ((0 : Rat), (0 : Rat))) (ox_build (ps' := []) Tryz.underlying31 info31 rfl rfl (places31 Tryz.underlying31) trivial rfl (zr_p (zr_q (by decide)) (zr_q (by decide))) fx_nil) mem0 rfl ?_))
  intro v22 r22
  replace rb4 := rb4.mono hh1
  refine gl_updx (A := []) (F := fun c_ => (rpP (rpQ (k + 140)) (rpQ (k + 140))).R h1 c_ ((0 : Rat), (0 : Rat))) (upd_box Tryz.sizeOf31 (Pc.here _) rfl rfl rfl rb4 (r22.le (Le.p (Le.q (l := k + 140) (by omega)) (Le.q (l := k + 140) (by omega)))) rfl) ?_
  intro cs_1 rb_2
  refine asg (v := vI (7)) rfl rfl (gl_nil (gq_then (gc_ret (gr_then (gq_exv (rv_o (t := 4) ty31 (.head _) rfl rb_2) ?_)))))
  intro w_3 hvw_3 rr_4
  refine gq_res (fun E S => run_res2 rfl hvw_3 (rv_tmp rfl) E S) ?_
  refine ⟨_, ?_, (Rp.Is.cast rr_4 (by unfold rtLo rtHi; rw [if_pos hneg, if_pos hneg]))⟩
  unfold rtE; rw [if_pos hneg]
 ·
  have hneg : ¬ s.2 < 0 := fun e => hc21 (sgn_neg.2 e)
  refine gc_skip (gq_then (gc_seq (gc_region (mv rfl rfl (gv (ov_max_i (q := 0) rfl rfl) rfl (gv (ov_min_i (q := 4096) rfl rfl) rfl ?_))))))
  rw [show min (max n 0) 4096 = (↑(kN n) : Int) by unfold kN; omega]
  refine asg rfl rfl (gl_nil (gq_then (gc_seq (gc_region (gl_newop (new_build1 (kd := .u32) (p := 1) Tryz.underlying27 info78 rfl rfl rfl) rfl rfl rfl ?_)))))
  intro v27 r27 hr27
  obtain rfl := hr27
  refine gl_freeze_us0 (by intro z hz; simp only [List.mem_singleton] at hz; subst hz; decide) ?_
  intro h2 hh2 hone4
  rw [one_limbs] at hone4
  refine mv rfl rfl ?_
  refine gl_call (vs := [_, _]) rfl rfl rfl rfl Tryz.call82 ⟨rfl, rfl, trivial⟩ (fun w hs => nat_shift hs hone4 (by omega) (by omega) (by omega)) ?_
  intro v29 h3 hh3 hr29
  obtain ⟨u29, rfl, hu29⟩ := hr29
  try simp only [val_limbs] at hu29
  rw [scale_k _ _ hkn, Nat.one_mul] at hu29
  refine mv rfl rfl (gv (ov_extract (vs := [_, _]) rfl rfl) rfl (gv (ov_extract (vs := [_, _]) rfl rfl) rfl (asg rfl rfl (asg rfl rfl (gl_nil (gq_keep (e' := [(2, _), (4, _), (1, _), (6, _)]) ⟨rfl, rfl, rfl, rfl, trivial⟩ (gq_then (gc_seq (gc_region (asg rfl rfl (gl_nil (gq_then ?_))))))))))))
  refine gc_cut (ι := Value × Mem) (fun (x_ : (Value × Mem)) => match x_ with | (v8, m1) => MLe h3 m1 ∧ (Us .u32 m1 v8 (limbs (loN s.1 (kN n))))) (fun (x_ : (Value × Mem)) => match x_ with | (v8, m1) => [(1, vI ↑(kN n)), (2, vP b2 0), (4, vP b4 0), (6, u29), (8, v8)]) (fun (x_ : (Value × Mem)) => match x_ with | (v8, m1) => [.var b4 31 cs4, .var b2 31 cs2]) (fun (x_ : (Value × Mem)) => match x_ with | (v8, m1) => m1) ?_ ?_
  ·
   refine gc_seq (gc_region (gv ((ov_field_addr Tryz.underlying31 rfl Tryz.sizeOf29 rfl).cv (show _ = vP b2 0 from congrArg (vP b2) (by rfl))) rfl ?_))
   replace rb2 := rb2.mono ((hh1.trans hh2).trans hh3)
   refine gl_x (F := fun v_ => (rpQ k).Is h3 v_ s.1) (ox_load_box ty29 (Pc.fst (Pc.here _)) rfl rfl rb2 rfl) (mem1 (.tail _ (.head _))) rfl ?_
   intro v33 r33
   refine gl_call (vs := [_]) rfl rfl rfl rfl Tryz.call66 ⟨rfl, trivial⟩ (fun w hs => o_rat_sign hs r33 (by omega)) ?_
   intro v34 h4 hh4 r34
   obtain rfl : v34 = vI (sgnQ s.1) := r34
   have hsr34 := sgnQ_range s.1
   refine gv (ov_gtr_i (q := 0) rfl rfl) rfl (gl_nil (gq_then ?_))
   refine gc_cond rfl (fun hc35 => ?_) (fun hc35 => ?_)
   ·
    refine gc_seq (gc_region (gv ((ov_field_addr Tryz.underlying31 rfl Tryz.sizeOf29 rfl).cv (show _ = vP b2 0 from congrArg (vP b2) (by rfl))) rfl ?_))
    replace rb2 := rb2.mono hh4
    refine gl_x (F := fun v_ => (rpQ k).Is h4 v_ s.1) (ox_load_box ty29 (Pc.fst (Pc.here _)) rfl rfl rb2 rfl) (mem1 (.tail _ (.head _))) rfl ?_
    intro v38 r38
    refine mv rfl rfl ?_
    obtain ⟨vn38_5, vd38_5, hv38_5, hn38_5, hd38_5, hlq38_5⟩ := open_q r38
    subst hv38_5
    refine gl_call (vs := [_, _]) rfl rfl rfl rfl Tryz.call83 ⟨rfl, rfl, trivial⟩ (fun w hs => span_scaled hs hn38_5 hd38_5 (by omega) (by omega)) ?_
    intro v40 h5 hh5 hr40
    obtain ⟨u40, rfl, hu40⟩ := hr40
    refine mv rfl rfl (gv (ov_extract (vs := [_, _]) rfl rfl) rfl (gv (ov_extract (vs := [_, _]) rfl rfl) rfl (asg rfl rfl (asg rfl rfl (gl_nil (gq_keep (e' := [(2, _), (4, _), (1, _), (6, _), (9, _)]) ⟨rfl, rfl, rfl, rfl, rfl, trivial⟩ (gq_then (gc_region (mv rfl rfl ?_)))))))))
    refine gl_call (vs := [_]) rfl rfl rfl rfl Tryz.call84 ⟨rfl, trivial⟩ (fun w hs => span_root hs hu40 (by omega)) ?_
    intro v44 h6 hh6 hr44
    refine asg rfl rfl (gl_nil ?_)
    refine gq_cut (v44, h6) ?_ ⟨?_, ?_, ?_, ?_, ?_, trivial⟩ ?_ rfl
    ·
     refine ⟨((hh4.trans hh5).trans hh6), ?_⟩
     have e : loN s.1 (kN n) = sqN (flN s.1 (kN n)) := if_pos hc35
     rw [e]
     exact hr44
    · exact rfl
    · exact rfl
    · exact rfl
    · exact rfl
    · exact rfl
    · exact rfl
   ·
    refine gc_skip ?_
    refine gq_cut ((.slice none 0 0), h4) ?_ ⟨?_, ?_, ?_, ?_, ?_, trivial⟩ ?_ rfl
    ·
     refine ⟨hh4, ?_⟩
     have e : loN s.1 (kN n) = 0 := if_neg hc35
     rw [e, limbs_zero]
     exact Us.nil _ _
    · exact rfl
    · exact rfl
    · exact rfl
    · exact rfl
    · exact rfl
    · exact rfl
  ·
   intro x hx
   obtain ⟨v8, m1⟩ := x
   obtain ⟨hmm1, hv8⟩ := hx
   show GC _ _ _ _ _ _ [(1, vI ↑(kN n)), (2, vP b2 0), (4, vP b4 0), (6, u29), (8, v8)] [.var b4 31 cs4, .var b2 31 cs2] m1
   refine gc_seq (gc_region (gv ((ov_field_addr Tryz.underlying31 rfl Tryz.sizeOf29 rfl).cv (show _ = vP b2 3 from congrArg (vP b2) (by rfl))) rfl ?_))
   replace rb2 := rb2.mono (((hh1.trans hh2).trans hh3).trans hmm1)
   refine gl_x (F := fun v_ => (rpQ k).Is m1 v_ s.2) (ox_load_box ty29 (Pc.snd (Pc.here _)) rfl rfl rb2 rfl) (mem1 (.tail _ (.head _))) rfl ?_
   intro v47 r47
   refine mv rfl rfl ?_
   obtain ⟨vn47_6, vd47_6, hv47_6, hn47_6, hd47_6, hlq47_6⟩ := open_q r47
   subst hv47_6
   refine gl_call (vs := [_, _]) rfl rfl rfl rfl Tryz.call83 ⟨rfl, rfl, trivial⟩ (fun w hs => span_scaled hs hn47_6 hd47_6 (by omega) (by omega)) ?_
   intro v49 h4 hh4 hr49
   obtain ⟨u49, rfl, hu49⟩ := hr49
   refine mv rfl rfl (gv (ov_extract (vs := [_, _]) rfl rfl) rfl (gv (ov_extract (vs := [_, _]) rfl rfl) rfl (asg rfl rfl (asg rfl rfl (gl_nil (gq_then (gc_seq (gc_region (mv rfl rfl ?_)))))))))
   refine gl_call (vs := [_]) rfl rfl rfl rfl Tryz.call84 ⟨rfl, trivial⟩ (fun w hs => span_root hs hu49 (by omega)) ?_
   intro v53 h5 hh5 hr53
   refine asg rfl rfl (gl_nil (gq_keep (e' := [(4, _), (6, _), (8, _), (11, _), (12, _), (13, _)]) ⟨rfl, rfl, rfl, rfl, rfl, rfl, trivial⟩ (gq_then ?_)))
   refine gc_cut (ι := Value × Mem) (fun (x_ : (Value × Mem)) => match x_ with | (v13, m2) => MLe h5 m2 ∧ (Us .u32 m2 v13 (limbs (hiN s.2 (kN n))))) (fun (x_ : (Value × Mem)) => match x_ with | (v13, m2) => [(4, vP b4 0), (6, u29), (8, v8), (13, v13)]) (fun (x_ : (Value × Mem)) => match x_ with | (v13, m2) => [.var b4 31 cs4, .var b2 31 cs2]) (fun (x_ : (Value × Mem)) => match x_ with | (v13, m2) => m2) ?_ ?_
   ·
    refine gc_seq (gc_region (mv rfl rfl ?_))
    refine gl_cut (ι := Mem) 8 (fun m_ => MLe h5 m_) (fun _ => [(62, vB ((moreP s.2 (kN n)) ∨ ((cmpN ((((((sqN ((flN s.2 (kN n)))))) * (((sqN ((flN s.2 (kN n))))))))) (((flN s.2 (kN n))))) < (0 : Int)))), (4, vP b4 0), (6, u29), (8, v8), (13, v53)]) (fun _ => [.var b4 31 cs4, .var b2 31 cs2]) (fun m_ => m_) ?_ ?_
    ·
     refine gl_cases (moreP s.2 (kN n)) (fun hg => ?_) (fun hg => ?_)
     ·
      refine gl_val (ov_move (v := .bool true) (congrArg some (vB_true hg))) rfl rfl rfl (gl_off rfl rfl rfl rfl rfl rfl (gl_off rfl rfl rfl rfl rfl rfl (gl_off rfl rfl rfl rfl rfl rfl (gl_off rfl rfl rfl rfl rfl rfl (gl_off rfl rfl rfl rfl rfl rfl (gl_off rfl rfl rfl rfl rfl rfl (gv (ov_pick_t rfl rfl) rfl (gl_nil ?_))))))))
      refine gq_cut h5 (MLe.refl _) ⟨?_, rfl, rfl, rfl, rfl, trivial⟩ rfl rfl
      exact congrArg some (vB_or_t hg)
     ·
      refine gl_val (ov_move (v := .bool false) (congrArg some (vB_false hg))) rfl rfl rfl (gl_on rfl rfl rfl (mv rfl rfl (gl_on rfl rfl rfl (mv rfl rfl (gl_on rfl rfl rfl ?_)))))
      refine gl_call (vs := [_, _]) rfl rfl rfl rfl Tryz.call86 ⟨rfl, rfl, trivial⟩ (fun w hs => nat_mul hs hr53 hr53 (by omega) (by omega)) ?_
      intro v58 h6 hh6 hr58
      try simp only [val_limbs] at hr58
      have hlm58 := limbs_len_mul (((sqN ((flN s.2 (kN n)))))) (((sqN ((flN s.2 (kN n))))))
      refine gl_on rfl rfl rfl (mv rfl rfl (gl_on rfl rfl rfl ?_))
      replace hu49 := hu49.mono (hh5.trans hh6)
      refine gl_call (vs := [_, _]) rfl rfl rfl rfl Tryz.call85 ⟨rfl, rfl, trivial⟩ (fun w hs => nat_cmp hs hr58 hu49) ?_
      intro v60 h7 hh7 hr60
      try simp only [val_limbs] at hr60
      subst hr60
      refine gl_on rfl rfl rfl (gv (ov_lss_i (q := 0) rfl rfl) rfl (gv (ov_pick_f rfl rfl) rfl (gl_nil ?_)))
      refine gq_cut h7 (hh6.trans hh7) ⟨?_, rfl, rfl, rfl, rfl, trivial⟩ rfl rfl
      exact congrArg some (vB_or_f hg)
    ·
     intro mg11_1 hmmg11_1
     show GL _ _ _ _ _ _ _ [(62, vB ((moreP s.2 (kN n)) ∨ ((cmpN ((((((sqN ((flN s.2 (kN n)))))) * (((sqN ((flN s.2 (kN n))))))))) (((flN s.2 (kN n))))) < (0 : Int)))), (4, vP b4 0), (6, u29), (8, v8), (13, v53)] [.var b4 31 cs4, .var b2 31 cs2] mg11_1
     refine gl_nil (gq_then ?_)
     refine gc_cond rfl (fun hc62 => ?_) (fun hc62 => ?_)
     ·
      refine gc_region (mv rfl rfl (gl_newop (new_build1 (kd := .u32) (p := 1) Tryz.underlying27 info78 rfl rfl rfl) rfl rfl rfl ?_))
      intro v64 r64 hr64
      obtain rfl := hr64
      refine gl_freeze_us0 (by intro z hz; simp only [List.mem_singleton] at hz; subst hz; decide) ?_
      intro h6 hh6 hone12
      rw [one_limbs] at hone12
      replace hr53 := hr53.mono (hmmg11_1.trans hh6)
      refine gl_call (vs := [_, _]) rfl rfl rfl rfl Tryz.call87 ⟨rfl, rfl, trivial⟩ (fun w hs => nat_add hs hr53 hone12 (by omega) (by omega)) ?_
      intro v65 h7 hh7 hr65
      try simp only [val_limbs] at hr65
      have hlm65 := limbs_len_add (((sqN ((flN s.2 (kN n)))))) ((1))
      refine asg rfl rfl (gl_nil ?_)
      refine gq_cut (v65, h7) ?_ ⟨?_, ?_, ?_, ?_, trivial⟩ ?_ rfl
      ·
       refine ⟨((hmmg11_1.trans hh6).trans hh7), ?_⟩
       have e : hiN s.2 (kN n) = sqN (flN s.2 (kN n)) + 1 := if_pos hc62
       rw [e]
       exact hr65
      · exact rfl
      · exact rfl
      · exact rfl
      · exact rfl
      · exact rfl
     ·
      refine gc_skip ?_
      refine gq_cut (v53, mg11_1) ?_ ⟨?_, ?_, ?_, ?_, trivial⟩ ?_ rfl
      ·
       refine ⟨hmmg11_1, ?_⟩
       replace hr53 := hr53.mono hmmg11_1
       have e : hiN s.2 (kN n) = sqN (flN s.2 (kN n)) := if_neg hc62
       rw [e]
       exact hr53
      · exact rfl
      · exact rfl
      · exact rfl
      · exact rfl
      · exact rfl
   ·
    intro x hx
    obtain ⟨v13, m2⟩ := x
    obtain ⟨hmm2, hv13⟩ := hx
    show GC _ _ _ _ _ _ [(4, vP b4 0), (6, u29), (8, v8), (13, v13)] [.var b4 31 cs4, .var b2 31 cs2] m2
    refine gc_seq (gc_region (mv rfl rfl (mv rfl rfl ?_)))
    replace hu29 := hu29.mono (((hmm1.trans hh4).trans hh5).trans hmm2)
    replace hv8 := hv8.mono ((hh4.trans hh5).trans hmm2)
    refine gv (ov_build_parts (ps' := [(1, _), (2, _)]) (vs := [.bool false, v8, u29]) Tryz.underlying29 info29 rfl (places29 Tryz.underlying29) ⟨rfl, rfl, rfl, rfl, trivial⟩ (fill_one (A := [_]) (B := [_]) (C := [_]) (cs := [_]) (off := 1) (size := 1) rfl rfl rfl rfl hv8.cells (fill_one (A := [_, _]) (B := [_]) (C := []) (cs := [_]) (off := 2) (size := 1) rfl rfl rfl rfl hu29.cells fill_nil))) rfl ?_
    refine gl_call (vs := [_]) rfl rfl rfl rfl Tryz.call88 ⟨rfl, trivial⟩ (fun w hs => rat_norm hs (vB_false (p := False) id).symm hv8 hu29 (by omega) (by omega)) ?_
    intro v70 h6 hh6 hr70
    obtain ⟨_, rfl, vn70, vd70, rfl, hn70, hd70⟩ := hr70
    have hlq70 := lq_norm (False) (limbs (loN s.1 (kN n))) (limbs (2 ^ kN n))
    rw [norm_ov] at hn70 hd70 hlq70 ⊢
    refine mv rfl rfl (gv (ov_extract (vs := [_, _]) rfl rfl) rfl (gv (ov_extract (vs := [_, _]) rfl rfl) rfl (gl_newop (new_allocx (ρ := (rpQ (k + 140))) (X := (0 : Rat)) info29 rfl rfl (zr_q (by omega))) rfl rfl rfl ?_)))
    intro v14 q14 hq14
    obtain ⟨b14, cs14, rfl, rfl, rb14⟩ := hq14
    refine gl_updx (A := []) (F := fun c_ => (rpQ (k + 140)).R h6 c_ (ovQ (loN s.1 (kN n)) (kN n))) (upd_box Tryz.sizeOf29 (Pc.here _) rfl rfl rfl rb14 (is_q ⟨_, _, rfl, hn70, hd70⟩ (by omega)) rfl) ?_
    intro cs_7 rb_8
    refine asg rfl rfl (gl_nil (gq_then (gc_seq (gc_region (mv rfl rfl (mv rfl rfl ?_))))))
    replace hu29 := hu29.mono hh6
    replace hv13 := hv13.mono hh6
    refine gv (ov_build_parts (ps' := [(1, _), (2, _)]) (vs := [.bool false, v13, u29]) Tryz.underlying29 info29 rfl (places29 Tryz.underlying29) ⟨rfl, rfl, rfl, rfl, trivial⟩ (fill_one (A := [_]) (B := [_]) (C := [_]) (cs := [_]) (off := 1) (size := 1) rfl rfl rfl rfl hv13.cells (fill_one (A := [_, _]) (B := [_]) (C := []) (cs := [_]) (off := 2) (size := 1) rfl rfl rfl rfl hu29.cells fill_nil))) rfl ?_
    refine gl_call (vs := [_]) rfl rfl rfl rfl Tryz.call88 ⟨rfl, trivial⟩ (fun w hs => rat_norm hs (vB_false (p := False) id).symm hv13 hu29 (by omega) (by omega)) ?_
    intro v77 h7 hh7 hr77
    obtain ⟨_, rfl, vn77, vd77, rfl, hn77, hd77⟩ := hr77
    have hlq77 := lq_norm (False) (limbs (hiN s.2 (kN n))) (limbs (2 ^ kN n))
    rw [norm_ov] at hn77 hd77 hlq77 ⊢
    refine mv rfl rfl (gv (ov_extract (vs := [_, _]) rfl rfl) rfl (gv (ov_extract (vs := [_, _]) rfl rfl) rfl (gl_newop (new_allocx (ρ := (rpQ (k + 140))) (X := (0 : Rat)) info29 rfl rfl (zr_q (by omega))) rfl rfl rfl ?_)))
    intro v16 q16 hq16
    obtain ⟨b16, cs16, rfl, rfl, rb16⟩ := hq16
    refine gl_updx (A := []) (F := fun c_ => (rpQ (k + 140)).R h7 c_ (ovQ (hiN s.2 (kN n)) (kN n))) (upd_box Tryz.sizeOf29 (Pc.here _) rfl rfl rfl rb16 (is_q ⟨_, _, rfl, hn77, hd77⟩ (by omega)) rfl) ?_
    intro cs_9 rb_10
    refine asg rfl rfl (gl_nil (gq_keep (e' := [(4, _), (14, _), (16, _)]) ⟨rfl, rfl, rfl, trivial⟩ (gq_then (gc_seq (gc_region ?_)))))
    replace rb_8 := rb_8.mono hh7
    refine gl_x (F := fun v_ => (rpQ (k + 140)).Is h7 v_ (ovQ (loN s.1 (kN n)) (kN n))) (ox_load_box ty29 (Pc.here _) rfl rfl rb_8 rfl) (mem1 (.tail _ (.head _))) rfl ?_
    intro v80 r80
    refine gl_x (F := fun v_ => (rpQ (k + 140)).Is h7 v_ (ovQ (hiN s.2 (kN n)) (kN n))) (ox_load_box ty29 (Pc.here _) rfl rfl rb_10 rfl) (mem1 (.head _)) rfl ?_
    intro v81 r81
    refine gl_x (F := fun v_ => (rpP (rpQ (k + 140)) (rpQ (k + 140))).Is h7 v_ ((ovQ (loN s.1 (kN n)) (kN n)), (ovQ (hiN s.2 (kN n)) (kN n)))) (ox_build (ps' := [(0, _), (1, _)]) Tryz.underlying31 info31 rfl rfl (places31 Tryz.underlying31) ⟨rfl, rfl, rfl, rfl, trivial⟩ rfl (zr_p (zr_q (by omega)) (zr_q (by omega))) (fx_one rfl (Pc.fst (Pc.here _)) r80 (fx_one rfl (Pc.snd (Pc.here _)) r81 fx_nil))) mem0 rfl ?_
    intro v82 r82
    replace rb4 := rb4.mono ((((((((hh1.trans hh2).trans hh3).trans hmm1).trans hh4).trans hh5).trans hmm2).trans hh6).trans hh7)
    refine gl_updx (A := [_, _]) (F := fun c_ => (rpP (rpQ (k + 140)) (rpQ (k + 140))).R h7 c_ ((ovQ (loN s.1 (kN n)) (kN n)), (ovQ (hiN s.2 (kN n)) (kN n)))) (upd_box Tryz.sizeOf31 (Pc.here _) rfl rfl rfl rb4 r82 rfl) ?_
    intro cs_11 rb_12
    refine asg (v := vI (0)) rfl rfl (gl_nil (gq_then (gc_ret (gq_exv (rv_o (t := 4) ty31 (.tail _ (.tail _ (.head _))) rfl rb_12) ?_))))
    intro w_13 hvw_13 rr_14
    refine gq_res (fun E S => run_res2 rfl hvw_13 (rv_tmp rfl) E S) ?_
    refine ⟨_, ?_, (Rp.Is.cast rr_14 (by unfold rtLo; rw [if_neg hneg, ← lo_eq, hi_eq hneg]))⟩
    unfold rtE; rw [if_neg hneg]

end Go.Proofs.YtkdmphehabpcfaaGreat

namespace Bk
set_option linter.unusedVariables false
set_option linter.unusedSimpArgs false
open Go Go.RowKit
open Classical
abbrev Sp := Rat × Rat
theorem open_qq {h : Mem} {v : Value} {s : Sp} {k l : Nat} (r : (rpP (rpQ k) (rpQ l)).Is h v s) : ∃ a b c d, v = .agg #[vB (s.1.num < 0), a, b, vB (s.2.num < 0), c, d] ∧ Us .u32 h a (limbs s.1.num.natAbs) ∧ Us .u32 h b (limbs (denN s.1.den)) ∧ Us .u32 h c (limbs s.2.num.natAbs) ∧ Us .u32 h d (limbs (denN s.2.den)) ∧ lq s.1 ≤ k ∧ lq s.2 ≤ l := by
  obtain ⟨cs, ⟨_, _, rfl, ⟨⟨a, b, rfl, h1, h2⟩, h3⟩, ⟨⟨c, d, rfl, h4, h5⟩, h6⟩⟩, rfl⟩ := r
  exact ⟨a, b, c, d, rfl, h1, h2, h4, h5, h3, h6⟩
theorem is_qq {h : Mem} {v : Value} {p q : Rat} {k l : Nat} (r : IsRats h v [p, q]) (hp : lq p ≤ k) (hq : lq q ≤ l) : (rpP (rpQ k) (rpQ l)).Is h v (p, q) := by
  obtain ⟨cs, rfl, a, b, _, rfl, h1, h2, c, d, _, rfl, h4, h5, rfl⟩ := r
  exact ⟨_, ⟨_, _, rfl, ⟨⟨a, b, rfl, h1, h2⟩, hp⟩, ⟨⟨c, d, rfl, h4, h5⟩, hq⟩⟩, rfl⟩
noncomputable def ofS (a b : Rat) : Sp := (minQ a b, maxQ a b)
noncomputable def hullS (a b : Sp) : Sp := (minQ a.1 b.1, maxQ a.2 b.2)
def addS (a b : Sp) : Sp := (a.1 + b.1, a.2 + b.2)
def negS (a : Sp) : Sp := (-a.2, -a.1)
def subS (a b : Sp) : Sp := (a.1 - b.2, a.2 - b.1)
noncomputable def mulS (a b : Sp) : Sp := (mulLo a.1 a.2 b.1 b.2, mulHi a.1 a.2 b.1 b.2)
noncomputable def sqrS (a : Sp) : Sp := (sqrLo a.1 a.2, sqrHi a.1 a.2)
noncomputable def roundS (a : Sp) (n : Int) : Sp := (downQ a.1 n, upQ a.2 n)
noncomputable def quoS (a b : Sp) : Sp := (quoLo a.1 a.2 b.1 b.2, quoHi a.1 a.2 b.1 b.2)
noncomputable def meetS (a b : Sp) : Sp := (if minQ a.2 b.2 < maxQ a.1 b.1 then 0 else maxQ a.1 b.1, if minQ a.2 b.2 < maxQ a.1 b.1 then 0 else minQ a.2 b.2)
noncomputable def rootS (a : Sp) (n : Int) : Sp := (rtLo a.1 a.2 n, rtHi a.2 n)
theorem lq_meet (a b : Sp) : lq (if minQ a.2 b.2 < maxQ a.1 b.1 then 0 else maxQ a.1 b.1) ≤ max (lq a.1) (lq b.1) ∧ lq (if minQ a.2 b.2 < maxQ a.1 b.1 then 0 else minQ a.2 b.2) ≤ max (lq a.2) (lq b.2) := by
  have h1 := lq_min a.2 b.2; have h2 := lq_max a.1 b.1
  have h3 := lq_pos a.1; have h4 := lq_pos a.2
  constructor
  · split
    · rw [lq_zero]; omega
    · exact h2
  · split
    · rw [lq_zero]; omega
    · exact h1

theorem retmut_imp {w0 : World} {h0 h : Mem} {L : List Res} {G G' : Mem → Value → Res → Prop} (k : ∀ g v q, G g v q → G' g v q) (x : Ending) (w : World) (s : RetMut w0 h0 h L G x w) : RetMut w0 h0 h L G' x w := by
  obtain ⟨v, g, K, e, ⟨q, h1, h2, h3⟩, S⟩ := s
  exact ⟨v, g, K, e, ⟨q, h1, h2, k _ _ _ h3⟩, S⟩
noncomputable def withinQ (s : Sp) (n : Int) : Rat := s.1 + partQ n * (s.2 - s.1)
noncomputable def ratQ (n d : Int) : Rat := makeQ (modZ n 41 - 20) (modZ d 8 + 1)
theorem partN_range (n : Int) : 1 ≤ partN n ∧ partN n ≤ 12 := by
  have := modZ_range (n.tdiv 17) (q := 12) (by omega)
  unfold partN
  omega
theorem lq_part (n : Int) : lq (partQ n) ≤ 2 := by
  have h1 := partN_range n
  have h2 := modZ_range n (q := partN n + 1) (by omega)
  exact lq_make (by omega) (by omega) (by omega) (by omega)
theorem lq_within (s : Sp) {n : Int} (h1 : -9223372036854775808 ≤ n) (h2 : n < 9223372036854775808) : lq (withinQ s n) ≤ lq s.1 + lq s.1 + lq s.2 + 4 := by
  have a1 := lq_add s.1 (partQ n * (s.2 - s.1))
  have a2 := lq_mul (partQ n) (s.2 - s.1)
  have a3 := lq_sub s.2 s.1
  have a4 := lq_part n
  unfold withinQ
  omega
theorem part_range (n : Int) : 0 ≤ partQ n ∧ partQ n ≤ 1 := by
  have h1 := partN_range n
  have h2 := modZ_range n (q := partN n + 1) (by omega)
  unfold partQ makeQ
  generalize modZ n (partN n + 1) = a at *
  generalize partN n = b at *
  have hb : (0 : Rat) < (b : Rat) := by
    have : ((0 : Int) : Rat) < (b : Rat) := Rat.intCast_lt_intCast.2 (by omega)
    exact this
  have ha : (0 : Rat) ≤ (a : Rat) := by
    have : ((0 : Int) : Rat) ≤ (a : Rat) := Rat.intCast_le_intCast.2 (by omega)
    exact this
  have hab : (a : Rat) ≤ (b : Rat) := Rat.intCast_le_intCast.2 (by omega)
  constructor
  · rw [le_mul_iff hb]
    have e : (a : Rat) / b * b = a := by grind
    rw [e]; grind
  · rw [le_mul_iff hb]
    have e : (a : Rat) / b * b = a := by grind
    rw [e]; grind
theorem within_has {s : Sp} (h : s.1 ≤ s.2) (n : Int) : hasP s.1 s.2 (withinQ s n) := by
  obtain ⟨h1, h2⟩ := part_range n
  have h3 : 0 ≤ s.2 - s.1 := by grind
  have h4 := Rat.mul_nonneg h1 h3
  have h5 := Rat.mul_le_mul_of_nonneg_right h2 h3
  unfold hasP withinQ
  constructor <;> grind
/-! determinants -/
noncomputable def det2S (a b c d : Sp) : Sp := subS (mulS a d) (mulS b c)
noncomputable def minorS (m : T3 (T3 Sp)) (i j : Nat) : Sp := det2S (m.y.at i) (m.y.at j) (m.z.at i) (m.z.at j)
noncomputable def det3S (m : T3 (T3 Sp)) : Sp := addS (subS (mulS m.x.x (minorS m 1 2)) (mulS m.x.y (minorS m 0 2))) (mulS m.x.z (minorS m 0 1))
/-- All spans of the matrix are in order. -/
def okM (m : T3 (T3 Sp)) : Prop := ∀ i j, ((m.at i).at j).1 ≤ ((m.at i).at j).2

noncomputable def det2L (m : List (List Sp)) : Sp := det2S ((m.getD 0 (List.replicate 2 ((0 : Rat), (0 : Rat)))).getD 0 ((0 : Rat), (0 : Rat))) ((m.getD 0 (List.replicate 2 ((0 : Rat), (0 : Rat)))).getD 1 ((0 : Rat), (0 : Rat))) ((m.getD 1 (List.replicate 2 ((0 : Rat), (0 : Rat)))).getD 0 ((0 : Rat), (0 : Rat))) ((m.getD 1 (List.replicate 2 ((0 : Rat), (0 : Rat)))).getD 1 ((0 : Rat), (0 : Rat)))
theorem okM_zero : okM (T3.mk (T3.mk ((0 : Rat), (0 : Rat)) ((0 : Rat), (0 : Rat)) ((0 : Rat), (0 : Rat))) (T3.mk ((0 : Rat), (0 : Rat)) ((0 : Rat), (0 : Rat)) ((0 : Rat), (0 : Rat))) (T3.mk ((0 : Rat), (0 : Rat)) ((0 : Rat), (0 : Rat)) ((0 : Rat), (0 : Rat)))) := by
  intro i j
  match i, j with
  | 0, 0 | 0, 1 | 0, (n+2) | 1, 0 | 1, 1 | 1, (n+2) | (k+2), 0 | (k+2), 1 | (k+2), (n+2) => exact Rat.le_refl
theorem T3.at_set {α : Type} (p : T3 α) (i k : Nat) (a : α) : (p.set i a).at k = if min i 2 = min k 2 then a else p.at k := by
  match i, k with
  | 0, 0 | 1, 1 | 0, 1 | 1, 0 => rfl
  | (i+2), (k+2) => rw [if_pos (by omega)]; rfl
  | 0, (k+2) => rw [if_neg (by omega)]; rfl
  | 1, (k+2) => rw [if_neg (by omega)]; rfl
  | (i+2), 0 => rw [if_neg (by omega)]; rfl
  | (i+2), 1 => rw [if_neg (by omega)]; rfl
theorem okM_set {m : T3 (T3 Sp)} (h : okM m) {s : Sp} (hs : s.1 ≤ s.2) {i j : Nat} : okM (m.set i ((m.at i).set j s)) := by
  intro a b
  rw [T3.at_set]
  split
  · rw [T3.at_set]
    split
    · exact hs
    · exact h i b
  · exact h a b
def detR (n : T3 (T3 Rat)) : Rat := n.x.x * n.y.y * n.z.z - n.x.x * n.y.z * n.z.y + (n.x.y * n.y.z * n.z.x - n.x.y * n.y.x * n.z.z) + (n.x.z * n.y.x * n.z.y - n.x.z * n.y.y * n.z.x)
theorem detR_eq (n : T3 (T3 Rat)) : (0 : Rat) + (((1 : Int) : Rat) * n.x.x * n.y.y * n.z.z - ((1 : Int) : Rat) * n.x.x * n.y.z * n.z.y) + (((1 : Int) : Rat) * n.x.y * n.y.z * n.z.x - ((1 : Int) : Rat) * n.x.y * n.y.x * n.z.z) + (((1 : Int) : Rat) * n.x.z * n.y.x * n.z.y - ((1 : Int) : Rat) * n.x.z * n.y.y * n.z.x) = detR n := by
  have e : ((1 : Int) : Rat) = 1 := rfl
  rw [e]
  unfold detR
  grind
end Bk

namespace Go.Proofs.YtkdmphehabpcfaaGreat
open Bk Go
set_option linter.unusedVariables false
set_option linter.unusedSimpArgs false
set_option maxRecDepth 10000

theorem o_span_of {w0 : World} {h0 : Mem} (hs : MLe h0 (mem w0)) {k : Nat} {va : Value} {a : Rat} (ra : (rpQ k).Is h0 va a) {vb : Value} {b : Rat} (rb : (rpQ k).Is h0 vb b) (hcd0 : k ≤ 4000000000)  :
    Calls Tryz.prog 32 #[va, vb] w0 (Ret w0 h0 (fun h r => (rpP (rpQ k) (rpQ k)).Is h r (ofS a b))) := by
  obtain ⟨vna, vda, rfl, hna, hda, hla⟩ := open_q ra
  obtain ⟨vnb, vdb, rfl, hnb, hdb, hlb⟩ := open_q rb
  exact (span_of hs hna hda hnb hdb (by omega) (by omega) ).mono (ret_imp fun h r x => is_qq x (by have := lq_min a b; have := lq_max a b; omega) (by have := lq_min a b; have := lq_max a b; omega))

theorem o_span_point {w0 : World} {h0 : Mem} (hs : MLe h0 (mem w0)) {k : Nat} {va : Value} {a : Rat} (ra : (rpQ k).Is h0 va a) (hcd0 : k ≤ 4000000000)  :
    Calls Tryz.prog 34 #[va] w0 (Ret w0 h0 (fun h r => (rpP (rpQ k) (rpQ k)).Is h r (a, a))) := by
  obtain ⟨vna, vda, rfl, hna, hda, hla⟩ := open_q ra
  exact (span_point hs hna hda (by omega) ).mono (ret_imp fun h r x => is_qq x (by omega) (by omega))

theorem o_span_hull {w0 : World} {h0 : Mem} (hs : MLe h0 (mem w0)) {k : Nat} {va : Value} {a : (Rat × Rat)} (ra : (rpP (rpQ k) (rpQ k)).Is h0 va a) {vb : Value} {b : (Rat × Rat)} (rb : (rpP (rpQ k) (rpQ k)).Is h0 vb b) (hcd0 : k ≤ 4000000000)  :
    Calls Tryz.prog 21 #[va, vb] w0 (Ret w0 h0 (fun h r => (rpP (rpQ k) (rpQ k)).Is h r (hullS a b))) := by
  obtain ⟨vna0, vda0, vna1, vda1, rfl, hna0, hda0, hna1, hda1, hla0, hla1⟩ := open_qq ra
  obtain ⟨vnb0, vdb0, vnb1, vdb1, rfl, hnb0, hdb0, hnb1, hdb1, hlb0, hlb1⟩ := open_qq rb
  exact (span_hull hs hna0 hda0 hna1 hda1 hnb0 hdb0 hnb1 hdb1 (by omega) (by omega) (by omega) (by omega) ).mono (ret_imp fun h r x => is_qq x (by have := lq_min a.1 b.1; have := lq_max a.2 b.2; omega) (by have := lq_min a.1 b.1; have := lq_max a.2 b.2; omega))

theorem o_span_same {w0 : World} {h0 : Mem} (hs : MLe h0 (mem w0)) {k l : Nat} {va : Value} {a : (Rat × Rat)} (ra : (rpP (rpQ k) (rpQ k)).Is h0 va a) {vb : Value} {b : (Rat × Rat)} (rb : (rpP (rpQ l) (rpQ l)).Is h0 vb b) (hcd0 : k + l ≤ 4000000000)  :
    Calls Tryz.prog 19 #[va, vb] w0 (Ret w0 h0 (fun _ r => r = vB (a.1 = b.1 ∧ a.2 = b.2))) := by
  obtain ⟨vna0, vda0, vna1, vda1, rfl, hna0, hda0, hna1, hda1, hla0, hla1⟩ := open_qq ra
  obtain ⟨vnb0, vdb0, vnb1, vdb1, rfl, hnb0, hdb0, hnb1, hdb1, hlb0, hlb1⟩ := open_qq rb
  exact span_same hs hna0 hda0 hna1 hda1 hnb0 hdb0 hnb1 hdb1 (by omega) (by omega) (by omega) (by omega) 

theorem o_span_has {w0 : World} {h0 : Mem} (hs : MLe h0 (mem w0)) {k l : Nat} {va : Value} {a : (Rat × Rat)} (ra : (rpP (rpQ k) (rpQ k)).Is h0 va a) {vq : Value} {q : Rat} (rq : (rpQ l).Is h0 vq q) (hcd0 : k + l ≤ 4000000000)  :
    Calls Tryz.prog 23 #[va, vq] w0 (Ret w0 h0 (fun _ r => r = vB (hasP a.1 a.2 q))) := by
  obtain ⟨vna0, vda0, vna1, vda1, rfl, hna0, hda0, hna1, hda1, hla0, hla1⟩ := open_qq ra
  obtain ⟨vnq, vdq, rfl, hnq, hdq, hlq⟩ := open_q rq
  exact span_has hs hna0 hda0 hna1 hda1 hnq hdq (by omega) (by omega) (by omega) 

theorem o_span_inside {w0 : World} {h0 : Mem} (hs : MLe h0 (mem w0)) {k l : Nat} {va : Value} {a : (Rat × Rat)} (ra : (rpP (rpQ k) (rpQ k)).Is h0 va a) {vb : Value} {b : (Rat × Rat)} (rb : (rpP (rpQ l) (rpQ l)).Is h0 vb b) (hcd0 : k + l ≤ 4000000000)  :
    Calls Tryz.prog 25 #[va, vb] w0 (Ret w0 h0 (fun _ r => r = vB (hasP b.1 b.2 a.1 ∧ hasP b.1 b.2 a.2))) := by
  obtain ⟨vna0, vda0, vna1, vda1, rfl, hna0, hda0, hna1, hda1, hla0, hla1⟩ := open_qq ra
  obtain ⟨vnb0, vdb0, vnb1, vdb1, rfl, hnb0, hdb0, hnb1, hdb1, hlb0, hlb1⟩ := open_qq rb
  exact span_inside hs hna0 hda0 hna1 hda1 hnb0 hdb0 hnb1 hdb1 (by omega) (by omega) (by omega) (by omega) 

theorem o_span_width {w0 : World} {h0 : Mem} (hs : MLe h0 (mem w0)) {k : Nat} {va : Value} {a : (Rat × Rat)} (ra : (rpP (rpQ k) (rpQ k)).Is h0 va a) (hcd0 : k ≤ 4000000000)  :
    Calls Tryz.prog 28 #[va] w0 (Ret w0 h0 (fun h r => (rpQ (k + k + 1)).Is h r (a.2 - a.1))) := by
  obtain ⟨vna0, vda0, vna1, vda1, rfl, hna0, hda0, hna1, hda1, hla0, hla1⟩ := open_qq ra
  exact (span_width hs hna0 hda0 hna1 hda1 (by omega) (by omega) ).mono (ret_imp fun h r x => is_q x (by have := lq_sub a.2 a.1; omega))

theorem o_span_mid {w0 : World} {h0 : Mem} (hs : MLe h0 (mem w0)) {k : Nat} {va : Value} {a : (Rat × Rat)} (ra : (rpP (rpQ k) (rpQ k)).Is h0 va a) (hcd0 : k ≤ 4000000000)  :
    Calls Tryz.prog 30 #[va] w0 (Ret w0 h0 (fun h r => (rpQ (k + k + 2)).Is h r (midQ a.1 a.2))) := by
  obtain ⟨vna0, vda0, vna1, vda1, rfl, hna0, hda0, hna1, hda1, hla0, hla1⟩ := open_qq ra
  exact (span_mid hs hna0 hda0 hna1 hda1 (by omega) (by omega) ).mono (ret_imp fun h r x => is_q x (by have := lq_mid a.1 a.2; omega))

theorem o_span_add {w0 : World} {h0 : Mem} (hs : MLe h0 (mem w0)) {k l : Nat} {va : Value} {a : (Rat × Rat)} (ra : (rpP (rpQ k) (rpQ k)).Is h0 va a) {vb : Value} {b : (Rat × Rat)} (rb : (rpP (rpQ l) (rpQ l)).Is h0 vb b) (hcd0 : k + l ≤ 4000000000)  :
    Calls Tryz.prog 38 #[va, vb] w0 (Ret w0 h0 (fun h r => (rpP (rpQ (k + l + 1)) (rpQ (k + l + 1))).Is h r (addS a b))) := by
  obtain ⟨vna0, vda0, vna1, vda1, rfl, hna0, hda0, hna1, hda1, hla0, hla1⟩ := open_qq ra
  obtain ⟨vnb0, vdb0, vnb1, vdb1, rfl, hnb0, hdb0, hnb1, hdb1, hlb0, hlb1⟩ := open_qq rb
  exact (span_add hs hna0 hda0 hna1 hda1 hnb0 hdb0 hnb1 hdb1 (by omega) (by omega) (by omega) (by omega) ).mono (ret_imp fun h r x => is_qq x (by have := lq_add a.1 b.1; have := lq_add a.2 b.2; omega) (by have := lq_add a.1 b.1; have := lq_add a.2 b.2; omega))

theorem o_span_neg {w0 : World} {h0 : Mem} (hs : MLe h0 (mem w0)) {k : Nat} {va : Value} {a : (Rat × Rat)} (ra : (rpP (rpQ k) (rpQ k)).Is h0 va a) (hcd0 : k ≤ 4000000000)  :
    Calls Tryz.prog 42 #[va] w0 (Ret w0 h0 (fun h r => (rpP (rpQ k) (rpQ k)).Is h r (negS a))) := by
  obtain ⟨vna0, vda0, vna1, vda1, rfl, hna0, hda0, hna1, hda1, hla0, hla1⟩ := open_qq ra
  exact (span_neg hs hna0 hda0 hna1 hda1 (by omega) (by omega) ).mono (ret_imp fun h r x => is_qq x (by have := lq_neg a.1; have := lq_neg a.2; omega) (by have := lq_neg a.1; have := lq_neg a.2; omega))

theorem o_span_sub {w0 : World} {h0 : Mem} (hs : MLe h0 (mem w0)) {k l : Nat} {va : Value} {a : (Rat × Rat)} (ra : (rpP (rpQ k) (rpQ k)).Is h0 va a) {vb : Value} {b : (Rat × Rat)} (rb : (rpP (rpQ l) (rpQ l)).Is h0 vb b) (hcd0 : k + l ≤ 4000000000)  :
    Calls Tryz.prog 40 #[va, vb] w0 (Ret w0 h0 (fun h r => (rpP (rpQ (k + l + 1)) (rpQ (k + l + 1))).Is h r (subS a b))) := by
  obtain ⟨vna0, vda0, vna1, vda1, rfl, hna0, hda0, hna1, hda1, hla0, hla1⟩ := open_qq ra
  obtain ⟨vnb0, vdb0, vnb1, vdb1, rfl, hnb0, hdb0, hnb1, hdb1, hlb0, hlb1⟩ := open_qq rb
  exact (span_sub hs hna0 hda0 hna1 hda1 hnb0 hdb0 hnb1 hdb1 (by omega) (by omega) (by omega) (by omega) ).mono (ret_imp fun h r x => is_qq x (by have := lq_sub a.1 b.2; have := lq_sub a.2 b.1; omega) (by have := lq_sub a.1 b.2; have := lq_sub a.2 b.1; omega))

theorem o_span_mul {w0 : World} {h0 : Mem} (hs : MLe h0 (mem w0)) {k l : Nat} {va : Value} {a : (Rat × Rat)} (ra : (rpP (rpQ k) (rpQ k)).Is h0 va a) {vb : Value} {b : (Rat × Rat)} (rb : (rpP (rpQ l) (rpQ l)).Is h0 vb b) (hcd0 : k + l ≤ 4000000000)  :
    Calls Tryz.prog 44 #[va, vb] w0 (Ret w0 h0 (fun h r => (rpP (rpQ (k + l)) (rpQ (k + l))).Is h r (mulS a b))) := by
  obtain ⟨vna0, vda0, vna1, vda1, rfl, hna0, hda0, hna1, hda1, hla0, hla1⟩ := open_qq ra
  obtain ⟨vnb0, vdb0, vnb1, vdb1, rfl, hnb0, hdb0, hnb1, hdb1, hlb0, hlb1⟩ := open_qq rb
  exact (span_mul hs hna0 hda0 hna1 hda1 hnb0 hdb0 hnb1 hdb1 (by omega) (by omega) (by omega) (by omega) ).mono (ret_imp fun h r x => is_qq x (by have := lq_mulLo a.1 a.2 b.1 b.2; have := lq_mulHi a.1 a.2 b.1 b.2; omega) (by have := lq_mulLo a.1 a.2 b.1 b.2; have := lq_mulHi a.1 a.2 b.1 b.2; omega))

theorem o_span_sqr {w0 : World} {h0 : Mem} (hs : MLe h0 (mem w0)) {k : Nat} {va : Value} {a : (Rat × Rat)} (ra : (rpP (rpQ k) (rpQ k)).Is h0 va a) (hcd0 : k ≤ 4000000000)  :
    Calls Tryz.prog 46 #[va] w0 (Ret w0 h0 (fun h r => (rpP (rpQ (k + k)) (rpQ (k + k))).Is h r (sqrS a))) := by
  obtain ⟨vna0, vda0, vna1, vda1, rfl, hna0, hda0, hna1, hda1, hla0, hla1⟩ := open_qq ra
  exact (span_sqr hs hna0 hda0 hna1 hda1 (by omega) (by omega) ).mono (ret_imp fun h r x => is_qq x (by have := lq_sqrLo a.1 a.2; have := lq_sqrHi a.1 a.2; omega) (by have := lq_sqrLo a.1 a.2; have := lq_sqrHi a.1 a.2; omega))

theorem o_span_round {w0 : World} {h0 : Mem} (hs : MLe h0 (mem w0)) {k : Nat} {va : Value} {a : (Rat × Rat)} (ra : (rpP (rpQ k) (rpQ k)).Is h0 va a) {n : Int} (hn1 : -9223372036854775808 ≤ n) (hn2 : n < 9223372036854775808) (hcd0 : k ≤ 4000000000)  :
    Calls Tryz.prog 55 #[va, vI n] w0 (Ret w0 h0 (fun h r => (rpP (rpQ (k + 130)) (rpQ (k + 130))).Is h r (roundS a n))) := by
  obtain ⟨vna0, vda0, vna1, vda1, rfl, hna0, hda0, hna1, hda1, hla0, hla1⟩ := open_qq ra
  exact (span_round hs hna0 hda0 hna1 hda1 (by omega) (by omega) hn1 hn2).mono (ret_imp fun h r x => is_qq x (by have := lq_down a.1 n; have := lq_up a.2 n; omega) (by have := lq_down a.1 n; have := lq_up a.2 n; omega))

theorem o_span_quo {w0 : World} {h0 : Mem} (hs : MLe h0 (mem w0)) {k l : Nat} {va : Value} {a : (Rat × Rat)} (ra : (rpP (rpQ k) (rpQ k)).Is h0 va a) {vb : Value} {b : (Rat × Rat)} (rb : (rpP (rpQ l) (rpQ l)).Is h0 vb b) (hcd0 : k + l ≤ 900000000)  :
    Calls Tryz.prog 36 #[va, vb] w0 (Ret w0 h0 (fun h r => ∃ u0, r = .tuple #[u0, vI (quoE b.1 b.2)] ∧ (rpP (rpQ (k + l + 2)) (rpQ (k + l + 2))).Is h u0 (quoS a b))) := by
  obtain ⟨vna0, vda0, vna1, vda1, rfl, hna0, hda0, hna1, hda1, hla0, hla1⟩ := open_qq ra
  obtain ⟨vnb0, vdb0, vnb1, vdb1, rfl, hnb0, hdb0, hnb1, hdb1, hlb0, hlb1⟩ := open_qq rb
  exact (span_quo hs hna0 hda0 hna1 hda1 hnb0 hdb0 hnb1 hdb1 (by omega) (by omega) (by omega) (by omega) ).mono (ret_imp fun h r x => by obtain ⟨u, e, x⟩ := x; exact ⟨u, e, is_qq x (by have := lq_quoLo a.1 a.2 b.1 b.2; have := lq_quoHi a.1 a.2 b.1 b.2; omega) (by have := lq_quoLo a.1 a.2 b.1 b.2; have := lq_quoHi a.1 a.2 b.1 b.2; omega)⟩)

theorem o_span_meet {w0 : World} {h0 : Mem} (hs : MLe h0 (mem w0)) {k : Nat} {va : Value} {a : (Rat × Rat)} (ra : (rpP (rpQ k) (rpQ k)).Is h0 va a) {vb : Value} {b : (Rat × Rat)} (rb : (rpP (rpQ k) (rpQ k)).Is h0 vb b) (hcd0 : k ≤ 4000000000)  :
    Calls Tryz.prog 11 #[va, vb] w0 (Ret w0 h0 (fun h r => ∃ u0, r = .tuple #[u0, vB (¬ minQ a.2 b.2 < maxQ a.1 b.1)] ∧ (rpP (rpQ k) (rpQ k)).Is h u0 (meetS a b))) := by
  obtain ⟨vna0, vda0, vna1, vda1, rfl, hna0, hda0, hna1, hda1, hla0, hla1⟩ := open_qq ra
  obtain ⟨vnb0, vdb0, vnb1, vdb1, rfl, hnb0, hdb0, hnb1, hdb1, hlb0, hlb1⟩ := open_qq rb
  exact (span_meet hs hna0 hda0 hna1 hda1 hnb0 hdb0 hnb1 hdb1 (by omega) (by omega) (by omega) (by omega) ).mono (ret_imp fun h r x => by obtain ⟨u, e, x⟩ := x; exact ⟨u, e, is_qq x (by have := lq_meet a b; have := lq_pos a.1; omega) (by have := lq_meet a b; have := lq_pos a.1; omega)⟩)

theorem o_sref_of {w0 : World} {h0 : Mem} (hs : MLe h0 (mem w0)) {k : Nat} {va : Value} {a : Rat} (ra : (rpQ k).Is h0 va a) {vb : Value} {b : Rat} (rb : (rpQ k).Is h0 vb b) (hcd0 : k ≤ 4000000000)  :
    Calls Tryz.prog 33 #[va, vb] w0 (Ret w0 h0 (fun h r => (rpP (rpQ k) (rpQ k)).Is h r (ofS a b))) := by
  obtain ⟨vna, vda, rfl, hna, hda, hla⟩ := open_q ra
  obtain ⟨vnb, vdb, rfl, hnb, hdb, hlb⟩ := open_q rb
  exact (sref_of hs hna hda hnb hdb (by omega) (by omega) ).mono (ret_imp fun h r x => is_qq x (by have := lq_min a b; have := lq_max a b; omega) (by have := lq_min a b; have := lq_max a b; omega))

theorem o_sref_point {w0 : World} {h0 : Mem} (hs : MLe h0 (mem w0)) {k : Nat} {va : Value} {a : Rat} (ra : (rpQ k).Is h0 va a) (hcd0 : k ≤ 4000000000)  :
    Calls Tryz.prog 35 #[va] w0 (Ret w0 h0 (fun h r => (rpP (rpQ k) (rpQ k)).Is h r (a, a))) := by
  obtain ⟨vna, vda, rfl, hna, hda, hla⟩ := open_q ra
  exact (sref_point hs hna hda (by omega) ).mono (ret_imp fun h r x => is_qq x (by omega) (by omega))

theorem o_sref_hull {w0 : World} {h0 : Mem} (hs : MLe h0 (mem w0)) {k : Nat} {va : Value} {a : (Rat × Rat)} (ra : (rpP (rpQ k) (rpQ k)).Is h0 va a) {vb : Value} {b : (Rat × Rat)} (rb : (rpP (rpQ k) (rpQ k)).Is h0 vb b) (hcd0 : k ≤ 4000000000)  :
    Calls Tryz.prog 22 #[va, vb] w0 (Ret w0 h0 (fun h r => (rpP (rpQ k) (rpQ k)).Is h r (hullS a b))) := by
  obtain ⟨vna0, vda0, vna1, vda1, rfl, hna0, hda0, hna1, hda1, hla0, hla1⟩ := open_qq ra
  obtain ⟨vnb0, vdb0, vnb1, vdb1, rfl, hnb0, hdb0, hnb1, hdb1, hlb0, hlb1⟩ := open_qq rb
  exact (sref_hull hs hna0 hda0 hna1 hda1 hnb0 hdb0 hnb1 hdb1 (by omega) (by omega) (by omega) (by omega) ).mono (ret_imp fun h r x => is_qq x (by have := lq_min a.1 b.1; have := lq_max a.2 b.2; omega) (by have := lq_min a.1 b.1; have := lq_max a.2 b.2; omega))

theorem o_sref_same {w0 : World} {h0 : Mem} (hs : MLe h0 (mem w0)) {k l : Nat} {va : Value} {a : (Rat × Rat)} (ra : (rpP (rpQ k) (rpQ k)).Is h0 va a) {vb : Value} {b : (Rat × Rat)} (rb : (rpP (rpQ l) (rpQ l)).Is h0 vb b) (hcd0 : k + l ≤ 4000000000)  :
    Calls Tryz.prog 20 #[va, vb] w0 (Ret w0 h0 (fun _ r => r = vB (a.1 = b.1 ∧ a.2 = b.2))) := by
  obtain ⟨vna0, vda0, vna1, vda1, rfl, hna0, hda0, hna1, hda1, hla0, hla1⟩ := open_qq ra
  obtain ⟨vnb0, vdb0, vnb1, vdb1, rfl, hnb0, hdb0, hnb1, hdb1, hlb0, hlb1⟩ := open_qq rb
  exact sref_same hs hna0 hda0 hna1 hda1 hnb0 hdb0 hnb1 hdb1 (by omega) (by omega) (by omega) (by omega) 

theorem o_sref_has {w0 : World} {h0 : Mem} (hs : MLe h0 (mem w0)) {k l : Nat} {va : Value} {a : (Rat × Rat)} (ra : (rpP (rpQ k) (rpQ k)).Is h0 va a) {vq : Value} {q : Rat} (rq : (rpQ l).Is h0 vq q) (hcd0 : k + l ≤ 4000000000)  :
    Calls Tryz.prog 24 #[va, vq] w0 (Ret w0 h0 (fun _ r => r = vB (hasP a.1 a.2 q))) := by
  obtain ⟨vna0, vda0, vna1, vda1, rfl, hna0, hda0, hna1, hda1, hla0, hla1⟩ := open_qq ra
  obtain ⟨vnq, vdq, rfl, hnq, hdq, hlq⟩ := open_q rq
  exact sref_has hs hna0 hda0 hna1 hda1 hnq hdq (by omega) (by omega) (by omega) 

theorem o_sref_inside {w0 : World} {h0 : Mem} (hs : MLe h0 (mem w0)) {k l : Nat} {va : Value} {a : (Rat × Rat)} (ra : (rpP (rpQ k) (rpQ k)).Is h0 va a) {vb : Value} {b : (Rat × Rat)} (rb : (rpP (rpQ l) (rpQ l)).Is h0 vb b) (hcd0 : k + l ≤ 4000000000)  :
    Calls Tryz.prog 26 #[va, vb] w0 (Ret w0 h0 (fun _ r => r = vB (hasP b.1 b.2 a.1 ∧ hasP b.1 b.2 a.2))) := by
  obtain ⟨vna0, vda0, vna1, vda1, rfl, hna0, hda0, hna1, hda1, hla0, hla1⟩ := open_qq ra
  obtain ⟨vnb0, vdb0, vnb1, vdb1, rfl, hnb0, hdb0, hnb1, hdb1, hlb0, hlb1⟩ := open_qq rb
  exact sref_inside hs hna0 hda0 hna1 hda1 hnb0 hdb0 hnb1 hdb1 (by omega) (by omega) (by omega) (by omega) 

theorem o_sref_width {w0 : World} {h0 : Mem} (hs : MLe h0 (mem w0)) {k : Nat} {va : Value} {a : (Rat × Rat)} (ra : (rpP (rpQ k) (rpQ k)).Is h0 va a) (hcd0 : k ≤ 4000000000)  :
    Calls Tryz.prog 29 #[va] w0 (Ret w0 h0 (fun h r => (rpQ (k + k + 1)).Is h r (a.2 - a.1))) := by
  obtain ⟨vna0, vda0, vna1, vda1, rfl, hna0, hda0, hna1, hda1, hla0, hla1⟩ := open_qq ra
  exact (sref_width hs hna0 hda0 hna1 hda1 (by omega) (by omega) ).mono (ret_imp fun h r x => is_q x (by have := lq_sub a.2 a.1; omega))

theorem o_sref_mid {w0 : World} {h0 : Mem} (hs : MLe h0 (mem w0)) {k : Nat} {va : Value} {a : (Rat × Rat)} (ra : (rpP (rpQ k) (rpQ k)).Is h0 va a) (hcd0 : k ≤ 4000000000)  :
    Calls Tryz.prog 31 #[va] w0 (Ret w0 h0 (fun h r => (rpQ (k + k + 2)).Is h r (midQ a.1 a.2))) := by
  obtain ⟨vna0, vda0, vna1, vda1, rfl, hna0, hda0, hna1, hda1, hla0, hla1⟩ := open_qq ra
  exact (sref_mid hs hna0 hda0 hna1 hda1 (by omega) (by omega) ).mono (ret_imp fun h r x => is_q x (by have := lq_mid a.1 a.2; omega))

theorem o_sref_add {w0 : World} {h0 : Mem} (hs : MLe h0 (mem w0)) {k l : Nat} {va : Value} {a : (Rat × Rat)} (ra : (rpP (rpQ k) (rpQ k)).Is h0 va a) {vb : Value} {b : (Rat × Rat)} (rb : (rpP (rpQ l) (rpQ l)).Is h0 vb b) (hcd0 : k + l ≤ 4000000000)  :
    Calls Tryz.prog 39 #[va, vb] w0 (Ret w0 h0 (fun h r => (rpP (rpQ (k + l + 1)) (rpQ (k + l + 1))).Is h r (addS a b))) := by
  obtain ⟨vna0, vda0, vna1, vda1, rfl, hna0, hda0, hna1, hda1, hla0, hla1⟩ := open_qq ra
  obtain ⟨vnb0, vdb0, vnb1, vdb1, rfl, hnb0, hdb0, hnb1, hdb1, hlb0, hlb1⟩ := open_qq rb
  exact (sref_add hs hna0 hda0 hna1 hda1 hnb0 hdb0 hnb1 hdb1 (by omega) (by omega) (by omega) (by omega) ).mono (ret_imp fun h r x => is_qq x (by have := lq_add a.1 b.1; have := lq_add a.2 b.2; omega) (by have := lq_add a.1 b.1; have := lq_add a.2 b.2; omega))

theorem o_sref_neg {w0 : World} {h0 : Mem} (hs : MLe h0 (mem w0)) {k : Nat} {va : Value} {a : (Rat × Rat)} (ra : (rpP (rpQ k) (rpQ k)).Is h0 va a) (hcd0 : k ≤ 4000000000)  :
    Calls Tryz.prog 43 #[va] w0 (Ret w0 h0 (fun h r => (rpP (rpQ k) (rpQ k)).Is h r (negS a))) := by
  obtain ⟨vna0, vda0, vna1, vda1, rfl, hna0, hda0, hna1, hda1, hla0, hla1⟩ := open_qq ra
  exact (sref_neg hs hna0 hda0 hna1 hda1 (by omega) (by omega) ).mono (ret_imp fun h r x => is_qq x (by have := lq_neg a.1; have := lq_neg a.2; omega) (by have := lq_neg a.1; have := lq_neg a.2; omega))

theorem o_sref_sub {w0 : World} {h0 : Mem} (hs : MLe h0 (mem w0)) {k l : Nat} {va : Value} {a : (Rat × Rat)} (ra : (rpP (rpQ k) (rpQ k)).Is h0 va a) {vb : Value} {b : (Rat × Rat)} (rb : (rpP (rpQ l) (rpQ l)).Is h0 vb b) (hcd0 : k + l ≤ 4000000000)  :
    Calls Tryz.prog 41 #[va, vb] w0 (Ret w0 h0 (fun h r => (rpP (rpQ (k + l + 1)) (rpQ (k + l + 1))).Is h r (subS a b))) := by
  obtain ⟨vna0, vda0, vna1, vda1, rfl, hna0, hda0, hna1, hda1, hla0, hla1⟩ := open_qq ra
  obtain ⟨vnb0, vdb0, vnb1, vdb1, rfl, hnb0, hdb0, hnb1, hdb1, hlb0, hlb1⟩ := open_qq rb
  exact (sref_sub hs hna0 hda0 hna1 hda1 hnb0 hdb0 hnb1 hdb1 (by omega) (by omega) (by omega) (by omega) ).mono (ret_imp fun h r x => is_qq x (by have := lq_sub a.1 b.2; have := lq_sub a.2 b.1; omega) (by have := lq_sub a.1 b.2; have := lq_sub a.2 b.1; omega))

theorem o_sref_mul {w0 : World} {h0 : Mem} (hs : MLe h0 (mem w0)) {k l : Nat} {va : Value} {a : (Rat × Rat)} (ra : (rpP (rpQ k) (rpQ k)).Is h0 va a) {vb : Value} {b : (Rat × Rat)} (rb : (rpP (rpQ l) (rpQ l)).Is h0 vb b) (hcd0 : k + l ≤ 4000000000)  :
    Calls Tryz.prog 45 #[va, vb] w0 (Ret w0 h0 (fun h r => (rpP (rpQ (k + l)) (rpQ (k + l))).Is h r (mulS a b))) := by
  obtain ⟨vna0, vda0, vna1, vda1, rfl, hna0, hda0, hna1, hda1, hla0, hla1⟩ := open_qq ra
  obtain ⟨vnb0, vdb0, vnb1, vdb1, rfl, hnb0, hdb0, hnb1, hdb1, hlb0, hlb1⟩ := open_qq rb
  exact (sref_mul hs hna0 hda0 hna1 hda1 hnb0 hdb0 hnb1 hdb1 (by omega) (by omega) (by omega) (by omega) ).mono (ret_imp fun h r x => is_qq x (by have := lq_mulLo a.1 a.2 b.1 b.2; have := lq_mulHi a.1 a.2 b.1 b.2; omega) (by have := lq_mulLo a.1 a.2 b.1 b.2; have := lq_mulHi a.1 a.2 b.1 b.2; omega))

theorem o_sref_sqr {w0 : World} {h0 : Mem} (hs : MLe h0 (mem w0)) {k : Nat} {va : Value} {a : (Rat × Rat)} (ra : (rpP (rpQ k) (rpQ k)).Is h0 va a) (hcd0 : k ≤ 4000000000)  :
    Calls Tryz.prog 47 #[va] w0 (Ret w0 h0 (fun h r => (rpP (rpQ (k + k)) (rpQ (k + k))).Is h r (sqrS a))) := by
  obtain ⟨vna0, vda0, vna1, vda1, rfl, hna0, hda0, hna1, hda1, hla0, hla1⟩ := open_qq ra
  exact (sref_sqr hs hna0 hda0 hna1 hda1 (by omega) (by omega) ).mono (ret_imp fun h r x => is_qq x (by have := lq_sqrLo a.1 a.2; have := lq_sqrHi a.1 a.2; omega) (by have := lq_sqrLo a.1 a.2; have := lq_sqrHi a.1 a.2; omega))

theorem o_sref_quo {w0 : World} {h0 : Mem} (hs : MLe h0 (mem w0)) {k l : Nat} {va : Value} {a : (Rat × Rat)} (ra : (rpP (rpQ k) (rpQ k)).Is h0 va a) {vb : Value} {b : (Rat × Rat)} (rb : (rpP (rpQ l) (rpQ l)).Is h0 vb b) (hcd0 : k + l ≤ 900000000)  :
    Calls Tryz.prog 37 #[va, vb] w0 (Ret w0 h0 (fun h r => ∃ u0, r = .tuple #[u0, vI (quoE b.1 b.2)] ∧ (rpP (rpQ (k + l + 2)) (rpQ (k + l + 2))).Is h u0 (quoS a b))) := by
  obtain ⟨vna0, vda0, vna1, vda1, rfl, hna0, hda0, hna1, hda1, hla0, hla1⟩ := open_qq ra
  obtain ⟨vnb0, vdb0, vnb1, vdb1, rfl, hnb0, hdb0, hnb1, hdb1, hlb0, hlb1⟩ := open_qq rb
  exact (sref_quo hs hna0 hda0 hna1 hda1 hnb0 hdb0 hnb1 hdb1 (by omega) (by omega) (by omega) (by omega) ).mono (ret_imp fun h r x => by obtain ⟨u, e, x⟩ := x; exact ⟨u, e, is_qq x (by have := lq_quoLo a.1 a.2 b.1 b.2; have := lq_quoHi a.1 a.2 b.1 b.2; omega) (by have := lq_quoLo a.1 a.2 b.1 b.2; have := lq_quoHi a.1 a.2 b.1 b.2; omega)⟩)

theorem o_sref_meet {w0 : World} {h0 : Mem} (hs : MLe h0 (mem w0)) {k : Nat} {va : Value} {a : (Rat × Rat)} (ra : (rpP (rpQ k) (rpQ k)).Is h0 va a) {vb : Value} {b : (Rat × Rat)} (rb : (rpP (rpQ k) (rpQ k)).Is h0 vb b) (hcd0 : k ≤ 4000000000)  :
    Calls Tryz.prog 12 #[va, vb] w0 (Ret w0 h0 (fun h r => ∃ u0, r = .tuple #[u0, vB (¬ minQ a.2 b.2 < maxQ a.1 b.1)] ∧ (rpP (rpQ k) (rpQ k)).Is h u0 (meetS a b))) := by
  obtain ⟨vna0, vda0, vna1, vda1, rfl, hna0, hda0, hna1, hda1, hla0, hla1⟩ := open_qq ra
  obtain ⟨vnb0, vdb0, vnb1, vdb1, rfl, hnb0, hdb0, hnb1, hdb1, hlb0, hlb1⟩ := open_qq rb
  exact (sref_meet hs hna0 hda0 hna1 hda1 hnb0 hdb0 hnb1 hdb1 (by omega) (by omega) (by omega) (by omega) ).mono (ret_imp fun h r x => by obtain ⟨u, e, x⟩ := x; exact ⟨u, e, is_qq x (by have := lq_meet a b; have := lq_pos a.1; omega) (by have := lq_meet a b; have := lq_pos a.1; omega)⟩)

theorem o_span_sign {w0 : World} {h0 : Mem} (hs : MLe h0 (mem w0)) {k : Nat} {va : Value} {a : (Rat × Rat)} (ra : (rpP (rpQ k) (rpQ k)).Is h0 va a) (hcd0 : k ≤ 4000000000)  :
    Calls Tryz.prog 13 #[va] w0 (Ret w0 h0 (fun h r => r = .tuple #[vI (if sgnQ a.1 = sgnQ a.2 then sgnQ a.1 else 0), vB (sgnQ a.1 = sgnQ a.2)])) := by
  obtain ⟨vna0, vda0, vna1, vda1, rfl, hna0, hda0, hna1, hda1, hla0, hla1⟩ := open_qq ra
  exact span_sign hs hna0 hda0 hna1 hda1 (by omega) (by omega) 

theorem o_sref_sign {w0 : World} {h0 : Mem} (hs : MLe h0 (mem w0)) {k : Nat} {va : Value} {a : (Rat × Rat)} (ra : (rpP (rpQ k) (rpQ k)).Is h0 va a) (hcd0 : k ≤ 4000000000)  :
    Calls Tryz.prog 14 #[va] w0 (Ret w0 h0 (fun h r => r = .tuple #[vI (if 0 < sgnQ a.1 then 1 else if sgnQ a.2 < 0 then -1 else 0), vB (0 < sgnQ a.1 ∨ sgnQ a.2 < 0 ∨ (sgnQ a.1 = 0 ∧ sgnQ a.2 = 0))])) := by
  obtain ⟨vna0, vda0, vna1, vda1, rfl, hna0, hda0, hna1, hda1, hla0, hla1⟩ := open_qq ra
  exact sref_sign hs hna0 hda0 hna1 hda1 (by omega) (by omega) 

end Go.Proofs.YtkdmphehabpcfaaGreat

namespace Go.Proofs.YtkdmphehabpcfaaGreat
open Bk Go
set_option linter.unusedVariables false
set_option linter.unusedSimpArgs false
set_option maxRecDepth 10000

theorem made_mod {w0 : World} {h0 : Mem}  (hs : MLe h0 (mem w0)) {n m : Int} (hm : 0 < m) (hm2 : m < 4611686018427387904) :
    Calls Tryz.prog 61 #[vI n, vI m] w0 (Ret w0 h0 (fun _ r => r = vI (modZ n m))) := by
 have htr := tmod_range n hm
 refine calls_begin (n := 14) (e := [(0, vI n), (1, vI m)]) (vs := [vI n, vI m]) Tryz.func61 rfl rfl (Nat.le_of_ble_eq_true rfl) hs ⟨rfl, rfl, trivial⟩ (gc_seq (gc_region (asg (v := vI (0)) rfl rfl (gl_nil (gq_then (gc_seq (gc_region (mv rfl rfl (mv rfl rfl (gv (ov_remt_i rfl rfl (by omega)) rfl (asg rfl rfl (gl_nil (gq_then ?_)))))))))))))
 refine gc_seq (gc_seq (gc_region (mv rfl rfl (gv (ov_lss_i (q := 0) rfl rfl) rfl (gl_nil (gq_then ?_))))))
 refine gc_cond rfl (fun hc9 => ?_) (fun hc9 => ?_)
 ·
  refine gc_region (mv rfl rfl (mv rfl rfl (gv (ov_add_i rfl rfl (by omega) (by omega)) rfl (asg rfl rfl (gl_nil (gq_keep (e' := [(0, _)]) ⟨rfl, trivial⟩ (gq_then (gc_seq (gc_region (mv rfl rfl (asg rfl rfl (gl_nil (gq_then ?_)))))))))))))
  refine gc_ret (gq_body1 rfl rfl ?_)
  rw [modZ, if_pos hc9]
 ·
  refine gc_skip (gq_then (gc_seq (gc_region (mv rfl rfl (asg rfl rfl (gl_nil (gq_then (gc_ret (gq_body1 rfl rfl ?_)))))))))
  rw [modZ, if_neg hc9]

theorem made_light {w0 : World} {h0 : Mem}  (hs : MLe h0 (mem w0)) {vl : Value} {xs : List Int} (hl : Is h0 vl xs) :
    Calls Tryz.prog 6 #[vl] w0 (Ret w0 h0 (fun _ r => r = vB ((↑xs.length : Int) ≤ 500))) := by
 refine calls_begin (n := 6) (e := [(0, vl)]) (vs := [vl]) Tryz.func6 rfl rfl (Nat.le_of_ble_eq_true rfl) hs ⟨rfl, trivial⟩ (gc_seq (gc_region (asg rfl rfl (gl_nil (gq_then (gc_seq (gc_region (mv rfl rfl (gv (ov_len_is Tryz.underlying22 rfl hl) rfl (gv (ov_leq_i (q := 500) rfl rfl) rfl (asg rfl rfl (gl_nil (gq_then ?_)))))))))))))
 refine gc_ret (gq_body1 rfl rfl ?_)
 rfl

theorem made_roll {w0 : World} {h0 : Mem}  (hs : MLe h0 (mem w0)) {vl : Value} {xs : List Int} (hl : Is h0 vl xs) :
    Calls Tryz.prog 8 #[vl] w0 (RetOwn w0 h0 (fun _ r L => ∃ b, r = vP b 0 ∧ L = [.var b 61 [vl, vI ↑0]])) := by
 refine calls_begin (n := 6) (e := [(0, vl)]) (vs := [vl]) Tryz.func8 rfl rfl (Nat.le_of_ble_eq_true rfl) hs ⟨rfl, trivial⟩ (gc_seq (gc_region (asg rfl rfl (gl_nil (gq_then (gc_seq (gc_region (mv rfl rfl (gv (ov_build_parts (ps' := [(0, _)]) (vs := [vl, vI 0]) Tryz.underlying61 info61 rfl (places61 Tryz.underlying61) ⟨rfl, rfl, trivial⟩ (fill_one (A := []) (B := [_]) (C := [_]) (cs := [_]) (off := 0) (size := 1) rfl rfl rfl rfl hl.cells fill_nil)) rfl (gl_newop (new_box (cs := [_, _]) rfl rfl) rfl rfl rfl ?_))))))))))
 intro v5 r5 hr5
 obtain ⟨b5, rfl, rfl⟩ := hr5
 refine asg rfl rfl (gl_nil (gq_then (gc_ret (gq_body1_own rfl rfl ?_))))
 exact ⟨_, rfl, rfl⟩

theorem dice_next {w0 w : World} {h0 h : Mem} {b k : Nat} {vl : Value} {xs : List Int} (hl : Is h vl xs) (hk : k ≤ xs.length) {n : Int} (hn : 0 < n) (hn2 : n < 4611686018427387904) {L : List Res} (hs : St w0 h0 (.var b 61 [vl, vI ↑k] :: L) h w) :
    Calls Tryz.prog 97 #[vP b 0, vI n] w (RetMut w0 h0 h L (fun g r q' => ∃ k' : Nat, ∃ z, q' = .var b 61 [vl, vI ↑k'] ∧ k' ≤ xs.length ∧ (r = vI z ∧ 0 ≤ z ∧ z < n))) := by
 have hlen := hl.lt63
 refine calls_begin_st (n := 35) (e := [(0, vP b 0), (1, vI n)]) (vs := [vP b 0, vI n]) Tryz.func97 rfl rfl (Nat.le_of_ble_eq_true rfl) hs ⟨rfl, rfl, trivial⟩ (gc_seq (gc_region (asg (v := vI (0)) rfl rfl (gl_nil (gq_then (gc_seq (gc_seq ?_)))))))
 refine gc_draw 10 _ [] [(0, .q), (1, .q), (2, .q), (3, .q), (4, .q), (5, .q), (6, .q), (7, .q), (8, .q), (9, .q)] mixed (fun x hx => by cases hx) (by kernel_rfl) (fun x hx => by cases hx) (fun r hr => hr) (w_q rfl (fun h' L' hh hR => ov_move rfl) rfl (w_q rfl (fun h' L' hh hR => ov_nilcheck rfl) rfl (w_q rfl (fun h' L' hh hR => ov_field_addr Tryz.underlying61 rfl Tryz.sizeOf3 rfl) rfl (w_q rfl (fun h' L' hh hR => ov_load_var (hR _ (.head _)) Tryz.isAgg3 rfl rfl) rfl (w_q rfl (fun h' L' hh hR => ov_move rfl) rfl (w_q rfl (fun h' L' hh hR => ov_nilcheck rfl) rfl (w_q rfl (fun h' L' hh hR => ov_field_addr Tryz.underlying61 rfl Tryz.sizeOf22 rfl) rfl (w_q rfl (fun h' L' hh hR => ov_load_var (hR _ (.head _)) Tryz.isAgg22 rfl rfl) rfl (w_q rfl (fun h' L' hh hR => ov_len_is Tryz.underlying22 rfl (hl.mono hh)) rfl (w_q rfl (fun h' L' hh hR => ov_geq_i rfl rfl) rfl (w_nil (gq_keep (e' := [(0, _), (1, _), (14, _)]) ⟨rfl, rfl, rfl, trivial⟩ (gq_then ?_)))))))))))))
 refine gc_cond rfl (fun hc14 => ?_) (fun hc14 => ?_)
 ·
  refine gc_seq (gc_region (asg (v := vI (0)) rfl rfl (gl_nil (gq_then (gc_ret (gr_then (gq_body1_own rfl rfl ?_)))))))
  exact ⟨_, (List.Sublist.refl _), (MLe.refl _), k, 0, rfl, hk, rfl, by omega, hn⟩
 ·
  refine gc_skip (gq_then (gc_seq (gc_region (mv rfl rfl (gv (ov_nilcheck rfl) rfl (gv (ov_field_addr Tryz.underlying61 rfl Tryz.sizeOf3 rfl) rfl (gv (ov_load_var (.head _) Tryz.isAgg3 rfl rfl) rfl (gv (ov_add_i (q := 1) rfl rfl (by omega) (by omega)) rfl (gv (ov_nilcheck rfl) rfl (gv (ov_field_addr Tryz.underlying61 rfl Tryz.sizeOf3 rfl) rfl (gl_upd (A := []) (r' := .var b 61 [vl, vI ((↑k : Int) + (1 : Int))]) (upd_store_var (k := 1) (cs := [_, _]) (vs := [_]) rfl rfl rfl rfl size3 (Nat.le_of_ble_eq_true rfl)) rfl rfl rfl (gl_nil (gq_then ?_)))))))))))))
  refine gc_seq ?_
  refine gc_draw 14 _ [] [(0, .q), (1, .q), (2, .q), (3, .q), (4, .q), (5, .q), (6, .q), (7, .q), (8, .q), (9, .q), (10, .q), (11, .q), (12, .c), (13, .q)] mixed (fun x hx => by cases hx) (by kernel_rfl) (fun x hx => by cases hx) (fun r hr => hr) (w_q rfl (fun h' L' hh hR => ov_move rfl) rfl (w_q rfl (fun h' L' hh hR => ov_nilcheck rfl) rfl (w_q rfl (fun h' L' hh hR => ov_field_addr Tryz.underlying61 rfl Tryz.sizeOf22 rfl) rfl (w_q rfl (fun h' L' hh hR => ov_load_var (hR _ (.head _)) Tryz.isAgg22 rfl rfl) rfl (w_q rfl (fun h' L' hh hR => ov_move rfl) rfl (w_q rfl (fun h' L' hh hR => ov_nilcheck rfl) rfl (w_q rfl (fun h' L' hh hR => ov_field_addr Tryz.underlying61 rfl Tryz.sizeOf3 rfl) rfl (w_q rfl (fun h' L' hh hR => ov_load_var (hR _ (.head _)) Tryz.isAgg3 rfl rfl) rfl (w_q rfl (fun h' L' hh hR => ov_sub_i (q := 1) rfl rfl (by omega) (by omega)) rfl (w_q rfl (fun h' L' hh hR => ov_index_is (k) Tryz.underlying22 Tryz.sizeOf3 rfl rfl (hl.mono hh) (by omega) (by omega)) rfl (w_q rfl (fun h' L' hh hR => ov_load_is Tryz.isAgg3 rfl (hl.mono hh) (by omega)) rfl (w_q rfl (fun h' L' hh hR => ov_move rfl) rfl ?_))))))))))))
  refine w_c rfl ?_
  refine s_call (vs := [_, _]) Tryz.call61 ⟨rfl, rfl, trivial⟩ (fun w hs => made_mod hs (by omega) (by omega)) rfl ?_
  intro v34 h1 hh1 hr34
  have hmz34 := modZ_range ((xs).getD (k) 0) (q := n) (by omega)
  subst hr34
  refine w_q rfl (fun h' L' hh hR => ov_assign rfl) rfl (w_nil (gq_keep (e' := [(4, _)]) ⟨rfl, trivial⟩ (gq_then (gc_ret (gq_body1_own rfl rfl ?_)))))
  exact ⟨_, (List.Sublist.refl _), hh1, k + 1, _, rfl, by omega, rfl, hmz34.1, hmz34.2⟩

theorem dice_number {w0 w : World} {h0 h : Mem} {b k : Nat} {vl : Value} {xs : List Int} (hl : Is h vl xs) (hk : k ≤ xs.length)  {L : List Res} (hs : St w0 h0 (.var b 61 [vl, vI ↑k] :: L) h w) :
    Calls Tryz.prog 57 #[vP b 0] w (RetMut w0 h0 h L (fun g r q' => ∃ k' : Nat, ∃ q, q' = .var b 61 [vl, vI ↑k'] ∧ k' ≤ xs.length ∧ (lq q ≤ 2 ∧ IsRat g r q))) := by
 refine calls_begin_st (n := 18) (e := [(0, vP b 0)]) (vs := [vP b 0]) Tryz.func57 rfl rfl (Nat.le_of_ble_eq_true rfl) hs ⟨rfl, trivial⟩ (gc_seq (gc_region (gl_newop (new_alloc (cs := [vB ((0 : Rat).num < 0), .slice none 0 0, .slice none 0 0]) info29 rfl (by simp only [zb]; rfl)) rfl rfl rfl ?_)))
 intro v2 r2 hr2
 obtain ⟨b2, rfl, rfl⟩ := hr2
 refine gl_nil (gq_then (gc_seq (gc_region (mv rfl rfl ?_))))
 refine gl_call_mut2 (A := [_]) (vs := [_, vI (13)]) Tryz.call97 ⟨rfl, rfl, trivial⟩ (fun X w hs => dice_next hl (by first | omega | exact Nat.zero_le _) (by omega) (by omega) hs) rfl ?_
 intro v5 g5 q5 hg5 hr5
 obtain ⟨k5, z5, rfl, hk5, rfl, hz5, hy5⟩ := hr5
 refine asg rfl rfl (gl_nil (gq_then (gc_seq (gc_seq (gc_region (mv rfl rfl ?_))))))
 replace hl := hl.mono hg5
 refine gl_call_mut2 (A := [_]) (vs := [_, vI (4)]) Tryz.call97 ⟨rfl, rfl, trivial⟩ (fun X w hs => dice_next hl (by first | omega | exact Nat.zero_le _) (by omega) (by omega) hs) rfl ?_
 intro v7 g7 q7 hg7 hr7
 obtain ⟨k7, z7, rfl, hk7, rfl, hz7, hy7⟩ := hr7
 refine gv (ov_eql_i (q := 3) rfl rfl) rfl (gl_nil (gq_then ?_))
 refine gc_cond rfl (fun hc8 => ?_) (fun hc8 => ?_)
 ·
  refine gc_seq (gc_region (mv rfl rfl (gv (ov_sub_i (q := 6) rfl rfl (by omega) (by omega)) rfl (mv rfl rfl ?_))))
  replace hl := hl.mono hg7
  refine gl_call_mut2 (A := [_]) (vs := [_, vI (4)]) Tryz.call97 ⟨rfl, rfl, trivial⟩ (fun X w hs => dice_next hl (by first | omega | exact Nat.zero_le _) (by omega) (by omega) hs) rfl ?_
  intro v12 g12 q12 hg12 hr12
  obtain ⟨k12, z12, rfl, hk12, rfl, hz12, hy12⟩ := hr12
  refine gv (ov_add_i (p := 1) rfl rfl (by omega) (by omega)) rfl ?_
  refine gl_call (vs := [_, _]) rfl rfl rfl rfl Tryz.call60 ⟨rfl, rfl, trivial⟩ (fun w hs => rref_frac hs (by omega) (by omega) (by omega) (by omega)) ?_
  intro v14 h1 hh1 hr14
  have hlq14 := lq_make (n := (z5 - (6 : Int))) (d := ((1 : Int) + z12)) (by omega) (by omega) (by omega) (by omega)
  obtain ⟨vn14, vd14, rfl, hn14, hd14⟩ := hr14
  refine gl_upd (A := []) (r' := .var b2 29 [vB ((makeQ (z5 - (6 : Int)) ((1 : Int) + z12)).num < 0), vn14, vd14]) (upd_store_var (k := 0) (cs := [_, _, _]) (vs := [_, _, _]) rfl rfl rfl (ocr rfl (ocu hn14 (ocu hd14 oc0))) size29 (Nat.le_of_ble_eq_true rfl)) rfl rfl rfl (gl_nil (gq_keep (e' := [(2, _)]) ⟨rfl, trivial⟩ (gq_then (gc_ret (gr_then (gq_res_own (fun E S => run_res1 rfl (rv_agg (cs := [_, _, _]) (.head _) Tryz.underlying29 rfl size29 rfl) E S) ?_))))))
  exact ⟨_, (.cons _ (List.Sublist.refl _)), (((hg5.trans hg7).trans hg12).trans hh1), _, _, rfl, hk12, by omega, _, _, rfl, hn14, hd14⟩
 ·
  refine gc_skip (gq_then (gc_seq (gc_region (mv rfl rfl (gv (ov_sub_i (q := 6) rfl rfl (by omega) (by omega)) rfl ?_)))))
  refine gl_call (vs := [_]) rfl rfl rfl rfl Tryz.call18 ⟨rfl, trivial⟩ (fun w hs => rref_int hs (by omega) (by omega)) ?_
  intro v17 h1 hh1 hr17
  obtain ⟨vn17, vd17, rfl, hn17, hd17⟩ := hr17
  have hlq17 := lq_int (z5 - (6 : Int)) (by omega) (by omega)
  refine gl_upd (A := []) (r' := .var b2 29 [vB (((((z5 - (6 : Int)) : Int) : Rat)).num < 0), vn17, vd17]) (upd_store_var (k := 0) (cs := [_, _, _]) (vs := [_, _, _]) rfl rfl rfl (ocr rfl (ocu hn17 (ocu hd17 oc0))) size29 (Nat.le_of_ble_eq_true rfl)) rfl rfl rfl (gl_nil (gq_keep (e' := [(2, _)]) ⟨rfl, trivial⟩ (gq_then (gc_ret (gq_res_own (fun E S => run_res1 rfl (rv_agg (cs := [_, _, _]) (.head _) Tryz.underlying29 rfl size29 rfl) E S) ?_)))))
  exact ⟨_, (.cons _ (List.Sublist.refl _)), ((hg5.trans hg7).trans hh1), _, _, rfl, hk7, by omega, _, _, rfl, hn17, hd17⟩

theorem dice_span {w0 w : World} {h0 h : Mem} {b k : Nat} {vl : Value} {xs : List Int} (hl : Is h vl xs) (hk : k ≤ xs.length)  {L : List Res} (hs : St w0 h0 (.var b 61 [vl, vI ↑k] :: L) h w) :
    Calls Tryz.prog 9 #[vP b 0] w (RetMut w0 h0 h L (fun g r q' => ∃ k' : Nat, ∃ p q, q' = .var b 61 [vl, vI ↑k'] ∧ k' ≤ xs.length ∧ (p ≤ q ∧ lq p ≤ 2 ∧ lq q ≤ 2 ∧ IsRats g r [p, q]))) := by
 refine calls_begin_st (n := 16) (e := [(0, vP b 0)]) (vs := [vP b 0]) Tryz.func9 rfl rfl (Nat.le_of_ble_eq_true rfl) hs ⟨rfl, trivial⟩ (gc_seq (gc_region (gl_newop (new_alloc (cs := [vB ((0 : Rat).num < 0), .slice none 0 0, .slice none 0 0, vB ((0 : Rat).num < 0), .slice none 0 0, .slice none 0 0]) info31 rfl (by simp only [zb]; rfl)) rfl rfl rfl ?_)))
 intro v2 r2 hr2
 obtain ⟨b2, rfl, rfl⟩ := hr2
 refine gl_nil (gq_then (gc_seq (gc_region (mv rfl rfl ?_))))
 refine gl_call_mut2 (A := [_]) (vs := [_]) Tryz.call57 ⟨rfl, trivial⟩ (fun X w hs => dice_number hl (by omega) hs) rfl ?_
 intro v6 g6 q6 hg6 hr6
 obtain ⟨k6, p6, rfl, hk6, hlq6, vn6, vd6, rfl, hn6, hd6⟩ := hr6
 refine mv rfl rfl ?_
 replace hl := hl.mono hg6
 refine gl_call_mut2 (A := [_]) (vs := [_]) Tryz.call57 ⟨rfl, trivial⟩ (fun X w hs => dice_number hl (by omega) hs) rfl ?_
 intro v8 g8 q8 hg8 hr8
 obtain ⟨k8, p8, rfl, hk8, hlq8, vn8, vd8, rfl, hn8, hd8⟩ := hr8
 refine gl_newop (new_alloc (cs := [vB ((0 : Rat).num < 0), .slice none 0 0, .slice none 0 0]) info29 rfl (by simp only [zb]; rfl)) rfl rfl rfl ?_
 intro v3 r3 hr3
 obtain ⟨b3, rfl, rfl⟩ := hr3
 refine gl_newop (new_alloc (cs := [vB ((0 : Rat).num < 0), .slice none 0 0, .slice none 0 0]) info29 rfl (by simp only [zb]; rfl)) rfl rfl rfl ?_
 intro v4 r4 hr4
 obtain ⟨b4, rfl, rfl⟩ := hr4
 replace hn6 := hn6.mono hg8
 replace hd6 := hd6.mono hg8
 refine gl_upd (A := [_]) (r' := .var b3 29 [vB ((p6).num < 0), vn6, vd6]) (upd_store_var (k := 0) (cs := [_, _, _]) (vs := [_, _, _]) rfl rfl rfl (ocr rfl (ocu hn6 (ocu hd6 oc0))) size29 (Nat.le_of_ble_eq_true rfl)) rfl rfl rfl (gl_upd (A := []) (r' := .var b4 29 [vB ((p8).num < 0), vn8, vd8]) (upd_store_var (k := 0) (cs := [_, _, _]) (vs := [_, _, _]) rfl rfl rfl (ocr rfl (ocu hn8 (ocu hd8 oc0))) size29 (Nat.le_of_ble_eq_true rfl)) rfl rfl rfl (gl_nil (gq_then (gc_seq ?_))))
 refine gc_draw 7 _ [] [(0, .q), (1, .q), (3, .q), (4, .q), (2, .c), (5, .c), (6, .q), (7, .t)] mixed (fun x hx => by cases hx) (by kernel_rfl) (fun x hx => by cases hx) (fun r hr => hr) (w_q rfl (fun h' L' hh hR => ov_load_agg (vs := [_, _, _]) (hR _ (.tail _ (.head _))) Tryz.underlying29 rfl size29 rfl rfl) rfl (w_q rfl (fun h' L' hh hR => ov_load_agg (vs := [_, _, _]) (hR _ (.head _)) Tryz.underlying29 rfl size29 rfl rfl) rfl (w_q rfl (fun h' L' hh hR => ov_load_agg (vs := [_, _, _]) (hR _ (.tail _ (.head _))) Tryz.underlying29 rfl size29 rfl rfl) rfl (w_q rfl (fun h' L' hh hR => ov_load_agg (vs := [_, _, _]) (hR _ (.head _)) Tryz.underlying29 rfl size29 rfl rfl) rfl ?_))))
 refine w_c rfl ?_
 refine s_call (vs := [_, _]) Tryz.call58 ⟨rfl, rfl, trivial⟩ (fun w hs => rref_min hs hn6 hd6 hn8 hd8 (by omega) (by omega)) rfl ?_
 intro v11 h1 hh1 hr11
 obtain ⟨vn11, vd11, rfl, hn11, hd11⟩ := hr11
 have hlq11 := lq_min (p6) (p8)
 refine w_c rfl ?_
 replace hn6 := hn6.mono hh1
 replace hd6 := hd6.mono hh1
 replace hn8 := hn8.mono hh1
 replace hd8 := hd8.mono hh1
 refine s_call (vs := [_, _]) Tryz.call59 ⟨rfl, rfl, trivial⟩ (fun w hs => rref_max hs hn6 hd6 hn8 hd8 (by omega) (by omega)) rfl ?_
 intro v14 h2 hh2 hr14
 obtain ⟨vn14, vd14, rfl, hn14, hd14⟩ := hr14
 have hlq14 := lq_max (p6) (p8)
 refine w_q rfl (fun h' L' hh hR => ov_build_parts (ps' := [(0, _), (1, _)]) (vs := [vB ((minQ (p6) (p8)).num < 0), vn11, vd11, vB ((maxQ (p6) (p8)).num < 0), vn14, vd14]) Tryz.underlying31 info31 rfl (places31 Tryz.underlying31) ⟨rfl, rfl, rfl, rfl, trivial⟩ (fill_one (A := []) (B := [_, _, _]) (C := [_, _, _]) (cs := [_, _, _]) (off := 0) (size := 3) rfl rfl rfl rfl rfl (fill_one (A := [_, _, _]) (B := [_, _, _]) (C := []) (cs := [_, _, _]) (off := 3) (size := 3) rfl rfl rfl rfl rfl fill_nil))) rfl ?_
 replace hn11 := hn11.mono hh2
 replace hd11 := hd11.mono hh2
 refine w_t_upd (A := [_, _]) (q' := .var b2 31 [vB ((minQ (p6) (p8)).num < 0), vn11, vd11, vB ((maxQ (p6) (p8)).num < 0), vn14, vd14]) rfl (upd_store_var (k := 0) (cs := [_, _, _, _, _, _]) (vs := [_, _, _, _, _, _]) rfl rfl rfl (ocr rfl (ocu hn11 (ocu hd11 (ocr rfl (ocu hn14 (ocu hd14 oc0)))))) size31 (Nat.le_of_ble_eq_true rfl)) rfl (w_nil (gq_keep (e' := [(2, _)]) ⟨rfl, trivial⟩ (gq_then (gc_ret (gq_res_own (fun E S => run_res1 rfl (rv_agg (cs := [_, _, _, _, _, _]) (.tail _ (.tail _ (.head _))) Tryz.underlying31 rfl size31 rfl) E S) ?_)))))
 have hx := minQ_le p6 p8
 have hy := maxQ_ge p6 p8
 exact ⟨_, (.cons _ (.cons _ (.cons _ (List.Sublist.refl _)))), (((hg6.trans hg8).trans hh1).trans hh2), _, _, _, rfl, hk8, Rat.le_trans hx.1 hy.1, by omega, by omega, ⟨_, rfl, _, _, _, rfl, hn11, hd11, _, _, _, rfl, hn14, hd14, rfl⟩⟩

theorem made_part {w0 : World} {h0 : Mem}  (hs : MLe h0 (mem w0)) {n : Int} (hn1 : -9223372036854775808 ≤ n) (hn2 : n < 9223372036854775808) :
    Calls Tryz.prog 80 #[vI n] w0 (Ret w0 h0 (fun g r => lq (partQ n) ≤ 2 ∧ IsRat g r (partQ n))) := by
 refine calls_begin (n := 14) (e := [(0, vI n)]) (vs := [vI n]) Tryz.func80 rfl rfl (Nat.le_of_ble_eq_true rfl) hs ⟨rfl, trivial⟩ (gc_seq (gc_region (gl_newop (new_alloc (cs := [vB ((0 : Rat).num < 0), .slice none 0 0, .slice none 0 0]) info29 rfl (by simp only [zb]; rfl)) rfl rfl rfl ?_)))
 intro v2 r2 hr2
 obtain ⟨b2, rfl, rfl⟩ := hr2
 refine gl_nil (gq_then (gc_seq (gc_region (mv rfl rfl (gv (ov_quot_i (q := 17) rfl rfl (by omega) (by omega) (by omega)) rfl ?_)))))
 refine gl_call (vs := [_, vI (12)]) rfl rfl rfl rfl Tryz.call61 ⟨rfl, rfl, trivial⟩ (fun w hs => made_mod hs (by omega) (by omega)) ?_
 intro v6 h1 hh1 hr6
 have hmz6 := modZ_range (n.tdiv (17 : Int)) (q := (12 : Int)) (by omega)
 subst hr6
 refine gv (ov_add_i (p := 1) rfl rfl (by omega) (by omega)) rfl (asg rfl rfl (gl_nil (gq_then (gc_seq (gc_region (mv rfl rfl (mv rfl rfl (gv (ov_add_i (q := 1) rfl rfl (by omega) (by omega)) rfl ?_))))))))
 refine gl_call (vs := [_, _]) rfl rfl rfl rfl Tryz.call61 ⟨rfl, rfl, trivial⟩ (fun w hs => made_mod hs (by omega) (by omega)) ?_
 intro v11 h2 hh2 hr11
 have hmz11 := modZ_range n (q := (((1 : Int) + (modZ (n.tdiv (17 : Int)) (12 : Int))) + (1 : Int))) (by omega)
 subst hr11
 refine mv rfl rfl ?_
 refine gl_call (vs := [_, _]) rfl rfl rfl rfl Tryz.call60 ⟨rfl, rfl, trivial⟩ (fun w hs => rref_frac hs (by omega) (by omega) (by omega) (by omega)) ?_
 intro v13 h3 hh3 hr13
 have hlq13 := lq_make (n := (modZ n (((1 : Int) + (modZ (n.tdiv (17 : Int)) (12 : Int))) + (1 : Int)))) (d := ((1 : Int) + (modZ (n.tdiv (17 : Int)) (12 : Int)))) (by omega) (by omega) (by omega) (by omega)
 obtain ⟨vn13, vd13, rfl, hn13, hd13⟩ := hr13
 refine gl_upd (A := []) (r' := .var b2 29 [vB ((makeQ (modZ n (((1 : Int) + (modZ (n.tdiv (17 : Int)) (12 : Int))) + (1 : Int))) ((1 : Int) + (modZ (n.tdiv (17 : Int)) (12 : Int)))).num < 0), vn13, vd13]) (upd_store_var (k := 0) (cs := [_, _, _]) (vs := [_, _, _]) rfl rfl rfl (ocr rfl (ocu hn13 (ocu hd13 oc0))) size29 (Nat.le_of_ble_eq_true rfl)) rfl rfl rfl (gl_nil (gq_keep (e' := [(2, _)]) ⟨rfl, trivial⟩ (gq_then (gc_ret (gq_res (fun E S => run_res1 rfl (rv_agg (cs := [_, _, _]) (.head _) Tryz.underlying29 rfl size29 rfl) E S) ?_)))))
 exact ⟨hlq13, ⟨_, _, rfl, hn13, hd13⟩⟩

theorem made_within {w0 : World} {h0 : Mem}  (hs : MLe h0 (mem w0)) {qa0 : Rat} {vna0 vda0 : Value} (hna0 : Us .u32 h0 vna0 (limbs qa0.num.natAbs)) (hda0 : Us .u32 h0 vda0 (limbs (denN qa0.den))) {qa1 : Rat} {vna1 vda1 : Value} (hna1 : Us .u32 h0 vna1 (limbs qa1.num.natAbs)) (hda1 : Us .u32 h0 vda1 (limbs (denN qa1.den))) (hqa0 : lq qa0 ≤ 10000000000) (hqa1 : lq qa1 ≤ 10000000000) {n : Int} (hn1 : -9223372036854775808 ≤ n) (hn2 : n < 9223372036854775808)   :
    Calls Tryz.prog 48 #[.agg #[vB (qa0.num < 0), vna0, vda0, vB (qa1.num < 0), vna1, vda1], vI n] w0 (Ret w0 h0 (fun h r => IsRat h r (qa0 + partQ n * (qa1 - qa0)))) := by
 have hq00 := lq_zero
 refine calls_begin (n := 16) (e := [(0, .agg #[vB (qa0.num < 0), vna0, vda0, vB (qa1.num < 0), vna1, vda1]), (1, vI n)]) (vs := [.agg #[vB (qa0.num < 0), vna0, vda0, vB (qa1.num < 0), vna1, vda1], vI n]) Tryz.func48 rfl rfl (Nat.le_of_ble_eq_true rfl) hs ⟨rfl, rfl, trivial⟩ (gc_seq (gc_region (gl_newop (new_box (cs := [_, _, _, _, _, _]) rfl rfl) rfl rfl rfl ?_)))
 intro v2 r2 hr2
 obtain ⟨b2, rfl, rfl⟩ := hr2
 refine gl_newop (new_alloc (cs := [vB ((0 : Rat).num < 0), .slice none 0 0, .slice none 0 0]) info29 rfl (by simp only [zb]; rfl)) rfl rfl rfl ?_
 intro v4 r4 hr4
 obtain ⟨b4, rfl, rfl⟩ := hr4
 refine gl_nil (gq_then (gc_seq ?_))
 refine gc_draw 11 _ [] [(0, .q), (1, .q), (2, .q), (4, .q), (5, .q), (6, .q), (7, .q), (3, .c), (8, .c), (9, .c), (10, .c), (11, .t)] mixed (fun x hx => by cases hx) (by kernel_rfl) (fun x hx => by cases hx) (fun r hr => hr) (w_q rfl (fun h' L' hh hR => ov_field_addr Tryz.underlying31 rfl Tryz.sizeOf29 rfl) rfl (w_q rfl (fun h' L' hh hR => ov_load_agg (vs := [_, _, _]) (hR _ (.tail _ (.head _))) Tryz.underlying29 rfl size29 rfl rfl) rfl (w_q rfl (fun h' L' hh hR => ov_move rfl) rfl (w_q rfl (fun h' L' hh hR => ov_field_addr Tryz.underlying31 rfl Tryz.sizeOf29 rfl) rfl (w_q rfl (fun h' L' hh hR => ov_load_agg (vs := [_, _, _]) (hR _ (.tail _ (.head _))) Tryz.underlying29 rfl size29 rfl rfl) rfl (w_q rfl (fun h' L' hh hR => ov_field_addr Tryz.underlying31 rfl Tryz.sizeOf29 rfl) rfl (w_q rfl (fun h' L' hh hR => ov_load_agg (vs := [_, _, _]) (hR _ (.tail _ (.head _))) Tryz.underlying29 rfl size29 rfl rfl) rfl ?_)))))))
 refine w_c rfl ?_
 refine s_call (vs := [_]) Tryz.call80 ⟨rfl, trivial⟩ (fun w hs => made_part hs (by omega) (by omega)) rfl ?_
 intro v8 h1 hh1 hr8
 obtain ⟨hlq8, hr8⟩ := hr8
 obtain ⟨vn8, vd8, rfl, hn8, hd8⟩ := hr8
 refine w_c rfl ?_
 replace hna0 := hna0.mono hh1
 replace hda0 := hda0.mono hh1
 replace hna1 := hna1.mono hh1
 replace hda1 := hda1.mono hh1
 refine s_call (vs := [_, _]) Tryz.call53 ⟨rfl, rfl, trivial⟩ (fun w hs => rref_sub hs hna1 hda1 hna0 hda0 (by omega) (by omega)) rfl ?_
 intro v13 h2 hh2 hr13
 obtain ⟨vn13, vd13, rfl, hn13, hd13⟩ := hr13
 have hlq13 := lq_sub qa1 qa0
 refine w_c rfl ?_
 replace hn8 := hn8.mono hh2
 replace hd8 := hd8.mono hh2
 refine s_call (vs := [_, _]) Tryz.call54 ⟨rfl, rfl, trivial⟩ (fun w hs => rref_mul hs hn8 hd8 hn13 hd13 (by omega) (by omega)) rfl ?_
 intro v14 h3 hh3 hr14
 obtain ⟨vn14, vd14, rfl, hn14, hd14⟩ := hr14
 have hlq14 := lq_mul ((partQ n)) (qa1 - qa0)
 refine w_c rfl ?_
 replace hna0 := hna0.mono (hh2.trans hh3)
 replace hda0 := hda0.mono (hh2.trans hh3)
 refine s_call (vs := [_, _]) Tryz.call52 ⟨rfl, rfl, trivial⟩ (fun w hs => rref_add hs hna0 hda0 hn14 hd14 (by omega) (by omega)) rfl ?_
 intro v15 h4 hh4 hr15
 obtain ⟨vn15, vd15, rfl, hn15, hd15⟩ := hr15
 have hlq15 := lq_add qa0 (((partQ n)) * (qa1 - qa0))
 refine w_t_upd (A := []) (q' := .var b4 29 [vB ((qa0 + (((partQ n)) * (qa1 - qa0))).num < 0), vn15, vd15]) rfl (upd_store_var (k := 0) (cs := [_, _, _]) (vs := [_, _, _]) rfl rfl rfl (ocr rfl (ocu hn15 (ocu hd15 oc0))) size29 (Nat.le_of_ble_eq_true rfl)) rfl (w_nil (gq_keep (e' := [(4, _)]) ⟨rfl, trivial⟩ (gq_then (gc_ret (gq_res (fun E S => run_res1 rfl (rv_agg (cs := [_, _, _]) (.head _) Tryz.underlying29 rfl size29 rfl) E S) ?_)))))
 exact ⟨_, _, rfl, hn15, hd15⟩

end Go.Proofs.YtkdmphehabpcfaaGreat

namespace Go.Proofs.YtkdmphehabpcfaaGreat
open Bk Go
set_option linter.unusedVariables false
set_option linter.unusedSimpArgs false
set_option maxRecDepth 10000

theorem o_dice_number {w0 w : World} {h0 h : Mem} {b k : Nat} {vl : Value} {xs : List Int} (hl : Is h vl xs) (hk : k ≤ xs.length) {L : List Res} (hs : St w0 h0 (.var b 61 [vl, vI ↑k] :: L) h w) : Calls Tryz.prog 57 #[vP b 0] w (RetMut w0 h0 h L (fun g r q' => ∃ k' : Nat, ∃ q : Rat, q' = .var b 61 [vl, vI ↑k'] ∧ k' ≤ xs.length ∧ (rpQ 2).Is g r q)) :=
  (dice_number hl hk hs).mono (retmut_imp fun g r q' x => by
    obtain ⟨k', q, e, h1, h2, h3⟩ := x
    exact ⟨k', q, e, h1, is_q h3 h2⟩)

theorem o_dice_span {w0 w : World} {h0 h : Mem} {b k : Nat} {vl : Value} {xs : List Int} (hl : Is h vl xs) (hk : k ≤ xs.length) {L : List Res} (hs : St w0 h0 (.var b 61 [vl, vI ↑k] :: L) h w) : Calls Tryz.prog 9 #[vP b 0] w (RetMut w0 h0 h L (fun g r q' => ∃ k' : Nat, ∃ s : Sp, q' = .var b 61 [vl, vI ↑k'] ∧ k' ≤ xs.length ∧ s.1 ≤ s.2 ∧ (rpP (rpQ 2) (rpQ 2)).Is g r s)) :=
  (dice_span hl hk hs).mono (retmut_imp fun g r q' x => by
    obtain ⟨k', p, q, e, h1, h2, h3, h4, h5⟩ := x
    exact ⟨k', (p, q), e, h1, h2, is_qq h5 h3 h4⟩)

theorem o_made_within {w0 : World} {h0 : Mem} (hs : MLe h0 (mem w0)) {k : Nat} {vs : Value} {s : (Rat × Rat)} (rs : (rpP (rpQ k) (rpQ k)).Is h0 vs s) {n : Int} (hn1 : -9223372036854775808 ≤ n) (hn2 : n < 9223372036854775808) (hcd0 : k ≤ 1000000000)  :
    Calls Tryz.prog 48 #[vs, vI n] w0 (Ret w0 h0 (fun h r => (rpQ (3 * k + 4)).Is h r (withinQ s n))) := by
  obtain ⟨vns0, vds0, vns1, vds1, rfl, hns0, hds0, hns1, hds1, hls0, hls1⟩ := open_qq rs
  exact (made_within hs hns0 hds0 hns1 hds1 (by omega) (by omega) hn1 hn2).mono (ret_imp fun h r x => is_q x (by have := lq_within s hn1 hn2; omega))

theorem o_made_rat {w0 : World} {h0 : Mem}  (hs : MLe h0 (mem w0)) {n : Int} (hn1 : -9223372036854775808 ≤ n) (hn2 : n < 9223372036854775808) {d : Int} (hd1 : -9223372036854775808 ≤ d) (hd2 : d < 9223372036854775808)  :
    Calls Tryz.prog 10 #[vI n, vI d] w0 (Ret w0 h0 (fun h r => (rpQ 2).Is h r (ratQ n d))) := by
 refine calls_begin (n := 12) (e := [(0, vI n), (1, vI d)]) (vs := [vI n, vI d]) Tryz.func10 rfl rfl (Nat.le_of_ble_eq_true rfl) hs ⟨rfl, rfl, trivial⟩ (gc_seq (gc_region (gl_newop (new_allocx (ρ := (rpQ 1)) (X := (0 : Rat)) info29 rfl rfl (zr_q (by decide))) rfl rfl rfl ?_)))
 intro v4 q4 hq4
 obtain ⟨b4, cs4, rfl, rfl, rb4⟩ := hq4
 refine gl_nil (gq_then (gc_seq (gc_region (mv rfl rfl ?_))))
 refine gl_call (vs := [_, vI (41)]) rfl rfl rfl rfl Tryz.call61 ⟨rfl, rfl, trivial⟩ (fun w hs => made_mod hs (by omega) (by omega)) ?_
 intro v6 h1 hh1 hr6
 have hmz6 := modZ_range n (q := (41 : Int)) (by omega)
 subst hr6
 refine gv (ov_sub_i (q := 20) rfl rfl (by omega) (by omega)) rfl (mv rfl rfl ?_)
 refine gl_call (vs := [_, vI (8)]) rfl rfl rfl rfl Tryz.call61 ⟨rfl, rfl, trivial⟩ (fun w hs => made_mod hs (by omega) (by omega)) ?_
 intro v9 h2 hh2 hr9
 have hmz9 := modZ_range d (q := (8 : Int)) (by omega)
 subst hr9
 refine gv (ov_add_i (q := 1) rfl rfl (by omega) (by omega)) rfl ?_
 refine gl_call (vs := [_, _]) rfl rfl rfl rfl Tryz.call60 ⟨rfl, rfl, trivial⟩ (fun w hs => o_rref_frac hs (by omega) (by omega) (by omega) (by omega)) ?_
 intro v11 h3 hh3 r11
 change (rpQ 2).Is h3 v11 (makeQ ((modZ n (41 : Int)) - (20 : Int)) ((modZ d (8 : Int)) + (1 : Int))) at r11
 replace rb4 := rb4.mono ((hh1.trans hh2).trans hh3)
 have rw_1 := (Le.q (l := 2) (by decide)).R rb4
 refine gl_updx (A := []) (F := fun c_ => (rpQ 2).R h3 c_ (makeQ ((modZ n (41 : Int)) - (20 : Int)) ((modZ d (8 : Int)) + (1 : Int)))) (upd_box Tryz.sizeOf29 (Pc.here _) rfl rfl rfl rw_1 r11 rfl) ?_
 intro cs_2 rb_3
 refine gl_nil (gq_then (gc_ret (gq_exv (rv_o (t := 4) ty29 (.head _) rfl rb_3) ?_)))
 intro w_4 hvw_4 rr_5
 refine gq_res (fun E S => run_res1 rfl hvw_4 E S) ?_
 exact rr_5

end Go.Proofs.YtkdmphehabpcfaaGreat

namespace Bk
set_option linter.unusedVariables false
set_option linter.unusedSimpArgs false
open Go Go.RowKit
open Classical

/-! the examples -/
theorem txt_of {q : Rat} {n d : Nat} {s : Bool} (h1 : q.num = if s then -(n : Int) else n) (h2 : q.den = d) (hn0 : n ≠ 0) (hn : n < 10) (hd0 : d ≠ 0) (hd : d < 10) :
    txtQ q = (if s then [45] else []) ++ [48 + n] ++ (if d = 1 then [] else [47, 48 + d]) := by
  unfold txtQ
  rw [h1, h2]
  have e1 : (if s = true then -(n : Int) else (n : Int)).natAbs = n := by cases s <;> simp
  have e2 : ((if s = true then -(n : Int) else (n : Int)) < 0) ↔ s = true := by
    cases s
    · simp
    · simp; omega
  rw [e1, txt_dig hn0 hn]
  by_cases hs : s = true
  · rw [if_pos (e2.2 hs), if_pos hs]
    by_cases h : d = 1
    · rw [if_pos h, if_pos (by rw [h, denN_one])]
      try rfl
    · rw [if_neg h, denN_ne h, if_neg hd0, txt_dig hd0 hd]
      try rfl
  · rw [if_neg (fun e => hs (e2.1 e)), if_neg hs]
    by_cases h : d = 1
    · rw [if_pos h, if_pos (by rw [h, denN_one])]
      try rfl
    · rw [if_neg h, denN_ne h, if_neg hd0, txt_dig hd0 hd]
      try rfl
theorem ex3_a : ofS ((2 : Int) : Rat) ((-1 : Int) : Rat) = (-1, 2) := by
  have e1 : ((2 : Int) : Rat) = 2 := rfl
  have e2 : ((-1 : Int) : Rat) = -1 := rfl
  unfold ofS minQ maxQ
  rw [e1, e2]
  congr 1 <;> grind
theorem ex3_b : ofS ((3 : Int) : Rat) ((4 : Int) : Rat) = (3, 4) := by
  have e1 : ((3 : Int) : Rat) = 3 := rfl
  have e2 : ((4 : Int) : Rat) = 4 := rfl
  unfold ofS minQ maxQ
  rw [e1, e2]
  congr 1 <;> grind
theorem ex3_1 : txtQ (mulS (ofS ((2 : Int) : Rat) ((-1 : Int) : Rat)) (ofS ((3 : Int) : Rat) ((4 : Int) : Rat))).1 = [45, 52] := by
  rw [ex3_a, ex3_b]
  have e : (mulS (-1, 2) (3, 4)).1 = -4 := by
    show mulLo (-1) 2 3 4 = -4
    unfold mulLo minQ
    grind
  rw [e, txt_of (n := 4) (d := 1) (s := true) rfl rfl (by omega) (by omega) (by omega) (by omega)]
  rfl
theorem ex3_2 : txtQ (sqrS (ofS ((2 : Int) : Rat) ((-1 : Int) : Rat))).2 = [52] := by
  rw [ex3_a]
  have e : (sqrS (-1, 2)).2 = 4 := by
    show sqrHi (-1) 2 = 4
    unfold sqrHi maxQ
    grind
  rw [e, txt_of (n := 4) (d := 1) (s := false) rfl rfl (by omega) (by omega) (by omega) (by omega)]
  rfl
theorem ex3_fl : flN (2 : Rat) 2 = 32 := rfl
theorem ex3_r : rootQ 2 2 = 5 / 4 := by
  have h1 : kN 2 = 2 := rfl
  unfold rootQ
  rw [h1, ex3_fl, sqN_eq (m := 5) (by omega) (by omega)]
  rfl
theorem ex3_3 : rtE ((2 : Int) : Rat) = 0 := by
  have e1 : ((2 : Int) : Rat) = 2 := rfl
  unfold rtE
  rw [e1, if_neg (by grind)]
theorem ex3_4 : txtQ (rtLo ((2 : Int) : Rat) ((2 : Int) : Rat) 2) = [53, 47, 52] := by
  have e1 : ((2 : Int) : Rat) = 2 := rfl
  have e : rtLo 2 2 2 = 5 / 4 := by
    unfold rtLo
    rw [if_neg (by grind), show maxQ 2 0 = 2 by unfold maxQ; grind, ex3_r]
  rw [e1, e, txt_of (n := 5) (d := 4) (s := false) (by decide +kernel) (by decide +kernel) (by omega) (by omega) (by omega) (by omega)]
  rfl
theorem ex3_5 : txtQ (rtHi ((2 : Int) : Rat) 2) = [51, 47, 50] := by
  have e1 : ((2 : Int) : Rat) = 2 := rfl
  have e : rtHi 2 2 = 3 / 2 := by
    unfold rtHi
    rw [if_neg (by grind), ex3_r, if_pos (by grind)]
    have h1 : ovQ 1 (kN 2) = 1 / 4 := by
      have e3 : ((2 ^ kN 2 : Nat) : Rat) = 4 := rfl
      have e4 : ((1 : Nat) : Rat) = 1 := rfl
      unfold ovQ
      rw [e3, e4]
    rw [h1]
    grind
  rw [e1, e, txt_of (n := 3) (d := 2) (s := false) (by decide +kernel) (by decide +kernel) (by omega) (by omega) (by omega) (by omega)]
  rfl

/-! reads -/
theorem halves_eq {a : Sp} (h : a.1 ≤ a.2) : ofS a.1 (midQ a.1 a.2) = (a.1, midQ a.1 a.2) ∧ ofS (midQ a.1 a.2) a.2 = (midQ a.1 a.2, a.2) := by
  have e : midQ a.1 a.2 = (a.1 + a.2) / 2 := by
    have hh : halfQ = 1 / 2 := by unfold halfQ; rw [sg_f id, Rat.mkRat_eq_div]; rfl
    unfold midQ
    rw [hh]; grind
  have h1 : a.1 ≤ midQ a.1 a.2 := by rw [e]; grind
  have h2 : midQ a.1 a.2 ≤ a.2 := by rw [e]; grind
  unfold ofS
  rw [minQ_of h1, maxQ_of h1, minQ_of h2, maxQ_of h2]
  exact ⟨rfl, rfl⟩
theorem sign_eq {a : Sp} (h : a.1 ≤ a.2) : (if sgnQ a.1 = sgnQ a.2 then sgnQ a.1 else 0) = (if 0 < sgnQ a.1 then 1 else if sgnQ a.2 < 0 then -1 else 0) ∧ (sgnQ a.1 = sgnQ a.2 ↔ (0 < sgnQ a.1 ∨ sgnQ a.2 < 0 ∨ (sgnQ a.1 = 0 ∧ sgnQ a.2 = 0))) := by
  have h1 := sgnQ_lt a.1
  have h2 := sgnQ_lt a.2
  generalize a.1 = x at *
  generalize a.2 = y at *
  grind

/-! contains -/
theorem quo_has {a b c d r s : Rat} (hz : ¬ hasP c d 0) (hr : hasP a b r) (hs : hasP c d s) : hasP (quoLo a b c d) (quoHi a b c d) (if s = 0 then 0 else r / s) := by
  obtain ⟨e1, e2, _⟩ := quo_f (a := a) (b := b) hz
  obtain ⟨h1, h2⟩ := inv_has hz hs
  rw [e1, e2, quo_eq_mul h1]
  exact mul_has hr h2
theorem quoE_zero {c d : Rat} : quoE c d = 0 ↔ ¬ hasP c d 0 := by
  unfold quoE
  split <;> simp_all
theorem rtE_zero {h : Rat} : rtE h = 0 ↔ ¬ h < 0 := by
  unfold rtE
  split <;> simp_all
theorem root_sq_le {q : Rat} (h : 0 ≤ q) (k : Int) : rootQ q k * rootQ q k ≤ q := (ov_sq_le h _ _).2 (sqN_le _)
theorem root_sq_lt {q : Rat} (h : 0 ≤ q) (k : Int) : q < (rootQ q k + ovQ 1 (kN k)) * (rootQ q k + ovQ 1 (kN k)) := by
  unfold rootQ
  rw [ov_add]
  exact (ov_lt_sq h _ _).2 (sqN_lt _)
theorem ov_nonneg (a K : Nat) : 0 ≤ ovQ a K := by
  have := ov_le (a := 0) (b := a) (K := K)
  rw [ov_zero] at this
  exact this.2 (by omega)
theorem rtLo_nonneg (l h : Rat) (k : Int) : 0 ≤ rtLo l h k := by
  unfold rtLo
  split
  · exact Rat.le_refl
  · exact ov_nonneg _ _
theorem rtHi_sq {h : Rat} (h0 : ¬ h < 0) (k : Int) : h ≤ rtHi h k * rtHi h k ∧ 0 ≤ rtHi h k := by
  have h1 : 0 ≤ h := by grind
  have h2 := root_sq_lt h1 k
  have h3 := ov_nonneg (sqN (flN h (kN k))) (kN k)
  have h4 := ov_nonneg 1 (kN k)
  unfold rtHi
  rw [if_neg h0]
  split
  · refine ⟨by grind, ?_⟩
    unfold rootQ
    grind
  · exact ⟨by grind, h3⟩
theorem root_has {a : Sp} (h0 : ¬ a.2 < 0) (hl : 0 ≤ a.1) (hle : a.1 ≤ a.2) (k : Int) : hasP (sqrS (rtLo a.1 a.2 k, rtHi a.2 k)).1 (sqrS (rtLo a.1 a.2 k, rtHi a.2 k)).2 a.1 ∧ hasP (sqrS (rtLo a.1 a.2 k, rtHi a.2 k)).1 (sqrS (rtLo a.1 a.2 k, rtHi a.2 k)).2 a.2 := by
  have e1 : rtLo a.1 a.2 k = rootQ a.1 k := by
    unfold rtLo
    rw [if_neg h0, show maxQ a.1 0 = a.1 by unfold maxQ; grind]
  have h1 := root_sq_le hl k
  have h2 := ov_nonneg (sqN (flN a.1 (kN k))) (kN k)
  obtain ⟨h3, h4⟩ := rtHi_sq h0 k
  rw [e1]
  have h5 : 0 ≤ rootQ a.1 k := h2
  have hlo : (sqrS (rootQ a.1 k, rtHi a.2 k)).1 ≤ rootQ a.1 k * rootQ a.1 k := by
    show sqrLo _ _ ≤ _
    unfold sqrLo
    split
    · exact sq_nonneg _
    · exact (minQ_le _ _).1
  have hhi : rtHi a.2 k * rtHi a.2 k ≤ (sqrS (rootQ a.1 k, rtHi a.2 k)).2 := (maxQ_ge _ _).2
  unfold hasP
  constructor <;> constructor <;> grind
theorem contains_root {a : Sp} (hle : a.1 ≤ a.2) (h : rtE a.2 = 0 ∧ ((¬ (hasP (sqrS (rtLo a.1 a.2 8, rtHi a.2 8)).1 (sqrS (rtLo a.1 a.2 8, rtHi a.2 8)).2 a.1 ∧ hasP (sqrS (rtLo a.1 a.2 8, rtHi a.2 8)).1 (sqrS (rtLo a.1 a.2 8, rtHi a.2 8)).2 a.2) ∧ 0 ≤ sgnQ a.1) ∨ sgnQ (rtLo a.1 a.2 8) < 0)) : False := by
  obtain ⟨h1, h2⟩ := h
  have h0 := rtE_zero.1 h1
  rcases h2 with ⟨h3, h4⟩ | h3
  · have hl : 0 ≤ a.1 := by
      have := sgn_neg (q := a.1)
      refine Rat.not_lt.1 fun e => ?_
      have := this.2 e
      omega
    exact h3 (root_has h0 hl hle 8)
  · have := sgn_neg.1 h3
    have := rtLo_nonneg a.1 a.2 8
    grind

/-! narrow -/
theorem of_sub {a : Sp} {x y : Rat} (hx : hasP a.1 a.2 x) (hy : hasP a.1 a.2 y) : hasP a.1 a.2 (ofS x y).1 ∧ hasP a.1 a.2 (ofS x y).2 := by
  constructor
  · rcases minQ_mem x y with h | h <;> (show hasP _ _ (minQ x y)) <;> rw [h] <;> assumption
  · rcases maxQ_mem x y with h | h <;> (show hasP _ _ (maxQ x y)) <;> rw [h] <;> assumption
theorem narrow_add {a b c : Sp} (h : hasP a.1 a.2 c.1 ∧ hasP a.1 a.2 c.2) (hb : b.1 ≤ b.2) : hasP (addS a b).1 (addS a b).2 (addS c b).1 ∧ hasP (addS a b).1 (addS a b).2 (addS c b).2 :=
  ⟨add_has h.1 (hasP_lo hb), add_has h.2 (hasP_hi hb)⟩
theorem narrow_mul {a b c : Sp} (h : hasP a.1 a.2 c.1 ∧ hasP a.1 a.2 c.2) (hb : b.1 ≤ b.2) : hasP (mulS a b).1 (mulS a b).2 (mulS c b).1 ∧ hasP (mulS a b).1 (mulS a b).2 (mulS c b).2 := mul_sub hb h.1 h.2
theorem narrow_sqr {a c : Sp} (h : hasP a.1 a.2 c.1 ∧ hasP a.1 a.2 c.2) (hc : c.1 ≤ c.2) : hasP (sqrS a).1 (sqrS a).2 (sqrS c).1 ∧ hasP (sqrS a).1 (sqrS a).2 (sqrS c).2 := sqr_sub hc h.1 h.2
theorem narrow_round {a c : Sp} (h : hasP a.1 a.2 c.1 ∧ hasP a.1 a.2 c.2) (hc : c.1 ≤ c.2) (k : Int) : hasP (roundS a k).1 (roundS a k).2 (roundS c k).1 ∧ hasP (roundS a k).1 (roundS a k).2 (roundS c k).2 := by
  have h1 := down_mono h.1.1 k
  have h2 := up_mono h.2.2 k
  have h3 := down_le c.1 k
  have h4 := up_ge c.2 k
  unfold hasP roundS
  constructor <;> constructor <;> grind
theorem narrow_quo {a b c : Sp} (h : hasP a.1 a.2 c.1 ∧ hasP a.1 a.2 c.2) (hz : ¬ hasP b.1 b.2 0) : hasP (quoS a b).1 (quoS a b).2 (quoS c b).1 ∧ hasP (quoS a b).1 (quoS a b).2 (quoS c b).2 := by
  obtain ⟨e1, e2, _⟩ := quo_f (a := a.1) (b := a.2) hz
  obtain ⟨f1, f2, _⟩ := quo_f (a := c.1) (b := c.2) hz
  show hasP (quoLo _ _ _ _) (quoHi _ _ _ _) (quoLo _ _ _ _) ∧ hasP (quoLo _ _ _ _) (quoHi _ _ _ _) (quoHi _ _ _ _)
  rw [e1, e2, f1, f2]
  exact mul_sub (of_ends _ _) h.1 h.2

/-! regular -/
def inM (m : T3 (T3 Sp)) (n : T3 (T3 Rat)) : Prop := ∀ i j, i < 3 → j < 3 → hasP ((m.at i).at j).1 ((m.at i).at j).2 ((n.at i).at j)
theorem det2_has {a b c d : Sp} {x y z w : Rat} (ha : hasP a.1 a.2 x) (hb : hasP b.1 b.2 y) (hc : hasP c.1 c.2 z) (hd : hasP d.1 d.2 w) : hasP (det2S a b c d).1 (det2S a b c d).2 (x * w - y * z) := sub_has (mul_has ha hd) (mul_has hb hc)
theorem det3_has {m : T3 (T3 Sp)} {n : T3 (T3 Rat)} (h : inM m n) : hasP (det3S m).1 (det3S m).2 (detR n) := by
  have e : detR n = n.x.x * (n.y.y * n.z.z - n.y.z * n.z.y) - n.x.y * (n.y.x * n.z.z - n.y.z * n.z.x) + n.x.z * (n.y.x * n.z.y - n.y.y * n.z.x) := by
    unfold detR; grind
  rw [e]
  have H := fun i j hi hj => h i j hi hj
  have xx := H 0 0 (by omega) (by omega); have xy := H 0 1 (by omega) (by omega); have xz := H 0 2 (by omega) (by omega)
  have yx := H 1 0 (by omega) (by omega); have yy := H 1 1 (by omega) (by omega); have yz := H 1 2 (by omega) (by omega)
  have zx := H 2 0 (by omega) (by omega); have zy := H 2 1 (by omega) (by omega); have zz := H 2 2 (by omega) (by omega)
  exact add_has (sub_has (mul_has xx (det2_has yy yz zy zz)) (mul_has xy (det2_has yx yz zx zz))) (mul_has xz (det2_has yx yy zx zy))
theorem sign_same {a b x y : Rat} (h : ¬ hasP a b 0) (hx : hasP a b x) (hy : hasP a b y) : sgnQ x = sgnQ y ∧ sgnQ x ≠ 0 := by
  have h1 := sgnQ_lt x
  have h2 := sgnQ_lt y
  unfold hasP at *
  grind
/-- The elements ahead of (i, j) lie in their spans. -/
def inPart (m : T3 (T3 Sp)) (n : T3 (T3 Rat)) (i j : Nat) : Prop := ∀ a b, a < 3 → b < 3 → (a < i ∨ (a = i ∧ b < j)) → hasP ((m.at a).at b).1 ((m.at a).at b).2 ((n.at a).at b)
theorem inPart_zero (m : T3 (T3 Sp)) (n : T3 (T3 Rat)) : inPart m n 0 0 := fun a b _ _ h => by omega
theorem inPart_row {m : T3 (T3 Sp)} {n : T3 (T3 Rat)} {i : Nat} (h : inPart m n i 3) : inPart m n (i + 1) 0 := fun a b ha hb hh => h a b ha hb (by omega)
theorem inPart_all {m : T3 (T3 Sp)} {n : T3 (T3 Rat)} (h : inPart m n 3 0) : inM m n := fun i j hi hj => h i j hi hj (.inl hi)
theorem inPart_set {m : T3 (T3 Sp)} {n : T3 (T3 Rat)} {i j : Nat} (hi : i < 3) (hj : j < 3) (h : inPart m n i j) {x : Rat} (hx : hasP ((m.at i).at j).1 ((m.at i).at j).2 x) : inPart m (n.set i ((n.at i).set j x)) i (j + 1) := by
  intro a b ha hb hh
  rw [T3.at_set]
  by_cases hai : min i 2 = min a 2
  · have e : a = i := by omega
    subst e
    rw [if_pos hai, T3.at_set]
    by_cases hbj : min j 2 = min b 2
    · have e : b = j := by omega
      subst e
      rw [if_pos hbj]
      exact hx
    · rw [if_neg hbj]
      exact h a b ha hb (by omega)
  · rw [if_neg hai]
    exact h a b ha hb (by omega)
theorem sg_set {D : Sp} {sg : List Int} {k : Nat} (hk : k < 2) (hl : sg.length = 2) (h : ∀ q, q < k → ∃ x, hasP D.1 D.2 x ∧ sg.getD q 0 = sgnQ x) {x : Rat} (hx : hasP D.1 D.2 x) : (sg.set k (sgnQ x)).length = 2 ∧ ∀ q, q < k + 1 → ∃ y, hasP D.1 D.2 y ∧ (sg.set k (sgnQ x)).getD q 0 = sgnQ y := by
  refine ⟨by simpa using hl, fun q hq => ?_⟩
  rw [List.getD_eq_getElem?_getD, List.getElem?_set]
  by_cases e : k = q
  · subst e
    rw [if_pos rfl, if_pos (by omega)]
    exact ⟨x, hx, rfl⟩
  · rw [if_neg e, ← List.getD_eq_getElem?_getD]
    exact h q (by omega)
theorem sg_done {D : Sp} {sg : List Int} (h : ∀ q, q < 2 → ∃ x, hasP D.1 D.2 x ∧ sg.getD q 0 = sgnQ x) (hz : ¬ hasP D.1 D.2 0) : sg.getD 0 0 = sg.getD 1 0 ∧ sg.getD 0 0 ≠ 0 := by
  obtain ⟨x, hx, ex⟩ := h 0 (by omega)
  obtain ⟨y, hy, ey⟩ := h 1 (by omega)
  rw [ex, ey]
  exact sign_same hz hx hy
end Bk

namespace Go.Proofs.YtkdmphehabpcfaaGreat
open Bk Go
set_option linter.unusedVariables false
set_option linter.unusedSimpArgs false
set_option maxRecDepth 10000

theorem law3_awake {w0 : World} {h0 : Mem}  (hs : MLe h0 (mem w0))  :
    Calls Tryz.prog 7 #[] w0 (Ret w0 h0 (fun _ r => r = .bool true)) := by
 refine calls_begin (n := 46) (e := []) (vs := []) Tryz.func7 rfl rfl (Nat.le_of_ble_eq_true rfl) hs trivial (gc_seq (gc_region (asg rfl rfl (gl_nil (gq_then (gc_seq (gc_region ?_)))))))
 refine gl_call (vs := [vI (2)]) rfl rfl rfl rfl Tryz.call18 ⟨rfl, trivial⟩ (fun w hs => o_rref_int hs (by decide) (by decide)) ?_
 intro v5 h1 hh1 r5
 change (rpQ 2).Is h1 v5 ((2 : Int) : Rat) at r5
 refine gl_call (vs := [vI (-1)]) rfl rfl rfl rfl Tryz.call18 ⟨rfl, trivial⟩ (fun w hs => o_rref_int hs (by decide) (by decide)) ?_
 intro v6 h2 hh2 r6
 change (rpQ 2).Is h2 v6 ((-1 : Int) : Rat) at r6
 replace r5 := r5.mono hh2
 refine gl_call (vs := [_, _]) rfl rfl rfl rfl Tryz.call32 ⟨rfl, rfl, trivial⟩ (fun w hs => o_span_of hs r5 r6 (by decide)) ?_
 intro v7 h3 hh3 r7
 change (rpP (rpQ 2) (rpQ 2)).Is h3 v7 (ofS ((2 : Int) : Rat) ((-1 : Int) : Rat)) at r7
 refine gl_newop (new_allocx (ρ := (rpP (rpQ 1) (rpQ 1))) (X := ((0 : Rat), (0 : Rat))) info31 rfl rfl (zr_p (zr_q (by decide)) (zr_q (by decide)))) rfl rfl rfl ?_
 intro v1 q1 hq1
 obtain ⟨b1, cs1, rfl, rfl, rb1⟩ := hq1
 have rw_1 := (Le.p (Le.q (l := 2) (by decide)) (Le.q (l := 2) (by decide))).R rb1
 refine gl_updx (A := []) (F := fun c_ => (rpP (rpQ 2) (rpQ 2)).R h3 c_ (ofS ((2 : Int) : Rat) ((-1 : Int) : Rat))) (upd_box Tryz.sizeOf31 (Pc.here _) rfl rfl rfl rw_1 r7 rfl) ?_
 intro cs_2 rb_3
 refine gl_nil (gq_then (gc_seq (gc_region ?_)))
 refine gl_call (vs := [vI (3)]) rfl rfl rfl rfl Tryz.call18 ⟨rfl, trivial⟩ (fun w hs => o_rref_int hs (by decide) (by decide)) ?_
 intro v8 h4 hh4 r8
 change (rpQ 2).Is h4 v8 ((3 : Int) : Rat) at r8
 refine gl_call (vs := [vI (4)]) rfl rfl rfl rfl Tryz.call18 ⟨rfl, trivial⟩ (fun w hs => o_rref_int hs (by decide) (by decide)) ?_
 intro v9 h5 hh5 r9
 change (rpQ 2).Is h5 v9 ((4 : Int) : Rat) at r9
 replace r8 := r8.mono hh5
 refine gl_call (vs := [_, _]) rfl rfl rfl rfl Tryz.call32 ⟨rfl, rfl, trivial⟩ (fun w hs => o_span_of hs r8 r9 (by decide)) ?_
 intro v10 h6 hh6 r10
 change (rpP (rpQ 2) (rpQ 2)).Is h6 v10 (ofS ((3 : Int) : Rat) ((4 : Int) : Rat)) at r10
 refine gl_newop (new_allocx (ρ := (rpP (rpQ 1) (rpQ 1))) (X := ((0 : Rat), (0 : Rat))) info31 rfl rfl (zr_p (zr_q (by decide)) (zr_q (by decide)))) rfl rfl rfl ?_
 intro v2 q2 hq2
 obtain ⟨b2, cs2, rfl, rfl, rb2⟩ := hq2
 have rw_4 := (Le.p (Le.q (l := 2) (by decide)) (Le.q (l := 2) (by decide))).R rb2
 refine gl_updx (A := []) (F := fun c_ => (rpP (rpQ 2) (rpQ 2)).R h6 c_ (ofS ((3 : Int) : Rat) ((4 : Int) : Rat))) (upd_box Tryz.sizeOf31 (Pc.here _) rfl rfl rfl rw_4 r10 rfl) ?_
 intro cs_5 rb_6
 refine gl_nil (gq_then (gc_seq (gc_region ?_)))
 refine gl_call (vs := [vI (2)]) rfl rfl rfl rfl Tryz.call18 ⟨rfl, trivial⟩ (fun w hs => o_rref_int hs (by decide) (by decide)) ?_
 intro v12 h7 hh7 r12
 change (rpQ 2).Is h7 v12 ((2 : Int) : Rat) at r12
 refine gl_call (vs := [_]) rfl rfl rfl rfl Tryz.call34 ⟨rfl, trivial⟩ (fun w hs => o_span_point hs r12 (by decide)) ?_
 intro v13 h8 hh8 r13
 change (rpP (rpQ 2) (rpQ 2)).Is h8 v13 (((2 : Int) : Rat), ((2 : Int) : Rat)) at r13
 refine gl_call (vs := [_, vI (2)]) rfl rfl rfl rfl Tryz.call50 ⟨rfl, rfl, trivial⟩ (fun w hs => span_rootS hs r13 (by decide) (by decide) (by decide)) ?_
 intro v14 h9 hh9 r14
 obtain ⟨v14_0, rfl, r14_0⟩ := r14
 change (rpP (rpQ (2 + 140)) (rpQ (2 + 140))).Is h9 v14_0 (rtLo (((2 : Int) : Rat), ((2 : Int) : Rat)).1 (((2 : Int) : Rat), ((2 : Int) : Rat)).2 (2 : Int), rtHi (((2 : Int) : Rat), ((2 : Int) : Rat)).2 (2 : Int)) at r14_0
 replace r14_0 := Rp.Is.le r14_0 (Le.p (Le.q (l := 142) (by omega)) (Le.q (l := 142) (by omega)))
 refine mv rfl rfl (gv (ov_extract (vs := [_, _]) rfl rfl) rfl (gv (ov_extract (vs := [_, _]) rfl rfl) rfl (gl_newop (new_allocx (ρ := (rpP (rpQ 1) (rpQ 1))) (X := ((0 : Rat), (0 : Rat))) info31 rfl rfl (zr_p (zr_q (by decide)) (zr_q (by decide)))) rfl rfl rfl ?_)))
 intro v3 q3 hq3
 obtain ⟨b3, cs3, rfl, rfl, rb3⟩ := hq3
 have rw_7 := (Le.p (Le.q (l := 142) (by decide)) (Le.q (l := 142) (by decide))).R rb3
 refine gl_updx (A := []) (F := fun c_ => (rpP (rpQ 142) (rpQ 142)).R h9 c_ (rtLo (((2 : Int) : Rat), ((2 : Int) : Rat)).1 (((2 : Int) : Rat), ((2 : Int) : Rat)).2 (2 : Int), rtHi (((2 : Int) : Rat), ((2 : Int) : Rat)).2 (2 : Int))) (upd_box Tryz.sizeOf31 (Pc.here _) rfl rfl rfl rw_7 r14_0 rfl) ?_
 intro cs_8 rb_9
 refine asg rfl rfl (gl_nil (gq_keep (e' := [(1, _), (2, _), (3, _), (4, _)]) ⟨rfl, rfl, rfl, rfl, trivial⟩ (gq_then (gc_seq (gc_region ?_)))))
 replace rb_3 := rb_3.mono (((((hh4.trans hh5).trans hh6).trans hh7).trans hh8).trans hh9)
 refine gl_x (F := fun v_ => (rpP (rpQ 2) (rpQ 2)).Is h9 v_ (ofS ((2 : Int) : Rat) ((-1 : Int) : Rat))) (ox_load_box ty31 (Pc.here _) rfl rfl rb_3 rfl) (mem1 (.tail _ (.tail _ (.head _)))) rfl ?_
 intro v17 r17
 replace rb_6 := rb_6.mono ((hh7.trans hh8).trans hh9)
 refine gl_x (F := fun v_ => (rpP (rpQ 2) (rpQ 2)).Is h9 v_ (ofS ((3 : Int) : Rat) ((4 : Int) : Rat))) (ox_load_box ty31 (Pc.here _) rfl rfl rb_6 rfl) (mem1 (.tail _ (.head _))) rfl ?_
 intro v18 r18
 refine gl_call (vs := [_, _]) rfl rfl rfl rfl Tryz.call44 ⟨rfl, rfl, trivial⟩ (fun w hs => o_span_mul hs r17 r18 (by decide)) ?_
 intro v19 h10 hh10 r19
 change (rpP (rpQ (2 + 2)) (rpQ (2 + 2))).Is h10 v19 (mulS (ofS ((2 : Int) : Rat) ((-1 : Int) : Rat)) (ofS ((3 : Int) : Rat) ((4 : Int) : Rat))) at r19
 replace r19 := Rp.Is.le r19 (Le.p (Le.q (l := 4) (by omega)) (Le.q (l := 4) (by omega)))
 refine gl_x (F := fun v_ => (rpQ 4).Is h10 v_ ((mulS (ofS ((2 : Int) : Rat) ((-1 : Int) : Rat)) (ofS ((3 : Int) : Rat) ((4 : Int) : Rat))).1)) (ox_field Tryz.underlying31 rfl ty29 (Pc.fst (Pc.here _)) rfl rfl rfl r19 rfl) mem0 rfl ?_
 intro v20 r20
 obtain ⟨vn20_10, vd20_10, hv20_10, hn20_10, hd20_10, hlq20_10⟩ := open_q r20
 subst hv20_10
 refine gl_call (vs := [_]) rfl rfl rfl rfl Tryz.call56 ⟨rfl, trivial⟩ (fun w hs => rref_text hs hn20_10 hd20_10 (by omega)) ?_
 intro v21 h11 hh11 hr21
 subst hr21
 have htl21 := txtQ_len ((mulS (ofS ((2 : Int) : Rat) ((-1 : Int) : Rat)) (ofS ((3 : Int) : Rat) ((4 : Int) : Rat))).1)
 refine gv (OpV.tr (by exact ex3_1) (ov_eql_s (pa := (txtQ ((mulS (ofS ((2 : Int) : Rat) ((-1 : Int) : Rat)) (ofS ((3 : Int) : Rat) ((4 : Int) : Rat))).1))) (pb := ([45, 52] : List Nat)) (byB_txtQ ((mulS (ofS ((2 : Int) : Rat) ((-1 : Int) : Rat)) (ofS ((3 : Int) : Rat) ((4 : Int) : Rat))).1)) (show ByB [45, 52] by unfold ByB; decide) rfl rfl)) rfl (mv rfl rfl (gl_on rfl rfl rfl ?_))
 replace rb_3 := rb_3.mono (hh10.trans hh11)
 refine gl_x (F := fun v_ => (rpP (rpQ 2) (rpQ 2)).Is h11 v_ (ofS ((2 : Int) : Rat) ((-1 : Int) : Rat))) (ox_load_box ty31 (Pc.here _) rfl rfl rb_3 rfl) (mem1 (.tail _ (.tail _ (.head _)))) rfl ?_
 intro v24 r24
 refine gl_on rfl rfl rfl ?_
 refine gl_call (vs := [_]) rfl rfl rfl rfl Tryz.call46 ⟨rfl, trivial⟩ (fun w hs => o_span_sqr hs r24 (by decide)) ?_
 intro v25 h12 hh12 r25
 change (rpP (rpQ (2 + 2)) (rpQ (2 + 2))).Is h12 v25 (sqrS (ofS ((2 : Int) : Rat) ((-1 : Int) : Rat))) at r25
 replace r25 := Rp.Is.le r25 (Le.p (Le.q (l := 4) (by omega)) (Le.q (l := 4) (by omega)))
 refine gl_on rfl rfl rfl (gl_x (F := fun v_ => (rpQ 4).Is h12 v_ ((sqrS (ofS ((2 : Int) : Rat) ((-1 : Int) : Rat))).2)) (ox_field Tryz.underlying31 rfl ty29 (Pc.snd (Pc.here _)) rfl rfl rfl r25 rfl) mem0 rfl ?_)
 intro v26 r26
 refine gl_on rfl rfl rfl ?_
 obtain ⟨vn26_11, vd26_11, hv26_11, hn26_11, hd26_11, hlq26_11⟩ := open_q r26
 subst hv26_11
 refine gl_call (vs := [_]) rfl rfl rfl rfl Tryz.call56 ⟨rfl, trivial⟩ (fun w hs => rref_text hs hn26_11 hd26_11 (by omega)) ?_
 intro v27 h13 hh13 hr27
 subst hr27
 have htl27 := txtQ_len ((sqrS (ofS ((2 : Int) : Rat) ((-1 : Int) : Rat))).2)
 refine gl_on rfl rfl rfl (gv (OpV.tr (by exact ex3_2) (ov_eql_s (pa := (txtQ ((sqrS (ofS ((2 : Int) : Rat) ((-1 : Int) : Rat))).2))) (pb := ([52] : List Nat)) (byB_txtQ ((sqrS (ofS ((2 : Int) : Rat) ((-1 : Int) : Rat))).2)) (show ByB [52] by unfold ByB; decide) rfl rfl)) rfl (gv (ov_pick_t rfl rfl) rfl (mv rfl rfl (gl_on rfl rfl rfl (mv rfl rfl (gl_on rfl rfl rfl (gv (OpV.tr (by exact ex3_3) (ov_eql_i (q := 0) rfl rfl)) rfl (gv (ov_pick_t rfl rfl) rfl (mv rfl rfl (gl_on rfl rfl rfl (gv ((ov_field_addr Tryz.underlying31 rfl Tryz.sizeOf29 rfl).cv (show _ = vP b3 0 from congrArg (vP b3) (by rfl))) rfl (gl_on rfl rfl rfl ?_))))))))))))
 replace rb_9 := rb_9.mono (((hh10.trans hh11).trans hh12).trans hh13)
 refine gl_x (F := fun v_ => (rpQ 142).Is h13 v_ (rtLo (((2 : Int) : Rat), ((2 : Int) : Rat)).1 (((2 : Int) : Rat), ((2 : Int) : Rat)).2 (2 : Int))) (ox_load_box ty29 (Pc.fst (Pc.here _)) rfl rfl rb_9 rfl) (mem1 (.head _)) rfl ?_
 intro v36 r36
 refine gl_on rfl rfl rfl ?_
 obtain ⟨vn36_12, vd36_12, hv36_12, hn36_12, hd36_12, hlq36_12⟩ := open_q r36
 subst hv36_12
 refine gl_call (vs := [_]) rfl rfl rfl rfl Tryz.call56 ⟨rfl, trivial⟩ (fun w hs => rref_text hs hn36_12 hd36_12 (by omega)) ?_
 intro v37 h14 hh14 hr37
 subst hr37
 have htl37 := txtQ_len (rtLo (((2 : Int) : Rat), ((2 : Int) : Rat)).1 (((2 : Int) : Rat), ((2 : Int) : Rat)).2 (2 : Int))
 refine gl_on rfl rfl rfl (gv (OpV.tr (by exact ex3_4) (ov_eql_s (pa := (txtQ (rtLo (((2 : Int) : Rat), ((2 : Int) : Rat)).1 (((2 : Int) : Rat), ((2 : Int) : Rat)).2 (2 : Int)))) (pb := ([53, 47, 52] : List Nat)) (byB_txtQ (rtLo (((2 : Int) : Rat), ((2 : Int) : Rat)).1 (((2 : Int) : Rat), ((2 : Int) : Rat)).2 (2 : Int))) (show ByB [53, 47, 52] by unfold ByB; decide) rfl rfl)) rfl (gv (ov_pick_t rfl rfl) rfl (mv rfl rfl (gl_on rfl rfl rfl (gv ((ov_field_addr Tryz.underlying31 rfl Tryz.sizeOf29 rfl).cv (show _ = vP b3 3 from congrArg (vP b3) (by rfl))) rfl (gl_on rfl rfl rfl ?_))))))
 replace rb_9 := rb_9.mono hh14
 refine gl_x (F := fun v_ => (rpQ 142).Is h14 v_ (rtHi (((2 : Int) : Rat), ((2 : Int) : Rat)).2 (2 : Int))) (ox_load_box ty29 (Pc.snd (Pc.here _)) rfl rfl rb_9 rfl) (mem1 (.head _)) rfl ?_
 intro v42 r42
 refine gl_on rfl rfl rfl ?_
 obtain ⟨vn42_13, vd42_13, hv42_13, hn42_13, hd42_13, hlq42_13⟩ := open_q r42
 subst hv42_13
 refine gl_call (vs := [_]) rfl rfl rfl rfl Tryz.call56 ⟨rfl, trivial⟩ (fun w hs => rref_text hs hn42_13 hd42_13 (by omega)) ?_
 intro v43 h15 hh15 hr43
 subst hr43
 have htl43 := txtQ_len (rtHi (((2 : Int) : Rat), ((2 : Int) : Rat)).2 (2 : Int))
 refine gl_on rfl rfl rfl (gv (OpV.tr (by exact ex3_5) (ov_eql_s (pa := (txtQ (rtHi (((2 : Int) : Rat), ((2 : Int) : Rat)).2 (2 : Int)))) (pb := ([51, 47, 50] : List Nat)) (byB_txtQ (rtHi (((2 : Int) : Rat), ((2 : Int) : Rat)).2 (2 : Int))) (show ByB [51, 47, 50] by unfold ByB; decide) rfl rfl)) rfl (gv (ov_pick_t rfl rfl) rfl (asg rfl rfl (gl_nil (gq_keep (e' := [(0, _)]) ⟨rfl, trivial⟩ (gq_then (gc_ret (gq_body1 rfl rfl ?_))))))))
 rfl

end Go.Proofs.YtkdmphehabpcfaaGreat
