/- Contracts of functions, walked by their text (rat5/b). -/
import Derived.Test.YtimoeckkdodogaaR4
namespace Go.Proofs.Ytimoeckkdodogaa
open Bk Go
set_option linter.unusedVariables false
set_option linter.unusedSimpArgs false
set_option maxRecDepth 10000

theorem rat_add {w0 : World} {h0 : Mem}  (hs : MLe h0 (mem w0)) {qa : Rat} {vna vda : Value} (hna : Us .u32 h0 vna (limbs qa.num.natAbs)) (hda : Us .u32 h0 vda (limbs (denN qa.den))) {qb : Rat} {vnb vdb : Value} (hnb : Us .u32 h0 vnb (limbs qb.num.natAbs)) (hdb : Us .u32 h0 vdb (limbs (denN qb.den))) (hqa : lq qa ≤ 100000000000) (hqb : lq qb ≤ 100000000000)  :
    Calls Try.prog 40 #[.agg #[vB (qa.num < 0), vna, vda], .agg #[vB (qb.num < 0), vnb, vdb]] w0 (Ret w0 h0 (fun h r => IsRat h r (qa + qb))) := by
 have hlna := lq_num qa
 have hlda := lq_den qa
 have hlDa := lq_denL qa
 have hlnb := lq_num qb
 have hldb := lq_den qb
 have hlDb := lq_denL qb
 refine calls_begin (n := 10) (e := [(0, .agg #[vB (qa.num < 0), vna, vda]), (1, .agg #[vB (qb.num < 0), vnb, vdb])]) (vs := [.agg #[vB (qa.num < 0), vna, vda], .agg #[vB (qb.num < 0), vnb, vdb]]) Try.func40 rfl rfl (Nat.le_of_ble_eq_true rfl) hs ⟨rfl, rfl, trivial⟩ (gc_seq (gc_region (gl_newop (new_box (cs := [_, _, _]) rfl rfl) rfl rfl rfl ?_)))
 intro v2 r2 hr2
 obtain ⟨b2, rfl, rfl⟩ := hr2
 refine gl_newop (new_box (cs := [_, _, _]) rfl rfl) rfl rfl rfl ?_
 intro v3 r3 hr3
 obtain ⟨b3, rfl, rfl⟩ := hr3
 refine gl_newop (new_alloc (cs := [vB ((0 : Rat).num < 0), .slice none 0 0, .slice none 0 0]) info27 rfl (by simp only [zb]; rfl)) rfl rfl rfl ?_
 intro v4 r4 hr4
 obtain ⟨b4, rfl, rfl⟩ := hr4
 refine gl_nil (gq_then (gc_seq (gc_region (gv (ov_load_agg (vs := [_, _, _]) (.tail _ (.tail _ (.head _))) Try.underlying27 rfl size27 rfl rfl) rfl (gv (ov_load_agg (vs := [_, _, _]) (.tail _ (.head _)) Try.underlying27 rfl size27 rfl rfl) rfl (gv (ov_field_addr Try.underlying27 rfl Try.sizeOf4 rfl) rfl (gv (ov_load_var (.tail _ (.head _)) Try.isAgg4 rfl rfl) rfl ?_)))))))
 refine gl_call (vs := [_, _, _]) rfl rfl rfl rfl Try.call96 ⟨rfl, rfl, rfl, trivial⟩ (fun w hs => rat_addn hs hna hda hnb hdb (by omega) (by omega)) ?_
 intro v9 h1 hh1 hr9
 obtain ⟨vn9, vd9, rfl, hn9, hd9⟩ := hr9
 have hlq9 := lq_add qa (sgd (qb.num < 0) qb)
 have hls9 := lq_sgd (qb.num < 0) qb
 refine gl_upd (A := []) (r' := .var b4 27 [vB ((qa + sgd (qb.num < 0) qb).num < 0), vn9, vd9]) (upd_store_var (k := 0) (cs := [_, _, _]) (vs := [_, _, _]) rfl rfl rfl (ocr rfl (ocu hn9 (ocu hd9 oc0))) size27 (Nat.le_of_ble_eq_true rfl)) rfl rfl rfl (gl_nil (gq_then (gc_ret (gq_res (fun E S => run_res1 rfl (rv_agg (cs := [_, _, _]) (.head _) Try.underlying27 rfl size27 rfl) E S) ?_))))
 rw [sgd_self] at hn9 hd9 ⊢
 exact ⟨_, _, rfl, hn9, hd9⟩

theorem rat_sub {w0 : World} {h0 : Mem}  (hs : MLe h0 (mem w0)) {qa : Rat} {vna vda : Value} (hna : Us .u32 h0 vna (limbs qa.num.natAbs)) (hda : Us .u32 h0 vda (limbs (denN qa.den))) {qb : Rat} {vnb vdb : Value} (hnb : Us .u32 h0 vnb (limbs qb.num.natAbs)) (hdb : Us .u32 h0 vdb (limbs (denN qb.den))) (hqa : lq qa ≤ 100000000000) (hqb : lq qb ≤ 100000000000)  :
    Calls Try.prog 42 #[.agg #[vB (qa.num < 0), vna, vda], .agg #[vB (qb.num < 0), vnb, vdb]] w0 (Ret w0 h0 (fun h r => IsRat h r (qa - qb))) := by
 have hlna := lq_num qa
 have hlda := lq_den qa
 have hlDa := lq_denL qa
 have hlnb := lq_num qb
 have hldb := lq_den qb
 have hlDb := lq_denL qb
 refine calls_begin (n := 11) (e := [(0, .agg #[vB (qa.num < 0), vna, vda]), (1, .agg #[vB (qb.num < 0), vnb, vdb])]) (vs := [.agg #[vB (qa.num < 0), vna, vda], .agg #[vB (qb.num < 0), vnb, vdb]]) Try.func42 rfl rfl (Nat.le_of_ble_eq_true rfl) hs ⟨rfl, rfl, trivial⟩ (gc_seq (gc_region (gl_newop (new_box (cs := [_, _, _]) rfl rfl) rfl rfl rfl ?_)))
 intro v2 r2 hr2
 obtain ⟨b2, rfl, rfl⟩ := hr2
 refine gl_newop (new_box (cs := [_, _, _]) rfl rfl) rfl rfl rfl ?_
 intro v3 r3 hr3
 obtain ⟨b3, rfl, rfl⟩ := hr3
 refine gl_newop (new_alloc (cs := [vB ((0 : Rat).num < 0), .slice none 0 0, .slice none 0 0]) info27 rfl (by simp only [zb]; rfl)) rfl rfl rfl ?_
 intro v4 r4 hr4
 obtain ⟨b4, rfl, rfl⟩ := hr4
 refine gl_nil (gq_then (gc_seq (gc_region (gv (ov_load_agg (vs := [_, _, _]) (.tail _ (.tail _ (.head _))) Try.underlying27 rfl size27 rfl rfl) rfl (gv (ov_load_agg (vs := [_, _, _]) (.tail _ (.head _)) Try.underlying27 rfl size27 rfl rfl) rfl (gv (ov_field_addr Try.underlying27 rfl Try.sizeOf4 rfl) rfl (gv (ov_load_var (.tail _ (.head _)) Try.isAgg4 rfl rfl) rfl (gv (ov_not rfl) rfl ?_))))))))
 refine gl_call (vs := [_, _, _]) rfl rfl rfl rfl Try.call96 ⟨rfl, rfl, rfl, trivial⟩ (fun w hs => rat_addn hs hna hda hnb hdb (by omega) (by omega)) ?_
 intro v10 h1 hh1 hr10
 obtain ⟨vn10, vd10, rfl, hn10, hd10⟩ := hr10
 have hlq10 := lq_add qa (sgd (¬ (qb.num < 0)) qb)
 have hls10 := lq_sgd (¬ (qb.num < 0)) qb
 refine gl_upd (A := []) (r' := .var b4 27 [vB ((qa + sgd (¬ (qb.num < 0)) qb).num < 0), vn10, vd10]) (upd_store_var (k := 0) (cs := [_, _, _]) (vs := [_, _, _]) rfl rfl rfl (ocr rfl (ocu hn10 (ocu hd10 oc0))) size27 (Nat.le_of_ble_eq_true rfl)) rfl rfl rfl (gl_nil (gq_keep (e' := [(4, _)]) ⟨rfl, trivial⟩ (gq_then (gc_ret (gq_res (fun E S => run_res1 rfl (rv_agg (cs := [_, _, _]) (.head _) Try.underlying27 rfl size27 rfl) E S) ?_)))))
 rw [sgd_neg, ← Rat.sub_eq_add_neg] at hn10 hd10 ⊢
 exact ⟨_, _, rfl, hn10, hd10⟩

theorem rat_bits {w0 : World} {h0 : Mem}  (hs : MLe h0 (mem w0)) {qa : Rat} {vna vda : Value} (hna : Us .u32 h0 vna (limbs qa.num.natAbs)) (hda : Us .u32 h0 vda (limbs (denN qa.den))) (hqa : lq qa ≤ 100000000000)  :
    Calls Try.prog 36 #[.agg #[vB (qa.num < 0), vna, vda]] w0 (Ret w0 h0 (fun _ r => r = vI (bitsQ qa))) := by
 have hlna := lq_num qa
 have hlda := lq_den qa
 have hlDa := lq_denL qa
 refine calls_begin (n := 10) (e := [(0, .agg #[vB (qa.num < 0), vna, vda])]) (vs := [.agg #[vB (qa.num < 0), vna, vda]]) Try.func36 rfl rfl (Nat.le_of_ble_eq_true rfl) hs ⟨rfl, trivial⟩ (gc_seq (gc_region (gl_newop (new_box (cs := [_, _, _]) rfl rfl) rfl rfl rfl ?_)))
 intro v1 r1 hr1
 obtain ⟨b1, rfl, rfl⟩ := hr1
 refine asg (v := vI (0)) rfl rfl (gl_nil (gq_then (gc_seq ?_)))
 refine gc_draw 8 _ [] [(0, .q), (1, .q), (3, .q), (2, .c), (4, .c), (5, .c), (6, .q), (7, .q)] mixed (fun x hx => by cases hx) (by kernel_rfl) (fun x hx => by cases hx) (fun r hr => hr) (w_q rfl (fun h' L' hh hR => ov_field_addr Try.underlying27 rfl Try.sizeOf22 rfl) rfl (w_q rfl (fun h' L' hh hR => ov_load_var (hR _ (.head _)) Try.isAgg22 rfl rfl) rfl (w_q rfl (fun h' L' hh hR => ov_load_agg (vs := [_, _, _]) (hR _ (.head _)) Try.underlying27 rfl size27 rfl rfl) rfl ?_)))
 refine w_c rfl ?_
 refine s_call (vs := [_]) Try.call64 ⟨rfl, trivial⟩ (fun w hs => nat_bits hs hna (by omega)) rfl ?_
 intro v5 h1 hh1 hr5
 try simp only [val_limbs] at hr5
 subst hr5
 refine w_c rfl ?_
 replace hna := hna.mono hh1
 replace hda := hda.mono hh1
 refine s_call (vs := [_]) Try.call80 ⟨rfl, trivial⟩ (fun w hs => rat_den hs hna hda) rfl ?_
 intro v7 h2 hh2 hr7
 rw [denL_den] at hr7
 refine w_c rfl ?_
 refine s_call (vs := [_]) Try.call64 ⟨rfl, trivial⟩ (fun w hs => nat_bits hs hr7 (by omega)) rfl ?_
 intro v8 h3 hh3 hr8
 try simp only [val_limbs] at hr8
 subst hr8
 refine w_q rfl (fun h' L' hh hR => ov_max_i rfl rfl) rfl (w_q rfl (fun h' L' hh hR => ov_assign rfl) rfl (w_nil (gq_then (gc_ret (gq_body1 rfl rfl ?_)))))
 rfl

theorem rat_floorn {w0 : World} {h0 : Mem}  (hs : MLe h0 (mem w0)) {s : Prop} {vn vd : Value} {X Y : Nat} (hn : Us .u32 h0 vn (limbs X)) (hd : Us .u32 h0 vd (limbs Y)) (hY : Y ≠ 0) (hl : (limbs X).length ≤ 200000000000) (hl' : (limbs Y).length ≤ 200000000000) :
    Calls Try.prog 88 #[vB s, vn, vd] w0 (Ret w0 h0 (fun h r => IsRat h r (floorQ (mkRat (sg s X) Y)))) := by
 refine calls_begin (n := 33) (e := [(0, vB s), (1, vn), (2, vd)]) (vs := [vB s, vn, vd]) Try.func88 rfl rfl (Nat.le_of_ble_eq_true rfl) hs ⟨rfl, rfl, rfl, trivial⟩ (gc_seq (gc_region (gl_newop (new_alloc (cs := [vB ((0 : Rat).num < 0), .slice none 0 0, .slice none 0 0]) info27 rfl (by simp only [zb]; rfl)) rfl rfl rfl ?_)))
 intro v6 r6 hr6
 obtain ⟨b6, rfl, rfl⟩ := hr6
 refine gl_nil (gq_then (gc_seq (gc_region (mv rfl rfl (mv rfl rfl ?_)))))
 refine gl_call (vs := [_, _]) rfl rfl rfl rfl Try.call104 ⟨rfl, rfl, trivial⟩ (fun w hs => nat_div hs hn hd (by omega) (by omega)) ?_
 intro v13 h1 hh1 hr13
 obtain ⟨q13, r13, rfl, hq13, hr13⟩ := hr13
 try simp only [val_limbs] at hq13 hr13 ⊢
 have hlm13 := limbs_len_mono (Nat.div_le_self ((X)) ((Y)))
 rw [if_neg hY] at hr13 ⊢
 have hlmm := limbs_len_mono (Nat.mod_le X Y)
 refine mv rfl rfl (gv (ov_extract (vs := [_, _, _]) rfl rfl) rfl (gv (ov_extract (vs := [_, _, _]) rfl rfl) rfl (gv (ov_extract (vs := [_, _, _]) rfl rfl) rfl (asg rfl rfl (asg rfl rfl (asg rfl rfl (gl_nil (gq_then (gc_seq (gc_seq (gc_region (mv rfl rfl (gv (ov_neq_i (q := 0) rfl rfl) rfl ?_)))))))))))))
 refine gl_nil (gq_keep (e' := [(0, _), (6, _), (7, _), (8, _), (18, _)]) ⟨rfl, rfl, rfl, rfl, rfl, trivial⟩ (gq_then ?_))
 refine gc_cond rfl (fun hc18 => ?_) (fun hc18 => ?_)
 ·
  exact absurd rfl hc18
 ·
  refine gc_skip (gq_then (gc_seq (gc_seq (gc_region (mv rfl rfl ?_)))))
  refine gl_cut (ι := Mem) 5 (fun m_ => MLe h1 m_) (fun _ => [(25, vB ((s) ∧ ((0 : Int) < (↑(bitsN (((X % Y)))) : Int)))), (0, vB s), (6, vP b6 0), (7, q13)]) (fun _ => [.var b6 27 [vB ((0 : Rat).num < 0), .slice none 0 0, .slice none 0 0]]) (fun m_ => m_) ?_ ?_
  ·
   refine gl_cases (s) (fun hg => ?_) (fun hg => ?_)
   ·
    refine gl_val (ov_move (v := .bool true) (congrArg some (vB_true hg))) rfl rfl rfl (gl_on rfl rfl rfl (mv rfl rfl (gl_on rfl rfl rfl ?_)))
    refine gl_call (vs := [_]) rfl rfl rfl rfl Try.call64 ⟨rfl, trivial⟩ (fun w hs => nat_bits hs hr13 (by omega)) ?_
    intro v23 h2 hh2 hr23
    try simp only [val_limbs] at hr23
    subst hr23
    refine gl_on rfl rfl rfl (gv (ov_gtr_i (q := 0) rfl rfl) rfl (gv (ov_pick_t rfl rfl) rfl (gl_nil ?_)))
    refine gq_cut h2 hh2 ⟨?_, rfl, rfl, rfl, trivial⟩ rfl rfl
    exact congrArg some (vB_and_t hg)
   ·
    refine gl_val (ov_move (v := .bool false) (congrArg some (vB_false hg))) rfl rfl rfl (gl_off rfl rfl rfl rfl rfl rfl (gl_off rfl rfl rfl rfl rfl rfl (gl_off rfl rfl rfl rfl rfl rfl (gv (ov_pick_f rfl rfl) rfl (gl_nil ?_)))))
    refine gq_cut h1 (MLe.refl _) ⟨?_, rfl, rfl, rfl, trivial⟩ rfl rfl
    exact congrArg some (vB_and_f hg)
  ·
   intro mg4_1 hmmg4_1
   show GL _ _ _ _ _ _ _ [(25, vB ((s) ∧ ((0 : Int) < (↑(bitsN (((X % Y)))) : Int)))), (0, vB s), (6, vP b6 0), (7, q13)] [.var b6 27 [vB ((0 : Rat).num < 0), .slice none 0 0, .slice none 0 0]] mg4_1
   refine gl_nil (gq_then ?_)
   refine gc_cond rfl (fun hc25 => ?_) (fun hc25 => ?_)
   ·
    refine gc_region (mv rfl rfl ?_)
    refine gl_call (vs := []) rfl rfl rfl rfl Try.call63 trivial (fun w hs => rat_one hs) ?_
    intro v27 h2 hh2 hr27
    rw [one_limbs] at hr27
    have hlm27 := len_one
    replace hq13 := hq13.mono (hmmg4_1.trans hh2)
    refine gl_call (vs := [_, _]) rfl rfl rfl rfl Try.call105 ⟨rfl, rfl, trivial⟩ (fun w hs => nat_add hs hq13 hr27 (by omega) (by omega)) ?_
    intro v28 h3 hh3 hr28
    try simp only [val_limbs] at hr28
    have hlm28 := limbs_len_add (((((X)) / ((Y))))) ((1))
    refine asg rfl rfl (gl_nil (gq_then (gc_seq (gc_region (mv rfl rfl (mv rfl rfl ?_))))))
    refine gl_call (vs := []) rfl rfl rfl rfl Try.call63 trivial (fun w hs => rat_one hs) ?_
    intro v31 h4 hh4 hr31
    rw [one_limbs] at hr31
    have hlm31 := len_one
    replace hr28 := hr28.mono hh4
    refine gl_call (vs := [_, _, _]) rfl rfl rfl rfl Try.call68 ⟨rfl, rfl, rfl, trivial⟩ (fun w hs => rat_reduce hs hr28 hr31 (by omega) (by omega)) ?_
    intro v32 h5 hh5 hr32
    try simp only [val_limbs] at hr32
    obtain ⟨vn32, vd32, rfl, hn32, hd32⟩ := hr32
    refine gl_upd (A := []) (r' := .var b6 27 [vB ((mkRat (sg (s) ((((((((X)) / ((Y))))) + ((1)))))) ((1))).num < 0), vn32, vd32]) (upd_store_var (k := 0) (cs := [_, _, _]) (vs := [_, _, _]) rfl rfl rfl (ocr rfl (ocu hn32 (ocu hd32 oc0))) size27 (Nat.le_of_ble_eq_true rfl)) rfl rfl rfl (gl_nil (gq_keep (e' := [(6, _)]) ⟨rfl, trivial⟩ (gq_then (gc_ret (gq_res (fun E S => run_res1 rfl (rv_agg (cs := [_, _, _]) (.head _) Try.underlying27 rfl size27 rfl) E S) ?_)))))
    rw [floor_fin hY hc25] at hn32 hd32 ⊢
    exact ⟨_, _, rfl, hn32, hd32⟩
   ·
    refine gc_skip (gq_then (gc_seq (gc_region (mv rfl rfl (mv rfl rfl ?_)))))
    refine gl_call (vs := []) rfl rfl rfl rfl Try.call63 trivial (fun w hs => rat_one hs) ?_
    intro v31 h2 hh2 hr31
    rw [one_limbs] at hr31
    have hlm31 := len_one
    replace hq13 := hq13.mono (hmmg4_1.trans hh2)
    refine gl_call (vs := [_, _, _]) rfl rfl rfl rfl Try.call68 ⟨rfl, rfl, rfl, trivial⟩ (fun w hs => rat_reduce hs hq13 hr31 (by omega) (by omega)) ?_
    intro v32 h3 hh3 hr32
    try simp only [val_limbs] at hr32
    obtain ⟨vn32, vd32, rfl, hn32, hd32⟩ := hr32
    refine gl_upd (A := []) (r' := .var b6 27 [vB ((mkRat (sg (s) (((((X)) / ((Y)))))) ((1))).num < 0), vn32, vd32]) (upd_store_var (k := 0) (cs := [_, _, _]) (vs := [_, _, _]) rfl rfl rfl (ocr rfl (ocu hn32 (ocu hd32 oc0))) size27 (Nat.le_of_ble_eq_true rfl)) rfl rfl rfl (gl_nil (gq_then (gc_ret (gq_res (fun E S => run_res1 rfl (rv_agg (cs := [_, _, _]) (.head _) Try.underlying27 rfl size27 rfl) E S) ?_))))
    rw [floor_fin' hY hc25] at hn32 hd32 ⊢
    exact ⟨_, _, rfl, hn32, hd32⟩

theorem rat_floor {w0 : World} {h0 : Mem}  (hs : MLe h0 (mem w0)) {qa : Rat} {vna vda : Value} (hna : Us .u32 h0 vna (limbs qa.num.natAbs)) (hda : Us .u32 h0 vda (limbs (denN qa.den))) (hqa : lq qa ≤ 100000000000)  :
    Calls Try.prog 30 #[.agg #[vB (qa.num < 0), vna, vda]] w0 (Ret w0 h0 (fun h r => IsRat h r (floorQ qa))) := by
 have hlna := lq_num qa
 have hlda := lq_den qa
 have hlDa := lq_denL qa
 refine calls_begin (n := 10) (e := [(0, .agg #[vB (qa.num < 0), vna, vda])]) (vs := [.agg #[vB (qa.num < 0), vna, vda]]) Try.func30 rfl rfl (Nat.le_of_ble_eq_true rfl) hs ⟨rfl, trivial⟩ (gc_seq (gc_region (gl_newop (new_box (cs := [_, _, _]) rfl rfl) rfl rfl rfl ?_)))
 intro v1 r1 hr1
 obtain ⟨b1, rfl, rfl⟩ := hr1
 refine gl_newop (new_alloc (cs := [vB ((0 : Rat).num < 0), .slice none 0 0, .slice none 0 0]) info27 rfl (by simp only [zb]; rfl)) rfl rfl rfl ?_
 intro v2 r2 hr2
 obtain ⟨b2, rfl, rfl⟩ := hr2
 refine gl_nil (gq_then (gc_seq ?_))
 refine gc_draw 7 _ [] [(0, .q), (1, .q), (2, .q), (3, .q), (4, .q), (5, .c), (6, .c), (7, .t)] mixed (fun x hx => by cases hx) (by kernel_rfl) (fun x hx => by cases hx) (fun r hr => hr) (w_q rfl (fun h' L' hh hR => ov_field_addr Try.underlying27 rfl Try.sizeOf4 rfl) rfl (w_q rfl (fun h' L' hh hR => ov_load_var (hR _ (.tail _ (.head _))) Try.isAgg4 rfl rfl) rfl (w_q rfl (fun h' L' hh hR => ov_field_addr Try.underlying27 rfl Try.sizeOf22 rfl) rfl (w_q rfl (fun h' L' hh hR => ov_load_var (hR _ (.tail _ (.head _))) Try.isAgg22 rfl rfl) rfl (w_q rfl (fun h' L' hh hR => ov_load_agg (vs := [_, _, _]) (hR _ (.tail _ (.head _))) Try.underlying27 rfl size27 rfl rfl) rfl ?_)))))
 refine w_c rfl ?_
 refine s_call (vs := [_]) Try.call80 ⟨rfl, trivial⟩ (fun w hs => rat_den hs hna hda) rfl ?_
 intro v8 h1 hh1 hr8
 rw [denL_den] at hr8
 refine w_c rfl ?_
 replace hna := hna.mono hh1
 refine s_call (vs := [_, _, _]) Try.call88 ⟨rfl, rfl, rfl, trivial⟩ (fun w hs => rat_floorn hs hna hr8 (by first | omega | exact Rat.den_nz _) (by omega) (by omega)) rfl ?_
 intro v9 h2 hh2 hr9
 obtain ⟨vn9, vd9, rfl, hn9, hd9⟩ := hr9
 have hlq9 := lq_floor (mkRat (sg (qa.num < 0) (qa.num.natAbs)) (qa.den))
 refine w_t_upd (A := []) (q' := .var b2 27 [vB ((floorQ (mkRat (sg (qa.num < 0) (qa.num.natAbs)) (qa.den))).num < 0), vn9, vd9]) rfl (upd_store_var (k := 0) (cs := [_, _, _]) (vs := [_, _, _]) rfl rfl rfl (ocr rfl (ocu hn9 (ocu hd9 oc0))) size27 (Nat.le_of_ble_eq_true rfl)) rfl (w_nil (gq_then (gc_ret (gq_res (fun E S => run_res1 rfl (rv_agg (cs := [_, _, _]) (.head _) Try.underlying27 rfl size27 rfl) E S) ?_))))
 rw [mk_self] at hn9 hd9 ⊢
 exact ⟨_, _, rfl, hn9, hd9⟩

theorem rat_make {w0 : World} {h0 : Mem}  (hs : MLe h0 (mem w0)) {n : Int} (hn1 : -9223372036854775808 ≤ n) (hn2 : n < 9223372036854775808) {d : Int} (hd1 : -9223372036854775808 ≤ d) (hd2 : d < 9223372036854775808) :
    Calls Try.prog 21 #[vI n, vI d] w0 (Ret w0 h0 (fun h r => ∃ u, r = .tuple #[u, vI (if d = 0 then 3 else 0)] ∧ IsRat h u (makeQ n d))) := by
 refine calls_begin (n := 19) (e := [(0, vI n), (1, vI d)]) (vs := [vI n, vI d]) Try.func21 rfl rfl (Nat.le_of_ble_eq_true rfl) hs ⟨rfl, rfl, trivial⟩ (gc_seq (gc_region (gl_newop (new_alloc (cs := [vB ((0 : Rat).num < 0), .slice none 0 0, .slice none 0 0]) info27 rfl (by simp only [zb]; rfl)) rfl rfl rfl ?_)))
 intro v4 r4 hr4
 obtain ⟨b4, rfl, rfl⟩ := hr4
 refine asg (v := vI (0)) rfl rfl (gl_nil (gq_then (gc_seq (gc_seq (gc_region (mv rfl rfl (gv (ov_eql_i (q := 0) rfl rfl) rfl (gl_nil (gq_then ?_)))))))))
 refine gc_cond rfl (fun hc7 => ?_) (fun hc7 => ?_)
 ·
  refine gc_seq (gc_region (gv (ov_build_parts (ps' := []) (vs := [vB ((0 : Rat).num < 0), .slice none 0 0, .slice none 0 0]) Try.underlying27 info27 rfl (places27 Try.underlying27) trivial (by simp only [zb]; rfl)) rfl (gl_upd (A := []) (r' := .var b4 27 [vB ((0 : Rat).num < 0), .slice none 0 0, .slice none 0 0]) (upd_store_var (k := 0) (cs := [_, _, _]) (vs := [_, _, _]) rfl rfl rfl rfl size27 (Nat.le_of_ble_eq_true rfl)) rfl rfl rfl (asg (v := vI (3)) rfl rfl (gl_nil (gq_then (gc_ret (gr_then (gq_res (fun E S => run_res2 rfl (rv_agg (cs := [_, _, _]) (.head _) Try.underlying27 rfl size27 rfl) (rv_tmp rfl) E S) ?_)))))))))
  rw [if_pos hc7, hc7, makeQ_zero]
  exact ⟨_, rfl, IsRat.zero _⟩
 ·
  refine gc_skip (gq_then (gc_seq (gc_region (mv rfl rfl (gv (ov_lss_i (q := 0) rfl rfl) rfl (mv rfl rfl (gv (ov_lss_i (q := 0) rfl rfl) rfl (gv (ov_neq_b Try.underlying4 rfl rfl) rfl (mv rfl rfl ?_)))))))))
  refine gl_call (vs := [_]) rfl rfl rfl rfl Try.call78 ⟨rfl, trivial⟩ (fun w hs => rat_size hs (by omega) (by omega)) ?_
  intro v15 h1 hh1 hr15
  have hlm15 := limbs_len_i64 (n := n) (by omega) (by omega)
  refine mv rfl rfl ?_
  refine gl_call (vs := [_]) rfl rfl rfl rfl Try.call78 ⟨rfl, trivial⟩ (fun w hs => rat_size hs (by omega) (by omega)) ?_
  intro v17 h2 hh2 hr17
  have hlm17 := limbs_len_i64 (n := d) (by omega) (by omega)
  replace hr15 := hr15.mono hh2
  refine gl_call (vs := [_, _, _]) rfl rfl rfl rfl Try.call68 ⟨rfl, rfl, rfl, trivial⟩ (fun w hs => rat_reduce hs hr15 hr17 (by omega) (by omega)) ?_
  intro v18 h3 hh3 hr18
  try simp only [val_limbs] at hr18
  obtain ⟨vn18, vd18, rfl, hn18, hd18⟩ := hr18
  refine gl_upd (A := []) (r' := .var b4 27 [vB ((mkRat (sg (¬ ((n < (0 : Int)) ↔ (d < (0 : Int)))) (((n).natAbs))) (((d).natAbs))).num < 0), vn18, vd18]) (upd_store_var (k := 0) (cs := [_, _, _]) (vs := [_, _, _]) rfl rfl rfl (ocr rfl (ocu hn18 (ocu hd18 oc0))) size27 (Nat.le_of_ble_eq_true rfl)) rfl rfl rfl (asg (v := vI (0)) rfl rfl (gl_nil (gq_keep (e' := [(4, _), (5, _)]) ⟨rfl, rfl, trivial⟩ (gq_then (gc_ret (gq_res (fun E S => run_res2 rfl (rv_agg (cs := [_, _, _]) (.head _) Try.underlying27 rfl size27 rfl) (rv_tmp rfl) E S) ?_))))))
  rw [if_neg hc7, ← makeQ_eq hc7]
  exact ⟨_, rfl, _, _, rfl, hn18, hd18⟩

theorem rat_down {w0 : World} {h0 : Mem}  (hs : MLe h0 (mem w0)) {qa : Rat} {vna vda : Value} (hna : Us .u32 h0 vna (limbs qa.num.natAbs)) (hda : Us .u32 h0 vda (limbs (denN qa.den))) (hqa : lq qa ≤ 10000000000) {k : Int} (hk1 : -9223372036854775808 ≤ k) (hk2 : k < 9223372036854775808) :
    Calls Try.prog 32 #[.agg #[vB (qa.num < 0), vna, vda], vI k] w0 (Ret w0 h0 (fun h r => IsRat h r (downQ qa k))) := by
 have hlna := lq_num qa
 have hlda := lq_den qa
 have hlDa := lq_denL qa
 have hpl := pow_len (kN_le k)
 have hml := limbs_len_mul qa.num.natAbs (2 ^ kN k)
 have hp0 : 2 ^ kN k ≠ 0 := Nat.ne_of_gt (Nat.pow_pos (by omega))
 refine calls_begin (n := 38) (e := [(0, .agg #[vB (qa.num < 0), vna, vda]), (1, vI k)]) (vs := [.agg #[vB (qa.num < 0), vna, vda], vI k]) Try.func32 rfl rfl (Nat.le_of_ble_eq_true rfl) hs ⟨rfl, rfl, trivial⟩ (gc_seq (gc_region (gl_newop (new_box (cs := [_, _, _]) rfl rfl) rfl rfl rfl ?_)))
 intro v2 r2 hr2
 obtain ⟨b2, rfl, rfl⟩ := hr2
 refine gl_newop (new_alloc (cs := [vB ((0 : Rat).num < 0), .slice none 0 0, .slice none 0 0]) info27 rfl (by simp only [zb]; rfl)) rfl rfl rfl ?_
 intro v4 r4 hr4
 obtain ⟨b4, rfl, rfl⟩ := hr4
 refine gl_nil (gq_then (gc_seq (gc_region (mv rfl rfl (gv (ov_max_i (q := 0) rfl rfl) rfl (gv (ov_min_i (q := 4096) rfl rfl) rfl (asg rfl rfl (gl_nil (gq_then (gc_seq (gc_region (gv (ov_field_addr Try.underlying27 rfl Try.sizeOf22 rfl) rfl (gv (ov_load_var (.tail _ (.head _)) Try.isAgg22 rfl rfl) rfl ?_)))))))))))))
 refine mv rfl rfl ?_
 refine gl_call (vs := [_, _]) rfl rfl rfl rfl Try.call90 ⟨rfl, rfl, trivial⟩ (fun w hs => nat_shift hs hna (by omega) (by omega) (by omega)) ?_
 intro v17 h1 hh1 hr17
 obtain ⟨u17, rfl, hu17⟩ := hr17
 try simp only [val_limbs] at hu17
 rw [shN_k] at hu17
 rw [shE_k]
 refine mv rfl rfl (gv (ov_extract (vs := [_, _]) rfl rfl) rfl (gv (ov_extract (vs := [_, _]) rfl rfl) rfl (asg rfl rfl (asg rfl rfl (gl_nil (gq_keep (e' := [(2, _), (4, _), (1, _), (5, _)]) ⟨rfl, rfl, rfl, rfl, trivial⟩ (gq_then (gc_seq (gc_region ?_)))))))))
 refine gl_call (vs := []) rfl rfl rfl rfl Try.call63 trivial (fun w hs => rat_one hs) ?_
 intro v21 h2 hh2 hr21
 rw [one_limbs] at hr21
 have hlm21 := len_one
 refine mv rfl rfl ?_
 refine gl_call (vs := [_, _]) rfl rfl rfl rfl Try.call90 ⟨rfl, rfl, trivial⟩ (fun w hs => nat_shift hs hr21 (by omega) (by omega) (by omega)) ?_
 intro v23 h3 hh3 hr23
 obtain ⟨u23, rfl, hu23⟩ := hr23
 try simp only [val_limbs] at hu23
 rw [shN_k1] at hu23
 rw [shE_k]
 refine mv rfl rfl (gv (ov_extract (vs := [_, _]) rfl rfl) rfl (gv (ov_extract (vs := [_, _]) rfl rfl) rfl (asg rfl rfl (asg rfl rfl (gl_nil (gq_then (gc_seq ?_)))))))
 refine gc_draw 7 _ [(6, (9, 27, [vB ((0 : Rat).num < 0), .slice none 0 0, .slice none 0 0]))] [(0, .q), (1, .q), (2, .q), (3, .q), (4, .c), (5, .c), (6, .a), (7, .t)] mixed (AlOk.cons rfl (zero_run info27 rfl (by simp only [zb]; rfl)) AlOk.nil) (by kernel_rfl) (hae_cons rfl rfl hae_nil) (fun r hr => hr) (w_q rfl (fun h' L' hh hR => ov_field_addr Try.underlying27 rfl Try.sizeOf4 rfl) rfl (w_q rfl (fun h' L' hh hR => ov_load_var (hR _ (.tail _ (.head _))) Try.isAgg4 rfl rfl) rfl (w_q rfl (fun h' L' hh hR => ov_move rfl) rfl (w_q rfl (fun h' L' hh hR => ov_load_agg (vs := [_, _, _]) (hR _ (.tail _ (.head _))) Try.underlying27 rfl size27 rfl rfl) rfl ?_))))
 refine w_c rfl ?_
 replace hna := hna.mono ((hh1.trans hh2).trans hh3)
 replace hda := hda.mono ((hh1.trans hh2).trans hh3)
 refine s_call (vs := [_]) Try.call80 ⟨rfl, trivial⟩ (fun w hs => rat_den hs hna hda) rfl ?_
 intro v30 h4 hh4 hr30
 rw [denL_den] at hr30
 refine w_c rfl ?_
 replace hu17 := hu17.mono ((hh2.trans hh3).trans hh4)
 refine s_call (vs := [_, _, _]) Try.call88 ⟨rfl, rfl, rfl, trivial⟩ (fun w hs => rat_floorn hs hu17 hr30 (by first | omega | exact Rat.den_nz _) (by omega) (by omega)) rfl ?_
 intro v31 h5 hh5 hr31
 rw [mul_pow] at hr31
 obtain ⟨vn31, vd31, rfl, hn31, hd31⟩ := hr31
 have hlq31 := lq_floor (qa * ((2 ^ kN k : Nat) : Rat))
 have hlqq31 := lq_qpow qa k
 have hlqn31 := lq_num (floorQ (qa * ((2 ^ kN k : Nat) : Rat)))
 refine w_a rfl (fun b9 => ?_)
 refine w_t_upd (A := []) (q' := .var b9 27 [vB ((floorQ (qa * ((2 ^ kN k : Nat) : Rat))).num < 0), vn31, vd31]) rfl (upd_store_var (k := 0) (cs := [_, _, _]) (vs := [_, _, _]) rfl rfl rfl (ocr rfl (ocu hn31 (ocu hd31 oc0))) size27 (Nat.le_of_ble_eq_true rfl)) rfl (w_nil (gq_keep (e' := [(4, _), (7, _), (9, _)]) ⟨rfl, rfl, rfl, trivial⟩ (gq_then (gc_seq (gc_region (gv (ov_field_addr Try.underlying27 rfl Try.sizeOf4 rfl) rfl (gv (ov_load_var (.head _) Try.isAgg4 rfl rfl) rfl (gv (ov_field_addr Try.underlying27 rfl Try.sizeOf22 rfl) rfl (gv (ov_load_var (.head _) Try.isAgg22 rfl rfl) rfl (mv rfl rfl ?_))))))))))
 replace hu23 := hu23.mono (hh4.trans hh5)
 refine gl_call (vs := [_, _, _]) rfl rfl rfl rfl Try.call68 ⟨rfl, rfl, rfl, trivial⟩ (fun w hs => rat_reduce hs hn31 hu23 (by omega) (by omega)) ?_
 intro v37 h6 hh6 hr37
 try simp only [val_limbs] at hr37
 obtain ⟨vn37, vd37, rfl, hn37, hd37⟩ := hr37
 refine gl_upd (A := [_]) (r' := .var b4 27 [vB ((mkRat (sg ((floorQ (qa * ((2 ^ kN k : Nat) : Rat))).num < 0) (((floorQ (qa * ((2 ^ kN k : Nat) : Rat))).num.natAbs))) (((2 ^ kN k)))).num < 0), vn37, vd37]) (upd_store_var (k := 0) (cs := [_, _, _]) (vs := [_, _, _]) rfl rfl rfl (ocr rfl (ocu hn37 (ocu hd37 oc0))) size27 (Nat.le_of_ble_eq_true rfl)) rfl rfl rfl (gl_nil (gq_then (gc_ret (gq_res (fun E S => run_res1 rfl (rv_agg (cs := [_, _, _]) (.tail _ (.head _)) Try.underlying27 rfl size27 rfl) E S) ?_))))
 rw [down_eq] at hn37 hd37 ⊢
 exact ⟨_, _, rfl, hn37, hd37⟩

theorem rat_up {w0 : World} {h0 : Mem}  (hs : MLe h0 (mem w0)) {qa : Rat} {vna vda : Value} (hna : Us .u32 h0 vna (limbs qa.num.natAbs)) (hda : Us .u32 h0 vda (limbs (denN qa.den))) (hqa : lq qa ≤ 10000000000) {k : Int} (hk1 : -9223372036854775808 ≤ k) (hk2 : k < 9223372036854775808) :
    Calls Try.prog 34 #[.agg #[vB (qa.num < 0), vna, vda], vI k] w0 (Ret w0 h0 (fun h r => IsRat h r (upQ qa k))) := by
 have hlna := lq_num qa
 have hlda := lq_den qa
 have hlDa := lq_denL qa
 refine calls_begin (n := 10) (e := [(0, .agg #[vB (qa.num < 0), vna, vda]), (1, vI k)]) (vs := [.agg #[vB (qa.num < 0), vna, vda], vI k]) Try.func34 rfl rfl (Nat.le_of_ble_eq_true rfl) hs ⟨rfl, rfl, trivial⟩ (gc_seq (gc_region (gl_newop (new_box (cs := [_, _, _]) rfl rfl) rfl rfl rfl ?_)))
 intro v2 r2 hr2
 obtain ⟨b2, rfl, rfl⟩ := hr2
 refine gl_newop (new_alloc (cs := [vB ((0 : Rat).num < 0), .slice none 0 0, .slice none 0 0]) info27 rfl (by simp only [zb]; rfl)) rfl rfl rfl ?_
 intro v4 r4 hr4
 obtain ⟨b4, rfl, rfl⟩ := hr4
 refine gl_nil (gq_then (gc_seq (gc_region (gv (ov_load_agg (vs := [_, _, _]) (.tail _ (.head _)) Try.underlying27 rfl size27 rfl rfl) rfl ?_))))
 refine gl_call (vs := [_]) rfl rfl rfl rfl Try.call50 ⟨rfl, trivial⟩ (fun w hs => rat_neg hs hna hda (by first | omega | exact Nat.le_trans (lq_num _) (by omega)) (by first | omega | exact Nat.le_trans (lq_denL _) (by omega))) ?_
 intro v6 h1 hh1 hr6
 obtain ⟨vn6, vd6, rfl, hn6, hd6⟩ := hr6
 have hlq6 := lq_neg qa
 refine mv rfl rfl ?_
 refine gl_call (vs := [_, _]) rfl rfl rfl rfl Try.call32 ⟨rfl, rfl, trivial⟩ (fun w hs => rat_down hs hn6 hd6 (by omega) (by omega) (by omega)) ?_
 intro v8 h2 hh2 hr8
 obtain ⟨vn8, vd8, rfl, hn8, hd8⟩ := hr8
 have hlq8 := lq_down (-qa) k
 refine gl_call (vs := [_]) rfl rfl rfl rfl Try.call50 ⟨rfl, trivial⟩ (fun w hs => rat_neg hs hn8 hd8 (by first | omega | exact Nat.le_trans (lq_num _) (by omega)) (by first | omega | exact Nat.le_trans (lq_denL _) (by omega))) ?_
 intro v9 h3 hh3 hr9
 obtain ⟨vn9, vd9, rfl, hn9, hd9⟩ := hr9
 have hlq9 := lq_neg (downQ (-qa) k)
 refine gl_upd (A := []) (r' := .var b4 27 [vB ((-(downQ (-qa) k)).num < 0), vn9, vd9]) (upd_store_var (k := 0) (cs := [_, _, _]) (vs := [_, _, _]) rfl rfl rfl (ocr rfl (ocu hn9 (ocu hd9 oc0))) size27 (Nat.le_of_ble_eq_true rfl)) rfl rfl rfl (gl_nil (gq_then (gc_ret (gq_res (fun E S => run_res1 rfl (rv_agg (cs := [_, _, _]) (.head _) Try.underlying27 rfl size27 rfl) E S) ?_))))
 exact ⟨_, _, rfl, hn9, hd9⟩

end Go.Proofs.Ytimoeckkdodogaa
