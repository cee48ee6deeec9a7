/- Contracts of functions, walked by their text (law2c/b). -/
import Derived.Test.YtimoeckkdodogaaL2
import Derived.Test.YtimoeckkdodogaaOrd
namespace Go.Proofs.Ytimoeckkdodogaa
open Bk Go
set_option linter.unusedVariables false
set_option linter.unusedSimpArgs false
set_option maxRecDepth 10000

theorem law2_field {w0 : World} {h0 : Mem}  (hs : MLe h0 (mem w0)) {sa : Prop} {ba vna vda : Value} {xa ya : List Nat} (hba : ba = vB sa) (hna : Us .u32 h0 vna xa) (hda : Us .u32 h0 vda ya) {sb : Prop} {bb vnb vdb : Value} {xb yb : List Nat} (hbb : bb = vB sb) (hnb : Us .u32 h0 vnb xb) (hdb : Us .u32 h0 vdb yb) {sc : Prop} {bc vnc vdc : Value} {xc yc : List Nat} (hbc : bc = vB sc) (hnc : Us .u32 h0 vnc xc) (hdc : Us .u32 h0 vdc yc)  :
    Calls Try.prog 9 #[.agg #[ba, vna, vda], .agg #[bb, vnb, vdb], .agg #[bc, vnc, vdc]] w0 (Ret w0 h0 (fun _ r => r = .bool true)) := by
 subst hba
 subst hbb
 subst hbc
 have hlxa := limbs_len_le hna.lt
 have hlya := dV_len ya hda.lt
 have hlxb := limbs_len_le hnb.lt
 have hlyb := dV_len yb hdb.lt
 have hlxc := limbs_len_le hnc.lt
 have hlyc := dV_len yc hdc.lt
 refine calls_begin (n := 119) (e := [(0, .agg #[vB sa, vna, vda]), (1, .agg #[vB sb, vnb, vdb]), (2, .agg #[vB sc, vnc, vdc])]) (vs := [.agg #[vB sa, vna, vda], .agg #[vB sb, vnb, vdb], .agg #[vB sc, vnc, vdc]]) Try.func9 rfl rfl (Nat.le_of_ble_eq_true rfl) hs ⟨rfl, rfl, rfl, trivial⟩ (gc_seq (gc_region (gl_newop (new_box (cs := [_, _, _]) rfl rfl) rfl rfl rfl ?_)))
 intro v3 r3 hr3
 obtain ⟨b3, rfl, rfl⟩ := hr3
 refine gl_newop (new_box (cs := [_, _, _]) rfl rfl) rfl rfl rfl ?_
 intro v4 r4 hr4
 obtain ⟨b4, rfl, rfl⟩ := hr4
 refine gl_newop (new_box (cs := [_, _, _]) rfl rfl) rfl rfl rfl ?_
 intro v5 r5 hr5
 obtain ⟨b5, rfl, rfl⟩ := hr5
 refine asg rfl rfl (gl_nil (gq_then (gc_seq (gc_seq (gc_region (gv (ov_load_agg (vs := [_, _, _]) (.tail _ (.tail _ (.head _))) Try.underlying24 rfl size24 rfl rfl) rfl ?_))))))
 refine gl_call (vs := [_]) rfl rfl rfl rfl Try.call13 ⟨rfl, trivial⟩ (fun w hs => law2_light hs rfl hna hda) ?_
 intro v13 h1 hh1 hr13
 subst hr13
 refine gv (ov_not rfl) rfl ?_
 refine gl_cut (ι := Mem) 5 (fun m_ => MLe h1 m_) (fun _ => [(19, vB ((¬ ((↑((xa)).length : Int) ≤ 16 ∧ (↑((ya)).length : Int) ≤ 16)) ∨ (¬ ((↑((xb)).length : Int) ≤ 16 ∧ (↑((yb)).length : Int) ≤ 16)))), (3, vP b3 0), (4, vP b4 0), (5, vP b5 0)]) (fun _ => [.var b5 24 [vB sc, vnc, vdc], .var b4 24 [vB sb, vnb, vdb], .var b3 24 [vB sa, vna, vda]]) (fun m_ => m_) ?_ ?_
 ·
  refine gl_cases (¬ ((↑((xa)).length : Int) ≤ 16 ∧ (↑((ya)).length : Int) ≤ 16)) (fun hg => ?_) (fun hg => ?_)
  ·
   refine gl_val (ov_move (v := .bool true) (congrArg some (vB_true hg))) rfl rfl rfl (gl_off rfl rfl rfl rfl rfl rfl (gl_off rfl rfl rfl rfl rfl rfl (gl_off rfl rfl rfl rfl rfl rfl (gv (ov_pick_t rfl rfl) rfl (gl_nil ?_)))))
   refine gq_cut h1 (MLe.refl _) ⟨?_, rfl, rfl, rfl, trivial⟩ rfl rfl
   exact congrArg some (vB_or_t hg)
  ·
   refine gl_val (ov_move (v := .bool false) (congrArg some (vB_false hg))) rfl rfl rfl (gl_on rfl rfl rfl (gv (ov_load_agg (vs := [_, _, _]) (.tail _ (.head _)) Try.underlying24 rfl size24 rfl rfl) rfl (gl_on rfl rfl rfl ?_)))
   replace hnb := hnb.mono hh1
   replace hdb := hdb.mono hh1
   refine gl_call (vs := [_]) rfl rfl rfl rfl Try.call13 ⟨rfl, trivial⟩ (fun w hs => law2_light hs rfl hnb hdb) ?_
   intro v17 h2 hh2 hr17
   subst hr17
   refine gl_on rfl rfl rfl (gv (ov_not rfl) rfl (gv (ov_pick_f rfl rfl) rfl (gl_nil ?_)))
   refine gq_cut h2 hh2 ⟨?_, rfl, rfl, rfl, trivial⟩ rfl rfl
   exact congrArg some (vB_or_f hg)
 ·
  intro mg1_3 hmmg1_3
  show GL _ _ _ _ _ _ _ [(19, vB ((¬ ((↑((xa)).length : Int) ≤ 16 ∧ (↑((ya)).length : Int) ≤ 16)) ∨ (¬ ((↑((xb)).length : Int) ≤ 16 ∧ (↑((yb)).length : Int) ≤ 16)))), (3, vP b3 0), (4, vP b4 0), (5, vP b5 0)] [.var b5 24 [vB sc, vnc, vdc], .var b4 24 [vB sb, vnb, vdb], .var b3 24 [vB sa, vna, vda]] mg1_3
  refine gl_cut (ι := Mem) 5 (fun m_ => MLe mg1_3 m_) (fun _ => [(24, vB (((¬ ((↑((xa)).length : Int) ≤ 16 ∧ (↑((ya)).length : Int) ≤ 16)) ∨ (¬ ((↑((xb)).length : Int) ≤ 16 ∧ (↑((yb)).length : Int) ≤ 16))) ∨ (¬ ((↑((xc)).length : Int) ≤ 16 ∧ (↑((yc)).length : Int) ≤ 16)))), (3, vP b3 0), (4, vP b4 0), (5, vP b5 0)]) (fun _ => [.var b5 24 [vB sc, vnc, vdc], .var b4 24 [vB sb, vnb, vdb], .var b3 24 [vB sa, vna, vda]]) (fun m_ => m_) ?_ ?_
  ·
   refine gl_cases ((¬ ((↑((xa)).length : Int) ≤ 16 ∧ (↑((ya)).length : Int) ≤ 16)) ∨ (¬ ((↑((xb)).length : Int) ≤ 16 ∧ (↑((yb)).length : Int) ≤ 16))) (fun hg => ?_) (fun hg => ?_)
   ·
    refine gl_val (ov_move (v := .bool true) (congrArg some (vB_true hg))) rfl rfl rfl (gl_off rfl rfl rfl rfl rfl rfl (gl_off rfl rfl rfl rfl rfl rfl (gl_off rfl rfl rfl rfl rfl rfl (gv (ov_pick_t rfl rfl) rfl (gl_nil ?_)))))
    refine gq_cut mg1_3 (MLe.refl _) ⟨?_, rfl, rfl, rfl, trivial⟩ rfl rfl
    exact congrArg some (vB_or_t hg)
   ·
    refine gl_val (ov_move (v := .bool false) (congrArg some (vB_false hg))) rfl rfl rfl (gl_on rfl rfl rfl (gv (ov_load_agg (vs := [_, _, _]) (.head _) Try.underlying24 rfl size24 rfl rfl) rfl (gl_on rfl rfl rfl ?_)))
    replace hnc := hnc.mono (hh1.trans hmmg1_3)
    replace hdc := hdc.mono (hh1.trans hmmg1_3)
    refine gl_call (vs := [_]) rfl rfl rfl rfl Try.call13 ⟨rfl, trivial⟩ (fun w hs => law2_light hs rfl hnc hdc) ?_
    intro v22 h2 hh2 hr22
    subst hr22
    refine gl_on rfl rfl rfl (gv (ov_not rfl) rfl (gv (ov_pick_f rfl rfl) rfl (gl_nil ?_)))
    refine gq_cut h2 hh2 ⟨?_, rfl, rfl, rfl, trivial⟩ rfl rfl
    exact congrArg some (vB_or_f hg)
  ·
   intro mg1_8 hmmg1_8
   show GL _ _ _ _ _ _ _ [(24, vB (((¬ ((↑((xa)).length : Int) ≤ 16 ∧ (↑((ya)).length : Int) ≤ 16)) ∨ (¬ ((↑((xb)).length : Int) ≤ 16 ∧ (↑((yb)).length : Int) ≤ 16))) ∨ (¬ ((↑((xc)).length : Int) ≤ 16 ∧ (↑((yc)).length : Int) ≤ 16)))), (3, vP b3 0), (4, vP b4 0), (5, vP b5 0)] [.var b5 24 [vB sc, vnc, vdc], .var b4 24 [vB sb, vnb, vdb], .var b3 24 [vB sa, vna, vda]] mg1_8
   refine gl_nil (gq_then ?_)
   refine gc_cond rfl (fun hc24 => ?_) (fun hc24 => ?_)
   ·
    refine gc_seq (gc_region ?_)
    refine gl_call (vs := []) rfl rfl rfl rfl Try.call14 trivial (fun w hs => law2_awake hs) ?_
    intro v25 h2 hh2 hr25
    subst hr25
    refine asg rfl rfl (gl_nil (gq_then (gc_ret (gr_then (gq_body1 rfl rfl ?_)))))
    rfl
   ·
    refine gc_skip (gq_then (gc_seq ?_))
    refine gc_draw 9 _ [(6, (7, 27, [vB ((0 : Rat).num < 0), .slice none 0 0, .slice none 0 0])), (7, (8, 27, [vB ((0 : Rat).num < 0), .slice none 0 0, .slice none 0 0])), (8, (9, 27, [vB ((0 : Rat).num < 0), .slice none 0 0, .slice none 0 0]))] [(0, .q), (2, .q), (4, .q), (1, .c), (3, .c), (5, .c), (6, .a), (7, .a), (8, .a), (9, .t), (10, .t), (11, .t)] mixed (AlOk.cons rfl (zero_run info27 rfl (by simp only [zb]; rfl)) (AlOk.cons rfl (zero_run info27 rfl (by simp only [zb]; rfl)) (AlOk.cons rfl (zero_run info27 rfl (by simp only [zb]; rfl)) AlOk.nil))) (by kernel_rfl) (hae_cons rfl rfl (hae_cons rfl rfl (hae_cons rfl rfl hae_nil))) (fun r hr => hr) (w_q rfl (fun h' L' hh hR => ov_load_agg (vs := [_, _, _]) (hR _ (.tail _ (.tail _ (.head _)))) Try.underlying24 rfl size24 rfl rfl) rfl (w_q rfl (fun h' L' hh hR => ov_load_agg (vs := [_, _, _]) (hR _ (.tail _ (.head _))) Try.underlying24 rfl size24 rfl rfl) rfl (w_q rfl (fun h' L' hh hR => ov_load_agg (vs := [_, _, _]) (hR _ (.head _)) Try.underlying24 rfl size24 rfl rfl) rfl ?_)))
    refine w_c rfl ?_
    replace hna := hna.mono ((hh1.trans hmmg1_3).trans hmmg1_8)
    replace hda := hda.mono ((hh1.trans hmmg1_3).trans hmmg1_8)
    refine s_call (vs := [_]) Try.call15 ⟨rfl, trivial⟩ (fun w hs => law2_number hs rfl hna hda (by constructor <;> omega)) rfl ?_
    intro v27 h2 hh2 hr27
    have hlq27 := lq_numQ (sa) (xa) (ya)
    obtain ⟨vn27, vd27, rfl, hn27, hd27⟩ := hr27
    refine w_c rfl ?_
    replace hnb := hnb.mono (((hh1.trans hmmg1_3).trans hmmg1_8).trans hh2)
    replace hdb := hdb.mono (((hh1.trans hmmg1_3).trans hmmg1_8).trans hh2)
    refine s_call (vs := [_]) Try.call15 ⟨rfl, trivial⟩ (fun w hs => law2_number hs rfl hnb hdb (by constructor <;> omega)) rfl ?_
    intro v29 h3 hh3 hr29
    have hlq29 := lq_numQ (sb) (xb) (yb)
    obtain ⟨vn29, vd29, rfl, hn29, hd29⟩ := hr29
    refine w_c rfl ?_
    replace hnc := hnc.mono ((((hh1.trans hmmg1_3).trans hmmg1_8).trans hh2).trans hh3)
    replace hdc := hdc.mono ((((hh1.trans hmmg1_3).trans hmmg1_8).trans hh2).trans hh3)
    refine s_call (vs := [_]) Try.call15 ⟨rfl, trivial⟩ (fun w hs => law2_number hs rfl hnc hdc (by constructor <;> omega)) rfl ?_
    intro v31 h4 hh4 hr31
    have hlq31 := lq_numQ (sc) (xc) (yc)
    obtain ⟨vn31, vd31, rfl, hn31, hd31⟩ := hr31
    refine w_a rfl (fun b7 => ?_)
    refine w_a rfl (fun b8 => ?_)
    refine w_a rfl (fun b9 => ?_)
    replace hn27 := hn27.mono (hh3.trans hh4)
    replace hd27 := hd27.mono (hh3.trans hh4)
    refine w_t_upd (A := [_, _]) (q' := .var b7 27 [vB ((numQ (sa) (xa) (ya)).num < 0), vn27, vd27]) rfl (upd_store_var (k := 0) (cs := [_, _, _]) (vs := [_, _, _]) rfl rfl rfl (ocr rfl (ocu hn27 (ocu hd27 oc0))) size27 (Nat.le_of_ble_eq_true rfl)) rfl ?_
    replace hn29 := hn29.mono hh4
    replace hd29 := hd29.mono hh4
    refine w_t_upd (A := [_]) (q' := .var b8 27 [vB ((numQ (sb) (xb) (yb)).num < 0), vn29, vd29]) rfl (upd_store_var (k := 0) (cs := [_, _, _]) (vs := [_, _, _]) rfl rfl rfl (ocr rfl (ocu hn29 (ocu hd29 oc0))) size27 (Nat.le_of_ble_eq_true rfl)) rfl (w_t_upd (A := []) (q' := .var b9 27 [vB ((numQ (sc) (xc) (yc)).num < 0), vn31, vd31]) rfl (upd_store_var (k := 0) (cs := [_, _, _]) (vs := [_, _, _]) rfl rfl rfl (ocr rfl (ocu hn31 (ocu hd31 oc0))) size27 (Nat.le_of_ble_eq_true rfl)) rfl (w_nil (gq_keep (e' := [(7, _), (8, _), (9, _)]) ⟨rfl, rfl, rfl, trivial⟩ (gq_then (gc_seq (gc_region (gv (ov_load_agg (vs := [_, _, _]) (.tail _ (.tail _ (.head _))) Try.underlying27 rfl size27 rfl rfl) rfl (gv (ov_load_agg (vs := [_, _, _]) (.tail _ (.head _)) Try.underlying27 rfl size27 rfl rfl) rfl ?_))))))))
    refine gl_call (vs := [_, _]) rfl rfl rfl rfl Try.call38 ⟨rfl, rfl, trivial⟩ (fun w hs => rat_quo hs hn27 hd27 hn29 hd29 (by omega) (by omega)) ?_
    intro v35 h5 hh5 hr35
    obtain ⟨_, rfl, vn35, vd35, rfl, hn35, hd35⟩ := hr35
    have hlq35 := lq_quo' (numQ (sa) (xa) (ya)) (numQ (sb) (xb) (yb))
    refine mv rfl rfl (gv (ov_extract (vs := [_, _]) rfl rfl) rfl (gv (ov_extract (vs := [_, _]) rfl rfl) rfl (gl_newop (new_alloc (cs := [vB ((0 : Rat).num < 0), .slice none 0 0, .slice none 0 0]) info27 rfl (by simp only [zb]; rfl)) rfl rfl rfl ?_)))
    intro v10 r10 hr10
    obtain ⟨b10, rfl, rfl⟩ := hr10
    refine gl_upd (A := []) (r' := .var b10 27 [vB ((if (numQ (sb) (xb) (yb)) = 0 then 0 else (numQ (sa) (xa) (ya)) / (numQ (sb) (xb) (yb))).num < 0), vn35, vd35]) (upd_store_var (k := 0) (cs := [_, _, _]) (vs := [_, _, _]) rfl rfl rfl (ocr rfl (ocu hn35 (ocu hd35 oc0))) size27 (Nat.le_of_ble_eq_true rfl)) rfl rfl rfl (asg rfl rfl (gl_nil (gq_then ?_)))
    refine gc_cut (ι := Mem) (fun (mc : (Mem)) => MLe h5 mc ∧ (True)) (fun (mc : (Mem)) => [(7, vP b7 0), (8, vP b8 0), (9, vP b9 0)]) (fun (mc : (Mem)) => [.var b10 27 [vB ((if (numQ (sb) (xb) (yb)) = 0 then 0 else (numQ (sa) (xa) (ya)) / (numQ (sb) (xb) (yb))).num < 0), vn35, vd35], .var b9 27 [vB ((numQ (sc) (xc) (yc)).num < 0), vn31, vd31], .var b8 27 [vB ((numQ (sb) (xb) (yb)).num < 0), vn29, vd29], .var b7 27 [vB ((numQ (sa) (xa) (ya)).num < 0), vn27, vd27], .var b5 24 [vB sc, vnc, vdc], .var b4 24 [vB sb, vnb, vdb], .var b3 24 [vB sa, vna, vda]]) (fun (mc : (Mem)) => mc) ?_ ?_
    ·
     refine gc_seq ?_
     refine gc_cases (numQ sb xb yb = 0) (fun hg => ?_) (fun hg => ?_)
     ·
      refine gc_draw 18 _ [] [(0, .q), (1, .q), (2, .q), (3, .c), (4, .q), (5, .q), (6, .q), (7, .q), (8, .q), (9, .q), (10, .q), (11, .q), (13, .q), (12, .c), (14, .c), (15, .q), (16, .q), (17, .q)] mixed (fun x hx => by cases hx) (by kernel_rfl) (fun x hx => by cases hx) (fun r hr => hr) (w_q rfl (fun h' L' hh hR => ov_move rfl) rfl (w_q rfl (fun h' L' hh hR => ov_eql_i (q := 0) rfl rfl) rfl (w_q rfl (fun h' L' hh hR => ov_load_agg (vs := [_, _, _]) (hR _ (.tail _ (.tail _ (.head _)))) Try.underlying27 rfl size27 rfl rfl) rfl ?_)))
      refine w_c rfl ?_
      replace hn29 := hn29.mono hh5
      replace hd29 := hd29.mono hh5
      refine s_call (vs := [_]) Try.call46 ⟨rfl, trivial⟩ (fun w hs => rat_sign hs hn29 hd29 (by omega)) rfl ?_
      intro v41 h6 hh6 hr41
      have hsr41 := sgnQ_range (numQ (sb) (xb) (yb))
      subst hr41
      refine w_q rfl (fun h' L' hh hR => ov_neq_i (q := 0) rfl rfl) rfl (w_q rfl (fun h' L' hh hR => OpV.fa (by exact field_e) (ov_neq_b Try.underlying4 rfl rfl)) rfl (w_q rfl (fun h' L' hh hR => ov_move rfl) rfl (w_q_on rfl rfl rfl (fun h' L' hh hR => ov_move rfl) rfl (w_q_on rfl rfl rfl (fun h' L' hh hR => OpV.fa (by rw [if_pos hg]; omega) (ov_eql_i (q := 0) rfl rfl)) rfl (w_q_on rfl rfl rfl (fun h' L' hh hR => ov_move rfl) rfl (w_q_off rfl rfl rfl rfl rfl (w_q_off rfl rfl rfl rfl rfl (w_q_off rfl rfl rfl rfl rfl ?_))))))))
      refine w_c rfl (s_off rfl rfl rfl rfl ?_)
      refine w_c rfl (s_off rfl rfl rfl rfl (w_q_off rfl rfl rfl rfl rfl (w_q_on rfl rfl rfl (fun h' L' hh hR => ov_pick_f rfl rfl) rfl (w_q rfl (fun h' L' hh hR => ov_pick_f rfl rfl) rfl (w_nil (gq_keep (e' := [(7, _), (8, _), (9, _), (55, _)]) ⟨rfl, rfl, rfl, rfl, trivial⟩ (gq_then (gc_cond_f rfl (gc_skip ?_)))))))))
      refine gq_cut (h6) ?_ ⟨?_, ?_, ?_, trivial⟩ ?_ rfl
      ·
       refine ⟨hh6, ?_⟩
       trivial
      · exact rfl
      · exact rfl
      · exact rfl
      · exact rfl
     ·
      refine gc_draw 18 _ [] [(0, .q), (1, .q), (2, .q), (3, .c), (4, .q), (5, .q), (6, .q), (7, .q), (8, .q), (9, .q), (10, .q), (11, .q), (13, .q), (12, .c), (14, .c), (15, .q), (16, .q), (17, .q)] mixed (fun x hx => by cases hx) (by kernel_rfl) (fun x hx => by cases hx) (fun r hr => hr) (w_q rfl (fun h' L' hh hR => ov_move rfl) rfl (w_q rfl (fun h' L' hh hR => ov_eql_i (q := 0) rfl rfl) rfl (w_q rfl (fun h' L' hh hR => ov_load_agg (vs := [_, _, _]) (hR _ (.tail _ (.tail _ (.head _)))) Try.underlying27 rfl size27 rfl rfl) rfl ?_)))
      refine w_c rfl ?_
      replace hn29 := hn29.mono hh5
      replace hd29 := hd29.mono hh5
      refine s_call (vs := [_]) Try.call46 ⟨rfl, trivial⟩ (fun w hs => rat_sign hs hn29 hd29 (by omega)) rfl ?_
      intro v41 h6 hh6 hr41
      have hsr41 := sgnQ_range (numQ (sb) (xb) (yb))
      subst hr41
      refine w_q rfl (fun h' L' hh hR => ov_neq_i (q := 0) rfl rfl) rfl (w_q rfl (fun h' L' hh hR => OpV.fa (by exact field_e) (ov_neq_b Try.underlying4 rfl rfl)) rfl (w_q rfl (fun h' L' hh hR => ov_move rfl) rfl (w_q_on rfl rfl rfl (fun h' L' hh hR => ov_move rfl) rfl (w_q_on rfl rfl rfl (fun h' L' hh hR => OpV.tr (by rw [if_neg hg]) (ov_eql_i (q := 0) rfl rfl)) rfl (w_q_on rfl rfl rfl (fun h' L' hh hR => ov_move rfl) rfl (w_q_on rfl rfl rfl (fun h' L' hh hR => ov_load_agg (vs := [_, _, _]) (hR _ (.head _)) Try.underlying27 rfl size27 rfl rfl) rfl (w_q_on rfl rfl rfl (fun h' L' hh hR => ov_load_agg (vs := [_, _, _]) (hR _ (.tail _ (.tail _ (.head _)))) Try.underlying27 rfl size27 rfl rfl) rfl (w_q_on rfl rfl rfl (fun h' L' hh hR => ov_load_agg (vs := [_, _, _]) (hR _ (.tail _ (.tail _ (.tail _ (.head _))))) Try.underlying27 rfl size27 rfl rfl) rfl ?_))))))))
      refine w_c rfl (s_on rfl rfl ?_)
      replace hn29 := hn29.mono hh6
      replace hd29 := hd29.mono hh6
      replace hn35 := hn35.mono hh6
      replace hd35 := hd35.mono hh6
      refine s_call (vs := [_, _]) Try.call44 ⟨rfl, rfl, trivial⟩ (fun w hs => rat_mul hs hn35 hd35 hn29 hd29 (by omega) (by omega)) rfl ?_
      intro v50 h7 hh7 hr50
      obtain ⟨vn50, vd50, rfl, hn50, hd50⟩ := hr50
      have hlq50 := lq_mul (if (numQ (sb) (xb) (yb)) = 0 then 0 else (numQ (sa) (xa) (ya)) / (numQ (sb) (xb) (yb))) (numQ (sb) (xb) (yb))
      refine w_c rfl (s_on rfl rfl ?_)
      replace hn27 := hn27.mono ((hh5.trans hh6).trans hh7)
      replace hd27 := hd27.mono ((hh5.trans hh6).trans hh7)
      refine s_call (vs := [_, _]) Try.call29 ⟨rfl, rfl, trivial⟩ (fun w hs => rat_same hs hn50 hd50 hn27 hd27 (by omega) (by omega)) rfl ?_
      intro v52 h8 hh8 hr52
      rw [vB_true (by exact mul_back hg)] at hr52
      subst hr52
      refine w_q_on rfl rfl rfl (fun h' L' hh hR => ov_not_b rfl) rfl (w_q_on rfl rfl rfl (fun h' L' hh hR => ov_pick_t rfl rfl) rfl (w_q rfl (fun h' L' hh hR => ov_pick_f rfl rfl) rfl (w_nil (gq_keep (e' := [(7, _), (8, _), (9, _), (55, _)]) ⟨rfl, rfl, rfl, rfl, trivial⟩ (gq_then (gc_cond_f rfl (gc_skip ?_)))))))
      refine gq_cut (h8) ?_ ⟨?_, ?_, ?_, trivial⟩ ?_ rfl
      ·
       refine ⟨((hh6.trans hh7).trans hh8), ?_⟩
       trivial
      · exact rfl
      · exact rfl
      · exact rfl
      · exact rfl
    ·
     intro mc hx
     obtain ⟨hmmc, hcut⟩ := hx
     show GC _ _ _ _ _ _ [(7, vP b7 0), (8, vP b8 0), (9, vP b9 0)] [.var b10 27 [vB ((if (numQ (sb) (xb) (yb)) = 0 then 0 else (numQ (sa) (xa) (ya)) / (numQ (sb) (xb) (yb))).num < 0), vn35, vd35], .var b9 27 [vB ((numQ (sc) (xc) (yc)).num < 0), vn31, vd31], .var b8 27 [vB ((numQ (sb) (xb) (yb)).num < 0), vn29, vd29], .var b7 27 [vB ((numQ (sa) (xa) (ya)).num < 0), vn27, vd27], .var b5 24 [vB sc, vnc, vdc], .var b4 24 [vB sb, vnb, vdb], .var b3 24 [vB sa, vna, vda]] mc
     refine gc_seq ?_
     refine gc_draw 64 _ [] [(0, .q), (1, .q), (3, .q), (5, .q), (6, .q), (7, .q), (2, .c), (4, .c), (8, .c), (9, .c), (10, .c), (11, .q), (12, .q), (13, .q), (15, .q), (17, .q), (18, .q), (19, .q), (14, .c), (16, .c), (20, .c), (21, .c), (22, .c), (23, .q), (24, .q), (25, .q), (26, .q), (27, .q), (30, .q), (31, .q), (33, .q), (34, .q), (28, .c), (29, .c), (32, .c), (35, .c), (36, .c), (37, .c), (38, .q), (39, .q), (40, .q), (41, .q), (43, .q), (45, .q), (42, .c), (44, .c), (46, .c), (47, .q), (48, .q), (49, .q), (50, .q), (51, .c), (52, .c), (53, .q), (54, .q), (55, .q), (56, .q), (57, .c), (58, .c), (59, .q), (60, .q), (61, .c), (62, .q), (63, .q)] mixed (fun x hx => by cases hx) (by kernel_rfl) (fun x hx => by cases hx) (fun r hr => hr) (w_q rfl (fun h' L' hh hR => ov_load_agg (vs := [_, _, _]) (hR _ (.tail _ (.tail _ (.tail _ (.head _))))) Try.underlying27 rfl size27 rfl rfl) rfl (w_q rfl (fun h' L' hh hR => ov_load_agg (vs := [_, _, _]) (hR _ (.tail _ (.tail _ (.head _)))) Try.underlying27 rfl size27 rfl rfl) rfl (w_q rfl (fun h' L' hh hR => ov_load_agg (vs := [_, _, _]) (hR _ (.tail _ (.head _))) Try.underlying27 rfl size27 rfl rfl) rfl (w_q rfl (fun h' L' hh hR => ov_load_agg (vs := [_, _, _]) (hR _ (.tail _ (.tail _ (.tail _ (.head _))))) Try.underlying27 rfl size27 rfl rfl) rfl (w_q rfl (fun h' L' hh hR => ov_load_agg (vs := [_, _, _]) (hR _ (.tail _ (.tail _ (.head _)))) Try.underlying27 rfl size27 rfl rfl) rfl (w_q rfl (fun h' L' hh hR => ov_load_agg (vs := [_, _, _]) (hR _ (.tail _ (.head _))) Try.underlying27 rfl size27 rfl rfl) rfl ?_))))))
     refine w_c rfl ?_
     replace hn27 := hn27.mono (hh5.trans hmmc)
     replace hd27 := hd27.mono (hh5.trans hmmc)
     replace hn29 := hn29.mono (hh5.trans hmmc)
     replace hd29 := hd29.mono (hh5.trans hmmc)
     refine s_call (vs := [_, _]) Try.call40 ⟨rfl, rfl, trivial⟩ (fun w hs => rat_add hs hn27 hd27 hn29 hd29 (by omega) (by omega)) rfl ?_
     intro v58 h6 hh6 hr58
     obtain ⟨vn58, vd58, rfl, hn58, hd58⟩ := hr58
     have hlq58 := lq_add (numQ (sa) (xa) (ya)) (numQ (sb) (xb) (yb))
     refine w_c rfl ?_
     replace hn31 := hn31.mono ((hh5.trans hmmc).trans hh6)
     replace hd31 := hd31.mono ((hh5.trans hmmc).trans hh6)
     refine s_call (vs := [_, _]) Try.call40 ⟨rfl, rfl, trivial⟩ (fun w hs => rat_add hs hn58 hd58 hn31 hd31 (by omega) (by omega)) rfl ?_
     intro v60 h7 hh7 hr60
     obtain ⟨vn60, vd60, rfl, hn60, hd60⟩ := hr60
     have hlq60 := lq_add ((numQ (sa) (xa) (ya)) + (numQ (sb) (xb) (yb))) (numQ (sc) (xc) (yc))
     refine w_c rfl ?_
     replace hn29 := hn29.mono (hh6.trans hh7)
     replace hd29 := hd29.mono (hh6.trans hh7)
     replace hn31 := hn31.mono hh7
     replace hd31 := hd31.mono hh7
     refine s_call (vs := [_, _]) Try.call40 ⟨rfl, rfl, trivial⟩ (fun w hs => rat_add hs hn29 hd29 hn31 hd31 (by omega) (by omega)) rfl ?_
     intro v64 h8 hh8 hr64
     obtain ⟨vn64, vd64, rfl, hn64, hd64⟩ := hr64
     have hlq64 := lq_add (numQ (sb) (xb) (yb)) (numQ (sc) (xc) (yc))
     refine w_c rfl ?_
     replace hn27 := hn27.mono ((hh6.trans hh7).trans hh8)
     replace hd27 := hd27.mono ((hh6.trans hh7).trans hh8)
     refine s_call (vs := [_, _]) Try.call40 ⟨rfl, rfl, trivial⟩ (fun w hs => rat_add hs hn27 hd27 hn64 hd64 (by omega) (by omega)) rfl ?_
     intro v65 h9 hh9 hr65
     obtain ⟨vn65, vd65, rfl, hn65, hd65⟩ := hr65
     have hlq65 := lq_add (numQ (sa) (xa) (ya)) ((numQ (sb) (xb) (yb)) + (numQ (sc) (xc) (yc)))
     refine w_c rfl ?_
     replace hn60 := hn60.mono (hh8.trans hh9)
     replace hd60 := hd60.mono (hh8.trans hh9)
     refine s_call (vs := [_, _]) Try.call29 ⟨rfl, rfl, trivial⟩ (fun w hs => rat_same hs hn60 hd60 hn65 hd65 (by omega) (by omega)) rfl ?_
     intro v66 h10 hh10 hr66
     rw [vB_true (by first | rfl | exact Iff.rfl | exact valid_rat _ | grind)] at hr66
     subst hr66
     refine w_q rfl (fun h' L' hh hR => ov_move rfl) rfl (w_q_on rfl rfl rfl (fun h' L' hh hR => ov_load_agg (vs := [_, _, _]) (hR _ (.tail _ (.tail _ (.tail _ (.head _))))) Try.underlying27 rfl size27 rfl rfl) rfl (w_q_on rfl rfl rfl (fun h' L' hh hR => ov_load_agg (vs := [_, _, _]) (hR _ (.tail _ (.tail _ (.head _)))) Try.underlying27 rfl size27 rfl rfl) rfl (w_q_on rfl rfl rfl (fun h' L' hh hR => ov_load_agg (vs := [_, _, _]) (hR _ (.tail _ (.head _))) Try.underlying27 rfl size27 rfl rfl) rfl (w_q_on rfl rfl rfl (fun h' L' hh hR => ov_load_agg (vs := [_, _, _]) (hR _ (.tail _ (.tail _ (.tail _ (.head _))))) Try.underlying27 rfl size27 rfl rfl) rfl (w_q_on rfl rfl rfl (fun h' L' hh hR => ov_load_agg (vs := [_, _, _]) (hR _ (.tail _ (.tail _ (.head _)))) Try.underlying27 rfl size27 rfl rfl) rfl (w_q_on rfl rfl rfl (fun h' L' hh hR => ov_load_agg (vs := [_, _, _]) (hR _ (.tail _ (.head _))) Try.underlying27 rfl size27 rfl rfl) rfl ?_))))))
     refine w_c rfl (s_on rfl rfl ?_)
     replace hn27 := hn27.mono (hh9.trans hh10)
     replace hd27 := hd27.mono (hh9.trans hh10)
     replace hn29 := hn29.mono ((hh8.trans hh9).trans hh10)
     replace hd29 := hd29.mono ((hh8.trans hh9).trans hh10)
     refine s_call (vs := [_, _]) Try.call44 ⟨rfl, rfl, trivial⟩ (fun w hs => rat_mul hs hn27 hd27 hn29 hd29 (by omega) (by omega)) rfl ?_
     intro v70 h11 hh11 hr70
     obtain ⟨vn70, vd70, rfl, hn70, hd70⟩ := hr70
     have hlq70 := lq_mul (numQ (sa) (xa) (ya)) (numQ (sb) (xb) (yb))
     refine w_c rfl (s_on rfl rfl ?_)
     replace hn31 := hn31.mono (((hh8.trans hh9).trans hh10).trans hh11)
     replace hd31 := hd31.mono (((hh8.trans hh9).trans hh10).trans hh11)
     refine s_call (vs := [_, _]) Try.call44 ⟨rfl, rfl, trivial⟩ (fun w hs => rat_mul hs hn70 hd70 hn31 hd31 (by omega) (by omega)) rfl ?_
     intro v72 h12 hh12 hr72
     obtain ⟨vn72, vd72, rfl, hn72, hd72⟩ := hr72
     have hlq72 := lq_mul ((numQ (sa) (xa) (ya)) * (numQ (sb) (xb) (yb))) (numQ (sc) (xc) (yc))
     refine w_c rfl (s_on rfl rfl ?_)
     replace hn29 := hn29.mono (hh11.trans hh12)
     replace hd29 := hd29.mono (hh11.trans hh12)
     replace hn31 := hn31.mono hh12
     replace hd31 := hd31.mono hh12
     refine s_call (vs := [_, _]) Try.call44 ⟨rfl, rfl, trivial⟩ (fun w hs => rat_mul hs hn29 hd29 hn31 hd31 (by omega) (by omega)) rfl ?_
     intro v76 h13 hh13 hr76
     obtain ⟨vn76, vd76, rfl, hn76, hd76⟩ := hr76
     have hlq76 := lq_mul (numQ (sb) (xb) (yb)) (numQ (sc) (xc) (yc))
     refine w_c rfl (s_on rfl rfl ?_)
     replace hn27 := hn27.mono ((hh11.trans hh12).trans hh13)
     replace hd27 := hd27.mono ((hh11.trans hh12).trans hh13)
     refine s_call (vs := [_, _]) Try.call44 ⟨rfl, rfl, trivial⟩ (fun w hs => rat_mul hs hn27 hd27 hn76 hd76 (by omega) (by omega)) rfl ?_
     intro v77 h14 hh14 hr77
     obtain ⟨vn77, vd77, rfl, hn77, hd77⟩ := hr77
     have hlq77 := lq_mul (numQ (sa) (xa) (ya)) ((numQ (sb) (xb) (yb)) * (numQ (sc) (xc) (yc)))
     refine w_c rfl (s_on rfl rfl ?_)
     replace hn72 := hn72.mono (hh13.trans hh14)
     replace hd72 := hd72.mono (hh13.trans hh14)
     refine s_call (vs := [_, _]) Try.call29 ⟨rfl, rfl, trivial⟩ (fun w hs => rat_same hs hn72 hd72 hn77 hd77 (by omega) (by omega)) rfl ?_
     intro v78 h15 hh15 hr78
     rw [vB_true (by first | rfl | exact Iff.rfl | exact valid_rat _ | grind)] at hr78
     subst hr78
     refine w_q rfl (fun h' L' hh hR => ov_pick_t rfl rfl) rfl (w_q rfl (fun h' L' hh hR => ov_move rfl) rfl (w_q_on rfl rfl rfl (fun h' L' hh hR => ov_load_agg (vs := [_, _, _]) (hR _ (.tail _ (.tail _ (.tail _ (.head _))))) Try.underlying27 rfl size27 rfl rfl) rfl (w_q_on rfl rfl rfl (fun h' L' hh hR => ov_load_agg (vs := [_, _, _]) (hR _ (.tail _ (.tail _ (.head _)))) Try.underlying27 rfl size27 rfl rfl) rfl (w_q_on rfl rfl rfl (fun h' L' hh hR => ov_load_agg (vs := [_, _, _]) (hR _ (.tail _ (.head _))) Try.underlying27 rfl size27 rfl rfl) rfl (w_q_on rfl rfl rfl (fun h' L' hh hR => ov_load_agg (vs := [_, _, _]) (hR _ (.tail _ (.tail _ (.tail _ (.head _))))) Try.underlying27 rfl size27 rfl rfl) rfl (w_q_on rfl rfl rfl (fun h' L' hh hR => ov_load_agg (vs := [_, _, _]) (hR _ (.tail _ (.tail _ (.head _)))) Try.underlying27 rfl size27 rfl rfl) rfl (w_q_on rfl rfl rfl (fun h' L' hh hR => ov_load_agg (vs := [_, _, _]) (hR _ (.tail _ (.tail _ (.tail _ (.head _))))) Try.underlying27 rfl size27 rfl rfl) rfl (w_q_on rfl rfl rfl (fun h' L' hh hR => ov_load_agg (vs := [_, _, _]) (hR _ (.tail _ (.head _))) Try.underlying27 rfl size27 rfl rfl) rfl ?_))))))))
     refine w_c rfl (s_on rfl rfl ?_)
     replace hn29 := hn29.mono ((hh13.trans hh14).trans hh15)
     replace hd29 := hd29.mono ((hh13.trans hh14).trans hh15)
     replace hn31 := hn31.mono ((hh13.trans hh14).trans hh15)
     replace hd31 := hd31.mono ((hh13.trans hh14).trans hh15)
     refine s_call (vs := [_, _]) Try.call40 ⟨rfl, rfl, trivial⟩ (fun w hs => rat_add hs hn29 hd29 hn31 hd31 (by omega) (by omega)) rfl ?_
     intro v84 h16 hh16 hr84
     obtain ⟨vn84, vd84, rfl, hn84, hd84⟩ := hr84
     have hlq84 := lq_add (numQ (sb) (xb) (yb)) (numQ (sc) (xc) (yc))
     refine w_c rfl (s_on rfl rfl ?_)
     replace hn27 := hn27.mono ((hh14.trans hh15).trans hh16)
     replace hd27 := hd27.mono ((hh14.trans hh15).trans hh16)
     refine s_call (vs := [_, _]) Try.call44 ⟨rfl, rfl, trivial⟩ (fun w hs => rat_mul hs hn27 hd27 hn84 hd84 (by omega) (by omega)) rfl ?_
     intro v85 h17 hh17 hr85
     obtain ⟨vn85, vd85, rfl, hn85, hd85⟩ := hr85
     have hlq85 := lq_mul (numQ (sa) (xa) (ya)) ((numQ (sb) (xb) (yb)) + (numQ (sc) (xc) (yc)))
     refine w_c rfl (s_on rfl rfl ?_)
     replace hn27 := hn27.mono hh17
     replace hd27 := hd27.mono hh17
     replace hn29 := hn29.mono (hh16.trans hh17)
     replace hd29 := hd29.mono (hh16.trans hh17)
     refine s_call (vs := [_, _]) Try.call44 ⟨rfl, rfl, trivial⟩ (fun w hs => rat_mul hs hn27 hd27 hn29 hd29 (by omega) (by omega)) rfl ?_
     intro v88 h18 hh18 hr88
     obtain ⟨vn88, vd88, rfl, hn88, hd88⟩ := hr88
     have hlq88 := lq_mul (numQ (sa) (xa) (ya)) (numQ (sb) (xb) (yb))
     refine w_c rfl (s_on rfl rfl ?_)
     replace hn27 := hn27.mono hh18
     replace hd27 := hd27.mono hh18
     replace hn31 := hn31.mono ((hh16.trans hh17).trans hh18)
     replace hd31 := hd31.mono ((hh16.trans hh17).trans hh18)
     refine s_call (vs := [_, _]) Try.call44 ⟨rfl, rfl, trivial⟩ (fun w hs => rat_mul hs hn27 hd27 hn31 hd31 (by omega) (by omega)) rfl ?_
     intro v91 h19 hh19 hr91
     obtain ⟨vn91, vd91, rfl, hn91, hd91⟩ := hr91
     have hlq91 := lq_mul (numQ (sa) (xa) (ya)) (numQ (sc) (xc) (yc))
     refine w_c rfl (s_on rfl rfl ?_)
     replace hn88 := hn88.mono hh19
     replace hd88 := hd88.mono hh19
     refine s_call (vs := [_, _]) Try.call40 ⟨rfl, rfl, trivial⟩ (fun w hs => rat_add hs hn88 hd88 hn91 hd91 (by omega) (by omega)) rfl ?_
     intro v92 h20 hh20 hr92
     obtain ⟨vn92, vd92, rfl, hn92, hd92⟩ := hr92
     have hlq92 := lq_add ((numQ (sa) (xa) (ya)) * (numQ (sb) (xb) (yb))) ((numQ (sa) (xa) (ya)) * (numQ (sc) (xc) (yc)))
     refine w_c rfl (s_on rfl rfl ?_)
     replace hn85 := hn85.mono ((hh18.trans hh19).trans hh20)
     replace hd85 := hd85.mono ((hh18.trans hh19).trans hh20)
     refine s_call (vs := [_, _]) Try.call29 ⟨rfl, rfl, trivial⟩ (fun w hs => rat_same hs hn85 hd85 hn92 hd92 (by omega) (by omega)) rfl ?_
     intro v93 h21 hh21 hr93
     rw [vB_true (by first | rfl | exact Iff.rfl | exact valid_rat _ | grind)] at hr93
     subst hr93
     refine w_q rfl (fun h' L' hh hR => ov_pick_t rfl rfl) rfl (w_q rfl (fun h' L' hh hR => ov_move rfl) rfl (w_q_on rfl rfl rfl (fun h' L' hh hR => ov_load_agg (vs := [_, _, _]) (hR _ (.tail _ (.tail _ (.tail _ (.head _))))) Try.underlying27 rfl size27 rfl rfl) rfl (w_q_on rfl rfl rfl (fun h' L' hh hR => ov_load_agg (vs := [_, _, _]) (hR _ (.tail _ (.tail _ (.head _)))) Try.underlying27 rfl size27 rfl rfl) rfl (w_q_on rfl rfl rfl (fun h' L' hh hR => ov_load_agg (vs := [_, _, _]) (hR _ (.tail _ (.tail _ (.head _)))) Try.underlying27 rfl size27 rfl rfl) rfl (w_q_on rfl rfl rfl (fun h' L' hh hR => ov_load_agg (vs := [_, _, _]) (hR _ (.tail _ (.tail _ (.tail _ (.head _))))) Try.underlying27 rfl size27 rfl rfl) rfl ?_)))))
     refine w_c rfl (s_on rfl rfl ?_)
     replace hn27 := hn27.mono ((hh19.trans hh20).trans hh21)
     replace hd27 := hd27.mono ((hh19.trans hh20).trans hh21)
     replace hn29 := hn29.mono (((hh18.trans hh19).trans hh20).trans hh21)
     replace hd29 := hd29.mono (((hh18.trans hh19).trans hh20).trans hh21)
     refine s_call (vs := [_, _]) Try.call40 ⟨rfl, rfl, trivial⟩ (fun w hs => rat_add hs hn27 hd27 hn29 hd29 (by omega) (by omega)) rfl ?_
     intro v98 h22 hh22 hr98
     obtain ⟨vn98, vd98, rfl, hn98, hd98⟩ := hr98
     have hlq98 := lq_add (numQ (sa) (xa) (ya)) (numQ (sb) (xb) (yb))
     refine w_c rfl (s_on rfl rfl ?_)
     replace hn29 := hn29.mono hh22
     replace hd29 := hd29.mono hh22
     refine s_call (vs := [_, _]) Try.call42 ⟨rfl, rfl, trivial⟩ (fun w hs => rat_sub hs hn98 hd98 hn29 hd29 (by omega) (by omega)) rfl ?_
     intro v100 h23 hh23 hr100
     obtain ⟨vn100, vd100, rfl, hn100, hd100⟩ := hr100
     have hlq100 := lq_sub ((numQ (sa) (xa) (ya)) + (numQ (sb) (xb) (yb))) (numQ (sb) (xb) (yb))
     refine w_c rfl (s_on rfl rfl ?_)
     replace hn27 := hn27.mono (hh22.trans hh23)
     replace hd27 := hd27.mono (hh22.trans hh23)
     refine s_call (vs := [_, _]) Try.call29 ⟨rfl, rfl, trivial⟩ (fun w hs => rat_same hs hn100 hd100 hn27 hd27 (by omega) (by omega)) rfl ?_
     intro v102 h24 hh24 hr102
     rw [vB_true (by first | rfl | exact Iff.rfl | exact valid_rat _ | grind)] at hr102
     subst hr102
     refine w_q rfl (fun h' L' hh hR => ov_pick_t rfl rfl) rfl (w_q rfl (fun h' L' hh hR => ov_move rfl) rfl (w_q_on rfl rfl rfl (fun h' L' hh hR => ov_load_agg (vs := [_, _, _]) (hR _ (.tail _ (.tail _ (.tail _ (.head _))))) Try.underlying27 rfl size27 rfl rfl) rfl (w_q_on rfl rfl rfl (fun h' L' hh hR => ov_load_agg (vs := [_, _, _]) (hR _ (.tail _ (.tail _ (.head _)))) Try.underlying27 rfl size27 rfl rfl) rfl ?_)))
     refine w_c rfl (s_on rfl rfl ?_)
     replace hn27 := hn27.mono hh24
     replace hd27 := hd27.mono hh24
     replace hn29 := hn29.mono (hh23.trans hh24)
     replace hd29 := hd29.mono (hh23.trans hh24)
     refine s_call (vs := [_, _]) Try.call40 ⟨rfl, rfl, trivial⟩ (fun w hs => rat_add hs hn27 hd27 hn29 hd29 (by omega) (by omega)) rfl ?_
     intro v107 h25 hh25 hr107
     obtain ⟨vn107, vd107, rfl, hn107, hd107⟩ := hr107
     have hlq107 := lq_add (numQ (sa) (xa) (ya)) (numQ (sb) (xb) (yb))
     refine w_c rfl (s_on rfl rfl ?_)
     refine s_call (vs := [_]) Try.call27 ⟨rfl, trivial⟩ (fun w hs => rat_valid hs rfl hn107 hd107 (by first | omega | exact Nat.le_trans (lq_num _) (by omega)) (by first | omega | exact Nat.le_trans (lq_denL _) (by omega))) rfl ?_
     intro v108 h26 hh26 hr108
     rw [vB_true (by first | rfl | exact Iff.rfl | exact valid_rat _ | grind)] at hr108
     subst hr108
     refine w_q rfl (fun h' L' hh hR => ov_pick_t rfl rfl) rfl (w_q rfl (fun h' L' hh hR => ov_move rfl) rfl (w_q_on rfl rfl rfl (fun h' L' hh hR => ov_load_agg (vs := [_, _, _]) (hR _ (.tail _ (.tail _ (.tail _ (.head _))))) Try.underlying27 rfl size27 rfl rfl) rfl (w_q_on rfl rfl rfl (fun h' L' hh hR => ov_load_agg (vs := [_, _, _]) (hR _ (.tail _ (.tail _ (.head _)))) Try.underlying27 rfl size27 rfl rfl) rfl ?_)))
     refine w_c rfl (s_on rfl rfl ?_)
     replace hn27 := hn27.mono (hh25.trans hh26)
     replace hd27 := hd27.mono (hh25.trans hh26)
     replace hn29 := hn29.mono (hh25.trans hh26)
     replace hd29 := hd29.mono (hh25.trans hh26)
     refine s_call (vs := [_, _]) Try.call44 ⟨rfl, rfl, trivial⟩ (fun w hs => rat_mul hs hn27 hd27 hn29 hd29 (by omega) (by omega)) rfl ?_
     intro v113 h27 hh27 hr113
     obtain ⟨vn113, vd113, rfl, hn113, hd113⟩ := hr113
     have hlq113 := lq_mul (numQ (sa) (xa) (ya)) (numQ (sb) (xb) (yb))
     refine w_c rfl (s_on rfl rfl ?_)
     refine s_call (vs := [_]) Try.call27 ⟨rfl, trivial⟩ (fun w hs => rat_valid hs rfl hn113 hd113 (by first | omega | exact Nat.le_trans (lq_num _) (by omega)) (by first | omega | exact Nat.le_trans (lq_denL _) (by omega))) rfl ?_
     intro v114 h28 hh28 hr114
     rw [vB_true (by first | rfl | exact Iff.rfl | exact valid_rat _ | grind)] at hr114
     subst hr114
     refine w_q rfl (fun h' L' hh hR => ov_pick_t rfl rfl) rfl (w_q rfl (fun h' L' hh hR => ov_move rfl) rfl ?_)
     refine w_c rfl (s_on rfl rfl ?_)
     refine s_call (vs := []) Try.call14 trivial (fun w hs => law2_awake hs) rfl ?_
     intro v117 h29 hh29 hr117
     subst hr117
     refine w_q rfl (fun h' L' hh hR => ov_pick_t rfl rfl) rfl (w_q rfl (fun h' L' hh hR => ov_assign rfl) rfl (w_nil (gq_keep (e' := [(6, _)]) ⟨rfl, trivial⟩ (gq_then (gc_ret (gq_body1 rfl rfl ?_))))))
     rfl

theorem law2_order {w0 : World} {h0 : Mem}  (hs : MLe h0 (mem w0)) {sa : Prop} {ba vna vda : Value} {xa ya : List Nat} (hba : ba = vB sa) (hna : Us .u32 h0 vna xa) (hda : Us .u32 h0 vda ya) {sb : Prop} {bb vnb vdb : Value} {xb yb : List Nat} (hbb : bb = vB sb) (hnb : Us .u32 h0 vnb xb) (hdb : Us .u32 h0 vdb yb) {sc : Prop} {bc vnc vdc : Value} {xc yc : List Nat} (hbc : bc = vB sc) (hnc : Us .u32 h0 vnc xc) (hdc : Us .u32 h0 vdc yc)  :
    Calls Try.prog 10 #[.agg #[ba, vna, vda], .agg #[bb, vnb, vdb], .agg #[bc, vnc, vdc]] w0 (Ret w0 h0 (fun _ r => r = .bool true)) := by
 subst hba
 subst hbb
 subst hbc
 have hlxa := limbs_len_le hna.lt
 have hlya := dV_len ya hda.lt
 have hlxb := limbs_len_le hnb.lt
 have hlyb := dV_len yb hdb.lt
 have hlxc := limbs_len_le hnc.lt
 have hlyc := dV_len yc hdc.lt
 refine calls_begin (n := 84) (e := [(0, .agg #[vB sa, vna, vda]), (1, .agg #[vB sb, vnb, vdb]), (2, .agg #[vB sc, vnc, vdc])]) (vs := [.agg #[vB sa, vna, vda], .agg #[vB sb, vnb, vdb], .agg #[vB sc, vnc, vdc]]) Try.func10 rfl rfl (Nat.le_of_ble_eq_true rfl) hs ⟨rfl, rfl, rfl, trivial⟩ (gc_seq (gc_region (gl_newop (new_box (cs := [_, _, _]) rfl rfl) rfl rfl rfl ?_)))
 intro v3 r3 hr3
 obtain ⟨b3, rfl, rfl⟩ := hr3
 refine gl_newop (new_box (cs := [_, _, _]) rfl rfl) rfl rfl rfl ?_
 intro v4 r4 hr4
 obtain ⟨b4, rfl, rfl⟩ := hr4
 refine gl_newop (new_box (cs := [_, _, _]) rfl rfl) rfl rfl rfl ?_
 intro v5 r5 hr5
 obtain ⟨b5, rfl, rfl⟩ := hr5
 refine asg rfl rfl (gl_nil (gq_then (gc_seq (gc_seq (gc_region (gv (ov_load_agg (vs := [_, _, _]) (.tail _ (.tail _ (.head _))) Try.underlying24 rfl size24 rfl rfl) rfl ?_))))))
 refine gl_call (vs := [_]) rfl rfl rfl rfl Try.call13 ⟨rfl, trivial⟩ (fun w hs => law2_light hs rfl hna hda) ?_
 intro v12 h1 hh1 hr12
 subst hr12
 refine gv (ov_not rfl) rfl ?_
 refine gl_cut (ι := Mem) 5 (fun m_ => MLe h1 m_) (fun _ => [(18, vB ((¬ ((↑((xa)).length : Int) ≤ 16 ∧ (↑((ya)).length : Int) ≤ 16)) ∨ (¬ ((↑((xb)).length : Int) ≤ 16 ∧ (↑((yb)).length : Int) ≤ 16)))), (3, vP b3 0), (4, vP b4 0), (5, vP b5 0)]) (fun _ => [.var b5 24 [vB sc, vnc, vdc], .var b4 24 [vB sb, vnb, vdb], .var b3 24 [vB sa, vna, vda]]) (fun m_ => m_) ?_ ?_
 ·
  refine gl_cases (¬ ((↑((xa)).length : Int) ≤ 16 ∧ (↑((ya)).length : Int) ≤ 16)) (fun hg => ?_) (fun hg => ?_)
  ·
   refine gl_val (ov_move (v := .bool true) (congrArg some (vB_true hg))) rfl rfl rfl (gl_off rfl rfl rfl rfl rfl rfl (gl_off rfl rfl rfl rfl rfl rfl (gl_off rfl rfl rfl rfl rfl rfl (gv (ov_pick_t rfl rfl) rfl (gl_nil ?_)))))
   refine gq_cut h1 (MLe.refl _) ⟨?_, rfl, rfl, rfl, trivial⟩ rfl rfl
   exact congrArg some (vB_or_t hg)
  ·
   refine gl_val (ov_move (v := .bool false) (congrArg some (vB_false hg))) rfl rfl rfl (gl_on rfl rfl rfl (gv (ov_load_agg (vs := [_, _, _]) (.tail _ (.head _)) Try.underlying24 rfl size24 rfl rfl) rfl (gl_on rfl rfl rfl ?_)))
   replace hnb := hnb.mono hh1
   replace hdb := hdb.mono hh1
   refine gl_call (vs := [_]) rfl rfl rfl rfl Try.call13 ⟨rfl, trivial⟩ (fun w hs => law2_light hs rfl hnb hdb) ?_
   intro v16 h2 hh2 hr16
   subst hr16
   refine gl_on rfl rfl rfl (gv (ov_not rfl) rfl (gv (ov_pick_f rfl rfl) rfl (gl_nil ?_)))
   refine gq_cut h2 hh2 ⟨?_, rfl, rfl, rfl, trivial⟩ rfl rfl
   exact congrArg some (vB_or_f hg)
 ·
  intro mg1_3 hmmg1_3
  show GL _ _ _ _ _ _ _ [(18, vB ((¬ ((↑((xa)).length : Int) ≤ 16 ∧ (↑((ya)).length : Int) ≤ 16)) ∨ (¬ ((↑((xb)).length : Int) ≤ 16 ∧ (↑((yb)).length : Int) ≤ 16)))), (3, vP b3 0), (4, vP b4 0), (5, vP b5 0)] [.var b5 24 [vB sc, vnc, vdc], .var b4 24 [vB sb, vnb, vdb], .var b3 24 [vB sa, vna, vda]] mg1_3
  refine gl_cut (ι := Mem) 5 (fun m_ => MLe mg1_3 m_) (fun _ => [(23, vB (((¬ ((↑((xa)).length : Int) ≤ 16 ∧ (↑((ya)).length : Int) ≤ 16)) ∨ (¬ ((↑((xb)).length : Int) ≤ 16 ∧ (↑((yb)).length : Int) ≤ 16))) ∨ (¬ ((↑((xc)).length : Int) ≤ 16 ∧ (↑((yc)).length : Int) ≤ 16)))), (3, vP b3 0), (4, vP b4 0), (5, vP b5 0)]) (fun _ => [.var b5 24 [vB sc, vnc, vdc], .var b4 24 [vB sb, vnb, vdb], .var b3 24 [vB sa, vna, vda]]) (fun m_ => m_) ?_ ?_
  ·
   refine gl_cases ((¬ ((↑((xa)).length : Int) ≤ 16 ∧ (↑((ya)).length : Int) ≤ 16)) ∨ (¬ ((↑((xb)).length : Int) ≤ 16 ∧ (↑((yb)).length : Int) ≤ 16))) (fun hg => ?_) (fun hg => ?_)
   ·
    refine gl_val (ov_move (v := .bool true) (congrArg some (vB_true hg))) rfl rfl rfl (gl_off rfl rfl rfl rfl rfl rfl (gl_off rfl rfl rfl rfl rfl rfl (gl_off rfl rfl rfl rfl rfl rfl (gv (ov_pick_t rfl rfl) rfl (gl_nil ?_)))))
    refine gq_cut mg1_3 (MLe.refl _) ⟨?_, rfl, rfl, rfl, trivial⟩ rfl rfl
    exact congrArg some (vB_or_t hg)
   ·
    refine gl_val (ov_move (v := .bool false) (congrArg some (vB_false hg))) rfl rfl rfl (gl_on rfl rfl rfl (gv (ov_load_agg (vs := [_, _, _]) (.head _) Try.underlying24 rfl size24 rfl rfl) rfl (gl_on rfl rfl rfl ?_)))
    replace hnc := hnc.mono (hh1.trans hmmg1_3)
    replace hdc := hdc.mono (hh1.trans hmmg1_3)
    refine gl_call (vs := [_]) rfl rfl rfl rfl Try.call13 ⟨rfl, trivial⟩ (fun w hs => law2_light hs rfl hnc hdc) ?_
    intro v21 h2 hh2 hr21
    subst hr21
    refine gl_on rfl rfl rfl (gv (ov_not rfl) rfl (gv (ov_pick_f rfl rfl) rfl (gl_nil ?_)))
    refine gq_cut h2 hh2 ⟨?_, rfl, rfl, rfl, trivial⟩ rfl rfl
    exact congrArg some (vB_or_f hg)
  ·
   intro mg1_8 hmmg1_8
   show GL _ _ _ _ _ _ _ [(23, vB (((¬ ((↑((xa)).length : Int) ≤ 16 ∧ (↑((ya)).length : Int) ≤ 16)) ∨ (¬ ((↑((xb)).length : Int) ≤ 16 ∧ (↑((yb)).length : Int) ≤ 16))) ∨ (¬ ((↑((xc)).length : Int) ≤ 16 ∧ (↑((yc)).length : Int) ≤ 16)))), (3, vP b3 0), (4, vP b4 0), (5, vP b5 0)] [.var b5 24 [vB sc, vnc, vdc], .var b4 24 [vB sb, vnb, vdb], .var b3 24 [vB sa, vna, vda]] mg1_8
   refine gl_nil (gq_then ?_)
   refine gc_cond rfl (fun hc23 => ?_) (fun hc23 => ?_)
   ·
    refine gc_seq (gc_region ?_)
    refine gl_call (vs := []) rfl rfl rfl rfl Try.call14 trivial (fun w hs => law2_awake hs) ?_
    intro v24 h2 hh2 hr24
    subst hr24
    refine asg rfl rfl (gl_nil (gq_then (gc_ret (gr_then (gq_body1 rfl rfl ?_)))))
    rfl
   ·
    refine gc_skip (gq_then (gc_seq ?_))
    refine gc_draw 9 _ [(6, (7, 27, [vB ((0 : Rat).num < 0), .slice none 0 0, .slice none 0 0])), (7, (8, 27, [vB ((0 : Rat).num < 0), .slice none 0 0, .slice none 0 0])), (8, (9, 27, [vB ((0 : Rat).num < 0), .slice none 0 0, .slice none 0 0]))] [(0, .q), (2, .q), (4, .q), (1, .c), (3, .c), (5, .c), (6, .a), (7, .a), (8, .a), (9, .t), (10, .t), (11, .t)] mixed (AlOk.cons rfl (zero_run info27 rfl (by simp only [zb]; rfl)) (AlOk.cons rfl (zero_run info27 rfl (by simp only [zb]; rfl)) (AlOk.cons rfl (zero_run info27 rfl (by simp only [zb]; rfl)) AlOk.nil))) (by kernel_rfl) (hae_cons rfl rfl (hae_cons rfl rfl (hae_cons rfl rfl hae_nil))) (fun r hr => hr) (w_q rfl (fun h' L' hh hR => ov_load_agg (vs := [_, _, _]) (hR _ (.tail _ (.tail _ (.head _)))) Try.underlying24 rfl size24 rfl rfl) rfl (w_q rfl (fun h' L' hh hR => ov_load_agg (vs := [_, _, _]) (hR _ (.tail _ (.head _))) Try.underlying24 rfl size24 rfl rfl) rfl (w_q rfl (fun h' L' hh hR => ov_load_agg (vs := [_, _, _]) (hR _ (.head _)) Try.underlying24 rfl size24 rfl rfl) rfl ?_)))
    refine w_c rfl ?_
    replace hna := hna.mono ((hh1.trans hmmg1_3).trans hmmg1_8)
    replace hda := hda.mono ((hh1.trans hmmg1_3).trans hmmg1_8)
    refine s_call (vs := [_]) Try.call15 ⟨rfl, trivial⟩ (fun w hs => law2_number hs rfl hna hda (by constructor <;> omega)) rfl ?_
    intro v26 h2 hh2 hr26
    have hlq26 := lq_numQ (sa) (xa) (ya)
    obtain ⟨vn26, vd26, rfl, hn26, hd26⟩ := hr26
    refine w_c rfl ?_
    replace hnb := hnb.mono (((hh1.trans hmmg1_3).trans hmmg1_8).trans hh2)
    replace hdb := hdb.mono (((hh1.trans hmmg1_3).trans hmmg1_8).trans hh2)
    refine s_call (vs := [_]) Try.call15 ⟨rfl, trivial⟩ (fun w hs => law2_number hs rfl hnb hdb (by constructor <;> omega)) rfl ?_
    intro v28 h3 hh3 hr28
    have hlq28 := lq_numQ (sb) (xb) (yb)
    obtain ⟨vn28, vd28, rfl, hn28, hd28⟩ := hr28
    refine w_c rfl ?_
    replace hnc := hnc.mono ((((hh1.trans hmmg1_3).trans hmmg1_8).trans hh2).trans hh3)
    replace hdc := hdc.mono ((((hh1.trans hmmg1_3).trans hmmg1_8).trans hh2).trans hh3)
    refine s_call (vs := [_]) Try.call15 ⟨rfl, trivial⟩ (fun w hs => law2_number hs rfl hnc hdc (by constructor <;> omega)) rfl ?_
    intro v30 h4 hh4 hr30
    have hlq30 := lq_numQ (sc) (xc) (yc)
    obtain ⟨vn30, vd30, rfl, hn30, hd30⟩ := hr30
    refine w_a rfl (fun b7 => ?_)
    refine w_a rfl (fun b8 => ?_)
    refine w_a rfl (fun b9 => ?_)
    replace hn26 := hn26.mono (hh3.trans hh4)
    replace hd26 := hd26.mono (hh3.trans hh4)
    refine w_t_upd (A := [_, _]) (q' := .var b7 27 [vB ((numQ (sa) (xa) (ya)).num < 0), vn26, vd26]) rfl (upd_store_var (k := 0) (cs := [_, _, _]) (vs := [_, _, _]) rfl rfl rfl (ocr rfl (ocu hn26 (ocu hd26 oc0))) size27 (Nat.le_of_ble_eq_true rfl)) rfl ?_
    replace hn28 := hn28.mono hh4
    replace hd28 := hd28.mono hh4
    refine w_t_upd (A := [_]) (q' := .var b8 27 [vB ((numQ (sb) (xb) (yb)).num < 0), vn28, vd28]) rfl (upd_store_var (k := 0) (cs := [_, _, _]) (vs := [_, _, _]) rfl rfl rfl (ocr rfl (ocu hn28 (ocu hd28 oc0))) size27 (Nat.le_of_ble_eq_true rfl)) rfl (w_t_upd (A := []) (q' := .var b9 27 [vB ((numQ (sc) (xc) (yc)).num < 0), vn30, vd30]) rfl (upd_store_var (k := 0) (cs := [_, _, _]) (vs := [_, _, _]) rfl rfl rfl (ocr rfl (ocu hn30 (ocu hd30 oc0))) size27 (Nat.le_of_ble_eq_true rfl)) rfl (w_nil (gq_keep (e' := [(7, _), (8, _), (9, _)]) ⟨rfl, rfl, rfl, trivial⟩ (gq_then (gc_seq (gc_region (gv (ov_load_agg (vs := [_, _, _]) (.tail _ (.tail _ (.head _))) Try.underlying27 rfl size27 rfl rfl) rfl (gv (ov_load_agg (vs := [_, _, _]) (.tail _ (.head _)) Try.underlying27 rfl size27 rfl rfl) rfl ?_))))))))
    refine gl_call (vs := [_, _]) rfl rfl rfl rfl Try.call47 ⟨rfl, rfl, trivial⟩ (fun w hs => rat_cmp hs hn26 hd26 hn28 hd28 (by omega) (by omega)) ?_
    intro v33 h5 hh5 hr33
    have hcr33 := cmpQ_range (numQ (sa) (xa) (ya)) (numQ (sb) (xb) (yb))
    subst hr33
    refine asg rfl rfl (gl_nil (gq_then (gc_seq ?_)))
    refine gc_draw 51 _ [] [(0, .q), (1, .q), (2, .q), (3, .c), (4, .q), (5, .q), (6, .q), (7, .q), (8, .q), (9, .q), (10, .q), (11, .c), (12, .q), (13, .q), (14, .q), (15, .q), (16, .q), (17, .q), (18, .c), (19, .c), (20, .q), (21, .q), (22, .q), (23, .q), (24, .q), (26, .q), (27, .q), (30, .q), (25, .c), (28, .c), (29, .c), (31, .q), (32, .q), (33, .q), (34, .q), (35, .q), (37, .q), (38, .q), (41, .q), (42, .q), (36, .c), (39, .c), (40, .c), (43, .c), (44, .q), (45, .q), (46, .q), (47, .q), (48, .c), (49, .q), (50, .q)] mixed (fun x hx => by cases hx) (by kernel_rfl) (fun x hx => by cases hx) (fun r hr => hr) (w_q rfl (fun h' L' hh hR => ov_move rfl) rfl (w_q rfl (fun h' L' hh hR => ov_load_agg (vs := [_, _, _]) (hR _ (.tail _ (.head _))) Try.underlying27 rfl size27 rfl rfl) rfl (w_q rfl (fun h' L' hh hR => ov_load_agg (vs := [_, _, _]) (hR _ (.tail _ (.tail _ (.head _)))) Try.underlying27 rfl size27 rfl rfl) rfl ?_)))
    refine w_c rfl ?_
    replace hn26 := hn26.mono hh5
    replace hd26 := hd26.mono hh5
    replace hn28 := hn28.mono hh5
    replace hd28 := hd28.mono hh5
    refine s_call (vs := [_, _]) Try.call47 ⟨rfl, rfl, trivial⟩ (fun w hs => rat_cmp hs hn28 hd28 hn26 hd26 (by omega) (by omega)) rfl ?_
    intro v37 h6 hh6 hr37
    have hcr37 := cmpQ_range (numQ (sb) (xb) (yb)) (numQ (sa) (xa) (ya))
    subst hr37
    refine w_q rfl (fun h' L' hh hR => ov_neg_i rfl (by omega) (by omega)) rfl (w_q rfl (fun h' L' hh hR => OpV.tr (by exact cmpQ_anti _ _) (ov_eql_i rfl rfl)) rfl (w_q rfl (fun h' L' hh hR => ov_move rfl) rfl (w_q_on rfl rfl rfl (fun h' L' hh hR => ov_move rfl) rfl (w_q_on rfl rfl rfl (fun h' L' hh hR => ov_eql_i (q := 0) rfl rfl) rfl (w_q_on rfl rfl rfl (fun h' L' hh hR => ov_load_agg (vs := [_, _, _]) (hR _ (.tail _ (.tail _ (.head _)))) Try.underlying27 rfl size27 rfl rfl) rfl (w_q_on rfl rfl rfl (fun h' L' hh hR => ov_load_agg (vs := [_, _, _]) (hR _ (.tail _ (.head _))) Try.underlying27 rfl size27 rfl rfl) rfl ?_))))))
    refine w_c rfl (s_on rfl rfl ?_)
    replace hn26 := hn26.mono hh6
    replace hd26 := hd26.mono hh6
    replace hn28 := hn28.mono hh6
    replace hd28 := hd28.mono hh6
    refine s_call (vs := [_, _]) Try.call29 ⟨rfl, rfl, trivial⟩ (fun w hs => rat_same hs hn26 hd26 hn28 hd28 (by omega) (by omega)) rfl ?_
    intro v45 h7 hh7 hr45
    subst hr45
    refine w_q_on rfl rfl rfl (fun h' L' hh hR => OpV.tr (by exact cmpQ_zero) (ov_eql_b Try.underlying4 rfl rfl)) rfl (w_q rfl (fun h' L' hh hR => ov_pick_t rfl rfl) rfl (w_q rfl (fun h' L' hh hR => ov_move rfl) rfl (w_q_on rfl rfl rfl (fun h' L' hh hR => ov_move rfl) rfl (w_q_on rfl rfl rfl (fun h' L' hh hR => ov_load_agg (vs := [_, _, _]) (hR _ (.tail _ (.tail _ (.head _)))) Try.underlying27 rfl size27 rfl rfl) rfl (w_q_on rfl rfl rfl (fun h' L' hh hR => ov_load_agg (vs := [_, _, _]) (hR _ (.tail _ (.head _))) Try.underlying27 rfl size27 rfl rfl) rfl ?_)))))
    refine w_c rfl (s_on rfl rfl ?_)
    replace hn26 := hn26.mono hh7
    replace hd26 := hd26.mono hh7
    replace hn28 := hn28.mono hh7
    replace hd28 := hd28.mono hh7
    refine s_call (vs := [_, _]) Try.call42 ⟨rfl, rfl, trivial⟩ (fun w hs => rat_sub hs hn26 hd26 hn28 hd28 (by omega) (by omega)) rfl ?_
    intro v52 h8 hh8 hr52
    obtain ⟨vn52, vd52, rfl, hn52, hd52⟩ := hr52
    have hlq52 := lq_sub (numQ (sa) (xa) (ya)) (numQ (sb) (xb) (yb))
    refine w_c rfl (s_on rfl rfl ?_)
    refine s_call (vs := [_]) Try.call46 ⟨rfl, trivial⟩ (fun w hs => rat_sign hs hn52 hd52 (by omega)) rfl ?_
    intro v53 h9 hh9 hr53
    have hsr53 := sgnQ_range ((numQ (sa) (xa) (ya)) - (numQ (sb) (xb) (yb)))
    subst hr53
    refine w_q_on rfl rfl rfl (fun h' L' hh hR => OpV.tr (by exact cmpQ_sub _ _) (ov_eql_i rfl rfl)) rfl (w_q rfl (fun h' L' hh hR => ov_pick_t rfl rfl) rfl (w_q rfl (fun h' L' hh hR => ov_move rfl) rfl (w_q_on rfl rfl rfl (fun h' L' hh hR => ov_load_agg (vs := [_, _, _]) (hR _ (.tail _ (.tail _ (.head _)))) Try.underlying27 rfl size27 rfl rfl) rfl (w_q_on rfl rfl rfl (fun h' L' hh hR => ov_load_agg (vs := [_, _, _]) (hR _ (.head _)) Try.underlying27 rfl size27 rfl rfl) rfl (w_q_on rfl rfl rfl (fun h' L' hh hR => ov_load_agg (vs := [_, _, _]) (hR _ (.tail _ (.head _))) Try.underlying27 rfl size27 rfl rfl) rfl (w_q_on rfl rfl rfl (fun h' L' hh hR => ov_load_agg (vs := [_, _, _]) (hR _ (.head _)) Try.underlying27 rfl size27 rfl rfl) rfl (w_q_on rfl rfl rfl (fun h' L' hh hR => ov_move rfl) rfl ?_)))))))
    refine w_c rfl (s_on rfl rfl ?_)
    replace hn26 := hn26.mono (hh8.trans hh9)
    replace hd26 := hd26.mono (hh8.trans hh9)
    replace hn30 := hn30.mono ((((hh5.trans hh6).trans hh7).trans hh8).trans hh9)
    replace hd30 := hd30.mono ((((hh5.trans hh6).trans hh7).trans hh8).trans hh9)
    refine s_call (vs := [_, _]) Try.call40 ⟨rfl, rfl, trivial⟩ (fun w hs => rat_add hs hn26 hd26 hn30 hd30 (by omega) (by omega)) rfl ?_
    intro v59 h10 hh10 hr59
    obtain ⟨vn59, vd59, rfl, hn59, hd59⟩ := hr59
    have hlq59 := lq_add (numQ (sa) (xa) (ya)) (numQ (sc) (xc) (yc))
    refine w_c rfl (s_on rfl rfl ?_)
    replace hn28 := hn28.mono ((hh8.trans hh9).trans hh10)
    replace hd28 := hd28.mono ((hh8.trans hh9).trans hh10)
    replace hn30 := hn30.mono hh10
    replace hd30 := hd30.mono hh10
    refine s_call (vs := [_, _]) Try.call40 ⟨rfl, rfl, trivial⟩ (fun w hs => rat_add hs hn28 hd28 hn30 hd30 (by omega) (by omega)) rfl ?_
    intro v62 h11 hh11 hr62
    obtain ⟨vn62, vd62, rfl, hn62, hd62⟩ := hr62
    have hlq62 := lq_add (numQ (sb) (xb) (yb)) (numQ (sc) (xc) (yc))
    refine w_c rfl (s_on rfl rfl ?_)
    replace hn59 := hn59.mono hh11
    replace hd59 := hd59.mono hh11
    refine s_call (vs := [_, _]) Try.call47 ⟨rfl, rfl, trivial⟩ (fun w hs => rat_cmp hs hn59 hd59 hn62 hd62 (by omega) (by omega)) rfl ?_
    intro v63 h12 hh12 hr63
    have hcr63 := cmpQ_range ((numQ (sa) (xa) (ya)) + (numQ (sc) (xc) (yc))) ((numQ (sb) (xb) (yb)) + (numQ (sc) (xc) (yc)))
    subst hr63
    refine w_q_on rfl rfl rfl (fun h' L' hh hR => OpV.tr (by exact cmpQ_add _ _ _) (ov_eql_i rfl rfl)) rfl (w_q rfl (fun h' L' hh hR => ov_pick_t rfl rfl) rfl (w_q rfl (fun h' L' hh hR => ov_move rfl) rfl (w_q_on rfl rfl rfl (fun h' L' hh hR => ov_load_agg (vs := [_, _, _]) (hR _ (.tail _ (.tail _ (.head _)))) Try.underlying27 rfl size27 rfl rfl) rfl (w_q_on rfl rfl rfl (fun h' L' hh hR => ov_load_agg (vs := [_, _, _]) (hR _ (.head _)) Try.underlying27 rfl size27 rfl rfl) rfl (w_q_on rfl rfl rfl (fun h' L' hh hR => ov_load_agg (vs := [_, _, _]) (hR _ (.tail _ (.head _))) Try.underlying27 rfl size27 rfl rfl) rfl (w_q_on rfl rfl rfl (fun h' L' hh hR => ov_load_agg (vs := [_, _, _]) (hR _ (.head _)) Try.underlying27 rfl size27 rfl rfl) rfl (w_q_on rfl rfl rfl (fun h' L' hh hR => ov_move rfl) rfl (w_q_on rfl rfl rfl (fun h' L' hh hR => ov_load_agg (vs := [_, _, _]) (hR _ (.head _)) Try.underlying27 rfl size27 rfl rfl) rfl ?_))))))))
    refine w_c rfl (s_on rfl rfl ?_)
    replace hn26 := hn26.mono ((hh10.trans hh11).trans hh12)
    replace hd26 := hd26.mono ((hh10.trans hh11).trans hh12)
    replace hn30 := hn30.mono (hh11.trans hh12)
    replace hd30 := hd30.mono (hh11.trans hh12)
    refine s_call (vs := [_, _]) Try.call44 ⟨rfl, rfl, trivial⟩ (fun w hs => rat_mul hs hn26 hd26 hn30 hd30 (by omega) (by omega)) rfl ?_
    intro v70 h13 hh13 hr70
    obtain ⟨vn70, vd70, rfl, hn70, hd70⟩ := hr70
    have hlq70 := lq_mul (numQ (sa) (xa) (ya)) (numQ (sc) (xc) (yc))
    refine w_c rfl (s_on rfl rfl ?_)
    replace hn28 := hn28.mono ((hh11.trans hh12).trans hh13)
    replace hd28 := hd28.mono ((hh11.trans hh12).trans hh13)
    replace hn30 := hn30.mono hh13
    replace hd30 := hd30.mono hh13
    refine s_call (vs := [_, _]) Try.call44 ⟨rfl, rfl, trivial⟩ (fun w hs => rat_mul hs hn28 hd28 hn30 hd30 (by omega) (by omega)) rfl ?_
    intro v73 h14 hh14 hr73
    obtain ⟨vn73, vd73, rfl, hn73, hd73⟩ := hr73
    have hlq73 := lq_mul (numQ (sb) (xb) (yb)) (numQ (sc) (xc) (yc))
    refine w_c rfl (s_on rfl rfl ?_)
    replace hn70 := hn70.mono hh14
    replace hd70 := hd70.mono hh14
    refine s_call (vs := [_, _]) Try.call47 ⟨rfl, rfl, trivial⟩ (fun w hs => rat_cmp hs hn70 hd70 hn73 hd73 (by omega) (by omega)) rfl ?_
    intro v74 h15 hh15 hr74
    have hcr74 := cmpQ_range ((numQ (sa) (xa) (ya)) * (numQ (sc) (xc) (yc))) ((numQ (sb) (xb) (yb)) * (numQ (sc) (xc) (yc)))
    subst hr74
    refine w_c rfl (s_on rfl rfl ?_)
    replace hn30 := hn30.mono (hh14.trans hh15)
    replace hd30 := hd30.mono (hh14.trans hh15)
    refine s_call (vs := [_]) Try.call46 ⟨rfl, trivial⟩ (fun w hs => rat_sign hs hn30 hd30 (by omega)) rfl ?_
    intro v77 h16 hh16 hr77
    have hsr77 := sgnQ_range (numQ (sc) (xc) (yc))
    subst hr77
    have hmr := mul_range (cmpQ_range (numQ sa xa ya) (numQ sb xb yb)) (sgnQ_range (numQ sc xc yc))
    refine w_q_on rfl rfl rfl (fun h' L' hh hR => ov_mul_i rfl rfl (by omega) (by omega)) rfl (w_q_on rfl rfl rfl (fun h' L' hh hR => OpV.tr (by exact cmpQ_mul _ _ _) (ov_eql_i rfl rfl)) rfl (w_q rfl (fun h' L' hh hR => ov_pick_t rfl rfl) rfl (w_q rfl (fun h' L' hh hR => ov_move rfl) rfl ?_)))
    refine w_c rfl (s_on rfl rfl ?_)
    refine s_call (vs := []) Try.call14 trivial (fun w hs => law2_awake hs) rfl ?_
    intro v82 h17 hh17 hr82
    subst hr82
    refine w_q rfl (fun h' L' hh hR => ov_pick_t rfl rfl) rfl (w_q rfl (fun h' L' hh hR => ov_assign rfl) rfl (w_nil (gq_keep (e' := [(6, _)]) ⟨rfl, trivial⟩ (gq_then (gc_ret (gq_body1 rfl rfl ?_))))))
    rfl

end Go.Proofs.Ytimoeckkdodogaa
