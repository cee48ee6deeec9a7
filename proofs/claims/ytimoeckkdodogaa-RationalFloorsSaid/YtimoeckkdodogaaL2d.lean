/- Contracts of functions, walked by their text (law2d/b). -/
import Derived.Test.YtimoeckkdodogaaL2
import Derived.Test.YtimoeckkdodogaaOrd
namespace Go.Proofs.Ytimoeckkdodogaa
open Bk Go
set_option linter.unusedVariables false
set_option linter.unusedSimpArgs false
set_option maxRecDepth 10000

theorem law2_floors {w0 : World} {h0 : Mem}  (hs : MLe h0 (mem w0)) {sa : Prop} {ba vna vda : Value} {xa ya : List Nat} (hba : ba = vB sa) (hna : Us .u32 h0 vna xa) (hda : Us .u32 h0 vda ya) {k : Nat} (hk : k < 256) :
    Calls Try.prog 11 #[.agg #[ba, vna, vda], vU .u8 k] w0 (Ret w0 h0 (fun _ r => r = .bool true)) := by
 subst hba
 have hlxa := limbs_len_le hna.lt
 have hlya := dV_len ya hda.lt
 refine calls_begin (n := 79) (e := [(0, .agg #[vB sa, vna, vda]), (1, vU .u8 k)]) (vs := [.agg #[vB sa, vna, vda], vU .u8 k]) Try.func11 rfl rfl (Nat.le_of_ble_eq_true rfl) hs ⟨rfl, rfl, trivial⟩ (gc_seq (gc_region (gl_newop (new_box (cs := [_, _, _]) rfl rfl) rfl rfl rfl ?_)))
 intro v2 r2 hr2
 obtain ⟨b2, rfl, rfl⟩ := hr2
 refine asg rfl rfl (gl_nil (gq_then (gc_seq (gc_seq (gc_region (gv (ov_load_agg (vs := [_, _, _]) (.head _) Try.underlying24 rfl size24 rfl rfl) rfl ?_))))))
 refine gl_call (vs := [_]) rfl rfl rfl rfl Try.call13 ⟨rfl, trivial⟩ (fun w hs => law2_light hs rfl hna hda) ?_
 intro v12 h1 hh1 hr12
 subst hr12
 refine gv (ov_not rfl) rfl (gl_nil (gq_then ?_))
 refine gc_cond rfl (fun hc13 => ?_) (fun hc13 => ?_)
 ·
  refine gc_seq (gc_region ?_)
  refine gl_call (vs := []) rfl rfl rfl rfl Try.call14 trivial (fun w hs => law2_awake hs) ?_
  intro v14 h2 hh2 hr14
  subst hr14
  refine asg rfl rfl (gl_nil (gq_then (gc_ret (gr_then (gq_body1 rfl rfl ?_)))))
  rfl
 ·
  refine gc_skip (gq_then (gc_seq (gc_region (gv (ov_load_agg (vs := [_, _, _]) (.head _) Try.underlying24 rfl size24 rfl rfl) rfl ?_))))
  replace hna := hna.mono hh1
  replace hda := hda.mono hh1
  refine gl_call (vs := [_]) rfl rfl rfl rfl Try.call15 ⟨rfl, trivial⟩ (fun w hs => law2_number hs rfl hna hda (by constructor <;> omega)) ?_
  intro v16 h2 hh2 hr16
  have hlq16 := lq_numQ (sa) (xa) (ya)
  obtain ⟨vn16, vd16, rfl, hn16, hd16⟩ := hr16
  refine gl_newop (new_alloc (cs := [vB ((0 : Rat).num < 0), .slice none 0 0, .slice none 0 0]) info27 rfl (by simp only [zb]; rfl)) rfl rfl rfl ?_
  intro v5 r5 hr5
  obtain ⟨b5, rfl, rfl⟩ := hr5
  refine gl_upd (A := []) (r' := .var b5 27 [vB ((numQ (sa) (xa) (ya)).num < 0), vn16, vd16]) (upd_store_var (k := 0) (cs := [_, _, _]) (vs := [_, _, _]) rfl rfl rfl (ocr rfl (ocu hn16 (ocu hd16 oc0))) size27 (Nat.le_of_ble_eq_true rfl)) rfl rfl rfl (gl_nil (gq_then (gc_seq (gc_region (mv rfl rfl (gv (ov_rem_u (k := .u8) (q := 64) rfl rfl (by omega)) rfl (gv (ov_conv_ui (k := .u8) Try.underlying5 Try.underlying3 rfl (by omega)) rfl (asg rfl rfl (gl_nil (gq_keep (e' := [(5, _), (6, _)]) ⟨rfl, rfl, trivial⟩ (gq_then (gc_seq ?_))))))))))))
  refine gc_draw 8 _ [(6, (7, 27, [vB ((0 : Rat).num < 0), .slice none 0 0, .slice none 0 0])), (7, (8, 27, [vB ((0 : Rat).num < 0), .slice none 0 0, .slice none 0 0]))] [(0, .q), (1, .q), (3, .q), (4, .q), (2, .c), (5, .c), (6, .a), (7, .a), (8, .t), (9, .t)] mixed (AlOk.cons rfl (zero_run info27 rfl (by simp only [zb]; rfl)) (AlOk.cons rfl (zero_run info27 rfl (by simp only [zb]; rfl)) AlOk.nil)) (by kernel_rfl) (hae_cons rfl rfl (hae_cons rfl rfl hae_nil)) (fun r hr => hr) (w_q rfl (fun h' L' hh hR => ov_load_agg (vs := [_, _, _]) (hR _ (.head _)) Try.underlying27 rfl size27 rfl rfl) rfl (w_q rfl (fun h' L' hh hR => ov_move rfl) rfl (w_q rfl (fun h' L' hh hR => ov_load_agg (vs := [_, _, _]) (hR _ (.head _)) Try.underlying27 rfl size27 rfl rfl) rfl (w_q rfl (fun h' L' hh hR => ov_move rfl) rfl ?_))))
  refine w_c rfl ?_
  refine s_call (vs := [_, _]) Try.call32 ⟨rfl, rfl, trivial⟩ (fun w hs => rat_down hs hn16 hd16 (by omega) (by omega) (by omega)) rfl ?_
  intro v22 h3 hh3 hr22
  obtain ⟨vn22, vd22, rfl, hn22, hd22⟩ := hr22
  have hlq22 := lq_down (numQ (sa) (xa) (ya)) (↑(k % (64 : Nat)) : Int)
  refine w_c rfl ?_
  replace hn16 := hn16.mono hh3
  replace hd16 := hd16.mono hh3
  refine s_call (vs := [_, _]) Try.call34 ⟨rfl, rfl, trivial⟩ (fun w hs => rat_up hs hn16 hd16 (by omega) (by omega) (by omega)) rfl ?_
  intro v25 h4 hh4 hr25
  obtain ⟨vn25, vd25, rfl, hn25, hd25⟩ := hr25
  have hlq25 := lq_up (numQ (sa) (xa) (ya)) (↑(k % (64 : Nat)) : Int)
  refine w_a rfl (fun b7 => ?_)
  refine w_a rfl (fun b8 => ?_)
  replace hn22 := hn22.mono hh4
  replace hd22 := hd22.mono hh4
  refine w_t_upd (A := [_]) (q' := .var b7 27 [vB ((downQ (numQ (sa) (xa) (ya)) (↑(k % (64 : Nat)) : Int)).num < 0), vn22, vd22]) rfl (upd_store_var (k := 0) (cs := [_, _, _]) (vs := [_, _, _]) rfl rfl rfl (ocr rfl (ocu hn22 (ocu hd22 oc0))) size27 (Nat.le_of_ble_eq_true rfl)) rfl (w_t_upd (A := []) (q' := .var b8 27 [vB ((upQ (numQ (sa) (xa) (ya)) (↑(k % (64 : Nat)) : Int)).num < 0), vn25, vd25]) rfl (upd_store_var (k := 0) (cs := [_, _, _]) (vs := [_, _, _]) rfl rfl rfl (ocr rfl (ocu hn25 (ocu hd25 oc0))) size27 (Nat.le_of_ble_eq_true rfl)) rfl (w_nil (gq_then (gc_seq (gc_region (mv rfl rfl (gv (ov_rem_i (q := 62) rfl rfl (by omega) (by omega)) rfl (gv (ov_shl_i (yk := .i64) (p := 1) (s := (k % 64 % 62)) rfl rfl (by omega) (by rw [Nat.one_mul]; exact Nat.lt_of_le_of_lt (Nat.pow_le_pow_right (by omega) (show k % 64 % 62 ≤ 61 by omega)) (by decide))) rfl ?_))))))))
  have h2p : (1 * 2 ^ (k % 64 % 62) : Nat) < 9223372036854775808 := by rw [Nat.one_mul]; exact Nat.lt_of_le_of_lt (Nat.pow_le_pow_right (by omega) (show k % 64 % 62 ≤ 61 by omega)) (by decide)
  refine gl_call (vs := [vI (1), _]) rfl rfl rfl rfl Try.call21 ⟨rfl, rfl, trivial⟩ (fun w hs => rat_make hs (by omega) (by omega) (by omega) (by omega)) ?_
  intro v30 h5 hh5 hr30
  obtain ⟨_, rfl, vn30, vd30, rfl, hn30, hd30⟩ := hr30
  have hlq30 := lq_make (n := (1 : Int)) (d := (↑(1 * 2 ^ (k % 64 % 62) : Nat) : Int)) (by omega) (by omega) (by omega) (by omega)
  refine mv rfl rfl (gv (ov_extract (vs := [_, _]) rfl rfl) rfl (gv (ov_extract (vs := [_, _]) rfl rfl) rfl (gl_newop (new_alloc (cs := [vB ((0 : Rat).num < 0), .slice none 0 0, .slice none 0 0]) info27 rfl (by simp only [zb]; rfl)) rfl rfl rfl ?_)))
  intro v9 r9 hr9
  obtain ⟨b9, rfl, rfl⟩ := hr9
  refine gl_upd (A := []) (r' := .var b9 27 [vB ((makeQ (1 : Int) (↑(1 * 2 ^ (k % 64 % 62) : Nat) : Int)).num < 0), vn30, vd30]) (upd_store_var (k := 0) (cs := [_, _, _]) (vs := [_, _, _]) rfl rfl rfl (ocr rfl (ocu hn30 (ocu hd30 oc0))) size27 (Nat.le_of_ble_eq_true rfl)) rfl rfl rfl (asg rfl rfl (gl_nil (gq_keep (e' := [(5, _), (6, _), (7, _), (8, _), (9, _)]) ⟨rfl, rfl, rfl, rfl, rfl, trivial⟩ (gq_then ?_))))
  refine gc_cut (ι := Mem) (fun (mc : (Mem)) => MLe h5 mc ∧ (True)) (fun (mc : (Mem)) => [(5, vP b5 0), (6, vI (↑(k % (64 : Nat)) : Int)), (7, vP b7 0), (8, vP b8 0)]) (fun (mc : (Mem)) => [.var b9 27 [vB ((makeQ (1 : Int) (↑(1 * 2 ^ (k % 64 % 62) : Nat) : Int)).num < 0), vn30, vd30], .var b8 27 [vB ((upQ (numQ (sa) (xa) (ya)) (↑(k % (64 : Nat)) : Int)).num < 0), vn25, vd25], .var b7 27 [vB ((downQ (numQ (sa) (xa) (ya)) (↑(k % (64 : Nat)) : Int)).num < 0), vn22, vd22], .var b5 27 [vB ((numQ (sa) (xa) (ya)).num < 0), vn16, vd16], .var b2 24 [vB sa, vna, vda]]) (fun (mc : (Mem)) => mc) ?_ ?_
  ·
   refine gc_seq ?_
   refine gc_cases (k % 64 < 62) (fun hg => ?_) (fun hg => ?_)
   ·
    refine gc_draw 10 _ [] [(0, .q), (1, .q), (2, .q), (3, .q), (4, .q), (6, .q), (5, .c), (7, .c), (8, .q), (9, .q)] mixed (fun x hx => by cases hx) (by kernel_rfl) (fun x hx => by cases hx) (fun r hr => hr) (w_q rfl (fun h' L' hh hR => ov_move rfl) rfl (w_q rfl (fun h' L' hh hR => OpV.tr (by omega) (ov_lss_i (q := 62) rfl rfl)) rfl (w_q rfl (fun h' L' hh hR => ov_move rfl) rfl (w_q_on rfl rfl rfl (fun h' L' hh hR => ov_load_agg (vs := [_, _, _]) (hR _ (.tail _ (.head _))) Try.underlying27 rfl size27 rfl rfl) rfl (w_q_on rfl rfl rfl (fun h' L' hh hR => ov_load_agg (vs := [_, _, _]) (hR _ (.tail _ (.tail _ (.head _)))) Try.underlying27 rfl size27 rfl rfl) rfl (w_q_on rfl rfl rfl (fun h' L' hh hR => ov_load_agg (vs := [_, _, _]) (hR _ (.head _)) Try.underlying27 rfl size27 rfl rfl) rfl ?_))))))
    refine w_c rfl (s_on rfl rfl ?_)
    replace hn22 := hn22.mono hh5
    replace hd22 := hd22.mono hh5
    replace hn25 := hn25.mono hh5
    replace hd25 := hd25.mono hh5
    refine s_call (vs := [_, _]) Try.call42 ⟨rfl, rfl, trivial⟩ (fun w hs => rat_sub hs hn25 hd25 hn22 hd22 (by omega) (by omega)) rfl ?_
    intro v38 h6 hh6 hr38
    obtain ⟨vn38, vd38, rfl, hn38, hd38⟩ := hr38
    have hlq38 := lq_sub (upQ (numQ (sa) (xa) (ya)) (↑(k % (64 : Nat)) : Int)) (downQ (numQ (sa) (xa) (ya)) (↑(k % (64 : Nat)) : Int))
    refine w_c rfl (s_on rfl rfl ?_)
    replace hn30 := hn30.mono hh6
    replace hd30 := hd30.mono hh6
    refine s_call (vs := [_, _]) Try.call47 ⟨rfl, rfl, trivial⟩ (fun w hs => rat_cmp hs hn38 hd38 hn30 hd30 (by omega) (by omega)) rfl ?_
    intro v40 h7 hh7 hr40
    have hcr40 := cmpQ_range ((upQ (numQ (sa) (xa) (ya)) (↑(k % (64 : Nat)) : Int)) - (downQ (numQ (sa) (xa) (ya)) (↑(k % (64 : Nat)) : Int))) (makeQ (1 : Int) (↑(1 * 2 ^ (k % 64 % 62) : Nat) : Int))
    subst hr40
    refine w_q_on rfl rfl rfl (fun h' L' hh hR => OpV.fa (by exact up_down_unit _ hg) (ov_gtr_i (q := 0) rfl rfl)) rfl (w_q rfl (fun h' L' hh hR => ov_pick_t rfl rfl) rfl (w_nil (gq_keep (e' := [(5, _), (6, _), (7, _), (8, _), (42, _)]) ⟨rfl, rfl, rfl, rfl, rfl, trivial⟩ (gq_then (gc_cond_f rfl (gc_skip ?_))))))
    refine gq_cut (h7) ?_ ⟨?_, ?_, ?_, ?_, trivial⟩ ?_ rfl
    ·
     refine ⟨(hh6.trans hh7), ?_⟩
     trivial
    · exact rfl
    · exact rfl
    · exact rfl
    · exact rfl
    · exact rfl
   ·
    refine gc_draw 10 _ [] [(0, .q), (1, .q), (2, .q), (3, .q), (4, .q), (6, .q), (5, .c), (7, .c), (8, .q), (9, .q)] mixed (fun x hx => by cases hx) (by kernel_rfl) (fun x hx => by cases hx) (fun r hr => hr) (w_q rfl (fun h' L' hh hR => ov_move rfl) rfl (w_q rfl (fun h' L' hh hR => OpV.fa (by omega) (ov_lss_i (q := 62) rfl rfl)) rfl (w_q rfl (fun h' L' hh hR => ov_move rfl) rfl (w_q_off rfl rfl rfl rfl rfl (w_q_off rfl rfl rfl rfl rfl (w_q_off rfl rfl rfl rfl rfl ?_))))))
    refine w_c rfl (s_off rfl rfl rfl rfl ?_)
    refine w_c rfl (s_off rfl rfl rfl rfl (w_q_off rfl rfl rfl rfl rfl (w_q rfl (fun h' L' hh hR => ov_pick_f rfl rfl) rfl (w_nil (gq_keep (e' := [(5, _), (6, _), (7, _), (8, _), (42, _)]) ⟨rfl, rfl, rfl, rfl, rfl, trivial⟩ (gq_then (gc_cond_f rfl (gc_skip ?_))))))))
    refine gq_cut (h5) ?_ ⟨?_, ?_, ?_, ?_, trivial⟩ ?_ rfl
    ·
     refine ⟨MLe.refl _, ?_⟩
     trivial
    · exact rfl
    · exact rfl
    · exact rfl
    · exact rfl
    · exact rfl
  ·
   intro mc hx
   obtain ⟨hmmc, hcut⟩ := hx
   show GC _ _ _ _ _ _ [(5, vP b5 0), (6, vI (↑(k % (64 : Nat)) : Int)), (7, vP b7 0), (8, vP b8 0)] [.var b9 27 [vB ((makeQ (1 : Int) (↑(1 * 2 ^ (k % 64 % 62) : Nat) : Int)).num < 0), vn30, vd30], .var b8 27 [vB ((upQ (numQ (sa) (xa) (ya)) (↑(k % (64 : Nat)) : Int)).num < 0), vn25, vd25], .var b7 27 [vB ((downQ (numQ (sa) (xa) (ya)) (↑(k % (64 : Nat)) : Int)).num < 0), vn22, vd22], .var b5 27 [vB ((numQ (sa) (xa) (ya)).num < 0), vn16, vd16], .var b2 24 [vB sa, vna, vda]] mc
   refine gc_seq ?_
   refine gc_draw 37 _ [] [(0, .q), (1, .q), (2, .c), (3, .q), (4, .q), (5, .q), (6, .q), (7, .c), (8, .q), (9, .q), (10, .q), (11, .q), (12, .q), (14, .q), (15, .q), (13, .c), (16, .c), (17, .q), (18, .q), (19, .q), (20, .q), (21, .q), (23, .q), (22, .c), (24, .c), (25, .q), (26, .q), (27, .q), (29, .q), (28, .c), (30, .c), (31, .c), (32, .q), (33, .q), (34, .c), (35, .q), (36, .q)] mixed (fun x hx => by cases hx) (by kernel_rfl) (fun x hx => by cases hx) (fun r hr => hr) (w_q rfl (fun h' L' hh hR => ov_load_agg (vs := [_, _, _]) (hR _ (.tail _ (.tail _ (.head _)))) Try.underlying27 rfl size27 rfl rfl) rfl (w_q rfl (fun h' L' hh hR => ov_load_agg (vs := [_, _, _]) (hR _ (.tail _ (.tail _ (.tail _ (.head _))))) Try.underlying27 rfl size27 rfl rfl) rfl ?_))
   refine w_c rfl ?_
   replace hn16 := hn16.mono ((hh4.trans hh5).trans hmmc)
   replace hd16 := hd16.mono ((hh4.trans hh5).trans hmmc)
   replace hn22 := hn22.mono (hh5.trans hmmc)
   replace hd22 := hd22.mono (hh5.trans hmmc)
   refine s_call (vs := [_, _]) Try.call47 ⟨rfl, rfl, trivial⟩ (fun w hs => rat_cmp hs hn22 hd22 hn16 hd16 (by omega) (by omega)) rfl ?_
   intro v45 h6 hh6 hr45
   have hcr45 := cmpQ_range (downQ (numQ (sa) (xa) (ya)) (↑(k % (64 : Nat)) : Int)) (numQ (sa) (xa) (ya))
   subst hr45
   refine w_q rfl (fun h' L' hh hR => OpV.tr (by exact cmp_le (down_le _ _)) (ov_leq_i (q := 0) rfl rfl)) rfl (w_q rfl (fun h' L' hh hR => ov_move rfl) rfl (w_q_on rfl rfl rfl (fun h' L' hh hR => ov_load_agg (vs := [_, _, _]) (hR _ (.tail _ (.tail _ (.tail _ (.head _))))) Try.underlying27 rfl size27 rfl rfl) rfl (w_q_on rfl rfl rfl (fun h' L' hh hR => ov_load_agg (vs := [_, _, _]) (hR _ (.tail _ (.head _))) Try.underlying27 rfl size27 rfl rfl) rfl ?_)))
   refine w_c rfl (s_on rfl rfl ?_)
   replace hn16 := hn16.mono hh6
   replace hd16 := hd16.mono hh6
   replace hn25 := hn25.mono ((hh5.trans hmmc).trans hh6)
   replace hd25 := hd25.mono ((hh5.trans hmmc).trans hh6)
   refine s_call (vs := [_, _]) Try.call47 ⟨rfl, rfl, trivial⟩ (fun w hs => rat_cmp hs hn16 hd16 hn25 hd25 (by omega) (by omega)) rfl ?_
   intro v50 h7 hh7 hr50
   have hcr50 := cmpQ_range (numQ (sa) (xa) (ya)) (upQ (numQ (sa) (xa) (ya)) (↑(k % (64 : Nat)) : Int))
   subst hr50
   refine w_q_on rfl rfl rfl (fun h' L' hh hR => OpV.tr (by exact cmp_le (up_ge _ _)) (ov_leq_i (q := 0) rfl rfl)) rfl (w_q rfl (fun h' L' hh hR => ov_pick_t rfl rfl) rfl (w_q rfl (fun h' L' hh hR => ov_move rfl) rfl (w_q_on rfl rfl rfl (fun h' L' hh hR => ov_load_agg (vs := [_, _, _]) (hR _ (.tail _ (.tail _ (.head _)))) Try.underlying27 rfl size27 rfl rfl) rfl (w_q_on rfl rfl rfl (fun h' L' hh hR => ov_load_agg (vs := [_, _, _]) (hR _ (.tail _ (.tail _ (.tail _ (.head _))))) Try.underlying27 rfl size27 rfl rfl) rfl (w_q_on rfl rfl rfl (fun h' L' hh hR => ov_load_agg (vs := [_, _, _]) (hR _ (.tail _ (.head _))) Try.underlying27 rfl size27 rfl rfl) rfl (w_q_on rfl rfl rfl (fun h' L' hh hR => ov_load_agg (vs := [_, _, _]) (hR _ (.tail _ (.tail _ (.tail _ (.head _))))) Try.underlying27 rfl size27 rfl rfl) rfl ?_))))))
   refine w_c rfl (s_on rfl rfl ?_)
   replace hn16 := hn16.mono hh7
   replace hd16 := hd16.mono hh7
   replace hn22 := hn22.mono (hh6.trans hh7)
   replace hd22 := hd22.mono (hh6.trans hh7)
   refine s_call (vs := [_, _]) Try.call29 ⟨rfl, rfl, trivial⟩ (fun w hs => rat_same hs hn22 hd22 hn16 hd16 (by omega) (by omega)) rfl ?_
   intro v56 h8 hh8 hr56
   subst hr56
   refine w_c rfl (s_on rfl rfl ?_)
   replace hn16 := hn16.mono hh8
   replace hd16 := hd16.mono hh8
   replace hn25 := hn25.mono (hh7.trans hh8)
   replace hd25 := hd25.mono (hh7.trans hh8)
   refine s_call (vs := [_, _]) Try.call29 ⟨rfl, rfl, trivial⟩ (fun w hs => rat_same hs hn25 hd25 hn16 hd16 (by omega) (by omega)) rfl ?_
   intro v59 h9 hh9 hr59
   subst hr59
   refine w_q_on rfl rfl rfl (fun h' L' hh hR => OpV.tr (by exact down_up _ _) (ov_eql_b Try.underlying4 rfl rfl)) rfl (w_q rfl (fun h' L' hh hR => ov_pick_t rfl rfl) rfl (w_q rfl (fun h' L' hh hR => ov_move rfl) rfl (w_q_on rfl rfl rfl (fun h' L' hh hR => ov_load_agg (vs := [_, _, _]) (hR _ (.tail _ (.tail _ (.head _)))) Try.underlying27 rfl size27 rfl rfl) rfl (w_q_on rfl rfl rfl (fun h' L' hh hR => ov_move rfl) rfl (w_q_on rfl rfl rfl (fun h' L' hh hR => ov_load_agg (vs := [_, _, _]) (hR _ (.tail _ (.tail _ (.head _)))) Try.underlying27 rfl size27 rfl rfl) rfl ?_)))))
   refine w_c rfl (s_on rfl rfl ?_)
   replace hn22 := hn22.mono (hh8.trans hh9)
   replace hd22 := hd22.mono (hh8.trans hh9)
   refine s_call (vs := [_, _]) Try.call32 ⟨rfl, rfl, trivial⟩ (fun w hs => rat_down hs hn22 hd22 (by omega) (by omega) (by omega)) rfl ?_
   intro v65 h10 hh10 hr65
   obtain ⟨vn65, vd65, rfl, hn65, hd65⟩ := hr65
   have hlq65 := lq_down (downQ (numQ (sa) (xa) (ya)) (↑(k % (64 : Nat)) : Int)) (↑(k % (64 : Nat)) : Int)
   refine w_c rfl (s_on rfl rfl ?_)
   replace hn22 := hn22.mono hh10
   replace hd22 := hd22.mono hh10
   refine s_call (vs := [_, _]) Try.call29 ⟨rfl, rfl, trivial⟩ (fun w hs => rat_same hs hn65 hd65 hn22 hd22 (by omega) (by omega)) rfl ?_
   intro v67 h11 hh11 hr67
   rw [vB_true (by exact down_down _ _)] at hr67
   subst hr67
   refine w_q rfl (fun h' L' hh hR => ov_pick_t rfl rfl) rfl (w_q rfl (fun h' L' hh hR => ov_move rfl) rfl (w_q_on rfl rfl rfl (fun h' L' hh hR => ov_load_agg (vs := [_, _, _]) (hR _ (.tail _ (.tail _ (.tail _ (.head _))))) Try.underlying27 rfl size27 rfl rfl) rfl (w_q_on rfl rfl rfl (fun h' L' hh hR => ov_load_agg (vs := [_, _, _]) (hR _ (.tail _ (.tail _ (.tail _ (.head _))))) Try.underlying27 rfl size27 rfl rfl) rfl ?_)))
   refine w_c rfl (s_on rfl rfl ?_)
   replace hn16 := hn16.mono ((hh9.trans hh10).trans hh11)
   replace hd16 := hd16.mono ((hh9.trans hh10).trans hh11)
   refine s_call (vs := [_]) Try.call30 ⟨rfl, trivial⟩ (fun w hs => rat_floor hs hn16 hd16 (by omega)) rfl ?_
   intro v71 h12 hh12 hr71
   obtain ⟨vn71, vd71, rfl, hn71, hd71⟩ := hr71
   have hlq71 := lq_floor (numQ (sa) (xa) (ya))
   refine w_c rfl (s_on rfl rfl ?_)
   replace hn16 := hn16.mono hh12
   replace hd16 := hd16.mono hh12
   refine s_call (vs := [_, vI (0)]) Try.call32 ⟨rfl, rfl, trivial⟩ (fun w hs => rat_down hs hn16 hd16 (by omega) (by omega) (by omega)) rfl ?_
   intro v73 h13 hh13 hr73
   obtain ⟨vn73, vd73, rfl, hn73, hd73⟩ := hr73
   have hlq73 := lq_down (numQ (sa) (xa) (ya)) (0 : Int)
   refine w_c rfl (s_on rfl rfl ?_)
   replace hn71 := hn71.mono hh13
   replace hd71 := hd71.mono hh13
   refine s_call (vs := [_, _]) Try.call29 ⟨rfl, rfl, trivial⟩ (fun w hs => rat_same hs hn71 hd71 hn73 hd73 (by omega) (by omega)) rfl ?_
   intro v74 h14 hh14 hr74
   rw [vB_true (by exact floor_down _)] at hr74
   subst hr74
   refine w_q rfl (fun h' L' hh hR => ov_pick_t rfl rfl) rfl (w_q rfl (fun h' L' hh hR => ov_move rfl) rfl ?_)
   refine w_c rfl (s_on rfl rfl ?_)
   refine s_call (vs := []) Try.call14 trivial (fun w hs => law2_awake hs) rfl ?_
   intro v77 h15 hh15 hr77
   subst hr77
   refine w_q rfl (fun h' L' hh hR => ov_pick_t rfl rfl) rfl (w_q rfl (fun h' L' hh hR => ov_assign rfl) rfl (w_nil (gq_keep (e' := [(4, _)]) ⟨rfl, trivial⟩ (gq_then (gc_ret (gq_body1 rfl rfl ?_))))))
   rfl

end Go.Proofs.Ytimoeckkdodogaa
