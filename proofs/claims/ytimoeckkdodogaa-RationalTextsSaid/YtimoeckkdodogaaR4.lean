/- Contracts of functions, walked by their text (rat4/b). -/
import Derived.Test.YtimoeckkdodogaaR3
namespace Go.Proofs.Ytimoeckkdodogaa
open Bk Go
set_option linter.unusedVariables false
set_option linter.unusedSimpArgs false
set_option maxRecDepth 10000

theorem sl_equal {w0 : World} {h0 : Mem}  (hs : MLe h0 (mem w0)) {v v' : Value} {xs ys : List Nat} (hv : Us .u32 h0 v xs) (hv' : Us .u32 h0 v' ys) :
    Calls Try.prog 87 #[v, v'] w0 (Ret w0 h0 (fun _ r => r = vB (xs = ys))) := by
 have hlen := hv.lt63
 have hlen' := hv'.lt63
 refine calls_begin (n := 26) (e := [(0, v), (1, v')]) (vs := [v, v']) Try.func87 rfl rfl (Nat.le_of_ble_eq_true rfl) hs ⟨rfl, rfl, trivial⟩ (gc_seq (gc_region (asg rfl rfl (gl_nil (gq_then (gc_seq (gc_seq (gc_region (mv rfl rfl (gv (ov_len_us Try.underlying22 rfl hv) rfl (mv rfl rfl (gv (ov_len_us Try.underlying22 rfl hv') rfl (gv (ov_neq_i rfl rfl) rfl ?_)))))))))))))
 refine gl_nil (gq_then ?_)
 refine gc_cond rfl (fun hc10 => ?_) (fun hc10 => ?_)
 ·
  refine gc_seq (gc_region (asg rfl rfl (gl_nil (gq_then (gc_ret (gr_then (gq_body1 rfl rfl ?_)))))))
  rw [vB_false (fun e => hc10 (by rw [e]))]
 ·
  have hll : xs.length = ys.length := by omega
  refine gc_skip (gq_then (gc_seq (gc_seq (gc_region (mv rfl rfl (gv (ov_len_us Try.underlying22 rfl hv) rfl (mv (v := vI (0)) rfl rfl (gl_nil (gq_then (gc_block ?_))))))))))
  refine gc_loop (ι := Nat) (fun (i : (Nat)) => i ≤ xs.length ∧ xs.take i = ys.take i) (fun (i : (Nat)) => [(0, v), (1, v'), (12, vI ↑xs.length), (13, vI ↑i)]) (fun (i : (Nat)) => []) (fun (i : (Nat)) => h0) (fun (i : (Nat)) => xs.length - i) 0 ?_ ⟨rfl, rfl, rfl, rfl, trivial⟩ rfl rfl ?_
  ·
   exact ⟨by omega, by simp⟩
  ·
   intro i hx
   obtain ⟨hi, ht⟩ := hx
   show GC _ _ _ _ _ _ [(0, v), (1, v'), (12, vI ↑xs.length), (13, vI ↑i)] [] h0
   refine gc_seq (gc_region (gv (ov_lss_i rfl rfl) rfl (gl_nil (gq_then (gc_seq ?_)))))
   refine gc_cond rfl (fun hc14 => ?_) (fun hc14 => ?_)
   ·
    refine gc_skip (gq_then (gc_seq (gc_block (gc_seq (gc_region (mv rfl rfl (asg rfl rfl (gl_nil (gq_then (gc_seq ?_))))))))))
    refine gc_draw 9 _ [] [(0, .q), (1, .q), (2, .q), (3, .q), (4, .q), (5, .q), (6, .q), (7, .q), (8, .q)] mixed (fun x hx => by cases hx) (by kernel_rfl) (fun x hx => by cases hx) (fun r hr => hr) (w_q rfl (fun h' L' hh hR => ov_move rfl) rfl (w_q rfl (fun h' L' hh hR => ov_move rfl) rfl (w_q rfl (fun h' L' hh hR => ov_index_us (i) Try.underlying22 Try.sizeOf61 rfl rfl (hv.mono hh) (by omega) (by omega)) rfl (w_q rfl (fun h' L' hh hR => ov_load_us Try.isAgg61 rfl (hv.mono hh) (by omega)) rfl (w_q rfl (fun h' L' hh hR => ov_move rfl) rfl (w_q rfl (fun h' L' hh hR => ov_move rfl) rfl (w_q rfl (fun h' L' hh hR => ov_index_us (i) Try.underlying22 Try.sizeOf61 rfl rfl (hv'.mono hh) (by omega) (by omega)) rfl (w_q rfl (fun h' L' hh hR => ov_load_us Try.isAgg61 rfl (hv'.mono hh) (by omega)) rfl (w_q rfl (fun h' L' hh hR => ov_neq_u (k := .u32) rfl rfl) rfl (w_nil (gq_keep (e' := [(0, _), (1, _), (12, _), (13, _), (24, _)]) ⟨rfl, rfl, rfl, rfl, rfl, trivial⟩ (gq_then ?_))))))))))))
    refine gc_cond rfl (fun hc24 => ?_) (fun hc24 => ?_)
    ·
     refine gc_seq (gc_region (asg rfl rfl (gl_nil (gq_then (gc_ret (gr_in (gr_then (gr_then (gr_in (gr_then (gq_body1 rfl rfl ?_)))))))))))
     rw [vB_false (fun e => hc24 (by rw [e]))]
    ·
     refine gc_skip (gq_in (gq_then (gc_region (gv (ov_add_i (q := 1) rfl rfl (by omega) (by omega)) rfl (mv rfl rfl (gl_nil ?_))))))
     refine gq_round (i + 1) ?_ ?_ ⟨?_, ?_, ?_, ?_, trivial⟩ ?_ rfl
     ·
      refine ⟨by omega, ?_⟩
      rw [take_succ xs i (by omega), take_succ ys i (by omega), ht]
      have e := Classical.not_not.1 hc24
      rw [e]
     ·
      omega
     · exact rfl
     · exact rfl
     · exact rfl
     · exact congrArg some (congrArg vI (by omega))
     · exact rfl
   ·
    refine gc_exit (gx_then (gx_then (gx_here (gq_then (gc_seq (gc_region (asg rfl rfl (gl_nil (gq_then (gc_ret (gq_body1 rfl rfl ?_)))))))))))
    have e1 : xs = ys := by
      have e : i = xs.length := by omega
      rw [e, List.take_length, hll, List.take_length] at ht
      exact ht
    rw [vB_true e1]

theorem rat_sign {w0 : World} {h0 : Mem}  (hs : MLe h0 (mem w0)) {qa : Rat} {vna vda : Value} (hna : Us .u32 h0 vna (limbs qa.num.natAbs)) (hda : Us .u32 h0 vda (limbs (denN qa.den))) (hqa : lq qa ≤ 100000000000)  :
    Calls Try.prog 46 #[.agg #[vB (qa.num < 0), vna, vda]] w0 (Ret w0 h0 (fun _ r => r = vI (sgnQ qa))) := by
 have hlna := lq_num qa
 have hlda := lq_den qa
 have hlDa := lq_denL qa
 refine calls_begin (n := 11) (e := [(0, .agg #[vB (qa.num < 0), vna, vda])]) (vs := [.agg #[vB (qa.num < 0), vna, vda]]) Try.func46 rfl rfl (Nat.le_of_ble_eq_true rfl) hs ⟨rfl, trivial⟩ (gc_seq (gc_region (gl_newop (new_box (cs := [_, _, _]) rfl rfl) rfl rfl rfl ?_)))
 intro v1 r1 hr1
 obtain ⟨b1, rfl, rfl⟩ := hr1
 refine asg (v := vI (0)) rfl rfl (gl_nil (gq_then (gc_seq (gc_block (gc_seq (gc_region (gv (ov_field_addr Try.underlying27 rfl Try.sizeOf22 rfl) rfl (gv (ov_load_var (.head _) Try.isAgg22 rfl rfl) rfl ?_))))))))
 refine gl_call (vs := [_]) rfl rfl rfl rfl Try.call64 ⟨rfl, trivial⟩ (fun w hs => nat_bits hs hna (by omega)) ?_
 intro v6 h1 hh1 hr6
 try simp only [val_limbs] at hr6
 subst hr6
 refine gv (ov_eql_i (q := 0) rfl rfl) rfl (asg rfl rfl (gl_nil (gq_then ?_)))
 refine gc_cond rfl (fun hc3 => ?_) (fun hc3 => ?_)
 ·
  refine gc_seq (gc_region (asg (v := vI (0)) rfl rfl (gl_nil (gq_then (gc_ret (gr_in (gr_then (gq_body1 rfl rfl ?_))))))))
  rw [sgnQ_zero (num_zero_bits hc3)]
 ·
  refine gc_seq (gc_region (gv (ov_field_addr Try.underlying27 rfl Try.sizeOf4 rfl) rfl (gv (ov_load_var (.head _) Try.isAgg4 rfl rfl) rfl (asg rfl rfl (gl_nil (gq_keep (e' := [(8, _)]) ⟨rfl, trivial⟩ (gq_then ?_)))))))
  refine gc_cond rfl (fun hc8 => ?_) (fun hc8 => ?_)
  ·
   refine gc_seq (gc_region (asg (v := vI (-1)) rfl rfl (gl_nil (gq_then (gc_ret (gr_in (gr_then (gq_body1 rfl rfl ?_))))))))
   rw [sgnQ_neg hc8]
  ·
   refine gc_skip (gq_in (gq_then (gc_seq (gc_region (asg (v := vI (1)) rfl rfl (gl_nil (gq_then (gc_ret (gq_body1 rfl rfl ?_)))))))))
   rw [sgnQ_pos (fun h => hc3 (bits_zero_num h)) hc8]

theorem rat_same {w0 : World} {h0 : Mem}  (hs : MLe h0 (mem w0)) {qa : Rat} {vna vda : Value} (hna : Us .u32 h0 vna (limbs qa.num.natAbs)) (hda : Us .u32 h0 vda (limbs (denN qa.den))) {qb : Rat} {vnb vdb : Value} (hnb : Us .u32 h0 vnb (limbs qb.num.natAbs)) (hdb : Us .u32 h0 vdb (limbs (denN qb.den))) (hqa : lq qa ≤ 100000000000) (hqb : lq qb ≤ 100000000000)  :
    Calls Try.prog 29 #[.agg #[vB (qa.num < 0), vna, vda], .agg #[vB (qb.num < 0), vnb, vdb]] w0 (Ret w0 h0 (fun _ r => r = vB (qa = qb))) := by
 have hlna := lq_num qa
 have hlda := lq_den qa
 have hlDa := lq_denL qa
 have hlnb := lq_num qb
 have hldb := lq_den qb
 have hlDb := lq_denL qb
 refine calls_begin (n := 24) (e := [(0, .agg #[vB (qa.num < 0), vna, vda]), (1, .agg #[vB (qb.num < 0), vnb, vdb])]) (vs := [.agg #[vB (qa.num < 0), vna, vda], .agg #[vB (qb.num < 0), vnb, vdb]]) Try.func29 rfl rfl (Nat.le_of_ble_eq_true rfl) hs ⟨rfl, rfl, trivial⟩ (gc_seq (gc_region (gl_newop (new_box (cs := [_, _, _]) rfl rfl) rfl rfl rfl ?_)))
 intro v2 r2 hr2
 obtain ⟨b2, rfl, rfl⟩ := hr2
 refine gl_newop (new_box (cs := [_, _, _]) rfl rfl) rfl rfl rfl ?_
 intro v3 r3 hr3
 obtain ⟨b3, rfl, rfl⟩ := hr3
 refine asg rfl rfl (gl_nil (gq_then (gc_seq (gc_region (gv (ov_field_addr Try.underlying27 rfl Try.sizeOf4 rfl) rfl (gv (ov_load_var (.tail _ (.head _)) Try.isAgg4 rfl rfl) rfl (gv (ov_field_addr Try.underlying27 rfl Try.sizeOf4 rfl) rfl (gv (ov_load_var (.head _) Try.isAgg4 rfl rfl) rfl (gv (ov_eql_b Try.underlying4 rfl rfl) rfl ?_)))))))))
 refine gl_cut (ι := Mem) 7 (fun m_ => MLe h0 m_) (fun _ => [(16, vB (((qa.num < 0) ↔ (qb.num < 0)) ∧ ((limbs qa.num.natAbs) = (limbs qb.num.natAbs)))), (2, vP b2 0), (3, vP b3 0)]) (fun _ => [.var b3 27 [vB (qb.num < 0), vnb, vdb], .var b2 27 [vB (qa.num < 0), vna, vda]]) (fun m_ => m_) ?_ ?_
 ·
  refine gl_cases ((qa.num < 0) ↔ (qb.num < 0)) (fun hg => ?_) (fun hg => ?_)
  ·
   refine gl_val (ov_move (v := .bool true) (congrArg some (vB_true hg))) rfl rfl rfl (gl_on rfl rfl rfl (gv (ov_field_addr Try.underlying27 rfl Try.sizeOf22 rfl) rfl (gl_on rfl rfl rfl (gv (ov_load_var (.tail _ (.head _)) Try.isAgg22 rfl rfl) rfl (gl_on rfl rfl rfl (gv (ov_field_addr Try.underlying27 rfl Try.sizeOf22 rfl) rfl (gl_on rfl rfl rfl (gv (ov_load_var (.head _) Try.isAgg22 rfl rfl) rfl (gl_on rfl rfl rfl ?_)))))))))
   refine gl_call (vs := [_, _]) rfl rfl rfl rfl Try.call87 ⟨rfl, rfl, trivial⟩ (fun w hs => sl_equal hs hna hnb) ?_
   intro v15 h1 hh1 hr15
   subst hr15
   refine gv (ov_pick_t rfl rfl) rfl (gl_nil ?_)
   refine gq_cut h1 hh1 ⟨?_, rfl, rfl, trivial⟩ rfl rfl
   exact congrArg some (vB_and_t hg)
  ·
   refine gl_val (ov_move (v := .bool false) (congrArg some (vB_false hg))) rfl rfl rfl (gl_off rfl rfl rfl rfl rfl rfl (gl_off rfl rfl rfl rfl rfl rfl (gl_off rfl rfl rfl rfl rfl rfl (gl_off rfl rfl rfl rfl rfl rfl (gl_off rfl rfl rfl rfl rfl rfl (gv (ov_pick_f rfl rfl) rfl (gl_nil ?_)))))))
   refine gq_cut h0 (MLe.refl _) ⟨?_, rfl, rfl, trivial⟩ rfl rfl
   exact congrArg some (vB_and_f hg)
 ·
  intro mg1_5 hmmg1_5
  show GL _ _ _ _ _ _ _ [(16, vB (((qa.num < 0) ↔ (qb.num < 0)) ∧ ((limbs qa.num.natAbs) = (limbs qb.num.natAbs)))), (2, vP b2 0), (3, vP b3 0)] [.var b3 27 [vB (qb.num < 0), vnb, vdb], .var b2 27 [vB (qa.num < 0), vna, vda]] mg1_5
  refine gl_cut (ι := Mem) 7 (fun m_ => MLe mg1_5 m_) (fun _ => [(23, vB ((((qa.num < 0) ↔ (qb.num < 0)) ∧ ((limbs qa.num.natAbs) = (limbs qb.num.natAbs))) ∧ ((limbs (denN qa.den)) = (limbs (denN qb.den)))))]) (fun _ => [.var b3 27 [vB (qb.num < 0), vnb, vdb], .var b2 27 [vB (qa.num < 0), vna, vda]]) (fun m_ => m_) ?_ ?_
  ·
   refine gl_cases (((qa.num < 0) ↔ (qb.num < 0)) ∧ ((limbs qa.num.natAbs) = (limbs qb.num.natAbs))) (fun hg => ?_) (fun hg => ?_)
   ·
    refine gl_val (ov_move (v := .bool true) (congrArg some (vB_true hg))) rfl rfl rfl (gl_on rfl rfl rfl (gv (ov_field_addr Try.underlying27 rfl Try.sizeOf22 rfl) rfl (gl_on rfl rfl rfl (gv (ov_load_var (.tail _ (.head _)) Try.isAgg22 rfl rfl) rfl (gl_on rfl rfl rfl (gv (ov_field_addr Try.underlying27 rfl Try.sizeOf22 rfl) rfl (gl_on rfl rfl rfl (gv (ov_load_var (.head _) Try.isAgg22 rfl rfl) rfl (gl_on rfl rfl rfl ?_)))))))))
    replace hda := hda.mono hmmg1_5
    replace hdb := hdb.mono hmmg1_5
    refine gl_call (vs := [_, _]) rfl rfl rfl rfl Try.call87 ⟨rfl, rfl, trivial⟩ (fun w hs => sl_equal hs hda hdb) ?_
    intro v22 h1 hh1 hr22
    subst hr22
    refine gv (ov_pick_t rfl rfl) rfl (gl_nil ?_)
    refine gq_cut h1 hh1 ⟨?_, trivial⟩ rfl rfl
    exact congrArg some (vB_and_t hg)
   ·
    refine gl_val (ov_move (v := .bool false) (congrArg some (vB_false hg))) rfl rfl rfl (gl_off rfl rfl rfl rfl rfl rfl (gl_off rfl rfl rfl rfl rfl rfl (gl_off rfl rfl rfl rfl rfl rfl (gl_off rfl rfl rfl rfl rfl rfl (gl_off rfl rfl rfl rfl rfl rfl (gv (ov_pick_f rfl rfl) rfl (gl_nil ?_)))))))
    refine gq_cut mg1_5 (MLe.refl _) ⟨?_, trivial⟩ rfl rfl
    exact congrArg some (vB_and_f hg)
  ·
   intro mg1_12 hmmg1_12
   show GL _ _ _ _ _ _ _ [(23, vB ((((qa.num < 0) ↔ (qb.num < 0)) ∧ ((limbs qa.num.natAbs) = (limbs qb.num.natAbs))) ∧ ((limbs (denN qa.den)) = (limbs (denN qb.den)))))] [.var b3 27 [vB (qb.num < 0), vnb, vdb], .var b2 27 [vB (qa.num < 0), vna, vda]] mg1_12
   refine asg rfl rfl (gl_nil (gq_then (gc_ret (gq_body1 rfl rfl ?_))))
   exact vB_iff same_iff

theorem rat_cmp {w0 : World} {h0 : Mem}  (hs : MLe h0 (mem w0)) {qa : Rat} {vna vda : Value} (hna : Us .u32 h0 vna (limbs qa.num.natAbs)) (hda : Us .u32 h0 vda (limbs (denN qa.den))) {qb : Rat} {vnb vdb : Value} (hnb : Us .u32 h0 vnb (limbs qb.num.natAbs)) (hdb : Us .u32 h0 vdb (limbs (denN qb.den))) (hqa : lq qa ≤ 100000000000) (hqb : lq qb ≤ 100000000000)  :
    Calls Try.prog 47 #[.agg #[vB (qa.num < 0), vna, vda], .agg #[vB (qb.num < 0), vnb, vdb]] w0 (Ret w0 h0 (fun _ r => r = vI (cmpQ qa qb))) := by
 have hlna := lq_num qa
 have hlda := lq_den qa
 have hlDa := lq_denL qa
 have hlnb := lq_num qb
 have hldb := lq_den qb
 have hlDb := lq_denL qb
 refine calls_begin (n := 80) (e := [(0, .agg #[vB (qa.num < 0), vna, vda]), (1, .agg #[vB (qb.num < 0), vnb, vdb])]) (vs := [.agg #[vB (qa.num < 0), vna, vda], .agg #[vB (qb.num < 0), vnb, vdb]]) Try.func47 rfl rfl (Nat.le_of_ble_eq_true rfl) hs ⟨rfl, rfl, trivial⟩ (gc_seq (gc_region (gl_newop (new_box (cs := [_, _, _]) rfl rfl) rfl rfl rfl ?_)))
 intro v2 r2 hr2
 obtain ⟨b2, rfl, rfl⟩ := hr2
 refine gl_newop (new_box (cs := [_, _, _]) rfl rfl) rfl rfl rfl ?_
 intro v3 r3 hr3
 obtain ⟨b3, rfl, rfl⟩ := hr3
 refine asg (v := vI (0)) rfl rfl (gl_nil (gq_then (gc_seq (gc_seq ?_))))
 refine gc_draw 6 _ [] [(0, .q), (2, .q), (1, .c), (3, .c), (4, .q), (5, .q)] mixed (fun x hx => by cases hx) (by kernel_rfl) (fun x hx => by cases hx) (fun r hr => hr) (w_q rfl (fun h' L' hh hR => ov_load_agg (vs := [_, _, _]) (hR _ (.tail _ (.head _))) Try.underlying27 rfl size27 rfl rfl) rfl (w_q rfl (fun h' L' hh hR => ov_load_agg (vs := [_, _, _]) (hR _ (.head _)) Try.underlying27 rfl size27 rfl rfl) rfl ?_))
 refine w_c rfl ?_
 refine s_call (vs := [_]) Try.call46 ⟨rfl, trivial⟩ (fun w hs => rat_sign hs hna hda (by omega)) rfl ?_
 intro v15 h1 hh1 hr15
 have hsr15 := sgnQ_range qa
 subst hr15
 refine w_c rfl ?_
 replace hnb := hnb.mono hh1
 replace hdb := hdb.mono hh1
 refine s_call (vs := [_]) Try.call46 ⟨rfl, trivial⟩ (fun w hs => rat_sign hs hnb hdb (by omega)) rfl ?_
 intro v17 h2 hh2 hr17
 have hsr17 := sgnQ_range qb
 subst hr17
 refine w_q rfl (fun h' L' hh hR => ov_assign rfl) rfl (w_q rfl (fun h' L' hh hR => ov_assign rfl) rfl (w_nil (gq_then (gc_seq (gc_region (mv rfl rfl (mv rfl rfl (gv (ov_neq_i rfl rfl) rfl (gl_nil (gq_then ?_))))))))))
 refine gc_cond rfl (fun hc20 => ?_) (fun hc20 => ?_)
 ·
  refine gc_keep (e' := [(5, _), (6, _)]) ⟨rfl, rfl, trivial⟩ (gc_seq (gc_seq (gc_region (mv rfl rfl (mv rfl rfl (gv (ov_lss_i rfl rfl) rfl (gl_nil (gq_then ?_))))))))
  refine gc_cond rfl (fun hc23 => ?_) (fun hc23 => ?_)
  ·
   refine gc_seq (gc_region (asg (v := vI (-1)) rfl rfl (gl_nil (gq_then (gc_ret (gr_then (gr_then (gq_body1 rfl rfl ?_))))))))
   rw [cmpQ_sgn hc20, if_pos hc23]
  ·
   refine gc_skip (gq_then (gc_seq (gc_region (asg (v := vI (1)) rfl rfl (gl_nil (gq_then (gc_ret (gr_then (gq_body1 rfl rfl ?_)))))))))
   rw [cmpQ_sgn hc20, if_neg hc23]
 ·
  have hss := sgn_same hc20
  refine gc_keep (e' := [(2, _), (3, _)]) ⟨rfl, rfl, trivial⟩ (gc_skip (gq_then (gc_seq (gc_region (asg (v := vI (0)) rfl rfl (gl_nil (gq_then ?_)))))))
  refine gc_cut (ι := Mem) (fun (mc : (Mem)) => MLe h2 mc ∧ (True)) (fun (mc : (Mem)) => [(2, vP b2 0), (7, vI (cN qa qb))]) (fun (mc : (Mem)) => [.var b3 27 [vB (qb.num < 0), vnb, vdb], .var b2 27 [vB (qa.num < 0), vna, vda]]) (fun (mc : (Mem)) => mc) ?_ ?_
  ·
   refine gc_seq (gc_region (gv (ov_load_agg (vs := [_, _, _]) (.tail _ (.head _)) Try.underlying27 rfl size27 rfl rfl) rfl ?_))
   replace hna := hna.mono (hh1.trans hh2)
   replace hda := hda.mono (hh1.trans hh2)
   refine gl_call (vs := [_]) rfl rfl rfl rfl Try.call94 ⟨rfl, trivial⟩ (fun w hs => rat_parts hs hna hda) ?_
   intro v26 h3 hh3 hr26
   subst hr26
   refine mv rfl rfl (gv (ov_extract (vs := [_, _, _]) rfl rfl) rfl (gv (ov_extract (vs := [_, _, _]) rfl rfl) rfl (gv (ov_extract (vs := [_, _, _]) rfl rfl) rfl (asg rfl rfl (asg rfl rfl (asg rfl rfl (gl_nil (gq_then (gc_seq (gc_region (gv (ov_field_addr Try.underlying27 rfl Try.sizeOf22 rfl) rfl (gv (ov_load_var (.tail _ (.head _)) Try.isAgg22 rfl rfl) rfl (gv (ov_field_addr Try.underlying27 rfl Try.sizeOf22 rfl) rfl ?_)))))))))))))
   refine gv (ov_load_var (.head _) Try.isAgg22 rfl rfl) rfl ?_
   replace hda := hda.mono hh3
   replace hdb := hdb.mono (hh2.trans hh3)
   refine gl_call (vs := [_, _]) rfl rfl rfl rfl Try.call87 ⟨rfl, rfl, trivial⟩ (fun w hs => sl_equal hs hda hdb) ?_
   intro v34 h4 hh4 hr34
   subst hr34
   refine gl_nil (gq_keep (e' := [(2, _), (3, _), (7, _), (8, _), (9, _), (10, _), (34, _)]) ⟨rfl, rfl, rfl, rfl, rfl, rfl, rfl, trivial⟩ (gq_then ?_))
   refine gc_cond rfl (fun hc34 => ?_) (fun hc34 => ?_)
   ·
    refine gc_region (gv (ov_field_addr Try.underlying27 rfl Try.sizeOf22 rfl) rfl (gv (ov_load_var (.tail _ (.head _)) Try.isAgg22 rfl rfl) rfl (gv (ov_field_addr Try.underlying27 rfl Try.sizeOf22 rfl) rfl (gv (ov_load_var (.head _) Try.isAgg22 rfl rfl) rfl ?_))))
    replace hna := hna.mono (hh3.trans hh4)
    replace hnb := hnb.mono ((hh2.trans hh3).trans hh4)
    refine gl_call (vs := [_, _]) rfl rfl rfl rfl Try.call98 ⟨rfl, rfl, trivial⟩ (fun w hs => nat_cmp hs hna hnb) ?_
    intro v39 h5 hh5 hr39
    try simp only [val_limbs] at hr39
    subst hr39
    refine asg rfl rfl (gl_nil ?_)
    refine gq_cut (h5) ?_ ⟨?_, ?_, trivial⟩ ?_ rfl
    ·
     refine ⟨((hh3.trans hh4).trans hh5), ?_⟩
     trivial
    · exact rfl
    · exact congrArg some (congrArg vI ((cN_den hc34).symm))
    · exact rfl
   ·
    refine gc_seq (gc_region (gv (ov_load_agg (vs := [_, _, _]) (.head _) Try.underlying27 rfl size27 rfl rfl) rfl ?_))
    replace hnb := hnb.mono ((hh2.trans hh3).trans hh4)
    replace hdb := hdb.mono hh4
    refine gl_call (vs := [_]) rfl rfl rfl rfl Try.call94 ⟨rfl, trivial⟩ (fun w hs => rat_parts hs hnb hdb) ?_
    intro v42 h5 hh5 hr42
    subst hr42
    refine mv rfl rfl (gv (ov_extract (vs := [_, _, _]) rfl rfl) rfl (gv (ov_extract (vs := [_, _, _]) rfl rfl) rfl (gv (ov_extract (vs := [_, _, _]) rfl rfl) rfl (asg rfl rfl (asg rfl rfl (asg rfl rfl (gl_nil (gq_then (gc_seq (gc_region (mv rfl rfl ?_)))))))))))
    refine gl_cut (ι := Unit) 3 (fun _ => True) (fun _ => [(49, vB ((smallQ qa) ∧ (smallQ qb))), (2, vP b2 0), (3, vP b3 0), (7, vI (0)), (8, vU .u64 (pN qa)), (9, vU .u64 (pD qa)), (11, vU .u64 (pN qb)), (12, vU .u64 (pD qb))]) (fun _ => [.var b3 27 [vB (qb.num < 0), vnb, vdb], .var b2 27 [vB (qa.num < 0), vna, vda]]) (fun _ => h5) ?_ ?_
    ·
     refine gl_cases (smallQ qa) (fun hg => ?_) (fun hg => ?_)
     ·
      refine gl_val (ov_move (v := .bool true) (congrArg some (vB_true hg))) rfl rfl rfl (gl_on rfl rfl rfl (mv rfl rfl (gv (ov_pick_t rfl rfl) rfl (gl_nil ?_))))
      refine gq_cut () trivial ⟨?_, rfl, rfl, rfl, rfl, rfl, rfl, rfl, trivial⟩ rfl rfl
      exact congrArg some (vB_and_t hg)
     ·
      refine gl_val (ov_move (v := .bool false) (congrArg some (vB_false hg))) rfl rfl rfl (gl_off rfl rfl rfl rfl rfl rfl (gv (ov_pick_f rfl rfl) rfl (gl_nil ?_)))
      refine gq_cut () trivial ⟨?_, rfl, rfl, rfl, rfl, rfl, rfl, rfl, trivial⟩ rfl rfl
      exact congrArg some (vB_and_f hg)
    ·
     intro _ _
     show GL _ _ _ _ _ _ _ [(49, vB ((smallQ qa) ∧ (smallQ qb))), (2, vP b2 0), (3, vP b3 0), (7, vI (0)), (8, vU .u64 (pN qa)), (9, vU .u64 (pD qa)), (11, vU .u64 (pN qb)), (12, vU .u64 (pD qb))] [.var b3 27 [vB (qb.num < 0), vnb, vdb], .var b2 27 [vB (qa.num < 0), vna, vda]] h5
     refine gl_nil (gq_then ?_)
     refine gc_cond rfl (fun hc49 => ?_) (fun hc49 => ?_)
     ·
      have hsa := hc49.1
      have hsb := hc49.2
      have hpa := smallQ_num hsa
      have hra := smallQ_den hsa
      have hpb := smallQ_num hsb
      have hrb := smallQ_den hsb
      have hm1 := small_mul hpa hrb
      have hm2 := small_mul hpb hra
      rw [pN_t hsa, pD_t hsa, pN_t hsb, pD_t hsb]
      refine gc_seq (gc_region (mv rfl rfl (mv rfl rfl (gv (ov_mul_u (k := .u64) (W := 18446744073709551616) rfl rfl rfl rfl (by omega)) rfl (mv rfl rfl (mv rfl rfl (gv (ov_mul_u (k := .u64) (W := 18446744073709551616) rfl rfl rfl rfl (by omega)) rfl (gv (ov_lss_u (k := .u64) rfl rfl) rfl (gl_nil (gq_then ?_))))))))))
      refine gc_cond rfl (fun hc56 => ?_) (fun hc56 => ?_)
      ·
       refine gc_keep (e' := [(2, _)]) ⟨rfl, trivial⟩ (gc_region (asg (v := vI (-1)) rfl rfl (gl_nil ?_)))
       refine gq_cut (h5) ?_ ⟨?_, ?_, trivial⟩ ?_ rfl
       ·
        refine ⟨((hh3.trans hh4).trans hh5), ?_⟩
        trivial
       · exact rfl
       · exact congrArg some (congrArg vI ((cmpN_lt hc56).symm))
       · exact rfl
      ·
       refine gc_seq (gc_region (mv rfl rfl (mv rfl rfl (gv (ov_mul_u (k := .u64) (W := 18446744073709551616) rfl rfl rfl rfl (by omega)) rfl (mv rfl rfl (mv rfl rfl (gv (ov_mul_u (k := .u64) (W := 18446744073709551616) rfl rfl rfl rfl (by omega)) rfl (gv (ov_gtr_u (k := .u64) rfl rfl) rfl (gl_nil (gq_keep (e' := [(2, _), (7, _), (63, _)]) ⟨rfl, rfl, rfl, trivial⟩ (gq_then ?_)))))))))))
       refine gc_cond rfl (fun hc63 => ?_) (fun hc63 => ?_)
       ·
        refine gc_region (asg (v := vI (1)) rfl rfl (gl_nil ?_))
        refine gq_cut (h5) ?_ ⟨?_, ?_, trivial⟩ ?_ rfl
        ·
         refine ⟨((hh3.trans hh4).trans hh5), ?_⟩
         trivial
        · exact rfl
        · exact congrArg some (congrArg vI ((cmpN_gt hc63).symm))
        · exact rfl
       ·
        refine gc_skip ?_
        refine gq_cut (h5) ?_ ⟨?_, ?_, trivial⟩ ?_ rfl
        ·
         refine ⟨((hh3.trans hh4).trans hh5), ?_⟩
         trivial
        · exact rfl
        · exact congrArg some (congrArg vI ((cmpN_zero.2 (by omega)).symm))
        · exact rfl
     ·
      refine gc_draw 12 _ [] [(0, .q), (1, .q), (2, .q), (5, .q), (6, .q), (7, .q), (3, .c), (4, .c), (8, .c), (9, .c), (10, .c), (11, .q)] mixed (fun x hx => by cases hx) (by kernel_rfl) (fun x hx => by cases hx) (fun r hr => hr) (w_q rfl (fun h' L' hh hR => ov_field_addr Try.underlying27 rfl Try.sizeOf22 rfl) rfl (w_q rfl (fun h' L' hh hR => ov_load_var (hR _ (.tail _ (.head _))) Try.isAgg22 rfl rfl) rfl (w_q rfl (fun h' L' hh hR => ov_load_agg (vs := [_, _, _]) (hR _ (.head _)) Try.underlying27 rfl size27 rfl rfl) rfl (w_q rfl (fun h' L' hh hR => ov_field_addr Try.underlying27 rfl Try.sizeOf22 rfl) rfl (w_q rfl (fun h' L' hh hR => ov_load_var (hR _ (.head _)) Try.isAgg22 rfl rfl) rfl (w_q rfl (fun h' L' hh hR => ov_load_agg (vs := [_, _, _]) (hR _ (.tail _ (.head _))) Try.underlying27 rfl size27 rfl rfl) rfl ?_))))))
      refine w_c rfl ?_
      replace hnb := hnb.mono hh5
      replace hdb := hdb.mono hh5
      refine s_call (vs := [_]) Try.call80 ⟨rfl, trivial⟩ (fun w hs => rat_den hs hnb hdb) rfl ?_
      intro v67 h6 hh6 hr67
      rw [denL_den] at hr67
      refine w_c rfl ?_
      replace hna := hna.mono (((hh3.trans hh4).trans hh5).trans hh6)
      refine s_call (vs := [_, _]) Try.call67 ⟨rfl, rfl, trivial⟩ (fun w hs => nat_mul hs hna hr67 (by omega) (by omega)) rfl ?_
      intro v68 h7 hh7 hr68
      try simp only [val_limbs] at hr68
      have hlm68 := limbs_len_mul ((qa.num.natAbs)) ((qb.den))
      refine w_c rfl ?_
      replace hna := hna.mono hh7
      replace hda := hda.mono (((hh4.trans hh5).trans hh6).trans hh7)
      refine s_call (vs := [_]) Try.call80 ⟨rfl, trivial⟩ (fun w hs => rat_den hs hna hda) rfl ?_
      intro v72 h8 hh8 hr72
      rw [denL_den] at hr72
      refine w_c rfl ?_
      replace hnb := hnb.mono ((hh6.trans hh7).trans hh8)
      refine s_call (vs := [_, _]) Try.call67 ⟨rfl, rfl, trivial⟩ (fun w hs => nat_mul hs hnb hr72 (by omega) (by omega)) rfl ?_
      intro v73 h9 hh9 hr73
      try simp only [val_limbs] at hr73
      have hlm73 := limbs_len_mul ((qb.num.natAbs)) ((qa.den))
      refine w_c rfl ?_
      replace hr68 := hr68.mono (hh8.trans hh9)
      refine s_call (vs := [_, _]) Try.call98 ⟨rfl, rfl, trivial⟩ (fun w hs => nat_cmp hs hr68 hr73) rfl ?_
      intro v74 h10 hh10 hr74
      try simp only [val_limbs] at hr74
      subst hr74
      refine w_q rfl (fun h' L' hh hR => ov_assign rfl) rfl (w_nil ?_)
      refine gq_cut (h10) ?_ ⟨?_, ?_, trivial⟩ ?_ rfl
      ·
       refine ⟨(((((((hh3.trans hh4).trans hh5).trans hh6).trans hh7).trans hh8).trans hh9).trans hh10), ?_⟩
       trivial
      · exact rfl
      · exact rfl
      · exact rfl
  ·
   intro mc hx
   obtain ⟨hmmc, hcut⟩ := hx
   show GC _ _ _ _ _ _ [(2, vP b2 0), (7, vI (cN qa qb))] [.var b3 27 [vB (qb.num < 0), vnb, vdb], .var b2 27 [vB (qa.num < 0), vna, vda]] mc
   have hcr := cN_range qa qb
   refine gc_seq (gc_seq (gc_region (gv (ov_field_addr Try.underlying27 rfl Try.sizeOf4 rfl) rfl (gv (ov_load_var (.tail _ (.head _)) Try.isAgg4 rfl rfl) rfl (gl_nil (gq_then ?_))))))
   refine gc_cond rfl (fun hc76 => ?_) (fun hc76 => ?_)
   ·
    refine gc_seq (gc_region (mv rfl rfl (gv (ov_neg_i rfl (by omega) (by omega)) rfl (asg rfl rfl (gl_nil (gq_then (gc_ret (gr_then (gq_body1 rfl rfl ?_)))))))))
    rw [cmpQ_cN hss hc76]
   ·
    refine gc_skip (gq_then (gc_seq (gc_region (mv rfl rfl (asg rfl rfl (gl_nil (gq_then (gc_ret (gq_body1 rfl rfl ?_)))))))))
    rw [cmpQ_cN' hss hc76]

theorem rat_mul {w0 : World} {h0 : Mem}  (hs : MLe h0 (mem w0)) {qa : Rat} {vna vda : Value} (hna : Us .u32 h0 vna (limbs qa.num.natAbs)) (hda : Us .u32 h0 vda (limbs (denN qa.den))) {qb : Rat} {vnb vdb : Value} (hnb : Us .u32 h0 vnb (limbs qb.num.natAbs)) (hdb : Us .u32 h0 vdb (limbs (denN qb.den))) (hqa : lq qa ≤ 100000000000) (hqb : lq qb ≤ 100000000000)  :
    Calls Try.prog 44 #[.agg #[vB (qa.num < 0), vna, vda], .agg #[vB (qb.num < 0), vnb, vdb]] w0 (Ret w0 h0 (fun h r => IsRat h r (qa * qb))) := by
 have hlna := lq_num qa
 have hlda := lq_den qa
 have hlDa := lq_denL qa
 have hlnb := lq_num qb
 have hldb := lq_den qb
 have hlDb := lq_denL qb
 rw [← mul_eq]
 refine calls_begin (n := 64) (e := [(0, .agg #[vB (qa.num < 0), vna, vda]), (1, .agg #[vB (qb.num < 0), vnb, vdb])]) (vs := [.agg #[vB (qa.num < 0), vna, vda], .agg #[vB (qb.num < 0), vnb, vdb]]) Try.func44 rfl rfl (Nat.le_of_ble_eq_true rfl) hs ⟨rfl, rfl, trivial⟩ (gc_seq (gc_region (gl_newop (new_box (cs := [_, _, _]) rfl rfl) rfl rfl rfl ?_)))
 intro v2 r2 hr2
 obtain ⟨b2, rfl, rfl⟩ := hr2
 refine gl_newop (new_box (cs := [_, _, _]) rfl rfl) rfl rfl rfl ?_
 intro v3 r3 hr3
 obtain ⟨b3, rfl, rfl⟩ := hr3
 refine gl_newop (new_alloc (cs := [vB ((0 : Rat).num < 0), .slice none 0 0, .slice none 0 0]) info27 rfl (by simp only [zb]; rfl)) rfl rfl rfl ?_
 intro v4 r4 hr4
 obtain ⟨b4, rfl, rfl⟩ := hr4
 refine gl_nil (gq_then (gc_seq (gc_seq (gc_region (gv (ov_field_addr Try.underlying27 rfl Try.sizeOf22 rfl) rfl (gv (ov_load_var (.tail _ (.tail _ (.head _))) Try.isAgg22 rfl rfl) rfl (gv (ov_len_us Try.underlying22 rfl hna) rfl (gv (ov_eql_i (q := 0) rfl rfl) rfl ?_))))))))
 refine gl_cut (ι := Unit) 6 (fun _ => True) (fun _ => [(20, vB (((↑(limbs qa.num.natAbs).length : Int) = (0 : Int)) ∨ ((↑(limbs qb.num.natAbs).length : Int) = (0 : Int)))), (2, vP b2 0), (3, vP b3 0), (4, vP b4 0)]) (fun _ => [.var b4 27 [vB ((0 : Rat).num < 0), .slice none 0 0, .slice none 0 0], .var b3 27 [vB (qb.num < 0), vnb, vdb], .var b2 27 [vB (qa.num < 0), vna, vda]]) (fun _ => h0) ?_ ?_
 ·
  refine gl_cases ((↑(limbs qa.num.natAbs).length : Int) = (0 : Int)) (fun hg => ?_) (fun hg => ?_)
  ·
   refine gl_val (ov_move (v := .bool true) (congrArg some (vB_true hg))) rfl rfl rfl (gl_off rfl rfl rfl rfl rfl rfl (gl_off rfl rfl rfl rfl rfl rfl (gl_off rfl rfl rfl rfl rfl rfl (gl_off rfl rfl rfl rfl rfl rfl (gv (ov_pick_t rfl rfl) rfl (gl_nil ?_))))))
   refine gq_cut () trivial ⟨?_, rfl, rfl, rfl, trivial⟩ rfl rfl
   exact congrArg some (vB_or_t hg)
  ·
   refine gl_val (ov_move (v := .bool false) (congrArg some (vB_false hg))) rfl rfl rfl (gl_on rfl rfl rfl (gv (ov_field_addr Try.underlying27 rfl Try.sizeOf22 rfl) rfl (gl_on rfl rfl rfl (gv (ov_load_var (.tail _ (.head _)) Try.isAgg22 rfl rfl) rfl (gl_on rfl rfl rfl (gv (ov_len_us Try.underlying22 rfl hnb) rfl (gl_on rfl rfl rfl (gv (ov_eql_i (q := 0) rfl rfl) rfl (gv (ov_pick_f rfl rfl) rfl (gl_nil ?_))))))))))
   refine gq_cut () trivial ⟨?_, rfl, rfl, rfl, trivial⟩ rfl rfl
   exact congrArg some (vB_or_f hg)
 ·
  intro _ _
  show GL _ _ _ _ _ _ _ [(20, vB (((↑(limbs qa.num.natAbs).length : Int) = (0 : Int)) ∨ ((↑(limbs qb.num.natAbs).length : Int) = (0 : Int)))), (2, vP b2 0), (3, vP b3 0), (4, vP b4 0)] [.var b4 27 [vB ((0 : Rat).num < 0), .slice none 0 0, .slice none 0 0], .var b3 27 [vB (qb.num < 0), vnb, vdb], .var b2 27 [vB (qa.num < 0), vna, vda]] h0
  refine gl_nil (gq_then ?_)
  refine gc_cond rfl (fun hc20 => ?_) (fun hc20 => ?_)
  ·
   refine gc_seq (gc_region (gv (ov_build_parts (ps' := []) (vs := [vB ((0 : Rat).num < 0), .slice none 0 0, .slice none 0 0]) Try.underlying27 info27 rfl (places27 Try.underlying27) trivial (by simp only [zb]; rfl)) rfl (gl_upd (A := []) (r' := .var b4 27 [vB ((0 : Rat).num < 0), .slice none 0 0, .slice none 0 0]) (upd_store_var (k := 0) (cs := [_, _, _]) (vs := [_, _, _]) rfl rfl rfl rfl size27 (Nat.le_of_ble_eq_true rfl)) rfl rfl rfl (gl_nil (gq_then (gc_ret (gr_then (gq_res (fun E S => run_res1 rfl (rv_agg (cs := [_, _, _]) (.head _) Try.underlying27 rfl size27 rfl) E S) ?_))))))))
   rcases hc20 with h | h
   · rw [num_zero h, show (0 : Rat).num.natAbs = 0 from rfl, Nat.zero_mul, mk_zero]; exact IsRat.zero _
   · rw [num_zero h, show (0 : Rat).num.natAbs = 0 from rfl, Nat.mul_zero, mk_zero]; exact IsRat.zero _
  ·
   refine gc_skip (gq_then (gc_seq (gc_seq (gc_region (gv (ov_load_agg (vs := [_, _, _]) (.tail _ (.tail _ (.head _))) Try.underlying27 rfl size27 rfl rfl) rfl ?_)))))
   refine gl_call (vs := [_]) rfl rfl rfl rfl Try.call94 ⟨rfl, trivial⟩ (fun w hs => rat_parts hs hna hda) ?_
   intro v24 h1 hh1 hr24
   subst hr24
   refine mv rfl rfl (gv (ov_extract (vs := [_, _, _]) rfl rfl) rfl (gv (ov_extract (vs := [_, _, _]) rfl rfl) rfl (gv (ov_extract (vs := [_, _, _]) rfl rfl) rfl (asg rfl rfl (asg rfl rfl (asg rfl rfl (gl_nil (gq_then (gc_seq (gc_region (mv rfl rfl (gl_nil (gq_then ?_)))))))))))))
   refine gc_cond rfl (fun hc28 => ?_) (fun hc28 => ?_)
   ·
    have hsa := hc28
    have hpa := smallQ_num hsa
    have hra := smallQ_den hsa
    refine gc_seq (gc_region (gv (ov_load_agg (vs := [_, _, _]) (.tail _ (.head _)) Try.underlying27 rfl size27 rfl rfl) rfl ?_))
    replace hnb := hnb.mono hh1
    replace hdb := hdb.mono hh1
    refine gl_call (vs := [_]) rfl rfl rfl rfl Try.call94 ⟨rfl, trivial⟩ (fun w hs => rat_parts hs hnb hdb) ?_
    intro v31 h2 hh2 hr31
    subst hr31
    refine mv rfl rfl (gv (ov_extract (vs := [_, _, _]) rfl rfl) rfl (gv (ov_extract (vs := [_, _, _]) rfl rfl) rfl (gv (ov_extract (vs := [_, _, _]) rfl rfl) rfl (asg rfl rfl (asg rfl rfl (asg rfl rfl (gl_nil (gq_keep (e' := [(2, _), (3, _), (4, _), (5, _), (6, _), (8, _), (9, _), (10, _)]) ⟨rfl, rfl, rfl, rfl, rfl, rfl, rfl, rfl, trivial⟩ (gq_then (gc_seq (gc_region (mv rfl rfl (gl_nil ?_)))))))))))))
    refine gq_then ?_
    refine gc_cond rfl (fun hc35 => ?_) (fun hc35 => ?_)
    ·
     have hsb := hc35
     have hpb := smallQ_num hsb
     have hrb := smallQ_den hsb
     have hm1 := small_mul hpa hrb
     have hm2 := small_mul hpb hra
     have hm3 := small_mul hra hrb
     have hm4 := small_mul hpa hpb
     have hm5 := small_mul hra hpb
     have hd0 : qa.den * qb.den ≠ 0 := Nat.mul_ne_zero qa.den_nz qb.den_nz
     simp only [pN_t hsa, pD_t hsa, pN_t hsb, pD_t hsb]
     refine gc_seq (gc_region (gv (ov_field_addr Try.underlying27 rfl Try.sizeOf4 rfl) rfl (gv (ov_load_var (.tail _ (.tail _ (.head _))) Try.isAgg4 rfl rfl) rfl (gv (ov_field_addr Try.underlying27 rfl Try.sizeOf4 rfl) rfl (gv (ov_load_var (.tail _ (.head _)) Try.isAgg4 rfl rfl) rfl (gv (ov_neq_b Try.underlying4 rfl rfl) rfl (mv rfl rfl (mv rfl rfl (gv (ov_mul_u (k := .u64) (W := 18446744073709551616) rfl rfl rfl rfl (by omega)) rfl (mv rfl rfl (mv rfl rfl (gv (ov_mul_u (k := .u64) (W := 18446744073709551616) rfl rfl rfl rfl (by omega)) rfl ?_))))))))))))
     refine gl_call (vs := [_, _, _]) rfl rfl rfl rfl Try.call95 ⟨rfl, rfl, rfl, trivial⟩ (fun w hs => rat_short hs (by omega) (by omega) (by omega)) ?_
     intro v47 h3 hh3 hr47
     obtain ⟨vn47, vd47, rfl, hn47, hd47⟩ := hr47
     refine gl_upd (A := []) (r' := .var b4 27 [vB ((mkRat (sg (¬ ((qa.num < 0) ↔ (qb.num < 0))) (qa.num.natAbs * qb.num.natAbs)) (qa.den * qb.den)).num < 0), vn47, vd47]) (upd_store_var (k := 0) (cs := [_, _, _]) (vs := [_, _, _]) rfl rfl rfl (ocr rfl (ocu hn47 (ocu hd47 oc0))) size27 (Nat.le_of_ble_eq_true rfl)) rfl rfl rfl (gl_nil (gq_keep (e' := [(4, _)]) ⟨rfl, trivial⟩ (gq_then (gc_ret (gr_then (gq_res (fun E S => run_res1 rfl (rv_agg (cs := [_, _, _]) (.head _) Try.underlying27 rfl size27 rfl) E S) ?_))))))
     exact ⟨_, _, rfl, hn47, hd47⟩
    ·
     refine gc_skip (gq_then (gc_seq ?_))
     refine gc_draw 16 _ [] [(0, .q), (1, .q), (2, .q), (3, .q), (4, .q), (5, .q), (6, .q), (7, .q), (8, .q), (10, .q), (12, .q), (9, .c), (11, .c), (13, .c), (14, .c), (15, .c), (16, .t)] mixed (fun x hx => by cases hx) (by kernel_rfl) (fun x hx => by cases hx) (fun r hr => hr) (w_q rfl (fun h' L' hh hR => ov_field_addr Try.underlying27 rfl Try.sizeOf4 rfl) rfl (w_q rfl (fun h' L' hh hR => ov_load_var (hR _ (.tail _ (.tail _ (.head _)))) Try.isAgg4 rfl rfl) rfl (w_q rfl (fun h' L' hh hR => ov_field_addr Try.underlying27 rfl Try.sizeOf4 rfl) rfl (w_q rfl (fun h' L' hh hR => ov_load_var (hR _ (.tail _ (.head _))) Try.isAgg4 rfl rfl) rfl (w_q rfl (fun h' L' hh hR => ov_neq_b Try.underlying4 rfl rfl) rfl (w_q rfl (fun h' L' hh hR => ov_field_addr Try.underlying27 rfl Try.sizeOf22 rfl) rfl (w_q rfl (fun h' L' hh hR => ov_load_var (hR _ (.tail _ (.tail _ (.head _)))) Try.isAgg22 rfl rfl) rfl (w_q rfl (fun h' L' hh hR => ov_field_addr Try.underlying27 rfl Try.sizeOf22 rfl) rfl (w_q rfl (fun h' L' hh hR => ov_load_var (hR _ (.tail _ (.head _))) Try.isAgg22 rfl rfl) rfl (w_q rfl (fun h' L' hh hR => ov_load_agg (vs := [_, _, _]) (hR _ (.tail _ (.tail _ (.head _)))) Try.underlying27 rfl size27 rfl rfl) rfl (w_q rfl (fun h' L' hh hR => ov_load_agg (vs := [_, _, _]) (hR _ (.tail _ (.head _))) Try.underlying27 rfl size27 rfl rfl) rfl ?_)))))))))))
     refine w_c rfl ?_
     replace hna := hna.mono (hh1.trans hh2)
     replace hnb := hnb.mono hh2
     refine s_call (vs := [_, _]) Try.call67 ⟨rfl, rfl, trivial⟩ (fun w hs => nat_mul hs hna hnb (by omega) (by omega)) rfl ?_
     intro v57 h3 hh3 hr57
     try simp only [val_limbs] at hr57
     have hlm57 := limbs_len_mul ((qa.num.natAbs)) ((qb.num.natAbs))
     refine w_c rfl ?_
     replace hna := hna.mono hh3
     replace hda := hda.mono ((hh1.trans hh2).trans hh3)
     refine s_call (vs := [_]) Try.call80 ⟨rfl, trivial⟩ (fun w hs => rat_den hs hna hda) rfl ?_
     intro v59 h4 hh4 hr59
     rw [denL_den] at hr59
     refine w_c rfl ?_
     replace hnb := hnb.mono (hh3.trans hh4)
     replace hdb := hdb.mono ((hh2.trans hh3).trans hh4)
     refine s_call (vs := [_]) Try.call80 ⟨rfl, trivial⟩ (fun w hs => rat_den hs hnb hdb) rfl ?_
     intro v61 h5 hh5 hr61
     rw [denL_den] at hr61
     refine w_c rfl ?_
     replace hr59 := hr59.mono hh5
     refine s_call (vs := [_, _]) Try.call67 ⟨rfl, rfl, trivial⟩ (fun w hs => nat_mul hs hr59 hr61 (by omega) (by omega)) rfl ?_
     intro v62 h6 hh6 hr62
     try simp only [val_limbs] at hr62
     have hlm62 := limbs_len_mul ((qa.den)) ((qb.den))
     refine w_c rfl ?_
     replace hr57 := hr57.mono ((hh4.trans hh5).trans hh6)
     refine s_call (vs := [_, _, _]) Try.call68 ⟨rfl, rfl, rfl, trivial⟩ (fun w hs => rat_reduce hs hr57 hr62 (by omega) (by omega)) rfl ?_
     intro v63 h7 hh7 hr63
     try simp only [val_limbs] at hr63
     obtain ⟨vn63, vd63, rfl, hn63, hd63⟩ := hr63
     refine w_t_upd (A := []) (q' := .var b4 27 [vB ((mkRat (sg (¬ ((qa.num < 0) ↔ (qb.num < 0))) (((((qa.num.natAbs)) * ((qb.num.natAbs)))))) (((((qa.den)) * ((qb.den)))))).num < 0), vn63, vd63]) rfl (upd_store_var (k := 0) (cs := [_, _, _]) (vs := [_, _, _]) rfl rfl rfl (ocr rfl (ocu hn63 (ocu hd63 oc0))) size27 (Nat.le_of_ble_eq_true rfl)) rfl (w_nil (gq_keep (e' := [(4, _)]) ⟨rfl, trivial⟩ (gq_then (gc_ret (gq_res (fun E S => run_res1 rfl (rv_agg (cs := [_, _, _]) (.head _) Try.underlying27 rfl size27 rfl) E S) ?_)))))
     exact ⟨_, _, rfl, hn63, hd63⟩
   ·
    refine gc_keep (e' := [(2, _), (3, _), (4, _)]) ⟨rfl, rfl, rfl, trivial⟩ (gc_skip (gq_then (gc_seq ?_)))
    refine gc_draw 16 _ [] [(0, .q), (1, .q), (2, .q), (3, .q), (4, .q), (5, .q), (6, .q), (7, .q), (8, .q), (10, .q), (12, .q), (9, .c), (11, .c), (13, .c), (14, .c), (15, .c), (16, .t)] mixed (fun x hx => by cases hx) (by kernel_rfl) (fun x hx => by cases hx) (fun r hr => hr) (w_q rfl (fun h' L' hh hR => ov_field_addr Try.underlying27 rfl Try.sizeOf4 rfl) rfl (w_q rfl (fun h' L' hh hR => ov_load_var (hR _ (.tail _ (.tail _ (.head _)))) Try.isAgg4 rfl rfl) rfl (w_q rfl (fun h' L' hh hR => ov_field_addr Try.underlying27 rfl Try.sizeOf4 rfl) rfl (w_q rfl (fun h' L' hh hR => ov_load_var (hR _ (.tail _ (.head _))) Try.isAgg4 rfl rfl) rfl (w_q rfl (fun h' L' hh hR => ov_neq_b Try.underlying4 rfl rfl) rfl (w_q rfl (fun h' L' hh hR => ov_field_addr Try.underlying27 rfl Try.sizeOf22 rfl) rfl (w_q rfl (fun h' L' hh hR => ov_load_var (hR _ (.tail _ (.tail _ (.head _)))) Try.isAgg22 rfl rfl) rfl (w_q rfl (fun h' L' hh hR => ov_field_addr Try.underlying27 rfl Try.sizeOf22 rfl) rfl (w_q rfl (fun h' L' hh hR => ov_load_var (hR _ (.tail _ (.head _))) Try.isAgg22 rfl rfl) rfl (w_q rfl (fun h' L' hh hR => ov_load_agg (vs := [_, _, _]) (hR _ (.tail _ (.tail _ (.head _)))) Try.underlying27 rfl size27 rfl rfl) rfl (w_q rfl (fun h' L' hh hR => ov_load_agg (vs := [_, _, _]) (hR _ (.tail _ (.head _))) Try.underlying27 rfl size27 rfl rfl) rfl ?_)))))))))))
    refine w_c rfl ?_
    replace hna := hna.mono hh1
    replace hnb := hnb.mono hh1
    refine s_call (vs := [_, _]) Try.call67 ⟨rfl, rfl, trivial⟩ (fun w hs => nat_mul hs hna hnb (by omega) (by omega)) rfl ?_
    intro v57 h2 hh2 hr57
    try simp only [val_limbs] at hr57
    have hlm57 := limbs_len_mul ((qa.num.natAbs)) ((qb.num.natAbs))
    refine w_c rfl ?_
    replace hna := hna.mono hh2
    replace hda := hda.mono (hh1.trans hh2)
    refine s_call (vs := [_]) Try.call80 ⟨rfl, trivial⟩ (fun w hs => rat_den hs hna hda) rfl ?_
    intro v59 h3 hh3 hr59
    rw [denL_den] at hr59
    refine w_c rfl ?_
    replace hnb := hnb.mono (hh2.trans hh3)
    replace hdb := hdb.mono ((hh1.trans hh2).trans hh3)
    refine s_call (vs := [_]) Try.call80 ⟨rfl, trivial⟩ (fun w hs => rat_den hs hnb hdb) rfl ?_
    intro v61 h4 hh4 hr61
    rw [denL_den] at hr61
    refine w_c rfl ?_
    replace hr59 := hr59.mono hh4
    refine s_call (vs := [_, _]) Try.call67 ⟨rfl, rfl, trivial⟩ (fun w hs => nat_mul hs hr59 hr61 (by omega) (by omega)) rfl ?_
    intro v62 h5 hh5 hr62
    try simp only [val_limbs] at hr62
    have hlm62 := limbs_len_mul ((qa.den)) ((qb.den))
    refine w_c rfl ?_
    replace hr57 := hr57.mono ((hh3.trans hh4).trans hh5)
    refine s_call (vs := [_, _, _]) Try.call68 ⟨rfl, rfl, rfl, trivial⟩ (fun w hs => rat_reduce hs hr57 hr62 (by omega) (by omega)) rfl ?_
    intro v63 h6 hh6 hr63
    try simp only [val_limbs] at hr63
    obtain ⟨vn63, vd63, rfl, hn63, hd63⟩ := hr63
    refine w_t_upd (A := []) (q' := .var b4 27 [vB ((mkRat (sg (¬ ((qa.num < 0) ↔ (qb.num < 0))) (((((qa.num.natAbs)) * ((qb.num.natAbs)))))) (((((qa.den)) * ((qb.den)))))).num < 0), vn63, vd63]) rfl (upd_store_var (k := 0) (cs := [_, _, _]) (vs := [_, _, _]) rfl rfl rfl (ocr rfl (ocu hn63 (ocu hd63 oc0))) size27 (Nat.le_of_ble_eq_true rfl)) rfl (w_nil (gq_keep (e' := [(4, _)]) ⟨rfl, trivial⟩ (gq_then (gc_ret (gq_res (fun E S => run_res1 rfl (rv_agg (cs := [_, _, _]) (.head _) Try.underlying27 rfl size27 rfl) E S) ?_)))))
    exact ⟨_, _, rfl, hn63, hd63⟩

theorem rat_quo {w0 : World} {h0 : Mem}  (hs : MLe h0 (mem w0)) {qa : Rat} {vna vda : Value} (hna : Us .u32 h0 vna (limbs qa.num.natAbs)) (hda : Us .u32 h0 vda (limbs (denN qa.den))) {qb : Rat} {vnb vdb : Value} (hnb : Us .u32 h0 vnb (limbs qb.num.natAbs)) (hdb : Us .u32 h0 vdb (limbs (denN qb.den))) (hqa : lq qa ≤ 100000000000) (hqb : lq qb ≤ 100000000000)  :
    Calls Try.prog 38 #[.agg #[vB (qa.num < 0), vna, vda], .agg #[vB (qb.num < 0), vnb, vdb]] w0 (Ret w0 h0 (fun h r => ∃ u, r = .tuple #[u, vI (if qb = 0 then 3 else 0)] ∧ IsRat h u (if qb = 0 then 0 else qa / qb))) := by
 have hlna := lq_num qa
 have hlda := lq_den qa
 have hlDa := lq_denL qa
 have hlnb := lq_num qb
 have hldb := lq_den qb
 have hlDb := lq_denL qb
 refine calls_begin (n := 58) (e := [(0, .agg #[vB (qa.num < 0), vna, vda]), (1, .agg #[vB (qb.num < 0), vnb, vdb])]) (vs := [.agg #[vB (qa.num < 0), vna, vda], .agg #[vB (qb.num < 0), vnb, vdb]]) Try.func38 rfl rfl (Nat.le_of_ble_eq_true rfl) hs ⟨rfl, rfl, trivial⟩ (gc_seq (gc_region (gl_newop (new_box (cs := [_, _, _]) rfl rfl) rfl rfl rfl ?_)))
 intro v2 r2 hr2
 obtain ⟨b2, rfl, rfl⟩ := hr2
 refine gl_newop (new_box (cs := [_, _, _]) rfl rfl) rfl rfl rfl ?_
 intro v3 r3 hr3
 obtain ⟨b3, rfl, rfl⟩ := hr3
 refine gl_newop (new_alloc (cs := [vB ((0 : Rat).num < 0), .slice none 0 0, .slice none 0 0]) info27 rfl (by simp only [zb]; rfl)) rfl rfl rfl ?_
 intro v4 r4 hr4
 obtain ⟨b4, rfl, rfl⟩ := hr4
 refine asg (v := vI (0)) rfl rfl (gl_nil (gq_then (gc_seq (gc_seq (gc_region (gv (ov_load_agg (vs := [_, _, _]) (.tail _ (.head _)) Try.underlying27 rfl size27 rfl rfl) rfl ?_))))))
 refine gl_call (vs := [_]) rfl rfl rfl rfl Try.call46 ⟨rfl, trivial⟩ (fun w hs => rat_sign hs hnb hdb (by omega)) ?_
 intro v13 h1 hh1 hr13
 have hsr13 := sgnQ_range qb
 subst hr13
 refine gv (ov_eql_i (q := 0) rfl rfl) rfl (gl_nil (gq_then ?_))
 refine gc_cond rfl (fun hc14 => ?_) (fun hc14 => ?_)
 ·
  have hb0 := sgn_zero.1 hc14
  rw [if_pos hb0, if_pos hb0]
  refine gc_seq (gc_region (gv (ov_build_parts (ps' := []) (vs := [vB ((0 : Rat).num < 0), .slice none 0 0, .slice none 0 0]) Try.underlying27 info27 rfl (places27 Try.underlying27) trivial (by simp only [zb]; rfl)) rfl (gl_upd (A := []) (r' := .var b4 27 [vB ((0 : Rat).num < 0), .slice none 0 0, .slice none 0 0]) (upd_store_var (k := 0) (cs := [_, _, _]) (vs := [_, _, _]) rfl rfl rfl rfl size27 (Nat.le_of_ble_eq_true rfl)) rfl rfl rfl (asg (v := vI (3)) rfl rfl (gl_nil (gq_then (gc_ret (gr_then (gq_res (fun E S => run_res2 rfl (rv_agg (cs := [_, _, _]) (.head _) Try.underlying27 rfl size27 rfl) (rv_tmp rfl) E S) ?_)))))))))
  exact ⟨_, rfl, IsRat.zero _⟩
 ·
  have hb0 : qb ≠ 0 := fun h => hc14 (sgn_zero.2 h)
  rw [if_neg hb0, if_neg hb0, ← quo_eq qa hb0]
  have hbn := num_ne.2 hb0
  refine gc_skip (gq_then (gc_seq (gc_seq (gc_region (gv (ov_load_agg (vs := [_, _, _]) (.tail _ (.tail _ (.head _))) Try.underlying27 rfl size27 rfl rfl) rfl ?_)))))
  replace hna := hna.mono hh1
  replace hda := hda.mono hh1
  refine gl_call (vs := [_]) rfl rfl rfl rfl Try.call94 ⟨rfl, trivial⟩ (fun w hs => rat_parts hs hna hda) ?_
  intro v18 h2 hh2 hr18
  subst hr18
  refine mv rfl rfl (gv (ov_extract (vs := [_, _, _]) rfl rfl) rfl (gv (ov_extract (vs := [_, _, _]) rfl rfl) rfl (gv (ov_extract (vs := [_, _, _]) rfl rfl) rfl (asg rfl rfl (asg rfl rfl (asg rfl rfl (gl_nil (gq_keep (e' := [(2, _), (3, _), (4, _), (6, _), (7, _), (8, _)]) ⟨rfl, rfl, rfl, rfl, rfl, rfl, trivial⟩ (gq_then (gc_seq (gc_region (mv rfl rfl (gl_nil ?_)))))))))))))
  refine gq_then ?_
  refine gc_cond rfl (fun hc22 => ?_) (fun hc22 => ?_)
  ·
   have hsa := hc22
   have hpa := smallQ_num hsa
   have hra := smallQ_den hsa
   refine gc_seq (gc_region (gv (ov_load_agg (vs := [_, _, _]) (.tail _ (.head _)) Try.underlying27 rfl size27 rfl rfl) rfl ?_))
   replace hnb := hnb.mono (hh1.trans hh2)
   replace hdb := hdb.mono (hh1.trans hh2)
   refine gl_call (vs := [_]) rfl rfl rfl rfl Try.call94 ⟨rfl, trivial⟩ (fun w hs => rat_parts hs hnb hdb) ?_
   intro v25 h3 hh3 hr25
   subst hr25
   refine mv rfl rfl (gv (ov_extract (vs := [_, _, _]) rfl rfl) rfl (gv (ov_extract (vs := [_, _, _]) rfl rfl) rfl (gv (ov_extract (vs := [_, _, _]) rfl rfl) rfl (asg rfl rfl (asg rfl rfl (asg rfl rfl (gl_nil (gq_then (gc_seq (gc_region (mv rfl rfl (gl_nil (gq_then ?_)))))))))))))
   refine gc_cond rfl (fun hc29 => ?_) (fun hc29 => ?_)
   ·
    have hsb := hc29
    have hpb := smallQ_num hsb
    have hrb := smallQ_den hsb
    have hm1 := small_mul hpa hrb
    have hm2 := small_mul hpb hra
    have hm3 := small_mul hra hrb
    have hm4 := small_mul hpa hpb
    have hm5 := small_mul hra hpb
    have hd0 : qa.den * qb.num.natAbs ≠ 0 := Nat.mul_ne_zero qa.den_nz hbn
    simp only [pN_t hsa, pD_t hsa, pN_t hsb, pD_t hsb]
    refine gc_keep (e' := [(2, _), (3, _), (4, _), (6, _), (7, _), (9, _), (10, _)]) ⟨rfl, rfl, rfl, rfl, rfl, rfl, rfl, trivial⟩ (gc_seq (gc_region (gv (ov_field_addr Try.underlying27 rfl Try.sizeOf4 rfl) rfl (gv (ov_load_var (.tail _ (.tail _ (.head _))) Try.isAgg4 rfl rfl) rfl (gv (ov_field_addr Try.underlying27 rfl Try.sizeOf4 rfl) rfl (gv (ov_load_var (.tail _ (.head _)) Try.isAgg4 rfl rfl) rfl (gv (ov_neq_b Try.underlying4 rfl rfl) rfl (mv rfl rfl (mv rfl rfl (gv (ov_mul_u (k := .u64) (W := 18446744073709551616) rfl rfl rfl rfl (by omega)) rfl (mv rfl rfl (mv rfl rfl (gv (ov_mul_u (k := .u64) (W := 18446744073709551616) rfl rfl rfl rfl (by omega)) rfl ?_)))))))))))))
    refine gl_call (vs := [_, _, _]) rfl rfl rfl rfl Try.call95 ⟨rfl, rfl, rfl, trivial⟩ (fun w hs => rat_short hs (by omega) (by omega) (by omega)) ?_
    intro v41 h4 hh4 hr41
    obtain ⟨vn41, vd41, rfl, hn41, hd41⟩ := hr41
    refine gl_upd (A := []) (r' := .var b4 27 [vB ((mkRat (sg (¬ ((qa.num < 0) ↔ (qb.num < 0))) (qa.num.natAbs * qb.den)) (qa.den * qb.num.natAbs)).num < 0), vn41, vd41]) (upd_store_var (k := 0) (cs := [_, _, _]) (vs := [_, _, _]) rfl rfl rfl (ocr rfl (ocu hn41 (ocu hd41 oc0))) size27 (Nat.le_of_ble_eq_true rfl)) rfl rfl rfl (asg (v := vI (0)) rfl rfl (gl_nil (gq_keep (e' := [(4, _), (5, _)]) ⟨rfl, rfl, trivial⟩ (gq_then (gc_ret (gr_then (gq_res (fun E S => run_res2 rfl (rv_agg (cs := [_, _, _]) (.head _) Try.underlying27 rfl size27 rfl) (rv_tmp rfl) E S) ?_)))))))
    exact ⟨_, rfl, _, _, rfl, hn41, hd41⟩
   ·
    refine gc_keep (e' := [(2, _), (3, _), (4, _)]) ⟨rfl, rfl, rfl, trivial⟩ (gc_skip (gq_then (gc_seq ?_)))
    refine gc_draw 16 _ [] [(0, .q), (1, .q), (2, .q), (3, .q), (4, .q), (5, .q), (6, .q), (7, .q), (10, .q), (12, .q), (13, .q), (8, .c), (9, .c), (11, .c), (14, .c), (15, .c), (16, .t), (17, .t)] mixed (fun x hx => by cases hx) (by kernel_rfl) (fun x hx => by cases hx) (fun r hr => hr) (w_q rfl (fun h' L' hh hR => ov_field_addr Try.underlying27 rfl Try.sizeOf4 rfl) rfl (w_q rfl (fun h' L' hh hR => ov_load_var (hR _ (.tail _ (.tail _ (.head _)))) Try.isAgg4 rfl rfl) rfl (w_q rfl (fun h' L' hh hR => ov_field_addr Try.underlying27 rfl Try.sizeOf4 rfl) rfl (w_q rfl (fun h' L' hh hR => ov_load_var (hR _ (.tail _ (.head _))) Try.isAgg4 rfl rfl) rfl (w_q rfl (fun h' L' hh hR => ov_neq_b Try.underlying4 rfl rfl) rfl (w_q rfl (fun h' L' hh hR => ov_field_addr Try.underlying27 rfl Try.sizeOf22 rfl) rfl (w_q rfl (fun h' L' hh hR => ov_load_var (hR _ (.tail _ (.tail _ (.head _)))) Try.isAgg22 rfl rfl) rfl (w_q rfl (fun h' L' hh hR => ov_load_agg (vs := [_, _, _]) (hR _ (.tail _ (.head _))) Try.underlying27 rfl size27 rfl rfl) rfl (w_q rfl (fun h' L' hh hR => ov_load_agg (vs := [_, _, _]) (hR _ (.tail _ (.tail _ (.head _)))) Try.underlying27 rfl size27 rfl rfl) rfl (w_q rfl (fun h' L' hh hR => ov_field_addr Try.underlying27 rfl Try.sizeOf22 rfl) rfl (w_q rfl (fun h' L' hh hR => ov_load_var (hR _ (.tail _ (.head _))) Try.isAgg22 rfl rfl) rfl ?_)))))))))))
    refine w_c rfl ?_
    replace hnb := hnb.mono hh3
    replace hdb := hdb.mono hh3
    refine s_call (vs := [_]) Try.call80 ⟨rfl, trivial⟩ (fun w hs => rat_den hs hnb hdb) rfl ?_
    intro v50 h4 hh4 hr50
    rw [denL_den] at hr50
    refine w_c rfl ?_
    replace hna := hna.mono ((hh2.trans hh3).trans hh4)
    refine s_call (vs := [_, _]) Try.call67 ⟨rfl, rfl, trivial⟩ (fun w hs => nat_mul hs hna hr50 (by omega) (by omega)) rfl ?_
    intro v51 h5 hh5 hr51
    try simp only [val_limbs] at hr51
    have hlm51 := limbs_len_mul ((qa.num.natAbs)) ((qb.den))
    refine w_c rfl ?_
    replace hna := hna.mono hh5
    replace hda := hda.mono (((hh2.trans hh3).trans hh4).trans hh5)
    refine s_call (vs := [_]) Try.call80 ⟨rfl, trivial⟩ (fun w hs => rat_den hs hna hda) rfl ?_
    intro v53 h6 hh6 hr53
    rw [denL_den] at hr53
    refine w_c rfl ?_
    replace hnb := hnb.mono ((hh4.trans hh5).trans hh6)
    refine s_call (vs := [_, _]) Try.call67 ⟨rfl, rfl, trivial⟩ (fun w hs => nat_mul hs hr53 hnb (by omega) (by omega)) rfl ?_
    intro v56 h7 hh7 hr56
    try simp only [val_limbs] at hr56
    have hlm56 := limbs_len_mul ((qa.den)) ((qb.num.natAbs))
    refine w_c rfl ?_
    replace hr51 := hr51.mono (hh6.trans hh7)
    refine s_call (vs := [_, _, _]) Try.call68 ⟨rfl, rfl, rfl, trivial⟩ (fun w hs => rat_reduce hs hr51 hr56 (by omega) (by omega)) rfl ?_
    intro v57 h8 hh8 hr57
    try simp only [val_limbs] at hr57
    obtain ⟨vn57, vd57, rfl, hn57, hd57⟩ := hr57
    refine w_t_upd (A := []) (q' := .var b4 27 [vB ((mkRat (sg (¬ ((qa.num < 0) ↔ (qb.num < 0))) (((((qa.num.natAbs)) * ((qb.den)))))) (((((qa.den)) * ((qb.num.natAbs)))))).num < 0), vn57, vd57]) rfl (upd_store_var (k := 0) (cs := [_, _, _]) (vs := [_, _, _]) rfl rfl rfl (ocr rfl (ocu hn57 (ocu hd57 oc0))) size27 (Nat.le_of_ble_eq_true rfl)) rfl (w_t_val rfl (ov_assign (v := vI (0)) rfl) rfl (w_nil (gq_keep (e' := [(4, _), (5, _)]) ⟨rfl, rfl, trivial⟩ (gq_then (gc_ret (gq_res (fun E S => run_res2 rfl (rv_agg (cs := [_, _, _]) (.head _) Try.underlying27 rfl size27 rfl) (rv_tmp rfl) E S) ?_))))))
    exact ⟨_, rfl, _, _, rfl, hn57, hd57⟩
  ·
   refine gc_skip (gq_then (gc_seq ?_))
   refine gc_draw 16 _ [] [(0, .q), (1, .q), (2, .q), (3, .q), (4, .q), (5, .q), (6, .q), (7, .q), (10, .q), (12, .q), (13, .q), (8, .c), (9, .c), (11, .c), (14, .c), (15, .c), (16, .t), (17, .t)] mixed (fun x hx => by cases hx) (by kernel_rfl) (fun x hx => by cases hx) (fun r hr => hr) (w_q rfl (fun h' L' hh hR => ov_field_addr Try.underlying27 rfl Try.sizeOf4 rfl) rfl (w_q rfl (fun h' L' hh hR => ov_load_var (hR _ (.tail _ (.tail _ (.head _)))) Try.isAgg4 rfl rfl) rfl (w_q rfl (fun h' L' hh hR => ov_field_addr Try.underlying27 rfl Try.sizeOf4 rfl) rfl (w_q rfl (fun h' L' hh hR => ov_load_var (hR _ (.tail _ (.head _))) Try.isAgg4 rfl rfl) rfl (w_q rfl (fun h' L' hh hR => ov_neq_b Try.underlying4 rfl rfl) rfl (w_q rfl (fun h' L' hh hR => ov_field_addr Try.underlying27 rfl Try.sizeOf22 rfl) rfl (w_q rfl (fun h' L' hh hR => ov_load_var (hR _ (.tail _ (.tail _ (.head _)))) Try.isAgg22 rfl rfl) rfl (w_q rfl (fun h' L' hh hR => ov_load_agg (vs := [_, _, _]) (hR _ (.tail _ (.head _))) Try.underlying27 rfl size27 rfl rfl) rfl (w_q rfl (fun h' L' hh hR => ov_load_agg (vs := [_, _, _]) (hR _ (.tail _ (.tail _ (.head _)))) Try.underlying27 rfl size27 rfl rfl) rfl (w_q rfl (fun h' L' hh hR => ov_field_addr Try.underlying27 rfl Try.sizeOf22 rfl) rfl (w_q rfl (fun h' L' hh hR => ov_load_var (hR _ (.tail _ (.head _))) Try.isAgg22 rfl rfl) rfl ?_)))))))))))
   refine w_c rfl ?_
   replace hnb := hnb.mono (hh1.trans hh2)
   replace hdb := hdb.mono (hh1.trans hh2)
   refine s_call (vs := [_]) Try.call80 ⟨rfl, trivial⟩ (fun w hs => rat_den hs hnb hdb) rfl ?_
   intro v50 h3 hh3 hr50
   rw [denL_den] at hr50
   refine w_c rfl ?_
   replace hna := hna.mono (hh2.trans hh3)
   refine s_call (vs := [_, _]) Try.call67 ⟨rfl, rfl, trivial⟩ (fun w hs => nat_mul hs hna hr50 (by omega) (by omega)) rfl ?_
   intro v51 h4 hh4 hr51
   try simp only [val_limbs] at hr51
   have hlm51 := limbs_len_mul ((qa.num.natAbs)) ((qb.den))
   refine w_c rfl ?_
   replace hna := hna.mono hh4
   replace hda := hda.mono ((hh2.trans hh3).trans hh4)
   refine s_call (vs := [_]) Try.call80 ⟨rfl, trivial⟩ (fun w hs => rat_den hs hna hda) rfl ?_
   intro v53 h5 hh5 hr53
   rw [denL_den] at hr53
   refine w_c rfl ?_
   replace hnb := hnb.mono ((hh3.trans hh4).trans hh5)
   refine s_call (vs := [_, _]) Try.call67 ⟨rfl, rfl, trivial⟩ (fun w hs => nat_mul hs hr53 hnb (by omega) (by omega)) rfl ?_
   intro v56 h6 hh6 hr56
   try simp only [val_limbs] at hr56
   have hlm56 := limbs_len_mul ((qa.den)) ((qb.num.natAbs))
   refine w_c rfl ?_
   replace hr51 := hr51.mono (hh5.trans hh6)
   refine s_call (vs := [_, _, _]) Try.call68 ⟨rfl, rfl, rfl, trivial⟩ (fun w hs => rat_reduce hs hr51 hr56 (by omega) (by omega)) rfl ?_
   intro v57 h7 hh7 hr57
   try simp only [val_limbs] at hr57
   obtain ⟨vn57, vd57, rfl, hn57, hd57⟩ := hr57
   refine w_t_upd (A := []) (q' := .var b4 27 [vB ((mkRat (sg (¬ ((qa.num < 0) ↔ (qb.num < 0))) (((((qa.num.natAbs)) * ((qb.den)))))) (((((qa.den)) * ((qb.num.natAbs)))))).num < 0), vn57, vd57]) rfl (upd_store_var (k := 0) (cs := [_, _, _]) (vs := [_, _, _]) rfl rfl rfl (ocr rfl (ocu hn57 (ocu hd57 oc0))) size27 (Nat.le_of_ble_eq_true rfl)) rfl (w_t_val rfl (ov_assign (v := vI (0)) rfl) rfl (w_nil (gq_keep (e' := [(4, _), (5, _)]) ⟨rfl, rfl, trivial⟩ (gq_then (gc_ret (gq_res (fun E S => run_res2 rfl (rv_agg (cs := [_, _, _]) (.head _) Try.underlying27 rfl size27 rfl) (rv_tmp rfl) E S) ?_))))))
   exact ⟨_, rfl, _, _, rfl, hn57, hd57⟩

theorem rat_addn {w0 : World} {h0 : Mem}  (hs : MLe h0 (mem w0)) {qa : Rat} {vna vda : Value} (hna : Us .u32 h0 vna (limbs qa.num.natAbs)) (hda : Us .u32 h0 vda (limbs (denN qa.den))) {qb : Rat} {vnb vdb : Value} (hnb : Us .u32 h0 vnb (limbs qb.num.natAbs)) (hdb : Us .u32 h0 vdb (limbs (denN qb.den))) (hqa : lq qa ≤ 100000000000) (hqb : lq qb ≤ 100000000000) {s : Prop} :
    Calls Try.prog 96 #[.agg #[vB (qa.num < 0), vna, vda], .agg #[vB (qb.num < 0), vnb, vdb], vB s] w0 (Ret w0 h0 (fun h r => IsRat h r (qa + sgd s qb))) := by
 have hlna := lq_num qa
 have hlda := lq_den qa
 have hlDa := lq_denL qa
 have hlnb := lq_num qb
 have hldb := lq_den qb
 have hlDb := lq_denL qb
 refine calls_begin (n := 152) (e := [(0, .agg #[vB (qa.num < 0), vna, vda]), (1, .agg #[vB (qb.num < 0), vnb, vdb]), (2, vB s)]) (vs := [.agg #[vB (qa.num < 0), vna, vda], .agg #[vB (qb.num < 0), vnb, vdb], vB s]) Try.func96 rfl rfl (Nat.le_of_ble_eq_true rfl) hs ⟨rfl, rfl, rfl, trivial⟩ (gc_seq (gc_region (gl_newop (new_box (cs := [_, _, _]) rfl rfl) rfl rfl rfl ?_)))
 intro v3 r3 hr3
 obtain ⟨b3, rfl, rfl⟩ := hr3
 refine gl_newop (new_box (cs := [_, _, _]) rfl rfl) rfl rfl rfl ?_
 intro v4 r4 hr4
 obtain ⟨b4, rfl, rfl⟩ := hr4
 refine gl_newop (new_alloc (cs := [vB ((0 : Rat).num < 0), .slice none 0 0, .slice none 0 0]) info27 rfl (by simp only [zb]; rfl)) rfl rfl rfl ?_
 intro v6 r6 hr6
 obtain ⟨b6, rfl, rfl⟩ := hr6
 refine gl_nil (gq_then ?_)
 refine gc_cut (ι := Mem) (fun (mc : (Mem)) => MLe h0 mc ∧ (True)) (fun (mc : (Mem)) => [(2, vB s), (3, vP b3 0), (4, vP b4 0), (6, vP b6 0)]) (fun (mc : (Mem)) => [.var b6 27 [vB ((0 : Rat).num < 0), .slice none 0 0, .slice none 0 0], .var b4 27 [vB (qb.num < 0), vnb, vdb], .var b3 27 [vB (qa.num < 0), vna, vda]]) (fun (mc : (Mem)) => mc) ?_ ?_
 ·
  refine gc_seq (gc_region (gv (ov_load_agg (vs := [_, _, _]) (.tail _ (.tail _ (.head _))) Try.underlying27 rfl size27 rfl rfl) rfl ?_))
  refine gl_call (vs := [_]) rfl rfl rfl rfl Try.call94 ⟨rfl, trivial⟩ (fun w hs => rat_parts hs hna hda) ?_
  intro v24 h1 hh1 hr24
  subst hr24
  refine mv rfl rfl (gv (ov_extract (vs := [_, _, _]) rfl rfl) rfl (gv (ov_extract (vs := [_, _, _]) rfl rfl) rfl (gv (ov_extract (vs := [_, _, _]) rfl rfl) rfl (asg rfl rfl (asg rfl rfl (asg rfl rfl (gl_nil (gq_then (gc_seq (gc_region (mv rfl rfl (gl_nil (gq_then ?_)))))))))))))
  refine gc_cond rfl (fun hc28 => ?_) (fun hc28 => ?_)
  ·
   have hsa := hc28
   have hpa := smallQ_num hsa
   have hra := smallQ_den hsa
   refine gc_keep (e' := [(2, _), (3, _), (4, _), (6, _), (7, _), (8, _)]) ⟨rfl, rfl, rfl, rfl, rfl, rfl, trivial⟩ (gc_seq (gc_region (gv (ov_load_agg (vs := [_, _, _]) (.tail _ (.head _)) Try.underlying27 rfl size27 rfl rfl) rfl ?_)))
   replace hnb := hnb.mono hh1
   replace hdb := hdb.mono hh1
   refine gl_call (vs := [_]) rfl rfl rfl rfl Try.call94 ⟨rfl, trivial⟩ (fun w hs => rat_parts hs hnb hdb) ?_
   intro v31 h2 hh2 hr31
   subst hr31
   refine mv rfl rfl (gv (ov_extract (vs := [_, _, _]) rfl rfl) rfl (gv (ov_extract (vs := [_, _, _]) rfl rfl) rfl (gv (ov_extract (vs := [_, _, _]) rfl rfl) rfl (asg rfl rfl (asg rfl rfl (asg rfl rfl (gl_nil (gq_then (gc_seq (gc_region (mv rfl rfl (gl_nil (gq_then ?_)))))))))))))
   refine gc_cond rfl (fun hc35 => ?_) (fun hc35 => ?_)
   ·
    have hsb := hc35
    have hpb := smallQ_num hsb
    have hrb := smallQ_den hsb
    have hm1 := small_mul hpa hrb
    have hm2 := small_mul hpb hra
    have hm3 := small_mul hra hrb
    have hm4 := small_mul hpa hpb
    have hm5 := small_mul hra hpb
    have hd0 : qa.den * qb.den ≠ 0 := Nat.mul_ne_zero qa.den_nz qb.den_nz
    simp only [pN_t hsa, pD_t hsa, pN_t hsb, pD_t hsb]
    refine gc_seq (gc_region (mv rfl rfl (mv rfl rfl (gv (ov_mul_u (k := .u64) (W := 18446744073709551616) rfl rfl rfl rfl (by omega)) rfl (mv rfl rfl (mv rfl rfl (gv (ov_mul_u (k := .u64) (W := 18446744073709551616) rfl rfl rfl rfl (by omega)) rfl (asg rfl rfl (asg rfl rfl (gl_nil (gq_keep (e' := [(2, _), (3, _), (4, _), (6, _), (8, _), (11, _), (7, _), (10, _)]) ⟨rfl, rfl, rfl, rfl, rfl, rfl, rfl, rfl, trivial⟩ (gq_then (gc_seq ?_)))))))))))))
    refine gc_region (mv rfl rfl (mv rfl rfl (gv (ov_callx (vs := [_, _, vU .u64 0]) (add64 _ _) ⟨rfl, rfl, rfl, trivial⟩) rfl (mv rfl rfl (gv (ov_extract (vs := [_, _]) rfl rfl) rfl (gv (ov_extract (vs := [_, _]) rfl rfl) rfl (asg rfl rfl (asg rfl rfl (gl_nil (gq_then (gc_block (gc_seq (gc_region ?_)))))))))))))
    refine gv (ov_field_addr Try.underlying27 rfl Try.sizeOf4 rfl) rfl (gv (ov_load_var (.tail _ (.tail _ (.head _))) Try.isAgg4 rfl rfl) rfl (mv rfl rfl (gv (ov_eql_b Try.underlying4 rfl rfl) rfl ?_)))
    refine gl_cut (ι := Unit) 4 (fun _ => True) (fun _ => [(56, vB (((qa.num < 0) ↔ (s)) ∧ ((((qa.num.natAbs * qb.den) + (qb.num.natAbs * qa.den)) / 18446744073709551616) = (0 : Nat)))), (2, vB s), (3, vP b3 0), (4, vP b4 0), (6, vP b6 0), (8, vU .u64 qa.den), (11, vU .u64 qb.den), (7, vU .u64 (qa.num.natAbs * qb.den)), (10, vU .u64 (qb.num.natAbs * qa.den)), (13, vU .u64 (((qa.num.natAbs * qb.den) + (qb.num.natAbs * qa.den)) % 18446744073709551616))]) (fun _ => [.var b6 27 [vB ((0 : Rat).num < 0), .slice none 0 0, .slice none 0 0], .var b4 27 [vB (qb.num < 0), vnb, vdb], .var b3 27 [vB (qa.num < 0), vna, vda]]) (fun _ => h2) ?_ ?_
    ·
     refine gl_cases ((qa.num < 0) ↔ (s)) (fun hg => ?_) (fun hg => ?_)
     ·
      refine gl_val (ov_move (v := .bool true) (congrArg some (vB_true hg))) rfl rfl rfl (gl_on rfl rfl rfl (mv rfl rfl (gl_on rfl rfl rfl (gv (ov_eql_u (k := .u64) (q := 0) rfl rfl) rfl (gv (ov_pick_t rfl rfl) rfl (gl_nil ?_))))))
      refine gq_cut () trivial ⟨?_, rfl, rfl, rfl, rfl, rfl, rfl, rfl, rfl, rfl, trivial⟩ rfl rfl
      exact congrArg some (vB_and_t hg)
     ·
      refine gl_val (ov_move (v := .bool false) (congrArg some (vB_false hg))) rfl rfl rfl (gl_off rfl rfl rfl rfl rfl rfl (gl_off rfl rfl rfl rfl rfl rfl (gv (ov_pick_f rfl rfl) rfl (gl_nil ?_))))
      refine gq_cut () trivial ⟨?_, rfl, rfl, rfl, rfl, rfl, rfl, rfl, rfl, rfl, trivial⟩ rfl rfl
      exact congrArg some (vB_and_f hg)
    ·
     intro _ _
     show GL _ _ _ _ _ _ _ [(56, vB (((qa.num < 0) ↔ (s)) ∧ ((((qa.num.natAbs * qb.den) + (qb.num.natAbs * qa.den)) / 18446744073709551616) = (0 : Nat)))), (2, vB s), (3, vP b3 0), (4, vP b4 0), (6, vP b6 0), (8, vU .u64 qa.den), (11, vU .u64 qb.den), (7, vU .u64 (qa.num.natAbs * qb.den)), (10, vU .u64 (qb.num.natAbs * qa.den)), (13, vU .u64 (((qa.num.natAbs * qb.den) + (qb.num.natAbs * qa.den)) % 18446744073709551616))] [.var b6 27 [vB ((0 : Rat).num < 0), .slice none 0 0, .slice none 0 0], .var b4 27 [vB (qb.num < 0), vnb, vdb], .var b3 27 [vB (qa.num < 0), vna, vda]] h2
     refine asg rfl rfl (gl_nil (gq_then ?_))
     refine gc_cond rfl (fun hc48 => ?_) (fun hc48 => ?_)
     ·
      obtain ⟨hss, hcy⟩ := hc48
      refine gc_seq (gc_region (mv rfl rfl (mv rfl rfl (mv rfl rfl (mv rfl rfl (gv (ov_mul_u (k := .u64) (W := 18446744073709551616) rfl rfl rfl rfl (by omega)) rfl ?_))))))
      refine gl_call (vs := [_, _, _]) rfl rfl rfl rfl Try.call95 ⟨rfl, rfl, rfl, trivial⟩ (fun w hs => rat_short hs (by omega) (by omega) (by omega)) ?_
      intro v62 h3 hh3 hr62
      obtain ⟨vn62, vd62, rfl, hn62, hd62⟩ := hr62
      refine gl_upd (A := []) (r' := .var b6 27 [vB ((mkRat (sg (s) (((qa.num.natAbs * qb.den) + (qb.num.natAbs * qa.den)) % 18446744073709551616)) (qa.den * qb.den)).num < 0), vn62, vd62]) (upd_store_var (k := 0) (cs := [_, _, _]) (vs := [_, _, _]) rfl rfl rfl (ocr rfl (ocu hn62 (ocu hd62 oc0))) size27 (Nat.le_of_ble_eq_true rfl)) rfl rfl rfl (gl_nil (gq_keep (e' := [(6, _)]) ⟨rfl, trivial⟩ (gq_then (gc_ret (gr_in (gr_then (gq_res (fun E S => run_res1 rfl (rv_agg (cs := [_, _, _]) (.head _) Try.underlying27 rfl size27 rfl) E S) ?_)))))))
      have e := Nat.mod_eq_of_lt (a := qa.num.natAbs * qb.den + qb.num.natAbs * qa.den) (b := 18446744073709551616) (by omega)
      rw [e] at hn62 hd62 ⊢
      rw [add_sgd hss]
      exact ⟨_, _, rfl, hn62, hd62⟩
     ·
      refine gc_seq (gc_region (gv (ov_field_addr Try.underlying27 rfl Try.sizeOf4 rfl) rfl (gv (ov_load_var (.tail _ (.tail _ (.head _))) Try.isAgg4 rfl rfl) rfl (mv rfl rfl (gv (ov_neq_b Try.underlying4 rfl rfl) rfl ?_)))))
      refine gl_cut (ι := Unit) 5 (fun _ => True) (fun _ => [(72, vB ((¬ ((qa.num < 0) ↔ (s))) ∧ ((qb.num.natAbs * qa.den) ≤ (qa.num.natAbs * qb.den)))), (2, vB s), (3, vP b3 0), (4, vP b4 0), (6, vP b6 0), (8, vU .u64 qa.den), (11, vU .u64 qb.den), (7, vU .u64 (qa.num.natAbs * qb.den)), (10, vU .u64 (qb.num.natAbs * qa.den))]) (fun _ => [.var b6 27 [vB ((0 : Rat).num < 0), .slice none 0 0, .slice none 0 0], .var b4 27 [vB (qb.num < 0), vnb, vdb], .var b3 27 [vB (qa.num < 0), vna, vda]]) (fun _ => h2) ?_ ?_
      ·
       refine gl_cases (¬ ((qa.num < 0) ↔ (s))) (fun hg => ?_) (fun hg => ?_)
       ·
        refine gl_val (ov_move (v := .bool true) (congrArg some (vB_true hg))) rfl rfl rfl (gl_on rfl rfl rfl (mv rfl rfl (gl_on rfl rfl rfl (mv rfl rfl (gl_on rfl rfl rfl (gv (ov_geq_u (k := .u64) rfl rfl) rfl (gv (ov_pick_t rfl rfl) rfl (gl_nil ?_))))))))
        refine gq_cut () trivial ⟨?_, rfl, rfl, rfl, rfl, rfl, rfl, rfl, rfl, trivial⟩ rfl rfl
        exact congrArg some (vB_and_t hg)
       ·
        refine gl_val (ov_move (v := .bool false) (congrArg some (vB_false hg))) rfl rfl rfl (gl_off rfl rfl rfl rfl rfl rfl (gl_off rfl rfl rfl rfl rfl rfl (gl_off rfl rfl rfl rfl rfl rfl (gv (ov_pick_f rfl rfl) rfl (gl_nil ?_)))))
        refine gq_cut () trivial ⟨?_, rfl, rfl, rfl, rfl, rfl, rfl, rfl, rfl, trivial⟩ rfl rfl
        exact congrArg some (vB_and_f hg)
      ·
       intro _ _
       show GL _ _ _ _ _ _ _ [(72, vB ((¬ ((qa.num < 0) ↔ (s))) ∧ ((qb.num.natAbs * qa.den) ≤ (qa.num.natAbs * qb.den)))), (2, vB s), (3, vP b3 0), (4, vP b4 0), (6, vP b6 0), (8, vU .u64 qa.den), (11, vU .u64 qb.den), (7, vU .u64 (qa.num.natAbs * qb.den)), (10, vU .u64 (qb.num.natAbs * qa.den))] [.var b6 27 [vB ((0 : Rat).num < 0), .slice none 0 0, .slice none 0 0], .var b4 27 [vB (qb.num < 0), vnb, vdb], .var b3 27 [vB (qa.num < 0), vna, vda]] h2
       refine asg rfl rfl (gl_nil (gq_then ?_))
       refine gc_cond rfl (fun hc63 => ?_) (fun hc63 => ?_)
       ·
        obtain ⟨hss, hge⟩ := hc63
        refine gc_seq (gc_region (gv (ov_field_addr Try.underlying27 rfl Try.sizeOf4 rfl) rfl (gv (ov_load_var (.tail _ (.tail _ (.head _))) Try.isAgg4 rfl rfl) rfl (mv rfl rfl (mv rfl rfl (gv (ov_sub_u (k := .u64) (W := 18446744073709551616) rfl rfl rfl rfl (by omega) (by omega)) rfl (mv rfl rfl (mv rfl rfl (gv (ov_mul_u (k := .u64) (W := 18446744073709551616) rfl rfl rfl rfl (by omega)) rfl ?_)))))))))
        refine gl_call (vs := [_, _, _]) rfl rfl rfl rfl Try.call95 ⟨rfl, rfl, rfl, trivial⟩ (fun w hs => rat_short hs (by omega) (by omega) (by omega)) ?_
        intro v81 h3 hh3 hr81
        obtain ⟨vn81, vd81, rfl, hn81, hd81⟩ := hr81
        refine gl_upd (A := []) (r' := .var b6 27 [vB ((mkRat (sg (qa.num < 0) ((qa.num.natAbs * qb.den) - (qb.num.natAbs * qa.den))) (qa.den * qb.den)).num < 0), vn81, vd81]) (upd_store_var (k := 0) (cs := [_, _, _]) (vs := [_, _, _]) rfl rfl rfl (ocr rfl (ocu hn81 (ocu hd81 oc0))) size27 (Nat.le_of_ble_eq_true rfl)) rfl rfl rfl (gl_nil (gq_keep (e' := [(6, _)]) ⟨rfl, trivial⟩ (gq_then (gc_ret (gr_in (gr_then (gq_res (fun E S => run_res1 rfl (rv_agg (cs := [_, _, _]) (.head _) Try.underlying27 rfl size27 rfl) E S) ?_)))))))
        rw [sub_sgd hss hge]
        exact ⟨_, _, rfl, hn81, hd81⟩
       ·
        refine gc_seq (gc_region (gv (ov_field_addr Try.underlying27 rfl Try.sizeOf4 rfl) rfl (gv (ov_load_var (.tail _ (.tail _ (.head _))) Try.isAgg4 rfl rfl) rfl (mv rfl rfl (gv (ov_neq_b Try.underlying4 rfl rfl) rfl (asg rfl rfl (gl_nil (gq_then ?_))))))))
        refine gc_cond rfl (fun hc82 => ?_) (fun hc82 => ?_)
        ·
         have hlt : ¬ qb.num.natAbs * qa.den ≤ qa.num.natAbs * qb.den := fun h => hc63 ⟨hc82, h⟩
         refine gc_seq (gc_region (mv rfl rfl (mv rfl rfl (mv rfl rfl (gv (ov_sub_u (k := .u64) (W := 18446744073709551616) rfl rfl rfl rfl (by omega) (by omega)) rfl (mv rfl rfl (mv rfl rfl (gv (ov_mul_u (k := .u64) (W := 18446744073709551616) rfl rfl rfl rfl (by omega)) rfl ?_))))))))
         refine gl_call (vs := [_, _, _]) rfl rfl rfl rfl Try.call95 ⟨rfl, rfl, rfl, trivial⟩ (fun w hs => rat_short hs (by omega) (by omega) (by omega)) ?_
         intro v94 h3 hh3 hr94
         obtain ⟨vn94, vd94, rfl, hn94, hd94⟩ := hr94
         refine gl_upd (A := []) (r' := .var b6 27 [vB ((mkRat (sg (s) ((qb.num.natAbs * qa.den) - (qa.num.natAbs * qb.den))) (qa.den * qb.den)).num < 0), vn94, vd94]) (upd_store_var (k := 0) (cs := [_, _, _]) (vs := [_, _, _]) rfl rfl rfl (ocr rfl (ocu hn94 (ocu hd94 oc0))) size27 (Nat.le_of_ble_eq_true rfl)) rfl rfl rfl (gl_nil (gq_keep (e' := [(6, _)]) ⟨rfl, trivial⟩ (gq_then (gc_ret (gr_in (gr_then (gq_res (fun E S => run_res1 rfl (rv_agg (cs := [_, _, _]) (.head _) Try.underlying27 rfl size27 rfl) E S) ?_)))))))
         rw [sub_sgd' hc82 (by omega)]
         exact ⟨_, _, rfl, hn94, hd94⟩
        ·
         refine gc_keep (e' := [(2, _), (3, _), (4, _), (6, _)]) ⟨rfl, rfl, rfl, rfl, trivial⟩ (gc_skip (gq_in ?_))
         refine gq_cut (h2) ?_ ⟨?_, ?_, ?_, ?_, trivial⟩ ?_ rfl
         ·
          refine ⟨(hh1.trans hh2), ?_⟩
          trivial
         · exact rfl
         · exact rfl
         · exact rfl
         · exact rfl
         · exact rfl
   ·
    refine gc_keep (e' := [(2, _), (3, _), (4, _), (6, _)]) ⟨rfl, rfl, rfl, rfl, trivial⟩ (gc_skip ?_)
    refine gq_cut (h2) ?_ ⟨?_, ?_, ?_, ?_, trivial⟩ ?_ rfl
    ·
     refine ⟨(hh1.trans hh2), ?_⟩
     trivial
    · exact rfl
    · exact rfl
    · exact rfl
    · exact rfl
    · exact rfl
  ·
   refine gc_keep (e' := [(2, _), (3, _), (4, _), (6, _)]) ⟨rfl, rfl, rfl, rfl, trivial⟩ (gc_skip ?_)
   refine gq_cut (h1) ?_ ⟨?_, ?_, ?_, ?_, trivial⟩ ?_ rfl
   ·
    refine ⟨hh1, ?_⟩
    trivial
   · exact rfl
   · exact rfl
   · exact rfl
   · exact rfl
   · exact rfl
 ·
  intro mc hx
  obtain ⟨hmmc, hcut⟩ := hx
  show GC _ _ _ _ _ _ [(2, vB s), (3, vP b3 0), (4, vP b4 0), (6, vP b6 0)] [.var b6 27 [vB ((0 : Rat).num < 0), .slice none 0 0, .slice none 0 0], .var b4 27 [vB (qb.num < 0), vnb, vdb], .var b3 27 [vB (qa.num < 0), vna, vda]] mc
  refine gc_seq ?_
  refine gc_draw 9 _ [] [(0, .q), (1, .q), (2, .q), (3, .q), (4, .q), (5, .c), (6, .q), (7, .q), (8, .q)] mixed (fun x hx => by cases hx) (by kernel_rfl) (fun x hx => by cases hx) (fun r hr => hr) (w_q rfl (fun h' L' hh hR => ov_field_addr Try.underlying27 rfl Try.sizeOf22 rfl) rfl (w_q rfl (fun h' L' hh hR => ov_load_var (hR _ (.tail _ (.tail _ (.head _)))) Try.isAgg22 rfl rfl) rfl (w_q rfl (fun h' L' hh hR => ov_field_addr Try.underlying27 rfl Try.sizeOf22 rfl) rfl (w_q rfl (fun h' L' hh hR => ov_load_var (hR _ (.tail _ (.head _))) Try.isAgg22 rfl rfl) rfl (w_q rfl (fun h' L' hh hR => ov_load_agg (vs := [_, _, _]) (hR _ (.tail _ (.tail _ (.head _)))) Try.underlying27 rfl size27 rfl rfl) rfl ?_)))))
  refine w_c rfl ?_
  replace hna := hna.mono hmmc
  replace hda := hda.mono hmmc
  refine s_call (vs := [_]) Try.call80 ⟨rfl, trivial⟩ (fun w hs => rat_den hs hna hda) rfl ?_
  intro v100 h1 hh1 hr100
  rw [denL_den] at hr100
  refine w_q rfl (fun h' L' hh hR => ov_assign rfl) rfl (w_q rfl (fun h' L' hh hR => ov_assign rfl) rfl (w_q rfl (fun h' L' hh hR => ov_assign rfl) rfl (w_nil (gq_then (gc_seq (gc_seq (gc_region (gv (ov_field_addr Try.underlying27 rfl Try.sizeOf22 rfl) rfl (gv (ov_load_var (.tail _ (.tail _ (.head _))) Try.isAgg22 rfl rfl) rfl (gv (ov_field_addr Try.underlying27 rfl Try.sizeOf22 rfl) rfl (gv (ov_load_var (.tail _ (.head _)) Try.isAgg22 rfl rfl) rfl ?_)))))))))))
  replace hda := hda.mono hh1
  replace hdb := hdb.mono (hmmc.trans hh1)
  refine gl_call (vs := [_, _]) rfl rfl rfl rfl Try.call87 ⟨rfl, rfl, trivial⟩ (fun w hs => sl_equal hs hda hdb) ?_
  intro v105 h2 hh2 hr105
  subst hr105
  refine gv (ov_not rfl) rfl (gl_nil (gq_keep (e' := [(2, _), (3, _), (4, _), (6, _), (15, _), (16, _), (17, _), (106, _)]) ⟨rfl, rfl, rfl, rfl, rfl, rfl, rfl, rfl, trivial⟩ (gq_then ?_)))
  refine gc_cond rfl (fun hc106 => ?_) (fun hc106 => ?_)
  ·
   refine gc_draw 15 _ [] [(0, .q), (1, .q), (4, .q), (5, .q), (8, .q), (9, .q), (2, .c), (3, .c), (6, .c), (7, .c), (10, .c), (11, .c), (12, .q), (13, .q), (14, .q)] mixed (fun x hx => by cases hx) (by kernel_rfl) (fun x hx => by cases hx) (fun r hr => hr) (w_q rfl (fun h' L' hh hR => ov_move rfl) rfl (w_q rfl (fun h' L' hh hR => ov_load_agg (vs := [_, _, _]) (hR _ (.tail _ (.head _))) Try.underlying27 rfl size27 rfl rfl) rfl (w_q rfl (fun h' L' hh hR => ov_move rfl) rfl (w_q rfl (fun h' L' hh hR => ov_load_agg (vs := [_, _, _]) (hR _ (.tail _ (.tail _ (.head _)))) Try.underlying27 rfl size27 rfl rfl) rfl (w_q rfl (fun h' L' hh hR => ov_move rfl) rfl (w_q rfl (fun h' L' hh hR => ov_load_agg (vs := [_, _, _]) (hR _ (.tail _ (.head _))) Try.underlying27 rfl size27 rfl rfl) rfl ?_))))))
   refine w_c rfl ?_
   replace hnb := hnb.mono ((hmmc.trans hh1).trans hh2)
   replace hdb := hdb.mono hh2
   refine s_call (vs := [_]) Try.call80 ⟨rfl, trivial⟩ (fun w hs => rat_den hs hnb hdb) rfl ?_
   intro v109 h3 hh3 hr109
   rw [denL_den] at hr109
   refine w_c rfl ?_
   replace hna := hna.mono ((hh1.trans hh2).trans hh3)
   refine s_call (vs := [_, _]) Try.call67 ⟨rfl, rfl, trivial⟩ (fun w hs => nat_mul hs hna hr109 (by omega) (by omega)) rfl ?_
   intro v110 h4 hh4 hr110
   try simp only [val_limbs] at hr110
   have hlm110 := limbs_len_mul ((qa.num.natAbs)) ((qb.den))
   refine w_c rfl ?_
   replace hna := hna.mono hh4
   replace hda := hda.mono ((hh2.trans hh3).trans hh4)
   refine s_call (vs := [_]) Try.call80 ⟨rfl, trivial⟩ (fun w hs => rat_den hs hna hda) rfl ?_
   intro v113 h5 hh5 hr113
   rw [denL_den] at hr113
   refine w_c rfl ?_
   replace hnb := hnb.mono ((hh3.trans hh4).trans hh5)
   refine s_call (vs := [_, _]) Try.call67 ⟨rfl, rfl, trivial⟩ (fun w hs => nat_mul hs hnb hr113 (by omega) (by omega)) rfl ?_
   intro v114 h6 hh6 hr114
   try simp only [val_limbs] at hr114
   have hlm114 := limbs_len_mul ((qb.num.natAbs)) ((qa.den))
   refine w_c rfl ?_
   replace hnb := hnb.mono hh6
   replace hdb := hdb.mono (((hh3.trans hh4).trans hh5).trans hh6)
   refine s_call (vs := [_]) Try.call80 ⟨rfl, trivial⟩ (fun w hs => rat_den hs hnb hdb) rfl ?_
   intro v117 h7 hh7 hr117
   rw [denL_den] at hr117
   refine w_c rfl ?_
   replace hr100 := hr100.mono (((((hh2.trans hh3).trans hh4).trans hh5).trans hh6).trans hh7)
   refine s_call (vs := [_, _]) Try.call67 ⟨rfl, rfl, trivial⟩ (fun w hs => nat_mul hs hr100 hr117 (by omega) (by omega)) rfl ?_
   intro v118 h8 hh8 hr118
   try simp only [val_limbs] at hr118
   have hlm118 := limbs_len_mul ((qa.den)) ((qb.den))
   refine w_q rfl (fun h' L' hh hR => ov_assign rfl) rfl (w_q rfl (fun h' L' hh hR => ov_assign rfl) rfl (w_q rfl (fun h' L' hh hR => ov_assign rfl) rfl (w_nil (gq_keep (e' := [(2, _), (3, _), (6, _), (15, _), (16, _), (17, _)]) ⟨rfl, rfl, rfl, rfl, rfl, rfl, trivial⟩ (gq_then (gc_seq (gc_seq (gc_region (gv (ov_field_addr Try.underlying27 rfl Try.sizeOf4 rfl) rfl (gv (ov_load_var (.tail _ (.tail _ (.head _))) Try.isAgg4 rfl rfl) rfl (mv rfl rfl (gv (ov_eql_b Try.underlying4 rfl rfl) rfl (gl_nil ?_)))))))))))))
   refine gq_then ?_
   refine gc_cond rfl (fun hc122 => ?_) (fun hc122 => ?_)
   ·
    refine gc_seq (gc_region (mv rfl rfl (mv rfl rfl (mv rfl rfl ?_))))
    replace hr110 := hr110.mono (((hh5.trans hh6).trans hh7).trans hh8)
    replace hr114 := hr114.mono (hh7.trans hh8)
    refine gl_call (vs := [_, _]) rfl rfl rfl rfl Try.call105 ⟨rfl, rfl, trivial⟩ (fun w hs => nat_add hs hr110 hr114 (by omega) (by omega)) ?_
    intro v126 h9 hh9 hr126
    try simp only [val_limbs] at hr126
    have hlm126 := limbs_len_add (((((qa.num.natAbs)) * ((qb.den))))) (((((qb.num.natAbs)) * ((qa.den)))))
    refine mv rfl rfl ?_
    replace hr118 := hr118.mono hh9
    refine gl_call (vs := [_, _, _]) rfl rfl rfl rfl Try.call68 ⟨rfl, rfl, rfl, trivial⟩ (fun w hs => rat_reduce hs hr126 hr118 (by omega) (by omega)) ?_
    intro v128 h10 hh10 hr128
    try simp only [val_limbs] at hr128
    obtain ⟨vn128, vd128, rfl, hn128, hd128⟩ := hr128
    refine gl_upd (A := []) (r' := .var b6 27 [vB ((mkRat (sg (s) ((((((((qa.num.natAbs)) * ((qb.den))))) + (((((qb.num.natAbs)) * ((qa.den))))))))) (((((qa.den)) * ((qb.den)))))).num < 0), vn128, vd128]) (upd_store_var (k := 0) (cs := [_, _, _]) (vs := [_, _, _]) rfl rfl rfl (ocr rfl (ocu hn128 (ocu hd128 oc0))) size27 (Nat.le_of_ble_eq_true rfl)) rfl rfl rfl (gl_nil (gq_keep (e' := [(6, _)]) ⟨rfl, trivial⟩ (gq_then (gc_ret (gr_then (gq_res (fun E S => run_res1 rfl (rv_agg (cs := [_, _, _]) (.head _) Try.underlying27 rfl size27 rfl) E S) ?_))))))
    rw [add_sgd hc122]
    exact ⟨_, _, rfl, hn128, hd128⟩
   ·
    refine gc_skip (gq_then (gc_seq (gc_seq (gc_region (mv rfl rfl (mv rfl rfl ?_))))))
    replace hr110 := hr110.mono (((hh5.trans hh6).trans hh7).trans hh8)
    replace hr114 := hr114.mono (hh7.trans hh8)
    refine gl_call (vs := [_, _]) rfl rfl rfl rfl Try.call124 ⟨rfl, rfl, trivial⟩ (fun w hs => nat_sub hs hr110 hr114 (by omega)) ?_
    intro v132 h9 hh9 hr132
    obtain ⟨u132, rfl, hu132⟩ := hr132
    try simp only [val_limbs] at hu132 ⊢
    have hlm132 := limbs_len_mono (Nat.sub_le (((((qa.num.natAbs)) * ((qb.den))))) (((((qb.num.natAbs)) * ((qa.den))))))
    refine mv rfl rfl (gv (ov_extract (vs := [_, _]) rfl rfl) rfl (gv (ov_extract (vs := [_, _]) rfl rfl) rfl (asg rfl rfl (asg rfl rfl (gl_nil (gq_keep (e' := [(2, _), (3, _), (6, _), (15, _), (16, _), (17, _), (18, _), (19, _)]) ⟨rfl, rfl, rfl, rfl, rfl, rfl, rfl, rfl, trivial⟩ (gq_then (gc_seq (gc_region (mv rfl rfl (gv (ov_eql_i (q := 0) rfl rfl) rfl (gl_nil (gq_then ?_)))))))))))))
    refine gc_cond rfl (fun hc136 => ?_) (fun hc136 => ?_)
    ·
     have hge := sub_ok hc136
     rw [if_neg hge]
     refine gc_seq (gc_region (gv (ov_field_addr Try.underlying27 rfl Try.sizeOf4 rfl) rfl (gv (ov_load_var (.tail _ (.tail _ (.head _))) Try.isAgg4 rfl rfl) rfl (mv rfl rfl (mv rfl rfl ?_)))))
     replace hr118 := hr118.mono hh9
     refine gl_call (vs := [_, _, _]) rfl rfl rfl rfl Try.call68 ⟨rfl, rfl, rfl, trivial⟩ (fun w hs => rat_reduce hs hu132 hr118 (by omega) (by omega)) ?_
     intro v141 h10 hh10 hr141
     try simp only [val_limbs] at hr141
     obtain ⟨vn141, vd141, rfl, hn141, hd141⟩ := hr141
     refine gl_upd (A := []) (r' := .var b6 27 [vB ((mkRat (sg (qa.num < 0) ((((((((qa.num.natAbs)) * ((qb.den))))) - (((((qb.num.natAbs)) * ((qa.den))))))))) (((((qa.den)) * ((qb.den)))))).num < 0), vn141, vd141]) (upd_store_var (k := 0) (cs := [_, _, _]) (vs := [_, _, _]) rfl rfl rfl (ocr rfl (ocu hn141 (ocu hd141 oc0))) size27 (Nat.le_of_ble_eq_true rfl)) rfl rfl rfl (gl_nil (gq_keep (e' := [(6, _)]) ⟨rfl, trivial⟩ (gq_then (gc_ret (gr_then (gq_res (fun E S => run_res1 rfl (rv_agg (cs := [_, _, _]) (.head _) Try.underlying27 rfl size27 rfl) E S) ?_))))))
     rw [sub_sgd hc122 (by omega)]
     exact ⟨_, _, rfl, hn141, hd141⟩
    ·
     have hlt := sub_no hc136
     rw [if_pos hlt]
     refine gc_skip (gq_then (gc_seq (gc_region (mv rfl rfl (mv rfl rfl ?_)))))
     replace hr110 := hr110.mono hh9
     replace hr114 := hr114.mono hh9
     refine gl_call (vs := [_, _]) rfl rfl rfl rfl Try.call124 ⟨rfl, rfl, trivial⟩ (fun w hs => nat_sub hs hr114 hr110 (by omega)) ?_
     intro v145 h10 hh10 hr145
     obtain ⟨u145, rfl, hu145⟩ := hr145
     try simp only [val_limbs] at hu145 ⊢
     have hlm145 := limbs_len_mono (Nat.sub_le (((((qb.num.natAbs)) * ((qa.den))))) (((((qa.num.natAbs)) * ((qb.den))))))
     refine mv rfl rfl (gv (ov_extract (vs := [_, _]) rfl rfl) rfl (gv (ov_extract (vs := [_, _]) rfl rfl) rfl (asg rfl rfl (asg rfl rfl (gl_nil (gq_keep (e' := [(2, _), (6, _), (17, _), (20, _)]) ⟨rfl, rfl, rfl, rfl, trivial⟩ (gq_then (gc_seq (gc_region (mv rfl rfl (mv rfl rfl (mv rfl rfl ?_))))))))))))
     replace hr118 := hr118.mono (hh9.trans hh10)
     refine gl_call (vs := [_, _, _]) rfl rfl rfl rfl Try.call68 ⟨rfl, rfl, rfl, trivial⟩ (fun w hs => rat_reduce hs hu145 hr118 (by omega) (by omega)) ?_
     intro v151 h11 hh11 hr151
     try simp only [val_limbs] at hr151
     obtain ⟨vn151, vd151, rfl, hn151, hd151⟩ := hr151
     refine gl_upd (A := []) (r' := .var b6 27 [vB ((mkRat (sg (s) ((((((((qb.num.natAbs)) * ((qa.den))))) - (((((qa.num.natAbs)) * ((qb.den))))))))) (((((qa.den)) * ((qb.den)))))).num < 0), vn151, vd151]) (upd_store_var (k := 0) (cs := [_, _, _]) (vs := [_, _, _]) rfl rfl rfl (ocr rfl (ocu hn151 (ocu hd151 oc0))) size27 (Nat.le_of_ble_eq_true rfl)) rfl rfl rfl (gl_nil (gq_then (gc_ret (gq_res (fun E S => run_res1 rfl (rv_agg (cs := [_, _, _]) (.head _) Try.underlying27 rfl size27 rfl) E S) ?_))))
     rw [sub_sgd' hc122 (by omega)]
     exact ⟨_, _, rfl, hn151, hd151⟩
  ·
   have hde := den_eq.1 (Classical.not_not.1 hc106)
   refine gc_skip (gq_then (gc_seq (gc_seq (gc_region (gv (ov_field_addr Try.underlying27 rfl Try.sizeOf4 rfl) rfl (gv (ov_load_var (.tail _ (.tail _ (.head _))) Try.isAgg4 rfl rfl) rfl (mv rfl rfl (gv (ov_eql_b Try.underlying4 rfl rfl) rfl (gl_nil (gq_then ?_))))))))))
   refine gc_cond rfl (fun hc122 => ?_) (fun hc122 => ?_)
   ·
    refine gc_seq (gc_region (mv rfl rfl (mv rfl rfl (mv rfl rfl ?_))))
    replace hna := hna.mono (hh1.trans hh2)
    replace hnb := hnb.mono ((hmmc.trans hh1).trans hh2)
    refine gl_call (vs := [_, _]) rfl rfl rfl rfl Try.call105 ⟨rfl, rfl, trivial⟩ (fun w hs => nat_add hs hna hnb (by omega) (by omega)) ?_
    intro v126 h3 hh3 hr126
    try simp only [val_limbs] at hr126
    have hlm126 := limbs_len_add ((qa.num.natAbs)) ((qb.num.natAbs))
    refine mv rfl rfl ?_
    replace hr100 := hr100.mono (hh2.trans hh3)
    refine gl_call (vs := [_, _, _]) rfl rfl rfl rfl Try.call68 ⟨rfl, rfl, rfl, trivial⟩ (fun w hs => rat_reduce hs hr126 hr100 (by omega) (by omega)) ?_
    intro v128 h4 hh4 hr128
    try simp only [val_limbs] at hr128
    obtain ⟨vn128, vd128, rfl, hn128, hd128⟩ := hr128
    refine gl_upd (A := []) (r' := .var b6 27 [vB ((mkRat (sg (s) (((((qa.num.natAbs)) + ((qb.num.natAbs)))))) ((qa.den))).num < 0), vn128, vd128]) (upd_store_var (k := 0) (cs := [_, _, _]) (vs := [_, _, _]) rfl rfl rfl (ocr rfl (ocu hn128 (ocu hd128 oc0))) size27 (Nat.le_of_ble_eq_true rfl)) rfl rfl rfl (gl_nil (gq_keep (e' := [(6, _)]) ⟨rfl, trivial⟩ (gq_then (gc_ret (gr_then (gq_res (fun E S => run_res1 rfl (rv_agg (cs := [_, _, _]) (.head _) Try.underlying27 rfl size27 rfl) E S) ?_))))))
    rw [add_sgd1 hc122 hde]
    exact ⟨_, _, rfl, hn128, hd128⟩
   ·
    refine gc_skip (gq_then (gc_seq (gc_seq (gc_region (mv rfl rfl (mv rfl rfl ?_))))))
    replace hna := hna.mono (hh1.trans hh2)
    replace hnb := hnb.mono ((hmmc.trans hh1).trans hh2)
    refine gl_call (vs := [_, _]) rfl rfl rfl rfl Try.call124 ⟨rfl, rfl, trivial⟩ (fun w hs => nat_sub hs hna hnb (by omega)) ?_
    intro v132 h3 hh3 hr132
    obtain ⟨u132, rfl, hu132⟩ := hr132
    try simp only [val_limbs] at hu132 ⊢
    have hlm132 := limbs_len_mono (Nat.sub_le ((qa.num.natAbs)) ((qb.num.natAbs)))
    refine mv rfl rfl (gv (ov_extract (vs := [_, _]) rfl rfl) rfl (gv (ov_extract (vs := [_, _]) rfl rfl) rfl (asg rfl rfl (asg rfl rfl (gl_nil (gq_keep (e' := [(2, _), (3, _), (6, _), (15, _), (16, _), (17, _), (18, _), (19, _)]) ⟨rfl, rfl, rfl, rfl, rfl, rfl, rfl, rfl, trivial⟩ (gq_then (gc_seq (gc_region (mv rfl rfl (gv (ov_eql_i (q := 0) rfl rfl) rfl (gl_nil (gq_then ?_)))))))))))))
    refine gc_cond rfl (fun hc136 => ?_) (fun hc136 => ?_)
    ·
     have hge := sub_ok hc136
     rw [if_neg hge]
     refine gc_seq (gc_region (gv (ov_field_addr Try.underlying27 rfl Try.sizeOf4 rfl) rfl (gv (ov_load_var (.tail _ (.tail _ (.head _))) Try.isAgg4 rfl rfl) rfl (mv rfl rfl (mv rfl rfl ?_)))))
     replace hr100 := hr100.mono (hh2.trans hh3)
     refine gl_call (vs := [_, _, _]) rfl rfl rfl rfl Try.call68 ⟨rfl, rfl, rfl, trivial⟩ (fun w hs => rat_reduce hs hu132 hr100 (by omega) (by omega)) ?_
     intro v141 h4 hh4 hr141
     try simp only [val_limbs] at hr141
     obtain ⟨vn141, vd141, rfl, hn141, hd141⟩ := hr141
     refine gl_upd (A := []) (r' := .var b6 27 [vB ((mkRat (sg (qa.num < 0) (((((qa.num.natAbs)) - ((qb.num.natAbs)))))) ((qa.den))).num < 0), vn141, vd141]) (upd_store_var (k := 0) (cs := [_, _, _]) (vs := [_, _, _]) rfl rfl rfl (ocr rfl (ocu hn141 (ocu hd141 oc0))) size27 (Nat.le_of_ble_eq_true rfl)) rfl rfl rfl (gl_nil (gq_keep (e' := [(6, _)]) ⟨rfl, trivial⟩ (gq_then (gc_ret (gr_then (gq_res (fun E S => run_res1 rfl (rv_agg (cs := [_, _, _]) (.head _) Try.underlying27 rfl size27 rfl) E S) ?_))))))
     rw [sub_sgd1 hc122 hde (by omega)]
     exact ⟨_, _, rfl, hn141, hd141⟩
    ·
     have hlt := sub_no hc136
     rw [if_pos hlt]
     refine gc_skip (gq_then (gc_seq (gc_region (mv rfl rfl (mv rfl rfl ?_)))))
     replace hna := hna.mono hh3
     replace hnb := hnb.mono hh3
     refine gl_call (vs := [_, _]) rfl rfl rfl rfl Try.call124 ⟨rfl, rfl, trivial⟩ (fun w hs => nat_sub hs hnb hna (by omega)) ?_
     intro v145 h4 hh4 hr145
     obtain ⟨u145, rfl, hu145⟩ := hr145
     try simp only [val_limbs] at hu145 ⊢
     have hlm145 := limbs_len_mono (Nat.sub_le ((qb.num.natAbs)) ((qa.num.natAbs)))
     refine mv rfl rfl (gv (ov_extract (vs := [_, _]) rfl rfl) rfl (gv (ov_extract (vs := [_, _]) rfl rfl) rfl (asg rfl rfl (asg rfl rfl (gl_nil (gq_keep (e' := [(2, _), (6, _), (17, _), (20, _)]) ⟨rfl, rfl, rfl, rfl, trivial⟩ (gq_then (gc_seq (gc_region (mv rfl rfl (mv rfl rfl (mv rfl rfl ?_))))))))))))
     replace hr100 := hr100.mono ((hh2.trans hh3).trans hh4)
     refine gl_call (vs := [_, _, _]) rfl rfl rfl rfl Try.call68 ⟨rfl, rfl, rfl, trivial⟩ (fun w hs => rat_reduce hs hu145 hr100 (by omega) (by omega)) ?_
     intro v151 h5 hh5 hr151
     try simp only [val_limbs] at hr151
     obtain ⟨vn151, vd151, rfl, hn151, hd151⟩ := hr151
     refine gl_upd (A := []) (r' := .var b6 27 [vB ((mkRat (sg (s) (((((qb.num.natAbs)) - ((qa.num.natAbs)))))) ((qa.den))).num < 0), vn151, vd151]) (upd_store_var (k := 0) (cs := [_, _, _]) (vs := [_, _, _]) rfl rfl rfl (ocr rfl (ocu hn151 (ocu hd151 oc0))) size27 (Nat.le_of_ble_eq_true rfl)) rfl rfl rfl (gl_nil (gq_then (gc_ret (gq_res (fun E S => run_res1 rfl (rv_agg (cs := [_, _, _]) (.head _) Try.underlying27 rfl size27 rfl) E S) ?_))))
     rw [sub_sgd1' hc122 hde (by omega)]
     exact ⟨_, _, rfl, hn151, hd151⟩

end Go.Proofs.Ytimoeckkdodogaa
