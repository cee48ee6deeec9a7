/- Contracts of functions, walked by their text (rat3/b). -/
import Derived.Test.YtimoeckkdodogaaR2
namespace Go.Proofs.Ytimoeckkdodogaa
open Bk Go
set_option linter.unusedVariables false
set_option linter.unusedSimpArgs false
set_option maxRecDepth 10000

theorem rat_limbs {w0 w : World} {h0 h : Mem}  {v u : Value} {xs : List Nat} {L : List Res} {lo n : Nat} (hu : u = subSl 1 v lo xs.length) (hlo : lo + 2 ≤ xs.length) (hn0 : n ≠ 0) (hn : n < 18446744073709551616) (hs : St w0 h0 (.us 61 .u32 v xs :: L) h w) :
    Calls Try.prog 122 #[u, vU .u64 n] w (RetOwn w0 h0 (fun g r K => g = h ∧ K = .us 61 .u32 v (xs.take lo ++ limbs n ++ xs.drop (lo + (limbs n).length)) :: L ∧ r = vI ↑(limbs n).length)) := by
 refine calls_begin_st (n := 17) (e := [(0, u), (1, vU .u64 n)]) (vs := [u, vU .u64 n]) Try.func122 rfl rfl (Nat.le_of_ble_eq_true rfl) hs ⟨rfl, rfl, trivial⟩ (gc_seq (gc_region (asg (v := vI (0)) rfl rfl (gl_nil (gq_then (gc_seq (gc_region (mv rfl rfl (mv rfl rfl (gv (ov_conv_uu (k := .u64) (k' := .u32) (W := 4294967296) Try.underlying75 Try.underlying61 rfl rfl rfl) rfl (gv (ov_index_osub (q := 0) (.head _) hu (0) Try.underlying22 Try.sizeOf61 rfl rfl rfl (by omega)) rfl (gl_store_ous0 Try.sizeOf61 rfl rfl (by omega) (gl_nil ?_)))))))))))))
 refine gq_then (gc_seq (gc_seq (gc_region (mv rfl rfl (gv (ov_shr_u (k := .u64) (s := 32) (yk := .u64) rfl rfl rfl (by simp only [ub]; omega)) rfl (gv (ov_eql_u (k := .u64) (q := 0) rfl rfl) rfl (gl_nil (gq_then ?_))))))))
 refine gc_cond rfl (fun hc11 => ?_) (fun hc11 => ?_)
 ·
  refine gc_keep (e' := []) trivial (gc_seq (gc_region (asg (v := vI (1)) rfl rfl (gl_nil (gq_then (gc_ret (gr_then (gq_body1_own rfl rfl ?_))))))))
  have hn1 : n < 4294967296 := by omega
  refine ⟨rfl, ?_, by rw [limbs_one hn0 hn1]; rfl⟩
  rw [Nat.mod_eq_of_lt hn1, Nat.add_zero, putL (by omega) hn0 hn1]
 ·
  refine gc_skip (gq_then (gc_seq (gc_region (mv rfl rfl (mv rfl rfl (gv (ov_shr_u (k := .u64) (s := 32) (yk := .u64) rfl rfl rfl (by simp only [ub]; omega)) rfl (gv (ov_conv_uu (k := .u64) (k' := .u32) (W := 4294967296) Try.underlying75 Try.underlying61 rfl rfl rfl) rfl (gv (ov_index_osub (q := 1) (.head _) (by rw [List.length_set]; exact hu) (1) Try.underlying22 Try.sizeOf61 rfl rfl rfl (by rw [List.length_set]; omega)) rfl (gl_store_ous0 Try.sizeOf61 rfl rfl (by simp; omega) (gl_nil (gq_keep (e' := []) trivial (gq_then (gc_seq ?_)))))))))))))
  refine gc_region (asg (v := vI (2)) rfl rfl (gl_nil (gq_then (gc_ret (gq_body1_own rfl rfl ?_)))))
  have hn1 : 4294967296 ≤ n := by omega
  have e1 : n / 2 ^ 32 % 4294967296 = n / 4294967296 := by omega
  refine ⟨rfl, ?_, ?_⟩
  · rw [e1, Nat.add_zero, putL2 hlo hn hn1]
  · rw [limbs_pos (by omega), limbs_one (t := n / 4294967296) (by omega) (by omega)]; rfl

theorem rat_short {w0 : World} {h0 : Mem}  (hs : MLe h0 (mem w0)) {s : Prop} {n d : Nat} (hn : n < 18446744073709551616) (hd : d < 18446744073709551616) (hd0 : d ≠ 0) :
    Calls Try.prog 95 #[vB s, vU .u64 n, vU .u64 d] w0 (Ret w0 h0 (fun h r => IsRat h r (mkRat (sg s n) d))) := by
 refine calls_begin (n := 50) (e := [(0, vB s), (1, vU .u64 n), (2, vU .u64 d)]) (vs := [vB s, vU .u64 n, vU .u64 d]) Try.func95 rfl rfl (Nat.le_of_ble_eq_true rfl) hs ⟨rfl, rfl, rfl, trivial⟩ (gc_seq (gc_region (gl_newop (new_alloc (cs := [vB ((0 : Rat).num < 0), .slice none 0 0, .slice none 0 0]) info27 rfl (by simp only [zb]; rfl)) rfl rfl rfl ?_)))
 intro v6 r6 hr6
 obtain ⟨b6, rfl, rfl⟩ := hr6
 refine gl_nil (gq_then (gc_seq (gc_seq (gc_region (mv rfl rfl (gv (ov_eql_u (k := .u64) (q := 0) rfl rfl) rfl (gl_nil (gq_then ?_))))))))
 refine gc_cond rfl (fun hc13 => ?_) (fun hc13 => ?_)
 ·
  refine gc_seq (gc_region (gv (ov_build_parts (ps' := []) (vs := [vB ((0 : Rat).num < 0), .slice none 0 0, .slice none 0 0]) Try.underlying27 info27 rfl (places27 Try.underlying27) trivial (by simp only [zb]; rfl)) rfl (gl_upd (A := []) (r' := .var b6 27 [vB ((0 : Rat).num < 0), .slice none 0 0, .slice none 0 0]) (upd_store_var (k := 0) (cs := [_, _, _]) (vs := [_, _, _]) rfl rfl rfl rfl size27 (Nat.le_of_ble_eq_true rfl)) rfl rfl rfl (gl_nil (gq_then (gc_ret (gr_then (gq_res (fun E S => run_res1 rfl (rv_agg (cs := [_, _, _]) (.head _) Try.underlying27 rfl size27 rfl) E S) ?_))))))))
  rw [hc13, mk_zero]
  exact IsRat.zero _
 ·
  have hn0 : n ≠ 0 := by omega
  refine gc_skip (gq_then (gc_seq (gc_region (mv rfl rfl (mv rfl rfl ?_)))))
  refine gl_call (vs := [_, _]) rfl rfl rfl rfl Try.call121 ⟨rfl, rfl, trivial⟩ (fun w hs => rat_divisor hs (by omega) (by omega)) ?_
  intro v17 h1 hh1 hr17
  subst hr17
  refine asg rfl rfl ?_
  have hg0 : 0 < Nat.gcd n d := Nat.gcd_pos_of_pos_left d (by omega)
  have hn1 : n / Nat.gcd n d ≠ 0 := Nat.ne_of_gt (Nat.div_pos (Nat.le_of_dvd (by omega) (Nat.gcd_dvd_left n d)) hg0)
  have hd1 : d / Nat.gcd n d ≠ 0 := Nat.ne_of_gt (Nat.div_pos (Nat.le_of_dvd (by omega) (Nat.gcd_dvd_right n d)) hg0)
  have hn2 := Nat.div_le_self n (Nat.gcd n d)
  have hd2 := Nat.div_le_self d (Nat.gcd n d)
  refine gl_nil (gq_then (gc_seq ?_))
  refine gc_draw 8 _ [] [(0, .q), (1, .q), (2, .q), (3, .q), (4, .q), (5, .q), (6, .q), (7, .q)] mixed (fun x hx => by cases hx) (by kernel_rfl) (fun x hx => by cases hx) (fun r hr => hr) (w_q rfl (fun h' L' hh hR => ov_move rfl) rfl (w_q rfl (fun h' L' hh hR => ov_move rfl) rfl (w_q rfl (fun h' L' hh hR => ov_quo_u (k := .u64) (W := 18446744073709551616) rfl rfl rfl rfl (by omega) (by omega)) rfl (w_q rfl (fun h' L' hh hR => ov_move rfl) rfl (w_q rfl (fun h' L' hh hR => ov_move rfl) rfl (w_q rfl (fun h' L' hh hR => ov_quo_u (k := .u64) (W := 18446744073709551616) rfl rfl rfl rfl (by omega) (by omega)) rfl (w_q rfl (fun h' L' hh hR => ov_assign rfl) rfl (w_q rfl (fun h' L' hh hR => ov_assign rfl) rfl ?_))))))))
  generalize hA : n / Nat.gcd n d = A at *
  generalize hB : d / Nat.gcd n d = B at *
  have hlA := limbs_len_word (n := A) (by omega)
  have hlB := limbs_len_word (n := B) (by omega)
  refine w_nil (gq_keep (e' := [(0, _), (6, _), (1, _), (2, _)]) ⟨rfl, rfl, rfl, rfl, trivial⟩ (gq_then (gc_seq (gc_region (gl_make_us (kd := .u32) (by' := 4) (q := 4) (q' := 4) 4 Try.underlying22 info61 rfl rfl rfl rfl rfl rfl rfl (by omega) (by omega) rfl ?_)))))
  intro v24
  refine asg rfl rfl (gl_nil (gq_then (gc_seq (gc_region (mv rfl rfl (mv rfl rfl ?_))))))
  refine gl_call_mut (vs := [_, _]) rfl rfl rfl rfl Try.call122 ⟨rfl, rfl, trivial⟩ (fun w hs => rat_limbs (hs.own_self (.head _)) (by decide) hn1 (by omega) hs) ?_
  intro v27 g27 L27 hr27
  obtain ⟨e1, e2, hr27⟩ := hr27
  rw [e1, e2]
  clear e1 e2 g27 L27
  subst hr27
  rw [show List.take 0 (List.replicate 4 0) ++ limbs A ++ List.drop (0 + (limbs A).length) (List.replicate 4 0) = limbs A ++ List.replicate (4 - (limbs A).length) 0 from by rw [List.take_zero, List.nil_append, Nat.zero_add, List.drop_replicate]]
  have hlen4 : (limbs A ++ List.replicate (4 - (limbs A).length) 0).length = 4 := by simp; omega
  refine asg rfl rfl (gl_nil (gq_then (gc_seq (gc_region (mv rfl rfl (mv rfl rfl (mv rfl rfl (mv rfl rfl ?_))))))))
  refine gl_shape (.head _) (fun ad cap hsh hcap => ?_)
  have eq1 : subSl3 1 v24 0 (limbs A).length (limbs A).length = .slice (if (limbs A).length = 0 then ad else ad.map (·.add (0 * 1))) ((limbs A).length - 0) ((limbs A).length - 0) := by rw [hsh]; rfl
  refine gv (ov_slice_own30 (.head _) _ _ Try.underlying22 Try.sizeOf61 rfl rfl rfl rfl rfl (by omega) (by omega)) rfl (gv (ov_build_parts (ps' := [(0, _), (1, _)]) (vs := [vB s, subSl3 1 v24 0 _ _, .slice none 0 0]) Try.underlying27 info27 rfl (places27 Try.underlying27) ⟨rfl, rfl, rfl, rfl, trivial⟩ (by rw [eq1]; rfl)) rfl (gl_newop (new_alloc (cs := [vB ((0 : Rat).num < 0), .slice none 0 0, .slice none 0 0]) info27 rfl (by simp only [zb]; rfl)) rfl rfl rfl ?_))
  intro v10 r10 hr10
  obtain ⟨b10, rfl, rfl⟩ := hr10
  refine gl_upd (A := []) (r' := .var b10 27 [vB s, subSl3 1 v24 0 _ _, .slice none 0 0]) (upd_store_var (k := 0) (cs := [_, _, _]) (vs := [vB s, subSl3 1 v24 0 _ _, .slice none 0 0]) rfl rfl rfl (by rw [eq1]; rfl) size27 (Nat.le_of_ble_eq_true rfl)) rfl rfl rfl (gl_nil (gq_keep (e' := [(6, _), (2, _), (8, _), (9, _), (10, _)]) ⟨rfl, rfl, rfl, rfl, rfl, trivial⟩ (gq_then (gc_seq (gc_seq (gc_region (mv rfl rfl (gv (ov_gtr_u (k := .u64) (q := 1) rfl rfl) rfl (gl_nil (gq_then ?_))))))))))
  refine gc_cond rfl (fun hc35 => ?_) (fun hc35 => ?_)
  ·
   refine gc_seq (gc_region (mv rfl rfl (mv rfl rfl (mv rfl rfl (gv (ov_slice_own_l (.tail _ (.head _)) _ Try.underlying22 Try.sizeOf61 rfl rfl rfl (by omega)) rfl (mv rfl rfl (gl_front (A := [_]) ?_)))))))
   refine gl_call_mut (vs := [_, _]) rfl rfl rfl rfl Try.call122 ⟨rfl, rfl, trivial⟩ (fun w hs => rat_limbs (lo := (limbs A).length) (by rfl) (by omega) hd1 (by omega) hs) ?_
   intro v41 g41 L41 hr41
   obtain ⟨e1, e2, hr41⟩ := hr41
   rw [e1, e2]
   clear e1 e2 g41 L41
   subst hr41
   rw [show List.take (limbs A).length (limbs A ++ List.replicate (4 - (limbs A).length) 0) ++ limbs B ++ List.drop ((limbs A).length + (limbs B).length) (limbs A ++ List.replicate (4 - (limbs A).length) 0) = limbs A ++ limbs B ++ List.replicate (4 - (limbs A).length - (limbs B).length) 0 from by simp]
   have hlen5 : (limbs A ++ limbs B ++ List.replicate (4 - (limbs A).length - (limbs B).length) 0).length = 4 := by simp; omega
   refine gv (ov_add_i rfl rfl (by omega) (by omega)) rfl (asg rfl rfl (gl_nil (gq_keep (e' := [(6, _), (8, _), (9, _), (10, _), (11, _)]) ⟨rfl, rfl, rfl, rfl, rfl, trivial⟩ (gq_then (gc_region (mv rfl rfl (mv rfl rfl (mv rfl rfl (mv rfl rfl ?_)))))))))
   have eq2 : subSl3 1 v24 (limbs A).length ((limbs A).length + (limbs B).length) ((limbs A).length + (limbs B).length) = .slice (if (limbs A).length + (limbs B).length = (limbs A).length then ad else ad.map (·.add ((limbs A).length * 1))) ((limbs A).length + (limbs B).length - (limbs A).length) ((limbs A).length + (limbs B).length - (limbs A).length) := by rw [hsh]; rfl
   refine gv (ov_slice_own3 (.head _) ((limbs A).length) ((limbs A).length + (limbs B).length) ((limbs A).length + (limbs B).length) Try.underlying22 Try.sizeOf61 rfl rfl rfl rfl (by omega) (by omega) (by omega) (by omega) (by omega) (by omega)) rfl (gv (ov_field_addr Try.underlying27 rfl Try.sizeOf22 rfl) rfl (gl_upd (A := [_]) (r' := .var b10 27 [vB s, subSl3 1 v24 0 _ _, subSl3 1 v24 ((limbs A).length) ((limbs A).length + (limbs B).length) ((limbs A).length + (limbs B).length)]) (upd_store_var (k := 2) (cs := [_, _, _]) (vs := [subSl3 1 v24 ((limbs A).length) ((limbs A).length + (limbs B).length) ((limbs A).length + (limbs B).length)]) rfl rfl (by rw [eq2]; rfl) (by rw [eq2]; rfl) size22 (Nat.le_of_ble_eq_true rfl)) rfl rfl rfl (gl_nil (gq_then (gc_seq (gc_region (gl_freeze_us0 (by first | exact fit_append (fit_append (fit_limbs A) (fit_limbs B)) (fit_replicate _) | exact fit_append (fit_limbs A) (fit_replicate _)) ?_)))))))
   intro h2 hh2 hz
   refine gv (ov_load_agg (vs := [_, _, _]) (.head _) Try.underlying27 rfl size27 rfl rfl) rfl (gl_upd (A := [_]) (r' := .var b6 27 [vB s, subSl3 1 v24 0 _ _, subSl3 1 v24 ((limbs A).length) ((limbs A).length + (limbs B).length) ((limbs A).length + (limbs B).length)]) (upd_store_var (k := 0) (cs := [_, _, _]) (vs := [vB s, subSl3 1 v24 0 _ _, subSl3 1 v24 ((limbs A).length) ((limbs A).length + (limbs B).length) ((limbs A).length + (limbs B).length)]) rfl rfl rfl (by rw [eq1, eq2]; rfl) size27 (Nat.le_of_ble_eq_true rfl)) rfl rfl rfl (gl_nil (gq_keep (e' := [(6, _)]) ⟨rfl, trivial⟩ (gq_then (gc_ret (gq_res (fun E S => run_res1 rfl (rv_agg (cs := [_, _, _]) (.tail _ (.head _)) Try.underlying27 rfl size27 rfl) E S) ?_))))))
   have z1 := hz.sub3 (lo := 0) (hi := (limbs A).length) (mx := (limbs A).length) (by omega) (by omega) (by omega)
   have z2 := hz.sub3 (lo := (limbs A).length) (hi := (limbs A).length + (limbs B).length) (mx := (limbs A).length + (limbs B).length) (by omega) (by omega) (by omega)
   refine IsRat.make hn0 hd0 ?_ ?_
   · rw [hA]; simpa using z1
   · rw [hB]; rw [denN_ne (by omega)]; simpa using z2
  ·
   refine gc_skip (gq_then (gc_seq (gc_region (gl_freeze_us1 (by first | exact fit_append (fit_append (fit_limbs A) (fit_limbs B)) (fit_replicate _) | exact fit_append (fit_limbs A) (fit_replicate _)) ?_))))
   intro h2 hh2 hz
   refine gv (ov_load_agg (vs := [_, _, _]) (.head _) Try.underlying27 rfl size27 rfl rfl) rfl (gl_upd (A := [_]) (r' := .var b6 27 [vB s, subSl3 1 v24 0 _ _, .slice none 0 0]) (upd_store_var (k := 0) (cs := [_, _, _]) (vs := [vB s, subSl3 1 v24 0 _ _, .slice none 0 0]) rfl rfl rfl (by rw [eq1]; rfl) size27 (Nat.le_of_ble_eq_true rfl)) rfl rfl rfl (gl_nil (gq_then (gc_ret (gq_res (fun E S => run_res1 rfl (rv_agg (cs := [_, _, _]) (.tail _ (.head _)) Try.underlying27 rfl size27 rfl) E S) ?_)))))
   have z1 := hz.sub3 (lo := 0) (hi := (limbs A).length) (mx := (limbs A).length) (by omega) (by omega) (by omega)
   refine IsRat.make hn0 hd0 ?_ ?_
   · rw [hA]; simpa using z1
   · rw [hB]; rw [show B = 1 by omega, denN_one, limbs_zero]; exact Us.nil _ _

theorem rat_parts {w0 : World} {h0 : Mem}  (hs : MLe h0 (mem w0)) {qa : Rat} {vna vda : Value} (hna : Us .u32 h0 vna (limbs qa.num.natAbs)) (hda : Us .u32 h0 vda (limbs (denN qa.den))) :
    Calls Try.prog 94 #[.agg #[vB (qa.num < 0), vna, vda]] w0 (Ret w0 h0 (fun _ r => r = .tuple #[vU .u64 (pN qa), vU .u64 (pD qa), vB (smallQ qa)])) := by
 refine calls_begin (n := 30) (e := [(0, .agg #[vB (qa.num < 0), vna, vda])]) (vs := [.agg #[vB (qa.num < 0), vna, vda]]) Try.func94 rfl rfl (Nat.le_of_ble_eq_true rfl) hs ⟨rfl, trivial⟩ (gc_seq (gc_region (gl_newop (new_box (cs := [_, _, _]) rfl rfl) rfl rfl rfl ?_)))
 intro v1 r1 hr1
 obtain ⟨b1, rfl, rfl⟩ := hr1
 refine asg (v := vU .u64 0) rfl rfl (asg (v := vU .u64 0) rfl rfl (asg rfl rfl (gl_nil (gq_then (gc_seq (gc_seq (gc_region (gv (ov_field_addr Try.underlying27 rfl Try.sizeOf22 rfl) rfl (gv (ov_load_var (.head _) Try.isAgg22 rfl rfl) rfl (gv (ov_len_us Try.underlying22 rfl hna) rfl (gv (ov_gtr_i (q := 1) rfl rfl) rfl ?_)))))))))))
 refine gl_cut (ι := Unit) 6 (fun _ => True) (fun _ => [(14, vB (((1 : Int) < (↑(limbs qa.num.natAbs).length : Int)) ∨ ((1 : Int) < (↑(limbs (denN qa.den)).length : Int)))), (1, vP b1 0)]) (fun _ => [.var b1 27 [vB (qa.num < 0), vna, vda]]) (fun _ => h0) ?_ ?_
 ·
  refine gl_cases ((1 : Int) < (↑(limbs qa.num.natAbs).length : Int)) (fun hg => ?_) (fun hg => ?_)
  ·
   refine gl_val (ov_move (v := .bool true) (congrArg some (vB_true hg))) rfl rfl rfl (gl_off rfl rfl rfl rfl rfl rfl (gl_off rfl rfl rfl rfl rfl rfl (gl_off rfl rfl rfl rfl rfl rfl (gl_off rfl rfl rfl rfl rfl rfl (gv (ov_pick_t rfl rfl) rfl (gl_nil ?_))))))
   refine gq_cut () trivial ⟨?_, rfl, trivial⟩ rfl rfl
   exact congrArg some (vB_or_t hg)
  ·
   refine gl_val (ov_move (v := .bool false) (congrArg some (vB_false hg))) rfl rfl rfl (gl_on rfl rfl rfl (gv (ov_field_addr Try.underlying27 rfl Try.sizeOf22 rfl) rfl (gl_on rfl rfl rfl (gv (ov_load_var (.head _) Try.isAgg22 rfl rfl) rfl (gl_on rfl rfl rfl (gv (ov_len_us Try.underlying22 rfl hda) rfl (gl_on rfl rfl rfl (gv (ov_gtr_i (q := 1) rfl rfl) rfl (gv (ov_pick_f rfl rfl) rfl (gl_nil ?_))))))))))
   refine gq_cut () trivial ⟨?_, rfl, trivial⟩ rfl rfl
   exact congrArg some (vB_or_f hg)
 ·
  intro _ _
  show GL _ _ _ _ _ _ _ [(14, vB (((1 : Int) < (↑(limbs qa.num.natAbs).length : Int)) ∨ ((1 : Int) < (↑(limbs (denN qa.den)).length : Int)))), (1, vP b1 0)] [.var b1 27 [vB (qa.num < 0), vna, vda]] h0
  refine gl_nil (gq_then ?_)
  refine gc_cond rfl (fun hc14 => ?_) (fun hc14 => ?_)
  ·
   have hns : ¬ smallQ qa := smallQ_not hc14
   refine gc_seq (gc_region (asg (v := vU .u64 0) rfl rfl (asg (v := vU .u64 0) rfl rfl (asg rfl rfl (gl_nil (gq_then (gc_ret (gr_then (gq_body3 rfl rfl rfl rfl ?_)))))))))
   rw [pN_f hns, pD_f hns, vB_false hns]
  ·
   have hsm : smallQ qa := smallQ_of hc14
   have hsn := smallQ_num hsm
   have hsd := smallQ_den hsm
   refine gc_skip (gq_then (gc_seq (gc_region (asg (v := vU .u64 1) rfl rfl (gl_nil (gq_then (gc_seq (gc_seq (gc_region (gv (ov_field_addr Try.underlying27 rfl Try.sizeOf22 rfl) rfl (gv (ov_load_var (.head _) Try.isAgg22 rfl rfl) rfl (gv (ov_len_us Try.underlying22 rfl hda) rfl (gv (ov_eql_i (q := 1) rfl rfl) rfl ?_)))))))))))))
   refine gl_nil (gq_then ?_)
   refine gc_cond rfl (fun hc18 => ?_) (fun hc18 => ?_)
   ·
    have hd1 : (limbs (denN qa.den)).getD 0 0 = qa.den := denL_one hc18
    refine gc_region (gv (ov_field_addr Try.underlying27 rfl Try.sizeOf22 rfl) rfl (gv (ov_load_var (.head _) Try.isAgg22 rfl rfl) rfl (gv (ov_index_us (q := 0) (0) Try.underlying22 Try.sizeOf61 rfl rfl hda rfl (by omega)) rfl (gv (ov_load_us Try.isAgg61 rfl hda (by omega)) rfl ?_))))
    rw [hd1]
    refine gv (ov_conv_u (k := .u32) (k' := .u64) (W := 18446744073709551616) Try.underlying61 Try.underlying75 rfl rfl rfl (by omega)) rfl (asg rfl rfl (gl_nil (gq_keep (e' := [(1, _), (3, _)]) ⟨rfl, rfl, trivial⟩ (gq_then (gc_seq (gc_region (gv (ov_field_addr Try.underlying27 rfl Try.sizeOf22 rfl) rfl (gv (ov_load_var (.head _) Try.isAgg22 rfl rfl) rfl ?_))))))))
    refine gl_call (vs := [_]) rfl rfl rfl rfl Try.call103 ⟨rfl, trivial⟩ (fun w hs => rat_word hs hna (by omega)) ?_
    intro v26 h1 hh1 hr26
    try simp only [val_limbs] at hr26
    subst hr26
    refine mv rfl rfl (mv rfl rfl (gv (OpV.tr (by have := qa.den_nz; omega) (ov_neq_u (k := .u64) (q := 0) rfl rfl)) rfl (asg rfl rfl (asg rfl rfl (asg rfl rfl (gl_nil (gq_then (gc_ret (gq_body3 rfl rfl rfl rfl ?_)))))))))
    rw [pN_t hsm, pD_t hsm, vB_true hsm]
   ·
    have hd1 : qa.den = 1 := denL_nil hc18 hsm
    refine gc_skip (gq_then (gc_seq (gc_region (gv (ov_field_addr Try.underlying27 rfl Try.sizeOf22 rfl) rfl (gv (ov_load_var (.head _) Try.isAgg22 rfl rfl) rfl ?_)))))
    refine gl_call (vs := [_]) rfl rfl rfl rfl Try.call103 ⟨rfl, trivial⟩ (fun w hs => rat_word hs hna (by omega)) ?_
    intro v26 h1 hh1 hr26
    try simp only [val_limbs] at hr26
    subst hr26
    refine mv rfl rfl (mv rfl rfl (gv (OpV.tr (by have := qa.den_nz; omega) (ov_neq_u (k := .u64) (q := 0) rfl rfl)) rfl (asg rfl rfl (asg rfl rfl (asg rfl rfl (gl_nil (gq_keep (e' := [(2, _), (3, _), (4, _)]) ⟨rfl, rfl, rfl, trivial⟩ (gq_then (gc_ret (gq_body3 rfl rfl rfl rfl ?_))))))))))
    rw [pN_t hsm, pD_t hsm, vB_true hsm, hd1]

theorem rat_reduce {w0 : World} {h0 : Mem}  (hs : MLe h0 (mem w0)) {s : Prop} {vn vd : Value} {xs ys : List Nat} (hn : Us .u32 h0 vn xs) (hd : Us .u32 h0 vd ys) (hl : xs.length ≤ 1000000000000) (hl' : ys.length ≤ 1000000000000) :
    Calls Try.prog 68 #[vB s, vn, vd] w0 (Ret w0 h0 (fun h r => IsRat h r (mkRat (sg s (val xs)) (val ys)))) := by
 have hbx := bitsN_eq_zero (n := val xs)
 have hby := bitsN_eq_zero (n := val ys)
 have hlx := limbs_len_le hn.lt
 have hly := limbs_len_le hd.lt
 refine calls_begin (n := 68) (e := [(0, vB s), (1, vn), (2, vd)]) (vs := [vB s, vn, vd]) Try.func68 rfl rfl (Nat.le_of_ble_eq_true rfl) hs ⟨rfl, rfl, rfl, trivial⟩ (gc_seq (gc_region (gl_newop (new_alloc (cs := [vB ((0 : Rat).num < 0), .slice none 0 0, .slice none 0 0]) info27 rfl (by simp only [zb]; rfl)) rfl rfl rfl ?_)))
 intro v6 r6 hr6
 obtain ⟨b6, rfl, rfl⟩ := hr6
 refine gl_nil (gq_then (gc_seq (gc_seq (gc_region (mv rfl rfl ?_)))))
 refine gl_call (vs := [_]) rfl rfl rfl rfl Try.call64 ⟨rfl, trivial⟩ (fun w hs => nat_bits hs hn (by omega)) ?_
 intro v9 h1 hh1 hr9
 try simp only [val_limbs] at hr9
 subst hr9
 refine gv (ov_eql_i (q := 0) rfl rfl) rfl ?_
 refine gl_cut (ι := Mem) 5 (fun m_ => MLe h1 m_) (fun _ => [(15, vB (((↑(bitsN (val (xs))) : Int) = (0 : Int)) ∨ ((↑(bitsN (val (ys))) : Int) = (0 : Int)))), (0, vB s), (1, vn), (2, vd), (6, vP b6 0)]) (fun _ => [.var b6 27 [vB ((0 : Rat).num < 0), .slice none 0 0, .slice none 0 0]]) (fun m_ => m_) ?_ ?_
 ·
  refine gl_cases ((↑(bitsN (val (xs))) : Int) = (0 : Int)) (fun hg => ?_) (fun hg => ?_)
  ·
   refine gl_val (ov_move (v := .bool true) (congrArg some (vB_true hg))) rfl rfl rfl (gl_off rfl rfl rfl rfl rfl rfl (gl_off rfl rfl rfl rfl rfl rfl (gl_off rfl rfl rfl rfl rfl rfl (gv (ov_pick_t rfl rfl) rfl (gl_nil ?_)))))
   refine gq_cut h1 (MLe.refl _) ⟨?_, rfl, rfl, rfl, rfl, trivial⟩ rfl rfl
   exact congrArg some (vB_or_t hg)
  ·
   refine gl_val (ov_move (v := .bool false) (congrArg some (vB_false hg))) rfl rfl rfl (gl_on rfl rfl rfl (mv rfl rfl (gl_on rfl rfl rfl ?_)))
   replace hd := hd.mono hh1
   refine gl_call (vs := [_]) rfl rfl rfl rfl Try.call64 ⟨rfl, trivial⟩ (fun w hs => nat_bits hs hd (by omega)) ?_
   intro v13 h2 hh2 hr13
   try simp only [val_limbs] at hr13
   subst hr13
   refine gl_on rfl rfl rfl (gv (ov_eql_i (q := 0) rfl rfl) rfl (gv (ov_pick_f rfl rfl) rfl (gl_nil ?_)))
   refine gq_cut h2 hh2 ⟨?_, rfl, rfl, rfl, rfl, trivial⟩ rfl rfl
   exact congrArg some (vB_or_f hg)
 ·
  intro mg1_3 hmmg1_3
  show GL _ _ _ _ _ _ _ [(15, vB (((↑(bitsN (val (xs))) : Int) = (0 : Int)) ∨ ((↑(bitsN (val (ys))) : Int) = (0 : Int)))), (0, vB s), (1, vn), (2, vd), (6, vP b6 0)] [.var b6 27 [vB ((0 : Rat).num < 0), .slice none 0 0, .slice none 0 0]] mg1_3
  refine gl_nil (gq_then ?_)
  refine gc_cond rfl (fun hc15 => ?_) (fun hc15 => ?_)
  ·
   refine gc_seq (gc_region (gv (ov_build_parts (ps' := []) (vs := [vB ((0 : Rat).num < 0), .slice none 0 0, .slice none 0 0]) Try.underlying27 info27 rfl (places27 Try.underlying27) trivial (by simp only [zb]; rfl)) rfl (gl_upd (A := []) (r' := .var b6 27 [vB ((0 : Rat).num < 0), .slice none 0 0, .slice none 0 0]) (upd_store_var (k := 0) (cs := [_, _, _]) (vs := [_, _, _]) rfl rfl rfl rfl size27 (Nat.le_of_ble_eq_true rfl)) rfl rfl rfl (gl_nil (gq_then (gc_ret (gr_then (gq_res (fun E S => run_res1 rfl (rv_agg (cs := [_, _, _]) (.head _) Try.underlying27 rfl size27 rfl) E S) ?_))))))))
   rcases hc15 with h | h
   · rw [show val xs = 0 by omega, mk_zero]; exact IsRat.zero _
   · rw [show val ys = 0 by omega, mk_zero']; exact IsRat.zero _
  ·
   have hn0 : val xs ≠ 0 := fun h => hc15 (.inl (by omega))
   have hd0 : val ys ≠ 0 := fun h => hc15 (.inr (by omega))
   refine gc_skip (gq_then (gc_seq (gc_seq (gc_region (mv rfl rfl ?_)))))
   replace hn := hn.mono (hh1.trans hmmg1_3)
   refine gv (ov_len_us Try.underlying22 rfl hn) rfl (gv (ov_leq_i (q := 2) rfl rfl) rfl ?_)
   refine gl_cut (ι := Unit) 5 (fun _ => True) (fun _ => [(24, vB (((↑(xs).length : Int) ≤ (2 : Int)) ∧ ((↑(ys).length : Int) ≤ (2 : Int)))), (0, vB s), (1, vn), (2, vd), (6, vP b6 0)]) (fun _ => [.var b6 27 [vB ((0 : Rat).num < 0), .slice none 0 0, .slice none 0 0]]) (fun _ => mg1_3) ?_ ?_
   ·
    refine gl_cases ((↑(xs).length : Int) ≤ (2 : Int)) (fun hg => ?_) (fun hg => ?_)
    ·
     refine gl_val (ov_move (v := .bool true) (congrArg some (vB_true hg))) rfl rfl rfl (gl_on rfl rfl rfl (mv rfl rfl (gl_on rfl rfl rfl ?_)))
     replace hd := hd.mono (hh1.trans hmmg1_3)
     refine gv (ov_len_us Try.underlying22 rfl hd) rfl (gl_on rfl rfl rfl (gv (ov_leq_i (q := 2) rfl rfl) rfl (gv (ov_pick_t rfl rfl) rfl (gl_nil ?_))))
     refine gq_cut () trivial ⟨?_, rfl, rfl, rfl, rfl, trivial⟩ rfl rfl
     exact congrArg some (vB_and_t hg)
    ·
     refine gl_val (ov_move (v := .bool false) (congrArg some (vB_false hg))) rfl rfl rfl (gl_off rfl rfl rfl rfl rfl rfl (gl_off rfl rfl rfl rfl rfl rfl (gl_off rfl rfl rfl rfl rfl rfl (gv (ov_pick_f rfl rfl) rfl (gl_nil ?_)))))
     refine gq_cut () trivial ⟨?_, rfl, rfl, rfl, rfl, trivial⟩ rfl rfl
     exact congrArg some (vB_and_f hg)
   ·
    intro _ _
    show GL _ _ _ _ _ _ _ [(24, vB (((↑(xs).length : Int) ≤ (2 : Int)) ∧ ((↑(ys).length : Int) ≤ (2 : Int)))), (0, vB s), (1, vn), (2, vd), (6, vP b6 0)] [.var b6 27 [vB ((0 : Rat).num < 0), .slice none 0 0, .slice none 0 0]] mg1_3
    refine gl_nil (gq_then ?_)
    refine gc_cond rfl (fun hc24 => ?_) (fun hc24 => ?_)
    ·
     have hnw := lt_word (n := val xs) (by omega)
     have hdw := lt_word (n := val ys) (by omega)
     refine gc_seq (gc_region (mv rfl rfl (mv rfl rfl ?_)))
     refine gl_call (vs := [_]) rfl rfl rfl rfl Try.call103 ⟨rfl, trivial⟩ (fun w hs => rat_word hs hn (by omega)) ?_
     intro v27 h2 hh2 hr27
     try simp only [val_limbs] at hr27
     subst hr27
     refine mv rfl rfl ?_
     replace hd := hd.mono ((hh1.trans hmmg1_3).trans hh2)
     refine gl_call (vs := [_]) rfl rfl rfl rfl Try.call103 ⟨rfl, trivial⟩ (fun w hs => rat_word hs hd (by omega)) ?_
     intro v29 h3 hh3 hr29
     try simp only [val_limbs] at hr29
     subst hr29
     refine gl_call (vs := [_, _, _]) rfl rfl rfl rfl Try.call95 ⟨rfl, rfl, rfl, trivial⟩ (fun w hs => rat_short hs (by omega) (by omega) (by omega)) ?_
     intro v30 h4 hh4 hr30
     obtain ⟨vn30, vd30, rfl, hn30, hd30⟩ := hr30
     refine gl_upd (A := []) (r' := .var b6 27 [vB ((mkRat (sg (s) (val (xs))) (val (ys))).num < 0), vn30, vd30]) (upd_store_var (k := 0) (cs := [_, _, _]) (vs := [_, _, _]) rfl rfl rfl (ocr rfl (ocu hn30 (ocu hd30 oc0))) size27 (Nat.le_of_ble_eq_true rfl)) rfl rfl rfl (gl_nil (gq_keep (e' := [(6, _)]) ⟨rfl, trivial⟩ (gq_then (gc_ret (gr_then (gq_res (fun E S => run_res1 rfl (rv_agg (cs := [_, _, _]) (.head _) Try.underlying27 rfl size27 rfl) E S) ?_))))))
     exact ⟨_, _, rfl, hn30, hd30⟩
    ·
     refine gc_skip (gq_then (gc_seq (gc_seq (gc_region (mv rfl rfl (mv rfl rfl ?_))))))
     replace hd := hd.mono (hh1.trans hmmg1_3)
     refine gl_call (vs := [_, _]) rfl rfl rfl rfl Try.call84 ⟨rfl, rfl, trivial⟩ (fun w hs => nat_gcd hs hn hd (by omega) (by omega)) ?_
     intro v33 h2 hh2 hr33
     try simp only [val_limbs] at hr33
     have hlm33 := limbs_len_gcd (val (xs)) (val (ys))
     have hg0 : Nat.gcd (val xs) (val ys) ≠ 0 := Nat.ne_of_gt (Nat.gcd_pos_of_pos_left _ (by omega))
     have hgl := limbs_len_mono (Nat.le_of_dvd (by omega) (Nat.gcd_dvd_left (val xs) (val ys)))
     refine asg rfl rfl (gl_nil (gq_then (gc_seq (gc_region (mv rfl rfl ?_)))))
     refine gl_call (vs := [_]) rfl rfl rfl rfl Try.call64 ⟨rfl, trivial⟩ (fun w hs => nat_bits hs hr33 (by omega)) ?_
     intro v35 h3 hh3 hr35
     try simp only [val_limbs] at hr35
     subst hr35
     refine gv (ov_gtr_i (q := 1) rfl rfl) rfl (gl_nil (gq_then ?_))
     refine gc_cond rfl (fun hc36 => ?_) (fun hc36 => ?_)
     ·
      refine gc_seq (gc_region (mv rfl rfl (mv rfl rfl ?_)))
      replace hn := hn.mono (hh2.trans hh3)
      replace hr33 := hr33.mono hh3
      refine gl_call (vs := [_, _]) rfl rfl rfl rfl Try.call104 ⟨rfl, rfl, trivial⟩ (fun w hs => nat_div hs hn hr33 (by omega) (by omega)) ?_
      intro v40 h4 hh4 hr40
      obtain ⟨q40, r40, rfl, hq40, hr40⟩ := hr40
      try simp only [val_limbs] at hq40 hr40 ⊢
      have hlm40 := limbs_len_mono (Nat.div_le_self (val (xs)) (((Nat.gcd (val (xs)) (val (ys))))))
      have hl7 := limbs_len_mono (Nat.div_le_self (val xs) (Nat.gcd (val xs) (val ys)))
      refine mv rfl rfl (gv (ov_extract (vs := [_, _, _]) rfl rfl) rfl (gv (ov_extract (vs := [_, _, _]) rfl rfl) rfl (gv (ov_extract (vs := [_, _, _]) rfl rfl) rfl (asg rfl rfl (gl_nil (gq_keep (e' := [(0, _), (2, _), (6, _), (7, _), (1, _)]) ⟨rfl, rfl, rfl, rfl, rfl, trivial⟩ (gq_then (gc_region (mv rfl rfl (mv rfl rfl ?_))))))))))
      replace hd := hd.mono ((hh2.trans hh3).trans hh4)
      replace hr33 := hr33.mono hh4
      refine gl_call (vs := [_, _]) rfl rfl rfl rfl Try.call104 ⟨rfl, rfl, trivial⟩ (fun w hs => nat_div hs hd hr33 (by omega) (by omega)) ?_
      intro v47 h5 hh5 hr47
      obtain ⟨q47, r47, rfl, hq47, hr47⟩ := hr47
      try simp only [val_limbs] at hq47 hr47 ⊢
      have hlm47 := limbs_len_mono (Nat.div_le_self (val (ys)) (((Nat.gcd (val (xs)) (val (ys))))))
      have hl8 := limbs_len_mono (Nat.div_le_self (val ys) (Nat.gcd (val xs) (val ys)))
      refine mv rfl rfl (gv (ov_extract (vs := [_, _, _]) rfl rfl) rfl (gv (ov_extract (vs := [_, _, _]) rfl rfl) rfl (gv (ov_extract (vs := [_, _, _]) rfl rfl) rfl (asg rfl rfl (gl_nil (gq_then (gc_seq (gc_region (mv rfl rfl ?_)))))))))
      replace hq40 := hq40.mono hh5
      refine gl_call (vs := [_, _]) rfl rfl rfl rfl Try.call105 ⟨rfl, rfl, trivial⟩ (fun w hs => nat_add hs hq40 (Us.nil _ _) (by first | omega | (simp only [List.length_nil]; omega)) (by first | omega | (simp only [List.length_nil]; omega))) ?_
      intro v52 h6 hh6 hr52
      try simp only [val_limbs] at hr52
      have hlm52 := limbs_len_add ((((val (xs)) / (((Nat.gcd (val (xs)) (val (ys)))))))) (val ([]))
      refine mv rfl rfl ?_
      replace hq47 := hq47.mono hh6
      refine gl_call (vs := [_, _]) rfl rfl rfl rfl Try.call105 ⟨rfl, rfl, trivial⟩ (fun w hs => nat_add hs hq47 (Us.nil _ _) (by first | omega | (simp only [List.length_nil]; omega)) (by first | omega | (simp only [List.length_nil]; omega))) ?_
      intro v54 h7 hh7 hr54
      try simp only [val_limbs] at hr54
      have hlm54 := limbs_len_add ((((val (ys)) / (((Nat.gcd (val (xs)) (val (ys)))))))) (val ([]))
      refine asg rfl rfl (asg rfl rfl (gl_nil (gq_keep (e' := [(0, _), (6, _), (1, _), (2, _)]) ⟨rfl, rfl, rfl, rfl, trivial⟩ (gq_then (gc_seq (gc_seq (gc_region (mv rfl rfl (gv (ov_len_us Try.underlying22 rfl hr54) rfl (gv (ov_eql_i (q := 1) rfl rfl) rfl ?_))))))))))
      refine gl_cut (ι := Unit) 6 (fun _ => True) (fun _ => [(63, vB (((↑(limbs (((((val (ys)) / (((Nat.gcd (val (xs)) (val (ys)))))))) + (val ([])))).length : Int) = (1 : Int)) ∧ (((limbs (((((val (ys)) / (((Nat.gcd (val (xs)) (val (ys)))))))) + (val ([])))).getD (0) 0) = (1 : Nat)))), (0, vB s), (6, vP b6 0), (1, v52), (2, v54)]) (fun _ => [.var b6 27 [vB ((0 : Rat).num < 0), .slice none 0 0, .slice none 0 0]]) (fun _ => h7) ?_ ?_
      ·
       refine gl_cases ((↑(limbs (((((val (ys)) / (((Nat.gcd (val (xs)) (val (ys)))))))) + (val ([])))).length : Int) = (1 : Int)) (fun hg => ?_) (fun hg => ?_)
       ·
        refine gl_val (ov_move (v := .bool true) (congrArg some (vB_true hg))) rfl rfl rfl (gl_on rfl rfl rfl (mv rfl rfl (gl_on rfl rfl rfl (gv (ov_index_us (q := 0) (0) Try.underlying22 Try.sizeOf61 rfl rfl hr54 rfl (by omega)) rfl (gl_on rfl rfl rfl (gv (ov_load_us Try.isAgg61 rfl hr54 (by omega)) rfl (gl_on rfl rfl rfl (gv (ov_eql_u (k := .u32) (q := 1) rfl rfl) rfl (gv (ov_pick_t rfl rfl) rfl (gl_nil ?_))))))))))
        refine gq_cut () trivial ⟨?_, rfl, rfl, rfl, rfl, trivial⟩ rfl rfl
        exact congrArg some (vB_and_t hg)
       ·
        refine gl_val (ov_move (v := .bool false) (congrArg some (vB_false hg))) rfl rfl rfl (gl_off rfl rfl rfl rfl rfl rfl (gl_off rfl rfl rfl rfl rfl rfl (gl_off rfl rfl rfl rfl rfl rfl (gl_off rfl rfl rfl rfl rfl rfl (gv (ov_pick_f rfl rfl) rfl (gl_nil ?_))))))
        refine gq_cut () trivial ⟨?_, rfl, rfl, rfl, rfl, trivial⟩ rfl rfl
        exact congrArg some (vB_and_f hg)
      ·
       intro _ _
       show GL _ _ _ _ _ _ _ [(63, vB (((↑(limbs (((((val (ys)) / (((Nat.gcd (val (xs)) (val (ys)))))))) + (val ([])))).length : Int) = (1 : Int)) ∧ (((limbs (((((val (ys)) / (((Nat.gcd (val (xs)) (val (ys)))))))) + (val ([])))).getD (0) 0) = (1 : Nat)))), (0, vB s), (6, vP b6 0), (1, v52), (2, v54)] [.var b6 27 [vB ((0 : Rat).num < 0), .slice none 0 0, .slice none 0 0]] h7
       refine gl_nil (gq_then ?_)
       refine gc_cond rfl (fun hc63 => ?_) (fun hc63 => ?_)
       ·
        refine gc_region (asg rfl rfl (gl_nil (gq_then (gc_seq (gc_region (mv rfl rfl (mv rfl rfl (mv rfl rfl ?_))))))))
        replace hr52 := hr52.mono hh7
        refine gv (ov_build_parts (ps' := [(0, _), (1, _), (2, _)]) (vs := [vB s, v52, .slice none 0 0]) Try.underlying27 info27 rfl (places27 Try.underlying27) ⟨rfl, rfl, rfl, rfl, rfl, rfl, trivial⟩ (by obtain ⟨_, _, e0⟩ := hr52.one; rw [e0]; rfl)) rfl (gl_upd (A := []) (r' := .var b6 27 [vB s, v52, .slice none 0 0]) (upd_store_var (k := 0) (cs := [_, _, _]) (vs := [_, _, _]) rfl rfl rfl (ocr rfl (ocu hr52 (ocr rfl oc0))) size27 (Nat.le_of_ble_eq_true rfl)) rfl rfl rfl (gl_nil (gq_then (gc_ret (gq_res (fun E S => run_res1 rfl (rv_agg (cs := [_, _, _]) (.head _) Try.underlying27 rfl size27 rfl) E S) ?_)))))
        exact IsRat.fin1 hn0 hd0 hr52 hc63
       ·
        refine gc_skip (gq_then (gc_seq (gc_region (mv rfl rfl (mv rfl rfl (mv rfl rfl ?_))))))
        replace hr52 := hr52.mono hh7
        refine gv (ov_build_parts (ps' := [(0, _), (1, _), (2, _)]) (vs := [vB s, v52, v54]) Try.underlying27 info27 rfl (places27 Try.underlying27) ⟨rfl, rfl, rfl, rfl, rfl, rfl, trivial⟩ (by obtain ⟨_, _, e0⟩ := hr52.one; obtain ⟨_, _, e1⟩ := hr54.one; rw [e0, e1]; rfl)) rfl (gl_upd (A := []) (r' := .var b6 27 [vB s, v52, v54]) (upd_store_var (k := 0) (cs := [_, _, _]) (vs := [_, _, _]) rfl rfl rfl (ocr rfl (ocu hr52 (ocu hr54 oc0))) size27 (Nat.le_of_ble_eq_true rfl)) rfl rfl rfl (gl_nil (gq_then (gc_ret (gq_res (fun E S => run_res1 rfl (rv_agg (cs := [_, _, _]) (.head _) Try.underlying27 rfl size27 rfl) E S) ?_)))))
        exact IsRat.fin hn0 hd0 hr52 hr54 hc63
     ·
      refine gc_skip (gq_then (gc_seq (gc_region (mv rfl rfl ?_))))
      replace hn := hn.mono (hh2.trans hh3)
      refine gl_call (vs := [_, _]) rfl rfl rfl rfl Try.call105 ⟨rfl, rfl, trivial⟩ (fun w hs => nat_add hs hn (Us.nil _ _) (by first | omega | (simp only [List.length_nil]; omega)) (by first | omega | (simp only [List.length_nil]; omega))) ?_
      intro v52 h4 hh4 hr52
      try simp only [val_limbs] at hr52
      have hlm52 := limbs_len_add (val (xs)) (val ([]))
      refine mv rfl rfl ?_
      replace hd := hd.mono ((hh2.trans hh3).trans hh4)
      refine gl_call (vs := [_, _]) rfl rfl rfl rfl Try.call105 ⟨rfl, rfl, trivial⟩ (fun w hs => nat_add hs hd (Us.nil _ _) (by first | omega | (simp only [List.length_nil]; omega)) (by first | omega | (simp only [List.length_nil]; omega))) ?_
      intro v54 h5 hh5 hr54
      try simp only [val_limbs] at hr54
      have hlm54 := limbs_len_add (val (ys)) (val ([]))
      refine asg rfl rfl (asg rfl rfl (gl_nil (gq_keep (e' := [(0, _), (6, _), (1, _), (2, _)]) ⟨rfl, rfl, rfl, rfl, trivial⟩ (gq_then (gc_seq (gc_seq (gc_region (mv rfl rfl (gv (ov_len_us Try.underlying22 rfl hr54) rfl (gv (ov_eql_i (q := 1) rfl rfl) rfl ?_))))))))))
      refine gl_cut (ι := Unit) 6 (fun _ => True) (fun _ => [(63, vB (((↑(limbs ((val (ys)) + (val ([])))).length : Int) = (1 : Int)) ∧ (((limbs ((val (ys)) + (val ([])))).getD (0) 0) = (1 : Nat)))), (0, vB s), (6, vP b6 0), (1, v52), (2, v54)]) (fun _ => [.var b6 27 [vB ((0 : Rat).num < 0), .slice none 0 0, .slice none 0 0]]) (fun _ => h5) ?_ ?_
      ·
       refine gl_cases ((↑(limbs ((val (ys)) + (val ([])))).length : Int) = (1 : Int)) (fun hg => ?_) (fun hg => ?_)
       ·
        refine gl_val (ov_move (v := .bool true) (congrArg some (vB_true hg))) rfl rfl rfl (gl_on rfl rfl rfl (mv rfl rfl (gl_on rfl rfl rfl (gv (ov_index_us (q := 0) (0) Try.underlying22 Try.sizeOf61 rfl rfl hr54 rfl (by omega)) rfl (gl_on rfl rfl rfl (gv (ov_load_us Try.isAgg61 rfl hr54 (by omega)) rfl (gl_on rfl rfl rfl (gv (ov_eql_u (k := .u32) (q := 1) rfl rfl) rfl (gv (ov_pick_t rfl rfl) rfl (gl_nil ?_))))))))))
        refine gq_cut () trivial ⟨?_, rfl, rfl, rfl, rfl, trivial⟩ rfl rfl
        exact congrArg some (vB_and_t hg)
       ·
        refine gl_val (ov_move (v := .bool false) (congrArg some (vB_false hg))) rfl rfl rfl (gl_off rfl rfl rfl rfl rfl rfl (gl_off rfl rfl rfl rfl rfl rfl (gl_off rfl rfl rfl rfl rfl rfl (gl_off rfl rfl rfl rfl rfl rfl (gv (ov_pick_f rfl rfl) rfl (gl_nil ?_))))))
        refine gq_cut () trivial ⟨?_, rfl, rfl, rfl, rfl, trivial⟩ rfl rfl
        exact congrArg some (vB_and_f hg)
      ·
       intro _ _
       show GL _ _ _ _ _ _ _ [(63, vB (((↑(limbs ((val (ys)) + (val ([])))).length : Int) = (1 : Int)) ∧ (((limbs ((val (ys)) + (val ([])))).getD (0) 0) = (1 : Nat)))), (0, vB s), (6, vP b6 0), (1, v52), (2, v54)] [.var b6 27 [vB ((0 : Rat).num < 0), .slice none 0 0, .slice none 0 0]] h5
       refine gl_nil (gq_then ?_)
       refine gc_cond rfl (fun hc63 => ?_) (fun hc63 => ?_)
       ·
        refine gc_region (asg rfl rfl (gl_nil (gq_then (gc_seq (gc_region (mv rfl rfl (mv rfl rfl (mv rfl rfl ?_))))))))
        replace hr52 := hr52.mono hh5
        refine gv (ov_build_parts (ps' := [(0, _), (1, _), (2, _)]) (vs := [vB s, v52, .slice none 0 0]) Try.underlying27 info27 rfl (places27 Try.underlying27) ⟨rfl, rfl, rfl, rfl, rfl, rfl, trivial⟩ (by obtain ⟨_, _, e0⟩ := hr52.one; rw [e0]; rfl)) rfl (gl_upd (A := []) (r' := .var b6 27 [vB s, v52, .slice none 0 0]) (upd_store_var (k := 0) (cs := [_, _, _]) (vs := [_, _, _]) rfl rfl rfl (ocr rfl (ocu hr52 (ocr rfl oc0))) size27 (Nat.le_of_ble_eq_true rfl)) rfl rfl rfl (gl_nil (gq_then (gc_ret (gq_res (fun E S => run_res1 rfl (rv_agg (cs := [_, _, _]) (.head _) Try.underlying27 rfl size27 rfl) E S) ?_)))))
        have hg1 := bitsN_one hc36 hg0
        exact IsRat.fin1 hn0 hd0 (by rw [hg1, Nat.div_one]; exact hr52) (by rw [hg1, Nat.div_one]; exact hc63)
       ·
        refine gc_skip (gq_then (gc_seq (gc_region (mv rfl rfl (mv rfl rfl (mv rfl rfl ?_))))))
        replace hr52 := hr52.mono hh5
        refine gv (ov_build_parts (ps' := [(0, _), (1, _), (2, _)]) (vs := [vB s, v52, v54]) Try.underlying27 info27 rfl (places27 Try.underlying27) ⟨rfl, rfl, rfl, rfl, rfl, rfl, trivial⟩ (by obtain ⟨_, _, e0⟩ := hr52.one; obtain ⟨_, _, e1⟩ := hr54.one; rw [e0, e1]; rfl)) rfl (gl_upd (A := []) (r' := .var b6 27 [vB s, v52, v54]) (upd_store_var (k := 0) (cs := [_, _, _]) (vs := [_, _, _]) rfl rfl rfl (ocr rfl (ocu hr52 (ocu hr54 oc0))) size27 (Nat.le_of_ble_eq_true rfl)) rfl rfl rfl (gl_nil (gq_then (gc_ret (gq_res (fun E S => run_res1 rfl (rv_agg (cs := [_, _, _]) (.head _) Try.underlying27 rfl size27 rfl) E S) ?_)))))
        have hg1 := bitsN_one hc36 hg0
        exact IsRat.fin hn0 hd0 (by rw [hg1, Nat.div_one]; exact hr52) (by rw [hg1, Nat.div_one]; exact hr54) (by rw [hg1, Nat.div_one]; exact hc63)

end Go.Proofs.Ytimoeckkdodogaa
