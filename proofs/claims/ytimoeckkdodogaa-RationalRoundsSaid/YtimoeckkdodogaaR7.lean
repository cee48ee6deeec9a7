/- Contracts of functions, walked by their text (rat7/b). -/
import Derived.Test.YtimoeckkdodogaaR6
namespace Go.Proofs.Ytimoeckkdodogaa
open Bk Go
set_option linter.unusedVariables false
set_option linter.unusedSimpArgs false
set_option maxRecDepth 10000

theorem rref_reduce {w0 : World} {h0 : Mem}  (hs : MLe h0 (mem w0)) {s : Prop} {vn vd : Value} {xs ys : List Nat} (hn : Us .u32 h0 vn xs) (hd : Us .u32 h0 vd ys) (hl : xs.length ≤ 500000000000) (hl' : ys.length ≤ 500000000000) (hd0 : val ys ≠ 0) :
    Calls Try.prog 74 #[vB s, vn, vd] w0 (Ret w0 h0 (fun h r => IsRat h r (mkRat (sg s (val xs)) (val ys)))) := by
 have hlx := limbs_len_le hn.lt
 have hly := limbs_len_le hd.lt
 refine calls_begin (n := 55) (e := [(0, vB s), (1, vn), (2, vd)]) (vs := [vB s, vn, vd]) Try.func74 rfl rfl (Nat.le_of_ble_eq_true rfl) hs ⟨rfl, rfl, rfl, trivial⟩ (gc_seq (gc_region (gl_newop (new_alloc (cs := [vB ((0 : Rat).num < 0), .slice none 0 0, .slice none 0 0]) info27 rfl (by simp only [zb]; rfl)) rfl rfl rfl ?_)))
 intro v6 r6 hr6
 obtain ⟨b6, rfl, rfl⟩ := hr6
 refine gl_nil (gq_then (gc_seq (gc_region (mv rfl rfl ?_))))
 refine gl_call (vs := [_]) rfl rfl rfl rfl Try.call81 ⟨rfl, trivial⟩ (fun w hs => ref_trim hs hn (by omega)) ?_
 intro v9 h1 hh1 hr9
 refine mv rfl rfl ?_
 replace hd := hd.mono hh1
 refine gl_call (vs := [_]) rfl rfl rfl rfl Try.call81 ⟨rfl, trivial⟩ (fun w hs => ref_trim hs hd (by omega)) ?_
 intro v11 h2 hh2 hr11
 refine asg rfl rfl (asg rfl rfl (gl_nil (gq_then (gc_seq (gc_seq (gc_region (mv rfl rfl ?_)))))))
 replace hr9 := hr9.mono hh2
 refine gv (ov_len_us Try.underlying22 rfl hr9) rfl (gv (ov_eql_i (q := 0) rfl rfl) rfl (gl_nil (gq_then ?_)))
 refine gc_cond rfl (fun hc14 => ?_) (fun hc14 => ?_)
 ·
  refine gc_keep (e' := [(6, _)]) ⟨rfl, trivial⟩ (gc_seq (gc_region (gv (ov_build_parts (ps' := []) (vs := [vB ((0 : Rat).num < 0), .slice none 0 0, .slice none 0 0]) Try.underlying27 info27 rfl (places27 Try.underlying27) trivial (by simp only [zb]; rfl)) rfl (gl_upd (A := []) (r' := .var b6 27 [vB ((0 : Rat).num < 0), .slice none 0 0, .slice none 0 0]) (upd_store_var (k := 0) (cs := [_, _, _]) (vs := [_, _, _]) rfl rfl rfl rfl size27 (Nat.le_of_ble_eq_true rfl)) rfl rfl rfl (gl_nil (gq_then (gc_ret (gr_then (gq_res (fun E S => run_res1 rfl (rv_agg (cs := [_, _, _]) (.head _) Try.underlying27 rfl size27 rfl) E S) ?_)))))))))
  have e : val xs = 0 := Classical.byContradiction fun e => by have := limbs_len_pos.2 e; omega
  rw [e, mk_zero]; exact IsRat.zero _
 ·
  have hn0 : val xs ≠ 0 := limbs_len_pos.1 (by omega)
  have hg0 : Nat.gcd (val xs) (val ys) ≠ 0 := Nat.ne_of_gt (Nat.gcd_pos_of_pos_left _ (by omega))
  refine gc_skip (gq_then (gc_seq (gc_region (mv rfl rfl (mv rfl rfl ?_)))))
  refine gl_call (vs := [_, _]) rfl rfl rfl rfl Try.call86 ⟨rfl, rfl, trivial⟩ (fun w hs => ref_gcd hs hr9 hr11 (by omega) (by omega)) ?_
  intro v18 h3 hh3 hr18
  have hlm18 := limbs_len_gcd ((val (xs))) ((val (ys)))
  refine asg rfl rfl (gl_nil (gq_keep (e' := [(0, _), (6, _), (1, _), (2, _), (7, _)]) ⟨rfl, rfl, rfl, rfl, rfl, trivial⟩ (gq_then (gc_seq (gc_seq (gc_region (mv rfl rfl (gv (ov_len_us Try.underlying22 rfl hr18) rfl (gv (ov_neq_i (q := 1) rfl rfl) rfl ?_)))))))))
  refine gl_cut (ι := Unit) 6 (fun _ => True) (fun _ => [(27, vB (((↑(limbs (Nat.gcd ((val (xs))) ((val (ys))))).length : Int) ≠ (1 : Int)) ∨ (((limbs (Nat.gcd ((val (xs))) ((val (ys))))).getD (0) 0) ≠ (1 : Nat)))), (0, vB s), (6, vP b6 0), (1, v9), (2, v11), (7, v18)]) (fun _ => [.var b6 27 [vB ((0 : Rat).num < 0), .slice none 0 0, .slice none 0 0]]) (fun _ => h3) ?_ ?_
  ·
   refine gl_cases ((↑(limbs (Nat.gcd ((val (xs))) ((val (ys))))).length : Int) ≠ (1 : Int)) (fun hg => ?_) (fun hg => ?_)
   ·
    refine gl_val (ov_move (v := .bool true) (congrArg some (vB_true hg))) rfl rfl rfl (gl_off rfl rfl rfl rfl rfl rfl (gl_off rfl rfl rfl rfl rfl rfl (gl_off rfl rfl rfl rfl rfl rfl (gl_off rfl rfl rfl rfl rfl rfl (gv (ov_pick_t rfl rfl) rfl (gl_nil ?_))))))
    refine gq_cut () trivial ⟨?_, rfl, rfl, rfl, rfl, rfl, trivial⟩ rfl rfl
    exact congrArg some (vB_or_t hg)
   ·
    refine gl_val (ov_move (v := .bool false) (congrArg some (vB_false hg))) rfl rfl rfl (gl_on rfl rfl rfl (mv rfl rfl (gl_on rfl rfl rfl (gv (ov_index_us (q := 0) (0) Try.underlying22 Try.sizeOf61 rfl rfl hr18 rfl (by omega)) rfl (gl_on rfl rfl rfl (gv (ov_load_us Try.isAgg61 rfl hr18 (by omega)) rfl (gl_on rfl rfl rfl (gv (ov_neq_u (k := .u32) (q := 1) rfl rfl) rfl (gv (ov_pick_f rfl rfl) rfl (gl_nil ?_))))))))))
    refine gq_cut () trivial ⟨?_, rfl, rfl, rfl, rfl, rfl, trivial⟩ rfl rfl
    exact congrArg some (vB_or_f hg)
  ·
   intro _ _
   show GL _ _ _ _ _ _ _ [(27, vB (((↑(limbs (Nat.gcd ((val (xs))) ((val (ys))))).length : Int) ≠ (1 : Int)) ∨ (((limbs (Nat.gcd ((val (xs))) ((val (ys))))).getD (0) 0) ≠ (1 : Nat)))), (0, vB s), (6, vP b6 0), (1, v9), (2, v11), (7, v18)] [.var b6 27 [vB ((0 : Rat).num < 0), .slice none 0 0, .slice none 0 0]] h3
   refine gl_nil (gq_then ?_)
   refine gc_cond rfl (fun hc27 => ?_) (fun hc27 => ?_)
   ·
    refine gc_seq (gc_region (mv rfl rfl (mv rfl rfl ?_)))
    replace hr9 := hr9.mono hh3
    refine gl_call (vs := [_, _]) rfl rfl rfl rfl Try.call89 ⟨rfl, rfl, trivial⟩ (fun w hs => ref_div hs hr9 hr18 (by omega) (by omega)) ?_
    intro v31 h4 hh4 hr31
    obtain ⟨q31, r31, rfl, hq31, hr31⟩ := hr31
    have hlm31 := limbs_len_mono (Nat.div_le_self ((val (xs))) ((Nat.gcd ((val (xs))) ((val (ys))))))
    refine mv rfl rfl (gv (ov_extract (vs := [_, _, _]) rfl rfl) rfl (gv (ov_extract (vs := [_, _, _]) rfl rfl) rfl (gv (ov_extract (vs := [_, _, _]) rfl rfl) rfl (asg rfl rfl (gl_nil (gq_then (gc_region (mv rfl rfl (mv rfl rfl ?_)))))))))
    replace hr11 := hr11.mono (hh3.trans hh4)
    replace hr18 := hr18.mono hh4
    refine gl_call (vs := [_, _]) rfl rfl rfl rfl Try.call89 ⟨rfl, rfl, trivial⟩ (fun w hs => ref_div hs hr11 hr18 (by omega) (by omega)) ?_
    intro v38 h5 hh5 hr38
    obtain ⟨q38, r38, rfl, hq38, hr38⟩ := hr38
    have hlm38 := limbs_len_mono (Nat.div_le_self ((val (ys))) ((Nat.gcd ((val (xs))) ((val (ys))))))
    refine mv rfl rfl (gv (ov_extract (vs := [_, _, _]) rfl rfl) rfl (gv (ov_extract (vs := [_, _, _]) rfl rfl) rfl (gv (ov_extract (vs := [_, _, _]) rfl rfl) rfl (asg rfl rfl (gl_nil (gq_keep (e' := [(0, _), (6, _), (1, _), (2, _)]) ⟨rfl, rfl, rfl, rfl, trivial⟩ (gq_then (gc_seq (gc_seq (gc_region (mv rfl rfl (gv (ov_len_us Try.underlying22 rfl hq38) rfl (gv (ov_eql_i (q := 1) rfl rfl) rfl ?_)))))))))))))
    refine gl_cut (ι := Unit) 6 (fun _ => True) (fun _ => [(50, vB (((↑(limbs (((val (ys))) / ((Nat.gcd ((val (xs))) ((val (ys))))))).length : Int) = (1 : Int)) ∧ (((limbs (((val (ys))) / ((Nat.gcd ((val (xs))) ((val (ys))))))).getD (0) 0) = (1 : Nat)))), (0, vB s), (6, vP b6 0), (1, q31), (2, q38)]) (fun _ => [.var b6 27 [vB ((0 : Rat).num < 0), .slice none 0 0, .slice none 0 0]]) (fun _ => h5) ?_ ?_
    ·
     refine gl_cases ((↑(limbs (((val (ys))) / ((Nat.gcd ((val (xs))) ((val (ys))))))).length : Int) = (1 : Int)) (fun hg => ?_) (fun hg => ?_)
     ·
      refine gl_val (ov_move (v := .bool true) (congrArg some (vB_true hg))) rfl rfl rfl (gl_on rfl rfl rfl (mv rfl rfl (gl_on rfl rfl rfl (gv (ov_index_us (q := 0) (0) Try.underlying22 Try.sizeOf61 rfl rfl hq38 rfl (by omega)) rfl (gl_on rfl rfl rfl (gv (ov_load_us Try.isAgg61 rfl hq38 (by omega)) rfl (gl_on rfl rfl rfl (gv (ov_eql_u (k := .u32) (q := 1) rfl rfl) rfl (gv (ov_pick_t rfl rfl) rfl (gl_nil ?_))))))))))
      refine gq_cut () trivial ⟨?_, rfl, rfl, rfl, rfl, trivial⟩ rfl rfl
      exact congrArg some (vB_and_t hg)
     ·
      refine gl_val (ov_move (v := .bool false) (congrArg some (vB_false hg))) rfl rfl rfl (gl_off rfl rfl rfl rfl rfl rfl (gl_off rfl rfl rfl rfl rfl rfl (gl_off rfl rfl rfl rfl rfl rfl (gl_off rfl rfl rfl rfl rfl rfl (gv (ov_pick_f rfl rfl) rfl (gl_nil ?_))))))
      refine gq_cut () trivial ⟨?_, rfl, rfl, rfl, rfl, trivial⟩ rfl rfl
      exact congrArg some (vB_and_f hg)
    ·
     intro _ _
     show GL _ _ _ _ _ _ _ [(50, vB (((↑(limbs (((val (ys))) / ((Nat.gcd ((val (xs))) ((val (ys))))))).length : Int) = (1 : Int)) ∧ (((limbs (((val (ys))) / ((Nat.gcd ((val (xs))) ((val (ys))))))).getD (0) 0) = (1 : Nat)))), (0, vB s), (6, vP b6 0), (1, q31), (2, q38)] [.var b6 27 [vB ((0 : Rat).num < 0), .slice none 0 0, .slice none 0 0]] h5
     refine gl_nil (gq_then ?_)
     refine gc_cond rfl (fun hc50 => ?_) (fun hc50 => ?_)
     ·
      refine gc_region (asg rfl rfl (gl_nil (gq_then (gc_seq (gc_region (mv rfl rfl (mv rfl rfl (mv rfl rfl ?_))))))))
      replace hq31 := hq31.mono hh5
      refine gv (ov_build_parts (ps' := [(0, _), (1, _), (2, _)]) (vs := [vB s, q31, .slice none 0 0]) Try.underlying27 info27 rfl (places27 Try.underlying27) ⟨rfl, rfl, rfl, rfl, rfl, rfl, trivial⟩ (by obtain ⟨_, _, e0⟩ := hq31.one; rw [e0]; rfl)) rfl (gl_upd (A := []) (r' := .var b6 27 [vB s, q31, .slice none 0 0]) (upd_store_var (k := 0) (cs := [_, _, _]) (vs := [_, _, _]) rfl rfl rfl (ocr rfl (ocu hq31 (ocr rfl oc0))) size27 (Nat.le_of_ble_eq_true rfl)) rfl rfl rfl (gl_nil (gq_then (gc_ret (gq_res (fun E S => run_res1 rfl (rv_agg (cs := [_, _, _]) (.head _) Try.underlying27 rfl size27 rfl) E S) ?_)))))
      exact IsRat.fin1 hn0 hd0 hq31 hc50
     ·
      refine gc_skip (gq_then (gc_seq (gc_region (mv rfl rfl (mv rfl rfl (mv rfl rfl ?_))))))
      replace hq31 := hq31.mono hh5
      refine gv (ov_build_parts (ps' := [(0, _), (1, _), (2, _)]) (vs := [vB s, q31, q38]) Try.underlying27 info27 rfl (places27 Try.underlying27) ⟨rfl, rfl, rfl, rfl, rfl, rfl, trivial⟩ (by obtain ⟨_, _, e0⟩ := hq31.one; obtain ⟨_, _, e1⟩ := hq38.one; rw [e0, e1]; rfl)) rfl (gl_upd (A := []) (r' := .var b6 27 [vB s, q31, q38]) (upd_store_var (k := 0) (cs := [_, _, _]) (vs := [_, _, _]) rfl rfl rfl (ocr rfl (ocu hq31 (ocu hq38 oc0))) size27 (Nat.le_of_ble_eq_true rfl)) rfl rfl rfl (gl_nil (gq_then (gc_ret (gq_res (fun E S => run_res1 rfl (rv_agg (cs := [_, _, _]) (.head _) Try.underlying27 rfl size27 rfl) E S) ?_)))))
      exact IsRat.fin hn0 hd0 hq31 hq38 hc50
   ·
    refine gc_skip (gq_then (gc_seq (gc_seq (gc_region (mv rfl rfl ?_)))))
    replace hr11 := hr11.mono hh3
    refine gv (ov_len_us Try.underlying22 rfl hr11) rfl (gv (ov_eql_i (q := 1) rfl rfl) rfl ?_)
    refine gl_cut (ι := Unit) 6 (fun _ => True) (fun _ => [(50, vB (((↑(limbs (val (ys))).length : Int) = (1 : Int)) ∧ (((limbs (val (ys))).getD (0) 0) = (1 : Nat)))), (0, vB s), (6, vP b6 0), (1, v9), (2, v11)]) (fun _ => [.var b6 27 [vB ((0 : Rat).num < 0), .slice none 0 0, .slice none 0 0]]) (fun _ => h3) ?_ ?_
    ·
     refine gl_cases ((↑(limbs (val (ys))).length : Int) = (1 : Int)) (fun hg => ?_) (fun hg => ?_)
     ·
      refine gl_val (ov_move (v := .bool true) (congrArg some (vB_true hg))) rfl rfl rfl (gl_on rfl rfl rfl (mv rfl rfl (gl_on rfl rfl rfl (gv (ov_index_us (q := 0) (0) Try.underlying22 Try.sizeOf61 rfl rfl hr11 rfl (by omega)) rfl (gl_on rfl rfl rfl (gv (ov_load_us Try.isAgg61 rfl hr11 (by omega)) rfl (gl_on rfl rfl rfl (gv (ov_eql_u (k := .u32) (q := 1) rfl rfl) rfl (gv (ov_pick_t rfl rfl) rfl (gl_nil ?_))))))))))
      refine gq_cut () trivial ⟨?_, rfl, rfl, rfl, rfl, trivial⟩ rfl rfl
      exact congrArg some (vB_and_t hg)
     ·
      refine gl_val (ov_move (v := .bool false) (congrArg some (vB_false hg))) rfl rfl rfl (gl_off rfl rfl rfl rfl rfl rfl (gl_off rfl rfl rfl rfl rfl rfl (gl_off rfl rfl rfl rfl rfl rfl (gl_off rfl rfl rfl rfl rfl rfl (gv (ov_pick_f rfl rfl) rfl (gl_nil ?_))))))
      refine gq_cut () trivial ⟨?_, rfl, rfl, rfl, rfl, trivial⟩ rfl rfl
      exact congrArg some (vB_and_f hg)
    ·
     intro _ _
     show GL _ _ _ _ _ _ _ [(50, vB (((↑(limbs (val (ys))).length : Int) = (1 : Int)) ∧ (((limbs (val (ys))).getD (0) 0) = (1 : Nat)))), (0, vB s), (6, vP b6 0), (1, v9), (2, v11)] [.var b6 27 [vB ((0 : Rat).num < 0), .slice none 0 0, .slice none 0 0]] h3
     refine gl_nil (gq_then ?_)
     refine gc_cond rfl (fun hc50 => ?_) (fun hc50 => ?_)
     ·
      refine gc_region (asg rfl rfl (gl_nil (gq_then (gc_seq (gc_region (mv rfl rfl (mv rfl rfl (mv rfl rfl ?_))))))))
      replace hr9 := hr9.mono hh3
      refine gv (ov_build_parts (ps' := [(0, _), (1, _), (2, _)]) (vs := [vB s, v9, .slice none 0 0]) Try.underlying27 info27 rfl (places27 Try.underlying27) ⟨rfl, rfl, rfl, rfl, rfl, rfl, trivial⟩ (by obtain ⟨_, _, e0⟩ := hr9.one; rw [e0]; rfl)) rfl (gl_upd (A := []) (r' := .var b6 27 [vB s, v9, .slice none 0 0]) (upd_store_var (k := 0) (cs := [_, _, _]) (vs := [_, _, _]) rfl rfl rfl (ocr rfl (ocu hr9 (ocr rfl oc0))) size27 (Nat.le_of_ble_eq_true rfl)) rfl rfl rfl (gl_nil (gq_then (gc_ret (gq_res (fun E S => run_res1 rfl (rv_agg (cs := [_, _, _]) (.head _) Try.underlying27 rfl size27 rfl) E S) ?_)))))
      have hg1 := gcd_one_of hc27
      exact IsRat.fin1 hn0 hd0 (by rw [hg1, Nat.div_one]; exact hr9) (by rw [hg1, Nat.div_one]; exact hc50)
     ·
      refine gc_skip (gq_then (gc_seq (gc_region (mv rfl rfl (mv rfl rfl (mv rfl rfl ?_))))))
      replace hr9 := hr9.mono hh3
      refine gv (ov_build_parts (ps' := [(0, _), (1, _), (2, _)]) (vs := [vB s, v9, v11]) Try.underlying27 info27 rfl (places27 Try.underlying27) ⟨rfl, rfl, rfl, rfl, rfl, rfl, trivial⟩ (by obtain ⟨_, _, e0⟩ := hr9.one; obtain ⟨_, _, e1⟩ := hr11.one; rw [e0, e1]; rfl)) rfl (gl_upd (A := []) (r' := .var b6 27 [vB s, v9, v11]) (upd_store_var (k := 0) (cs := [_, _, _]) (vs := [_, _, _]) rfl rfl rfl (ocr rfl (ocu hr9 (ocu hr11 oc0))) size27 (Nat.le_of_ble_eq_true rfl)) rfl rfl rfl (gl_nil (gq_then (gc_ret (gq_res (fun E S => run_res1 rfl (rv_agg (cs := [_, _, _]) (.head _) Try.underlying27 rfl size27 rfl) E S) ?_)))))
      have hg1 := gcd_one_of hc27
      exact IsRat.fin hn0 hd0 (by rw [hg1, Nat.div_one]; exact hr9) (by rw [hg1, Nat.div_one]; exact hr11) (by rw [hg1, Nat.div_one]; exact hc50)

theorem rref_norm {w0 : World} {h0 : Mem}  (hs : MLe h0 (mem w0)) {sa : Prop} {ba vna vda : Value} {xa ya : List Nat} (hba : ba = vB sa) (hna : Us .u32 h0 vna xa) (hda : Us .u32 h0 vda ya) (hlx : xa.length ≤ 100000000000) (hly : ya.length ≤ 100000000000) :
    Calls Try.prog 26 #[.agg #[ba, vna, vda]] w0 (Ret w0 h0 (fun h r => ∃ u, r = .tuple #[u, vI (if dV ya = 0 then 3 else 0)] ∧ IsRat h u (mkRat (sg sa (val xa)) (dV ya)))) := by
 subst hba
 have hlx1 := limbs_len_le hna.lt
 have hly1 := limbs_len_le hda.lt
 refine calls_begin (n := 23) (e := [(0, .agg #[vB sa, vna, vda])]) (vs := [.agg #[vB sa, vna, vda]]) Try.func26 rfl rfl (Nat.le_of_ble_eq_true rfl) hs ⟨rfl, trivial⟩ (gc_seq (gc_region (gl_newop (new_box (cs := [_, _, _]) rfl rfl) rfl rfl rfl ?_)))
 intro v1 r1 hr1
 obtain ⟨b1, rfl, rfl⟩ := hr1
 refine gl_newop (new_alloc (cs := [vB ((0 : Rat).num < 0), .slice none 0 0, .slice none 0 0]) info27 rfl (by simp only [zb]; rfl)) rfl rfl rfl ?_
 intro v2 r2 hr2
 obtain ⟨b2, rfl, rfl⟩ := hr2
 refine asg (v := vI (0)) rfl rfl (gl_nil (gq_then (gc_seq (gc_seq (gc_region (gv (ov_field_addr Try.underlying27 rfl Try.sizeOf22 rfl) rfl (gv (ov_load_var (.tail _ (.head _)) Try.isAgg22 rfl rfl) rfl (gv (ov_len_us Try.underlying22 rfl hda) rfl (gv (ov_gtr_i (q := 0) rfl rfl) rfl ?_)))))))))
 refine gl_cut (ι := Mem) 7 (fun m_ => MLe h0 m_) (fun _ => [(14, vB (((0 : Int) < (↑(ya).length : Int)) ∧ ((↑(limbs (val (ya))).length : Int) = (0 : Int)))), (1, vP b1 0), (2, vP b2 0)]) (fun _ => [.var b2 27 [vB ((0 : Rat).num < 0), .slice none 0 0, .slice none 0 0], .var b1 27 [vB sa, vna, vda]]) (fun m_ => m_) ?_ ?_
 ·
  refine gl_cases ((0 : Int) < (↑(ya).length : Int)) (fun hg => ?_) (fun hg => ?_)
  ·
   refine gl_val (ov_move (v := .bool true) (congrArg some (vB_true hg))) rfl rfl rfl (gl_on rfl rfl rfl (gv (ov_field_addr Try.underlying27 rfl Try.sizeOf22 rfl) rfl (gl_on rfl rfl rfl (gv (ov_load_var (.tail _ (.head _)) Try.isAgg22 rfl rfl) rfl (gl_on rfl rfl rfl ?_)))))
   refine gl_call (vs := [_]) rfl rfl rfl rfl Try.call81 ⟨rfl, trivial⟩ (fun w hs => ref_trim hs hda (by omega)) ?_
   intro v11 h1 hh1 hr11
   refine gl_on rfl rfl rfl (gv (ov_len_us Try.underlying22 rfl hr11) rfl (gl_on rfl rfl rfl (gv (ov_eql_i (q := 0) rfl rfl) rfl (gv (ov_pick_t rfl rfl) rfl (gl_nil ?_)))))
   refine gq_cut h1 hh1 ⟨?_, rfl, rfl, trivial⟩ rfl rfl
   exact congrArg some (vB_and_t hg)
  ·
   refine gl_val (ov_move (v := .bool false) (congrArg some (vB_false hg))) rfl rfl rfl (gl_off rfl rfl rfl rfl rfl rfl (gl_off rfl rfl rfl rfl rfl rfl (gl_off rfl rfl rfl rfl rfl rfl (gl_off rfl rfl rfl rfl rfl rfl (gl_off rfl rfl rfl rfl rfl rfl (gv (ov_pick_f rfl rfl) rfl (gl_nil ?_)))))))
   refine gq_cut h0 (MLe.refl _) ⟨?_, rfl, rfl, trivial⟩ rfl rfl
   exact congrArg some (vB_and_f hg)
 ·
  intro mg1_4 hmmg1_4
  show GL _ _ _ _ _ _ _ [(14, vB (((0 : Int) < (↑(ya).length : Int)) ∧ ((↑(limbs (val (ya))).length : Int) = (0 : Int)))), (1, vP b1 0), (2, vP b2 0)] [.var b2 27 [vB ((0 : Rat).num < 0), .slice none 0 0, .slice none 0 0], .var b1 27 [vB sa, vna, vda]] mg1_4
  refine gl_nil (gq_then ?_)
  refine gc_cond rfl (fun hc14 => ?_) (fun hc14 => ?_)
  ·
   refine gc_seq (gc_region (gv (ov_build_parts (ps' := []) (vs := [vB ((0 : Rat).num < 0), .slice none 0 0, .slice none 0 0]) Try.underlying27 info27 rfl (places27 Try.underlying27) trivial (by simp only [zb]; rfl)) rfl (gl_upd (A := []) (r' := .var b2 27 [vB ((0 : Rat).num < 0), .slice none 0 0, .slice none 0 0]) (upd_store_var (k := 0) (cs := [_, _, _]) (vs := [_, _, _]) rfl rfl rfl rfl size27 (Nat.le_of_ble_eq_true rfl)) rfl rfl rfl (asg (v := vI (3)) rfl rfl (gl_nil (gq_then (gc_ret (gr_then (gq_res (fun E S => run_res2 rfl (rv_agg (cs := [_, _, _]) (.head _) Try.underlying27 rfl size27 rfl) (rv_tmp rfl) E S) ?_)))))))))
   have e := dV_zero' hc14
   rw [e, if_pos rfl, mk_zero']
   exact ⟨_, rfl, IsRat.zero _⟩
  ·
   have hdv := dV_ne' hc14
   have hvd := val_dL ya
   refine gc_skip (gq_then (gc_seq ?_))
   refine gc_draw 7 _ [] [(0, .q), (1, .q), (2, .q), (3, .q), (4, .q), (5, .c), (6, .c), (7, .t), (8, .t)] mixed (fun x hx => by cases hx) (by kernel_rfl) (fun x hx => by cases hx) (fun r hr => hr) (w_q rfl (fun h' L' hh hR => ov_field_addr Try.underlying27 rfl Try.sizeOf4 rfl) rfl (w_q rfl (fun h' L' hh hR => ov_load_var (hR _ (.tail _ (.head _))) Try.isAgg4 rfl rfl) rfl (w_q rfl (fun h' L' hh hR => ov_field_addr Try.underlying27 rfl Try.sizeOf22 rfl) rfl (w_q rfl (fun h' L' hh hR => ov_load_var (hR _ (.tail _ (.head _))) Try.isAgg22 rfl rfl) rfl (w_q rfl (fun h' L' hh hR => ov_load_agg (vs := [_, _, _]) (hR _ (.tail _ (.head _))) Try.underlying27 rfl size27 rfl rfl) rfl ?_)))))
   refine w_c rfl ?_
   replace hna := hna.mono hmmg1_4
   replace hda := hda.mono hmmg1_4
   refine s_call (vs := [_]) Try.call82 ⟨rfl, trivial⟩ (fun w hs => rref_den hs rfl hna hda) rfl ?_
   intro v21 h1 hh1 hr21
   have hlm21 := dL_len (ya)
   refine w_c rfl ?_
   replace hna := hna.mono hh1
   refine s_call (vs := [_, _, _]) Try.call74 ⟨rfl, rfl, rfl, trivial⟩ (fun w hs => rref_reduce hs hna hr21 (by omega) (by omega) (by omega)) rfl ?_
   intro v22 h2 hh2 hr22
   try simp only [val_limbs] at hr22
   obtain ⟨vn22, vd22, rfl, hn22, hd22⟩ := hr22
   refine w_t_upd (A := []) (q' := .var b2 27 [vB ((mkRat (sg (sa) (val (xa))) (val (if (ya) = [] then [1] else (ya)))).num < 0), vn22, vd22]) rfl (upd_store_var (k := 0) (cs := [_, _, _]) (vs := [_, _, _]) rfl rfl rfl (ocr rfl (ocu hn22 (ocu hd22 oc0))) size27 (Nat.le_of_ble_eq_true rfl)) rfl (w_t_val rfl (ov_assign (v := vI (0)) rfl) rfl (w_nil (gq_then (gc_ret (gq_res (fun E S => run_res2 rfl (rv_agg (cs := [_, _, _]) (.head _) Try.underlying27 rfl size27 rfl) (rv_tmp rfl) E S) ?_)))))
   rw [if_neg hdv]
   rw [val_dL] at hn22 hd22 ⊢
   exact ⟨_, rfl, _, _, rfl, hn22, hd22⟩

theorem made_num {w0 : World} {h0 : Mem}  (hs : MLe h0 (mem w0)) {s : Prop} {vn vd : Value} {xs ys : List Nat} (hn : Us .u32 h0 vn xs) (hd : Us .u32 h0 vd ys) (hl : xs.length ≤ 100000000000) (hl' : ys.length ≤ 100000000000) :
    Calls Try.prog 60 #[vB s, vn, vd] w0 (Ret w0 h0 (fun h r => IsRat h r (numQ s xs ys))) := by
 refine calls_begin (n := 18) (e := [(0, vB s), (1, vn), (2, vd)]) (vs := [vB s, vn, vd]) Try.func60 rfl rfl (Nat.le_of_ble_eq_true rfl) hs ⟨rfl, rfl, rfl, trivial⟩ (gc_seq (gc_region (gl_newop (new_alloc (cs := [vB ((0 : Rat).num < 0), .slice none 0 0, .slice none 0 0]) info27 rfl (by simp only [zb]; rfl)) rfl rfl rfl ?_)))
 intro v6 r6 hr6
 obtain ⟨b6, rfl, rfl⟩ := hr6
 refine gl_nil (gq_then (gc_seq (gc_region (mv rfl rfl (mv rfl rfl (mv rfl rfl (gv (ov_build_parts (ps' := [(0, _), (1, _), (2, _)]) (vs := [vB s, vn, vd]) Try.underlying27 info27 rfl (places27 Try.underlying27) ⟨rfl, rfl, rfl, rfl, rfl, rfl, trivial⟩ (by obtain ⟨_, _, e0⟩ := hn.one; obtain ⟨_, _, e1⟩ := hd.one; rw [e0, e1]; rfl)) rfl ?_)))))))
 refine gl_call (vs := [_]) rfl rfl rfl rfl Try.call26 ⟨rfl, trivial⟩ (fun w hs => rref_norm hs rfl hn hd (by omega) (by omega)) ?_
 intro v14 h1 hh1 hr14
 obtain ⟨_, rfl, vn14, vd14, rfl, hn14, hd14⟩ := hr14
 have hlq14 := lq_norm (s) (xs) (ys)
 refine mv rfl rfl (gv (ov_extract (vs := [_, _]) rfl rfl) rfl (gv (ov_extract (vs := [_, _]) rfl rfl) rfl (gl_newop (new_alloc (cs := [vB ((0 : Rat).num < 0), .slice none 0 0, .slice none 0 0]) info27 rfl (by simp only [zb]; rfl)) rfl rfl rfl ?_)))
 intro v7 r7 hr7
 obtain ⟨b7, rfl, rfl⟩ := hr7
 refine gl_upd (A := []) (r' := .var b7 27 [vB ((mkRat (sg (s) (val (xs))) (dV (ys))).num < 0), vn14, vd14]) (upd_store_var (k := 0) (cs := [_, _, _]) (vs := [_, _, _]) rfl rfl rfl (ocr rfl (ocu hn14 (ocu hd14 oc0))) size27 (Nat.le_of_ble_eq_true rfl)) rfl rfl rfl (asg rfl rfl (gl_nil (gq_keep (e' := [(6, _), (7, _)]) ⟨rfl, rfl, trivial⟩ (gq_then (gc_seq (gc_region (gv (ov_load_agg (vs := [_, _, _]) (.head _) Try.underlying27 rfl size27 rfl rfl) rfl (gl_upd (A := [_]) (r' := .var b6 27 [vB ((mkRat (sg (s) (val (xs))) (dV (ys))).num < 0), vn14, vd14]) (upd_store_var (k := 0) (cs := [_, _, _]) (vs := [_, _, _]) rfl rfl rfl (ocr rfl (ocu hn14 (ocu hd14 oc0))) size27 (Nat.le_of_ble_eq_true rfl)) rfl rfl rfl (gl_nil (gq_then (gc_ret (gq_res (fun E S => run_res1 rfl (rv_agg (cs := [_, _, _]) (.tail _ (.head _)) Try.underlying27 rfl size27 rfl) E S) ?_))))))))))))
 unfold numQ
 exact ⟨_, _, rfl, hn14, hd14⟩

end Go.Proofs.Ytimoeckkdodogaa
