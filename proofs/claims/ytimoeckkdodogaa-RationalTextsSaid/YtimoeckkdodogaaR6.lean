/- Contracts of functions, walked by their text (rat6/b). -/
import Derived.Test.YtimoeckkdodogaaR5
namespace Go.Proofs.Ytimoeckkdodogaa
open Bk Go
set_option linter.unusedVariables false
set_option linter.unusedSimpArgs false
set_option maxRecDepth 10000

theorem rat_valid {w0 : World} {h0 : Mem}  (hs : MLe h0 (mem w0)) {sa : Prop} {ba vna vda : Value} {xa ya : List Nat} (hba : ba = vB sa) (hna : Us .u32 h0 vna xa) (hda : Us .u32 h0 vda ya) (hlx : xa.length ≤ 100000000000) (hly : ya.length ≤ 100000000000) :
    Calls Try.prog 27 #[.agg #[ba, vna, vda]] w0 (Ret w0 h0 (fun _ r => r = vB (validP sa xa ya))) := by
 subst hba
 have hlx1 := limbs_len_le hna.lt
 have hly1 := limbs_len_le hda.lt
 refine calls_begin (n := 52) (e := [(0, .agg #[vB sa, vna, vda])]) (vs := [.agg #[vB sa, vna, vda]]) Try.func27 rfl rfl (Nat.le_of_ble_eq_true rfl) hs ⟨rfl, trivial⟩ (gc_seq (gc_region (gl_newop (new_box (cs := [_, _, _]) rfl rfl) rfl rfl rfl ?_)))
 intro v1 r1 hr1
 obtain ⟨b1, rfl, rfl⟩ := hr1
 refine asg rfl rfl (gl_nil (gq_then (gc_seq (gc_seq (gc_region (gv (ov_field_addr Try.underlying27 rfl Try.sizeOf22 rfl) rfl (gv (ov_load_var (.head _) Try.isAgg22 rfl rfl) rfl ?_)))))))
 refine gl_call (vs := [_]) rfl rfl rfl rfl Try.call83 ⟨rfl, trivial⟩ (fun w hs => nat_valid hs hna) ?_
 intro v5 h1 hh1 hr5
 subst hr5
 refine gv (ov_not rfl) rfl ?_
 refine gl_cut (ι := Mem) 6 (fun m_ => MLe h1 m_) (fun _ => [(12, vB ((¬ (((xa) = [] ∨ ((xa)).getD (((xa)).length - 1) 0 ≠ 0))) ∨ (¬ (((ya) = [] ∨ ((ya)).getD (((ya)).length - 1) 0 ≠ 0))))), (1, vP b1 0)]) (fun _ => [.var b1 27 [vB sa, vna, vda]]) (fun m_ => m_) ?_ ?_
 ·
  refine gl_cases (¬ (((xa) = [] ∨ ((xa)).getD (((xa)).length - 1) 0 ≠ 0))) (fun hg => ?_) (fun hg => ?_)
  ·
   refine gl_val (ov_move (v := .bool true) (congrArg some (vB_true hg))) rfl rfl rfl (gl_off rfl rfl rfl rfl rfl rfl (gl_off rfl rfl rfl rfl rfl rfl (gl_off rfl rfl rfl rfl rfl rfl (gl_off rfl rfl rfl rfl rfl rfl (gv (ov_pick_t rfl rfl) rfl (gl_nil ?_))))))
   refine gq_cut h1 (MLe.refl _) ⟨?_, rfl, trivial⟩ rfl rfl
   exact congrArg some (vB_or_t hg)
  ·
   refine gl_val (ov_move (v := .bool false) (congrArg some (vB_false hg))) rfl rfl rfl (gl_on rfl rfl rfl (gv (ov_field_addr Try.underlying27 rfl Try.sizeOf22 rfl) rfl (gl_on rfl rfl rfl (gv (ov_load_var (.head _) Try.isAgg22 rfl rfl) rfl (gl_on rfl rfl rfl ?_)))))
   replace hda := hda.mono hh1
   refine gl_call (vs := [_]) rfl rfl rfl rfl Try.call83 ⟨rfl, trivial⟩ (fun w hs => nat_valid hs hda) ?_
   intro v10 h2 hh2 hr10
   subst hr10
   refine gl_on rfl rfl rfl (gv (ov_not rfl) rfl (gv (ov_pick_f rfl rfl) rfl (gl_nil ?_)))
   refine gq_cut h2 hh2 ⟨?_, rfl, trivial⟩ rfl rfl
   exact congrArg some (vB_or_f hg)
 ·
  intro mg1_4 hmmg1_4
  show GL _ _ _ _ _ _ _ [(12, vB ((¬ (((xa) = [] ∨ ((xa)).getD (((xa)).length - 1) 0 ≠ 0))) ∨ (¬ (((ya) = [] ∨ ((ya)).getD (((ya)).length - 1) 0 ≠ 0))))), (1, vP b1 0)] [.var b1 27 [vB sa, vna, vda]] mg1_4
  refine gl_cut (ι := Unit) 13 (fun _ => True) (fun _ => [(25, vB (((¬ (((xa) = [] ∨ ((xa)).getD (((xa)).length - 1) 0 ≠ 0))) ∨ (¬ (((ya) = [] ∨ ((ya)).getD (((ya)).length - 1) 0 ≠ 0)))) ∨ (((↑(ya).length : Int) = (1 : Int)) ∧ (((ya).getD (0) 0) = (1 : Nat))))), (1, vP b1 0)]) (fun _ => [.var b1 27 [vB sa, vna, vda]]) (fun _ => mg1_4) ?_ ?_
  ·
   refine gl_cases ((¬ (((xa) = [] ∨ ((xa)).getD (((xa)).length - 1) 0 ≠ 0))) ∨ (¬ (((ya) = [] ∨ ((ya)).getD (((ya)).length - 1) 0 ≠ 0)))) (fun hg => ?_) (fun hg => ?_)
   ·
    refine gl_val (ov_move (v := .bool true) (congrArg some (vB_true hg))) rfl rfl rfl (gl_off rfl rfl rfl rfl rfl rfl (gl_off rfl rfl rfl rfl rfl rfl (gl_off rfl rfl rfl rfl rfl rfl (gl_off rfl rfl rfl rfl rfl rfl (gl_off rfl rfl rfl rfl rfl rfl (gl_offu rfl rfl rfl rfl rfl (gl_offu rfl rfl rfl rfl rfl (gl_offu rfl rfl rfl rfl rfl (gl_offu rfl rfl rfl rfl rfl (gl_offu rfl rfl rfl rfl rfl (gl_off rfl rfl rfl rfl rfl rfl (gv (ov_pick_t rfl rfl) rfl (gl_nil ?_)))))))))))))
    refine gq_cut () trivial ⟨?_, rfl, trivial⟩ rfl rfl
    exact congrArg some (vB_or_t hg)
   ·
    refine gl_val (ov_move (v := .bool false) (congrArg some (vB_false hg))) rfl rfl rfl (gl_on rfl rfl rfl (gv (ov_field_addr Try.underlying27 rfl Try.sizeOf22 rfl) rfl (gl_on rfl rfl rfl (gv (ov_load_var (.head _) Try.isAgg22 rfl rfl) rfl (gl_on rfl rfl rfl ?_)))))
    replace hda := hda.mono (hh1.trans hmmg1_4)
    refine gv (ov_len_us Try.underlying22 rfl hda) rfl (gl_on rfl rfl rfl (gv (ov_eql_i (q := 1) rfl rfl) rfl ?_))
    refine gl_cut (ι := Unit) 7 (fun _ => True) (fun _ => [(24, vB (((↑(ya).length : Int) = (1 : Int)) ∧ (((ya).getD (0) 0) = (1 : Nat)))), (1, vP b1 0), (13, .bool false)]) (fun _ => [.var b1 27 [vB sa, vna, vda]]) (fun _ => mg1_4) ?_ ?_
    ·
     refine gl_cases ((↑(ya).length : Int) = (1 : Int)) (fun hg => ?_) (fun hg => ?_)
     ·
      refine gl_on rfl rfl rfl (gl_val (ov_move (v := .bool true) (congrArg some (vB_true hg))) rfl rfl rfl (gl_on rfl rfl rfl (gv (ov_field_addr Try.underlying27 rfl Try.sizeOf22 rfl) rfl (gl_on rfl rfl rfl (gv (ov_load_var (.head _) Try.isAgg22 rfl rfl) rfl (gl_on rfl rfl rfl (gv (ov_index_us (q := 0) (0) Try.underlying22 Try.sizeOf61 rfl rfl hda rfl (by omega)) rfl (gl_on rfl rfl rfl (gv (ov_load_us Try.isAgg61 rfl hda (by omega)) rfl (gl_on rfl rfl rfl (gv (ov_eql_u (k := .u32) (q := 1) rfl rfl) rfl (gl_on rfl rfl rfl (gv (ov_pick_t rfl rfl) rfl ?_)))))))))))))
      refine gl_nil ?_
      refine gq_cut () trivial ⟨?_, rfl, rfl, trivial⟩ rfl rfl
      exact congrArg some (vB_and_t hg)
     ·
      refine gl_on rfl rfl rfl (gl_val (ov_move (v := .bool false) (congrArg some (vB_false hg))) rfl rfl rfl (gl_off rfl rfl rfl rfl rfl rfl (gl_off rfl rfl rfl rfl rfl rfl (gl_off rfl rfl rfl rfl rfl rfl (gl_off rfl rfl rfl rfl rfl rfl (gl_off rfl rfl rfl rfl rfl rfl (gl_on rfl rfl rfl (gv (ov_pick_f rfl rfl) rfl (gl_nil ?_)))))))))
      refine gq_cut () trivial ⟨?_, rfl, rfl, trivial⟩ rfl rfl
      exact congrArg some (vB_and_f hg)
    ·
     intro _ _
     show GL _ _ _ _ _ _ _ [(24, vB (((↑(ya).length : Int) = (1 : Int)) ∧ (((ya).getD (0) 0) = (1 : Nat)))), (1, vP b1 0), (13, .bool false)] [.var b1 27 [vB sa, vna, vda]] mg1_4
     refine gv (ov_pick_f rfl rfl) rfl (gl_nil ?_)
     refine gq_cut () trivial ⟨?_, rfl, trivial⟩ rfl rfl
     exact congrArg some (vB_or_f hg)
  ·
   intro _ _
   show GL _ _ _ _ _ _ _ [(25, vB (((¬ (((xa) = [] ∨ ((xa)).getD (((xa)).length - 1) 0 ≠ 0))) ∨ (¬ (((ya) = [] ∨ ((ya)).getD (((ya)).length - 1) 0 ≠ 0)))) ∨ (((↑(ya).length : Int) = (1 : Int)) ∧ (((ya).getD (0) 0) = (1 : Nat))))), (1, vP b1 0)] [.var b1 27 [vB sa, vna, vda]] mg1_4
   refine gl_nil (gq_then ?_)
   refine gc_cond rfl (fun hc25 => ?_) (fun hc25 => ?_)
   ·
    refine gc_seq (gc_region (asg rfl rfl (gl_nil (gq_then (gc_ret (gr_then (gq_body1 rfl rfl ?_)))))))
    rw [vB_false (fun h => h.1 hc25)]
   ·
    refine gc_skip (gq_then (gc_seq (gc_seq (gc_region (gv (ov_field_addr Try.underlying27 rfl Try.sizeOf22 rfl) rfl (gv (ov_load_var (.head _) Try.isAgg22 rfl rfl) rfl ?_))))))
    replace hna := hna.mono (hh1.trans hmmg1_4)
    refine gv (ov_len_us Try.underlying22 rfl hna) rfl (gv (ov_eql_i (q := 0) rfl rfl) rfl (gl_nil (gq_then ?_)))
    refine gc_cond rfl (fun hc29 => ?_) (fun hc29 => ?_)
    ·
     refine gc_seq (gc_region (gv (ov_field_addr Try.underlying27 rfl Try.sizeOf4 rfl) rfl (gv (ov_load_var (.head _) Try.isAgg4 rfl rfl) rfl (gv (ov_not rfl) rfl ?_))))
     refine gl_cut (ι := Unit) 6 (fun _ => True) (fun _ => [(38, vB ((¬ (sa)) ∧ ((↑(ya).length : Int) = (0 : Int))))]) (fun _ => [.var b1 27 [vB sa, vna, vda]]) (fun _ => mg1_4) ?_ ?_
     ·
      refine gl_cases (¬ (sa)) (fun hg => ?_) (fun hg => ?_)
      ·
       refine gl_val (ov_move (v := .bool true) (congrArg some (vB_true hg))) rfl rfl rfl (gl_on rfl rfl rfl (gv (ov_field_addr Try.underlying27 rfl Try.sizeOf22 rfl) rfl (gl_on rfl rfl rfl (gv (ov_load_var (.head _) Try.isAgg22 rfl rfl) rfl (gl_on rfl rfl rfl ?_)))))
       replace hda := hda.mono (hh1.trans hmmg1_4)
       refine gv (ov_len_us Try.underlying22 rfl hda) rfl (gl_on rfl rfl rfl (gv (ov_eql_i (q := 0) rfl rfl) rfl (gv (ov_pick_t rfl rfl) rfl (gl_nil ?_))))
       refine gq_cut () trivial ⟨?_, trivial⟩ rfl rfl
       exact congrArg some (vB_and_t hg)
      ·
       refine gl_val (ov_move (v := .bool false) (congrArg some (vB_false hg))) rfl rfl rfl (gl_off rfl rfl rfl rfl rfl rfl (gl_off rfl rfl rfl rfl rfl rfl (gl_off rfl rfl rfl rfl rfl rfl (gl_off rfl rfl rfl rfl rfl rfl (gv (ov_pick_f rfl rfl) rfl (gl_nil ?_))))))
       refine gq_cut () trivial ⟨?_, trivial⟩ rfl rfl
       exact congrArg some (vB_and_f hg)
     ·
      intro _ _
      show GL _ _ _ _ _ _ _ [(38, vB ((¬ (sa)) ∧ ((↑(ya).length : Int) = (0 : Int))))] [.var b1 27 [vB sa, vna, vda]] mg1_4
      refine asg rfl rfl (gl_nil (gq_then (gc_ret (gr_then (gq_body1 rfl rfl ?_)))))
      exact vB_iff (valid_nil hc25 hc29)
    ·
     refine gc_skip (gq_then (gc_seq (gc_region (gv (ov_field_addr Try.underlying27 rfl Try.sizeOf22 rfl) rfl (gv (ov_load_var (.head _) Try.isAgg22 rfl rfl) rfl ?_)))))
     replace hda := hda.mono (hh1.trans hmmg1_4)
     refine gv (ov_len_us Try.underlying22 rfl hda) rfl (gv (ov_eql_i (q := 0) rfl rfl) rfl ?_)
     refine gl_cut (ι := Mem) 9 (fun m_ => MLe mg1_4 m_) (fun _ => [(51, vB (((↑(ya).length : Int) = (0 : Int)) ∨ ((↑(bitsN (((Nat.gcd (val (xa)) (val (ya)))))) : Int) = (1 : Int))))]) (fun _ => [.var b1 27 [vB sa, vna, vda]]) (fun m_ => m_) ?_ ?_
     ·
      refine gl_cases ((↑(ya).length : Int) = (0 : Int)) (fun hg => ?_) (fun hg => ?_)
      ·
       refine gl_val (ov_move (v := .bool true) (congrArg some (vB_true hg))) rfl rfl rfl (gl_off rfl rfl rfl rfl rfl rfl (gl_off rfl rfl rfl rfl rfl rfl (gl_off rfl rfl rfl rfl rfl rfl (gl_off rfl rfl rfl rfl rfl rfl (gl_off rfl rfl rfl rfl rfl rfl (gl_off rfl rfl rfl rfl rfl rfl (gl_off rfl rfl rfl rfl rfl rfl (gv (ov_pick_t rfl rfl) rfl (gl_nil ?_)))))))))
       refine gq_cut mg1_4 (MLe.refl _) ⟨?_, trivial⟩ rfl rfl
       exact congrArg some (vB_or_t hg)
      ·
       refine gl_val (ov_move (v := .bool false) (congrArg some (vB_false hg))) rfl rfl rfl (gl_on rfl rfl rfl (gv (ov_field_addr Try.underlying27 rfl Try.sizeOf22 rfl) rfl (gl_on rfl rfl rfl (gv (ov_load_var (.head _) Try.isAgg22 rfl rfl) rfl (gl_on rfl rfl rfl (gv (ov_field_addr Try.underlying27 rfl Try.sizeOf22 rfl) rfl (gl_on rfl rfl rfl (gv (ov_load_var (.head _) Try.isAgg22 rfl rfl) rfl (gl_on rfl rfl rfl ?_)))))))))
       refine gl_call (vs := [_, _]) rfl rfl rfl rfl Try.call84 ⟨rfl, rfl, trivial⟩ (fun w hs => nat_gcd hs hna hda (by omega) (by omega)) ?_
       intro v48 h2 hh2 hr48
       try simp only [val_limbs] at hr48
       have hlm48 := limbs_len_gcd (val (xa)) (val (ya))
       refine gl_on rfl rfl rfl ?_
       refine gl_call (vs := [_]) rfl rfl rfl rfl Try.call64 ⟨rfl, trivial⟩ (fun w hs => nat_bits hs hr48 (by omega)) ?_
       intro v49 h3 hh3 hr49
       try simp only [val_limbs] at hr49
       subst hr49
       refine gl_on rfl rfl rfl (gv (ov_eql_i (q := 1) rfl rfl) rfl (gv (ov_pick_f rfl rfl) rfl (gl_nil ?_)))
       refine gq_cut h3 (hh2.trans hh3) ⟨?_, trivial⟩ rfl rfl
       exact congrArg some (vB_or_f hg)
     ·
      intro mg5_4 hmmg5_4
      show GL _ _ _ _ _ _ _ [(51, vB (((↑(ya).length : Int) = (0 : Int)) ∨ ((↑(bitsN (((Nat.gcd (val (xa)) (val (ya)))))) : Int) = (1 : Int))))] [.var b1 27 [vB sa, vna, vda]] mg5_4
      refine asg rfl rfl (gl_nil (gq_then (gc_ret (gq_body1 rfl rfl ?_))))
      exact vB_iff (valid_cons hc25 hc29)

theorem rref_den {w0 : World} {h0 : Mem}  (hs : MLe h0 (mem w0)) {sa : Prop} {ba vna vda : Value} {xa ya : List Nat} (hba : ba = vB sa) (hna : Us .u32 h0 vna xa) (hda : Us .u32 h0 vda ya) :
    Calls Try.prog 82 #[.agg #[ba, vna, vda]] w0 (Ret w0 h0 (fun h r => Us .u32 h r (if ya = [] then [1] else ya))) := by
 subst hba
 have hlx1 := limbs_len_le hna.lt
 have hly1 := limbs_len_le hda.lt
 refine calls_begin (n := 10) (e := [(0, .agg #[vB sa, vna, vda])]) (vs := [.agg #[vB sa, vna, vda]]) Try.func82 rfl rfl (Nat.le_of_ble_eq_true rfl) hs ⟨rfl, trivial⟩ (gc_seq (gc_region (gl_newop (new_box (cs := [_, _, _]) rfl rfl) rfl rfl rfl ?_)))
 intro v1 r1 hr1
 obtain ⟨b1, rfl, rfl⟩ := hr1
 refine asg rfl rfl (gl_nil (gq_then (gc_seq (gc_seq (gc_region (gv (ov_field_addr Try.underlying27 rfl Try.sizeOf22 rfl) rfl (gv (ov_load_var (.head _) Try.isAgg22 rfl rfl) rfl (gv (ov_len_us Try.underlying22 rfl hda) rfl (gv (ov_eql_i (q := 0) rfl rfl) rfl (gl_nil (gq_then ?_)))))))))))
 refine gc_cond rfl (fun hc6 => ?_) (fun hc6 => ?_)
 ·
  refine gc_seq (gc_region (gl_newop (new_build1 (kd := .u32) (p := 1) Try.underlying22 info61 rfl rfl rfl) rfl rfl rfl ?_))
  intro v7 r7 hr7
  obtain rfl := hr7
  refine gl_freeze_us0 (by intro z hz; simp only [List.mem_singleton] at hz; subst hz; decide) ?_
  intro h1 hh1 h9
  refine asg rfl rfl (gl_nil (gq_then (gc_ret (gr_then (gq_body1 rfl rfl ?_)))))
  rw [if_pos (len_zero.1 hc6)]
  exact h9
 ·
  refine gc_skip (gq_then (gc_seq (gc_region (gv (ov_field_addr Try.underlying27 rfl Try.sizeOf22 rfl) rfl (gv (ov_load_var (.head _) Try.isAgg22 rfl rfl) rfl (asg rfl rfl (gl_nil (gq_then (gc_ret (gq_body1 rfl rfl ?_))))))))))
  rw [if_neg (fun h => hc6 (len_zero.2 h))]
  exact hda

end Go.Proofs.Ytimoeckkdodogaa
