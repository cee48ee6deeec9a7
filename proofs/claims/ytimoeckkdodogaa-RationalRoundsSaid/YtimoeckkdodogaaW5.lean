/- Contracts of functions, walked by their text (nat5/b). -/
import Derived.Test.YtimoeckkdodogaaW4
namespace Go.Proofs.Ytimoeckkdodogaa
open Bk Go
set_option linter.unusedVariables false
set_option linter.unusedSimpArgs false
set_option maxRecDepth 10000

theorem ref_trim {w0 : World} {h0 : Mem}  (hs : MLe h0 (mem w0)) {v : Value} {xs : List Nat} (hv : Us .u32 h0 v xs) (hl : xs.length ≤ 17592186044416) :
    Calls Try.prog 81 #[v] w0 (Ret w0 h0 (fun h r => Us .u32 h r (limbs (val xs)))) := by
 refine calls_begin (n := 23) (e := [(0, v)]) (vs := [v]) Try.func81 rfl rfl (Nat.le_of_ble_eq_true rfl) hs ⟨rfl, trivial⟩ (gc_seq (gc_region (asg rfl rfl (gl_nil (gq_then (gc_seq (gc_region (mv rfl rfl (gv (ov_len_us Try.underlying22 rfl hv) rfl (asg rfl rfl (gl_nil (gq_then (gc_seq ?_)))))))))))))
 refine gc_block ?_
 refine gc_loop (ι := Nat) (fun (k : (Nat)) => k ≤ xs.length ∧ ∀ i, k ≤ i → xs.getD i 0 = 0) (fun (k : (Nat)) => [(0, v), (3, vI ↑k)]) (fun (k : (Nat)) => []) (fun (k : (Nat)) => h0) (fun (k : (Nat)) => k) xs.length ?_ ⟨rfl, rfl, trivial⟩ rfl rfl ?_
 ·
  exact ⟨Nat.le_refl _, fun i hi => by rw [List.getD_eq_getElem?_getD, List.getElem?_eq_none hi]; rfl⟩
 ·
  intro k hx
  obtain ⟨hk, hz⟩ := hx
  show GC _ _ _ _ _ _ [(0, v), (3, vI ↑k)] [] h0
  refine gc_seq (gc_seq (gc_region (mv rfl rfl (gv (ov_gtr_i (q := 0) rfl rfl) rfl ?_))))
  refine gl_cut (ι := Unit) 8 (fun _ => True) (fun _ => [(15, vB (((0 : Int) < ↑k) ∧ (xs.getD (k - 1) 0 = 0))), (0, v), (3, vI ↑k)]) (fun _ => []) (fun _ => h0) ?_ ?_
  ·
   refine gl_cases ((0 : Int) < ↑k) (fun hg => ?_) (fun hg => ?_)
   ·
    refine gl_val (ov_move (v := .bool true) (congrArg some (vB_true hg))) rfl rfl rfl (gl_on rfl rfl rfl (mv rfl rfl (gl_on rfl rfl rfl (mv rfl rfl (gl_on rfl rfl rfl (gv (ov_sub_i (q := 1) rfl rfl (by omega) (by omega)) rfl (gl_on rfl rfl rfl (gv (ov_index_us (k - 1) Try.underlying22 Try.sizeOf61 rfl rfl hv (by omega) (by omega)) rfl (gl_on rfl rfl rfl (gv (ov_load_us Try.isAgg61 rfl hv (by omega)) rfl (gl_on rfl rfl rfl (gv (ov_eql_u (k := .u32) (q := 0) rfl rfl) rfl (gv (ov_pick_t rfl rfl) rfl ?_)))))))))))))
    refine gl_nil ?_
    refine gq_cut () trivial ⟨?_, rfl, rfl, trivial⟩ rfl rfl
    exact congrArg some (vB_and_t hg)
   ·
    refine gl_val (ov_move (v := .bool false) (congrArg some (vB_false hg))) rfl rfl rfl (gl_off rfl rfl rfl rfl rfl rfl (gl_off rfl rfl rfl rfl rfl rfl (gl_off rfl rfl rfl rfl rfl rfl (gl_off rfl rfl rfl rfl rfl rfl (gl_off rfl rfl rfl rfl rfl rfl (gl_off rfl rfl rfl rfl rfl rfl (gv (ov_pick_f rfl rfl) rfl (gl_nil ?_))))))))
    refine gq_cut () trivial ⟨?_, rfl, rfl, trivial⟩ rfl rfl
    exact congrArg some (vB_and_f hg)
  ·
   intro _ _
   show GL _ _ _ _ _ _ _ [(15, vB (((0 : Int) < ↑k) ∧ (xs.getD (k - 1) 0 = 0))), (0, v), (3, vI ↑k)] [] h0
   refine gl_nil (gq_then ?_)
   refine gc_cond rfl (fun hc15 => ?_) (fun hc15 => ?_)
   ·
    refine gc_skip (gq_then (gc_block (gc_region (mv rfl rfl (gv (ov_sub_i (q := 1) rfl rfl (by omega) (by omega)) rfl (asg rfl rfl (gl_nil (gq_in ?_))))))))
    refine gq_round (k - 1) ?_ ?_ ⟨?_, ?_, trivial⟩ ?_ rfl
    ·
     exact ⟨by omega, fun i hi => by
       by_cases e : i = k - 1
       · rw [e]; exact hc15.2
       · exact hz i (by omega)⟩
    ·
     have := hc15.1; omega
    · exact rfl
    · exact congrArg some (congrArg vI (by have := hc15.1; omega))
    · exact rfl
   ·
    refine gc_exit (gx_then (gx_then (gx_here (gq_then (gc_seq (gc_region (gl_newop (new_build0 (kd := .u32) Try.underlying22 info61 rfl rfl) rfl rfl rfl ?_)))))))
    intro v18 r18 hr18
    obtain rfl := hr18
    refine mv rfl rfl (mv rfl rfl (gv (ov_slice_h _ Try.underlying22 Try.sizeOf61 rfl rfl hv.shape rfl (by omega)) rfl ?_))
    have hsl21 := hv.sub (lo := 0) (hi := _) (by omega) (by omega)
    refine gl_repop (A := []) (rep_append_us (kd := .u32) (bytes := 4) Try.underlying22 info61 rfl rfl rfl rfl rfl hsl21 (by simp; omega) (by simp; omega)) rfl rfl rfl ?_
    intro v22 r22 hr22
    obtain rfl := hr22
    rw [List.nil_append, List.drop_zero, Nat.sub_zero]
    refine gl_freeze_us0 (by exact fit_take hv.lt k) ?_
    intro h1 hh1 ho
    refine asg rfl rfl (gl_nil (gq_then (gc_ret (gq_body1 rfl rfl ?_))))
    replace hv := hv.mono hh1
    have e : xs.take k = limbs (val xs) := trim_spec hv.lt hk hz (by
      by_cases h0 : k = 0
      · exact .inl h0
      · exact .inr fun h1 => hc15 ⟨by omega, h1⟩)
    rw [← e]
    exact ho

end Go.Proofs.Ytimoeckkdodogaa
