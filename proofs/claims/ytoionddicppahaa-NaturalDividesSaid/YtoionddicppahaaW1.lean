/- Contracts of functions, walked by their text (natural). -/
import Derived.Test.YtoionddicppahaaFacts
import Derived.Test.YtoionddicppahaaNat
namespace Go.Proofs.Ytoionddicppahaa
open Bk Go
set_option linter.unusedVariables false
set_option linter.unusedSimpArgs false

theorem nat_trim {w0 : World} {h0 : Mem}  (hs : MLe h0 (mem w0)) {v : Value} {xs : List Nat} (hv : Us .u32 h0 v xs) :
    Calls Try.prog 40 #[v] w0 (Ret w0 h0 (fun h r => r = subSl 1 v 0 (limbs (val xs)).length ∧ Us .u32 h r (limbs (val xs)))) := by
  have hlen := hv.lt63
  refine calls_begin (n := 21) (e := [(0, v)]) (vs := [v]) Try.func40 rfl rfl (Nat.le_of_ble_eq_true rfl) hs ⟨rfl, trivial⟩ ?_
  refine gc_seq ?_
  refine gc_region ?_  -- region 0 (line 12)
  refine gl_val (ov_assign rfl) rfl rfl rfl ?_
  refine gl_nil ?_
  refine gq_keep (e' := [(0, _)]) ⟨rfl, trivial⟩ ?_
  refine gq_then ?_
  refine gc_seq ?_
  refine gc_region ?_  -- region 1 (line 13)
  refine gl_val (ov_move rfl) rfl rfl rfl ?_
  refine gl_val (ov_len_us Try.underlying22 rfl hv) rfl rfl rfl ?_
  refine gl_val (ov_assign rfl) rfl rfl rfl ?_
  refine gl_nil ?_
  refine gq_keep (e' := [(0, _), (3, _)]) ⟨rfl, rfl, trivial⟩ ?_
  refine gq_then ?_
  refine gc_seq ?_
  refine gc_block ?_
  refine gc_loop (ι := Nat) (fun (k : (Nat)) => k ≤ xs.length ∧ ∀ i, k ≤ i → xs.getD i 0 = 0) (fun (k : (Nat)) => [(0, v), (3, vI ↑k)]) (fun (k : (Nat)) => []) (fun (k : (Nat)) => h0) (fun (k : (Nat)) => k) xs.length ?_ ⟨rfl, rfl, trivial⟩ rfl rfl ?_
  · skip
    exact ⟨Nat.le_refl _, fun i hi => by rw [List.getD_eq_getElem?_getD, List.getElem?_eq_none hi]; rfl⟩
  · skip
    intro k hx
    obtain ⟨hk, hz⟩ := hx
    show GC _ _ _ _ _ _ [(0, v), (3, vI ↑k)] [] h0
    refine gc_seq ?_
    refine gc_seq ?_
    refine gc_region ?_  -- region 2 (line 14)
    refine gl_val (ov_move rfl) rfl rfl rfl ?_
    refine gl_val (ov_gtr_i (q := 0) rfl rfl) rfl rfl rfl ?_
    refine gl_cut (ι := Unit) 8 (fun _ => True) (fun _ => [(15, vB (((0 : Int) < ↑k) ∧ (xs.getD (k - 1) 0 = 0))), (0, v), (3, vI ↑k)]) (fun _ => []) (fun _ => h0) ?_ ?_
    · skip
      refine gl_cases ((0 : Int) < ↑k) (fun hg => ?_) (fun hg => ?_)
      · skip
        refine gl_val (ov_move (v := .bool true) (congrArg some (vB_true hg))) rfl rfl rfl ?_
        refine gl_on rfl rfl rfl ?_
        refine gl_val (ov_move rfl) rfl rfl rfl ?_
        refine gl_on rfl rfl rfl ?_
        refine gl_val (ov_move rfl) rfl rfl rfl ?_
        refine gl_on rfl rfl rfl ?_
        refine gl_val (ov_sub_i (q := 1) rfl rfl (by omega) (by omega)) rfl rfl rfl ?_
        refine gl_on rfl rfl rfl ?_
        refine gl_val (ov_index_us (k - 1) Try.underlying22 Try.sizeOf45 rfl rfl hv (by omega) (by omega)) rfl rfl rfl ?_
        refine gl_on rfl rfl rfl ?_
        refine gl_val (ov_load_us Try.isAgg45 rfl hv (by omega)) rfl rfl rfl ?_
        refine gl_on rfl rfl rfl ?_
        refine gl_val (ov_eql_u (k := .u32) (q := 0) rfl rfl) rfl rfl rfl ?_
        refine gl_val (ov_pick_t rfl rfl) rfl rfl rfl ?_
        refine gl_nil ?_
        refine gq_cut () trivial ⟨?_, rfl, rfl, trivial⟩ rfl rfl
        exact congrArg some (vB_and_t hg)
      · skip
        refine gl_val (ov_move (v := .bool false) (congrArg some (vB_false hg))) rfl rfl rfl ?_
        refine gl_off rfl rfl rfl rfl rfl rfl ?_
        refine gl_off rfl rfl rfl rfl rfl rfl ?_
        refine gl_off rfl rfl rfl rfl rfl rfl ?_
        refine gl_off rfl rfl rfl rfl rfl rfl ?_
        refine gl_off rfl rfl rfl rfl rfl rfl ?_
        refine gl_off rfl rfl rfl rfl rfl rfl ?_
        refine gl_val (ov_pick_f rfl rfl) rfl rfl rfl ?_
        refine gl_nil ?_
        refine gq_cut () trivial ⟨?_, rfl, rfl, trivial⟩ rfl rfl
        exact congrArg some (vB_and_f hg)
    · skip
      intro _ _
      show GL _ _ _ _ _ _ _ [(15, vB (((0 : Int) < ↑k) ∧ (xs.getD (k - 1) 0 = 0))), (0, v), (3, vI ↑k)] [] h0
      refine gl_nil ?_
      refine gq_then ?_
      refine gc_cond rfl (fun hc15 => ?_) (fun hc15 => ?_)
      · skip
        refine gc_keep (e' := [(0, _), (3, _)]) ⟨rfl, rfl, trivial⟩ ?_
        refine gc_skip ?_
        refine gq_then ?_
        refine gc_block ?_
        refine gc_region ?_  -- region 3 (line 15)
        refine gl_val (ov_move rfl) rfl rfl rfl ?_
        refine gl_val (ov_sub_i (q := 1) rfl rfl (by omega) (by omega)) rfl rfl rfl ?_
        refine gl_val (ov_assign rfl) rfl rfl rfl ?_
        refine gl_nil ?_
        refine gq_in ?_
        refine gq_round (k - 1) ?_ ?_ ⟨?_, ?_, trivial⟩ ?_ rfl
        · skip
          exact ⟨by omega, fun i hi => by
            by_cases e : i = k - 1
            · rw [e]; exact hc15.2
            · exact hz i (by omega)⟩
        · skip
          have := hc15.1; omega
        · exact rfl
        · exact congrArg some (congrArg vI (by have := hc15.1; omega))
        · exact rfl
      · skip
        refine gc_keep (e' := [(0, _), (3, _)]) ⟨rfl, rfl, trivial⟩ ?_
        refine gc_exit ?_
        refine gx_then ?_
        refine gx_then ?_
        refine gx_here ?_
        refine gq_then ?_
        refine gc_seq ?_
        refine gc_region ?_  -- region 4 (line 17)
        refine gl_val (ov_move rfl) rfl rfl rfl ?_
        refine gl_val (ov_move rfl) rfl rfl rfl ?_
        refine gl_val (ov_slice_h _ Try.underlying22 Try.sizeOf45 rfl rfl hv.shape rfl (by omega)) rfl rfl rfl ?_
        have hsl20 := hv.sub (lo := 0) (hi := _) (by omega) (by omega)
        refine gl_val (ov_assign rfl) rfl rfl rfl ?_
        refine gl_nil ?_
        refine gq_keep (e' := [(2, _)]) ⟨rfl, trivial⟩ ?_
        refine gq_then ?_
        refine gc_ret ?_
        refine gq_body1 rfl rfl ?_
        have e : (xs.drop 0).take (k - 0) = limbs (val xs) := trim_spec hv.lt hk hz (by
          by_cases h0 : k = 0
          · exact .inl h0
          · exact .inr fun h1 => hc15 ⟨by omega, h1⟩)
        rw [e] at hsl20
        have e2 : (limbs (val xs)).length = k := by
          rw [← e, List.length_take, List.length_drop]; omega
        refine ⟨?_, hsl20⟩
        rw [e2]

theorem nat_valid {w0 : World} {h0 : Mem}  (hs : MLe h0 (mem w0)) {v : Value} {xs : List Nat} (hv : Us .u32 h0 v xs) :
    Calls Try.prog 14 #[v] w0 (Ret w0 h0 (fun _ r => r = vB (xs = [] ∨ xs.getD (xs.length - 1) 0 ≠ 0))) := by
  have hlen := hv.lt63
  refine calls_begin (n := 15) (e := [(0, v)]) (vs := [v]) Try.func14 rfl rfl (Nat.le_of_ble_eq_true rfl) hs ⟨rfl, trivial⟩ ?_
  refine gc_seq ?_
  refine gc_region ?_  -- region 0 (line 21)
  refine gl_val (ov_assign rfl) rfl rfl rfl ?_
  refine gl_nil ?_
  refine gq_keep (e' := [(0, _)]) ⟨rfl, trivial⟩ ?_
  refine gq_then ?_
  refine gc_seq ?_
  refine gc_region ?_  -- region 1 (line 21)
  refine gl_val (ov_move rfl) rfl rfl rfl ?_
  refine gl_val (ov_len_us Try.underlying22 rfl hv) rfl rfl rfl ?_
  refine gl_val (ov_eql_i (q := 0) rfl rfl) rfl rfl rfl ?_
  refine gl_cut (ι := Unit) 9 (fun _ => True) (fun _ => [(14, vB (((↑xs.length : Int) = 0) ∨ (xs.getD (xs.length - 1) 0 ≠ 0)))]) (fun _ => []) (fun _ => h0) ?_ ?_
  · skip
    refine gl_cases ((↑xs.length : Int) = 0) (fun hg => ?_) (fun hg => ?_)
    · skip
      refine gl_val (ov_move (v := .bool true) (congrArg some (vB_true hg))) rfl rfl rfl ?_
      refine gl_off rfl rfl rfl rfl rfl rfl ?_
      refine gl_off rfl rfl rfl rfl rfl rfl ?_
      refine gl_off rfl rfl rfl rfl rfl rfl ?_
      refine gl_off rfl rfl rfl rfl rfl rfl ?_
      refine gl_off rfl rfl rfl rfl rfl rfl ?_
      refine gl_off rfl rfl rfl rfl rfl rfl ?_
      refine gl_off rfl rfl rfl rfl rfl rfl ?_
      refine gl_val (ov_pick_t rfl rfl) rfl rfl rfl ?_
      refine gl_nil ?_
      refine gq_cut () trivial ⟨?_, trivial⟩ rfl rfl
      exact congrArg some (vB_or_t hg)
    · skip
      have hpos : 0 < xs.length := by omega
      refine gl_val (ov_move (v := .bool false) (congrArg some (vB_false hg))) rfl rfl rfl ?_
      refine gl_on rfl rfl rfl ?_
      refine gl_val (ov_move rfl) rfl rfl rfl ?_
      refine gl_on rfl rfl rfl ?_
      refine gl_val (ov_move rfl) rfl rfl rfl ?_
      refine gl_on rfl rfl rfl ?_
      refine gl_val (ov_len_us Try.underlying22 rfl hv) rfl rfl rfl ?_
      refine gl_on rfl rfl rfl ?_
      refine gl_val (ov_sub_i (q := 1) rfl rfl (by omega) (by omega)) rfl rfl rfl ?_
      refine gl_on rfl rfl rfl ?_
      refine gl_val (ov_index_us (xs.length - 1) Try.underlying22 Try.sizeOf45 rfl rfl hv (by omega) (by omega)) rfl rfl rfl ?_
      refine gl_on rfl rfl rfl ?_
      refine gl_val (ov_load_us Try.isAgg45 rfl hv (by omega)) rfl rfl rfl ?_
      refine gl_on rfl rfl rfl ?_
      refine gl_val (ov_neq_u (k := .u32) (q := 0) rfl rfl) rfl rfl rfl ?_
      refine gl_val (ov_pick_f rfl rfl) rfl rfl rfl ?_
      refine gl_nil ?_
      refine gq_cut () trivial ⟨?_, trivial⟩ rfl rfl
      exact congrArg some (vB_or_f hg)
  · skip
    intro _ _
    show GL _ _ _ _ _ _ _ [(14, vB (((↑xs.length : Int) = 0) ∨ (xs.getD (xs.length - 1) 0 ≠ 0)))] [] h0
    refine gl_val (ov_assign rfl) rfl rfl rfl ?_
    refine gl_nil ?_
    refine gq_keep (e' := [(2, _)]) ⟨rfl, trivial⟩ ?_
    refine gq_then ?_
    refine gc_ret ?_
    refine gq_body1 rfl rfl ?_
    exact vB_iff ⟨fun h => h.imp (fun h => List.eq_nil_of_length_eq_zero (by omega)) id, fun h => h.imp (fun h => by rw [h]; rfl) id⟩

theorem ref_valid {w0 : World} {h0 : Mem}  (hs : MLe h0 (mem w0)) {v : Value} {xs : List Nat} (hv : Us .u32 h0 v xs) :
    Calls Try.prog 15 #[v] w0 (Ret w0 h0 (fun _ r => r = vB (xs = [] ∨ xs.getD (xs.length - 1) 0 ≠ 0))) := by
  have hlen := hv.lt63
  refine calls_begin (n := 15) (e := [(0, v)]) (vs := [v]) Try.func15 rfl rfl (Nat.le_of_ble_eq_true rfl) hs ⟨rfl, trivial⟩ ?_
  refine gc_seq ?_
  refine gc_region ?_  -- region 0 (line 7)
  refine gl_val (ov_assign rfl) rfl rfl rfl ?_
  refine gl_nil ?_
  refine gq_keep (e' := [(0, _)]) ⟨rfl, trivial⟩ ?_
  refine gq_then ?_
  refine gc_seq ?_
  refine gc_region ?_  -- region 1 (line 7)
  refine gl_val (ov_move rfl) rfl rfl rfl ?_
  refine gl_val (ov_len_us Try.underlying22 rfl hv) rfl rfl rfl ?_
  refine gl_val (ov_eql_i (q := 0) rfl rfl) rfl rfl rfl ?_
  refine gl_cut (ι := Unit) 9 (fun _ => True) (fun _ => [(14, vB (((↑xs.length : Int) = 0) ∨ (xs.getD (xs.length - 1) 0 ≠ 0)))]) (fun _ => []) (fun _ => h0) ?_ ?_
  · skip
    refine gl_cases ((↑xs.length : Int) = 0) (fun hg => ?_) (fun hg => ?_)
    · skip
      refine gl_val (ov_move (v := .bool true) (congrArg some (vB_true hg))) rfl rfl rfl ?_
      refine gl_off rfl rfl rfl rfl rfl rfl ?_
      refine gl_off rfl rfl rfl rfl rfl rfl ?_
      refine gl_off rfl rfl rfl rfl rfl rfl ?_
      refine gl_off rfl rfl rfl rfl rfl rfl ?_
      refine gl_off rfl rfl rfl rfl rfl rfl ?_
      refine gl_off rfl rfl rfl rfl rfl rfl ?_
      refine gl_off rfl rfl rfl rfl rfl rfl ?_
      refine gl_val (ov_pick_t rfl rfl) rfl rfl rfl ?_
      refine gl_nil ?_
      refine gq_cut () trivial ⟨?_, trivial⟩ rfl rfl
      exact congrArg some (vB_or_t hg)
    · skip
      have hpos : 0 < xs.length := by omega
      refine gl_val (ov_move (v := .bool false) (congrArg some (vB_false hg))) rfl rfl rfl ?_
      refine gl_on rfl rfl rfl ?_
      refine gl_val (ov_move rfl) rfl rfl rfl ?_
      refine gl_on rfl rfl rfl ?_
      refine gl_val (ov_move rfl) rfl rfl rfl ?_
      refine gl_on rfl rfl rfl ?_
      refine gl_val (ov_len_us Try.underlying22 rfl hv) rfl rfl rfl ?_
      refine gl_on rfl rfl rfl ?_
      refine gl_val (ov_sub_i (q := 1) rfl rfl (by omega) (by omega)) rfl rfl rfl ?_
      refine gl_on rfl rfl rfl ?_
      refine gl_val (ov_index_us (xs.length - 1) Try.underlying22 Try.sizeOf45 rfl rfl hv (by omega) (by omega)) rfl rfl rfl ?_
      refine gl_on rfl rfl rfl ?_
      refine gl_val (ov_load_us Try.isAgg45 rfl hv (by omega)) rfl rfl rfl ?_
      refine gl_on rfl rfl rfl ?_
      refine gl_val (ov_neq_u (k := .u32) (q := 0) rfl rfl) rfl rfl rfl ?_
      refine gl_val (ov_pick_f rfl rfl) rfl rfl rfl ?_
      refine gl_nil ?_
      refine gq_cut () trivial ⟨?_, trivial⟩ rfl rfl
      exact congrArg some (vB_or_f hg)
  · skip
    intro _ _
    show GL _ _ _ _ _ _ _ [(14, vB (((↑xs.length : Int) = 0) ∨ (xs.getD (xs.length - 1) 0 ≠ 0)))] [] h0
    refine gl_val (ov_assign rfl) rfl rfl rfl ?_
    refine gl_nil ?_
    refine gq_keep (e' := [(2, _)]) ⟨rfl, trivial⟩ ?_
    refine gq_then ?_
    refine gc_ret ?_
    refine gq_body1 rfl rfl ?_
    exact vB_iff ⟨fun h => h.imp (fun h => List.eq_nil_of_length_eq_zero (by omega)) id, fun h => h.imp (fun h => by rw [h]; rfl) id⟩

theorem nat_of {w0 : World} {h0 : Mem}  (hs : MLe h0 (mem w0)) {n : Nat} (hn : n < 18446744073709551616) :
    Calls Try.prog 21 #[vU .u64 n] w0 (Ret w0 h0 (fun h r => Us .u32 h r (limbs n))) := by
  refine calls_begin (n := 10) (e := [(0, vU .u64 n)]) (vs := [vU .u64 n]) Try.func21 rfl rfl (Nat.le_of_ble_eq_true rfl) hs ⟨rfl, trivial⟩ ?_
  refine gc_seq ?_
  refine gc_region ?_  -- region 0 (line 24)
  refine gl_val (ov_assign rfl) rfl rfl rfl ?_
  refine gl_nil ?_
  refine gq_keep (e' := [(0, _)]) ⟨rfl, trivial⟩ ?_
  refine gq_then ?_
  refine gc_seq ?_
  refine gc_region ?_  -- region 1 (line 24)
  refine gl_val (ov_move rfl) rfl rfl rfl ?_
  refine gl_val (ov_conv_uu (k := .u64) (k' := .u32) (W := 4294967296) Try.underlying23 Try.underlying45 rfl rfl rfl) rfl rfl rfl ?_
  refine gl_val (ov_move rfl) rfl rfl rfl ?_
  refine gl_val (ov_shr_u (k := .u64) (s := 32) (yk := .u64) rfl rfl rfl (by simp only [ub]; omega)) rfl rfl rfl ?_
  refine gl_val (ov_conv_uu (k := .u64) (k' := .u32) (W := 4294967296) Try.underlying23 Try.underlying45 rfl rfl rfl) rfl rfl rfl ?_
  refine gl_newop (new_build2 (kd := .u32) Try.underlying22 info45 rfl rfl rfl rfl) rfl rfl rfl ?_
  intro v8 r8 hr8
  obtain rfl := hr8
  refine gl_freeze_us0 (by intro x hx; simp only [List.mem_cons, List.not_mem_nil, or_false] at hx; simp only [ub]; omega) ?_
  intro h1 hh1 hb
  refine gl_call (vs := [_]) rfl rfl rfl rfl Try.call40 ⟨rfl, trivial⟩ (fun w hs => nat_trim hs hb) ?_
  intro v9 h2 hh2 hr9
  replace hb := hb.mono hh2
  replace hr9 := hr9.2
  refine gl_val (ov_assign rfl) rfl rfl rfl ?_
  refine gl_nil ?_
  refine gq_keep (e' := [(2, _)]) ⟨rfl, trivial⟩ ?_
  refine gq_then ?_
  refine gc_ret ?_
  refine gq_body1 rfl rfl ?_
  have e : val [n % 4294967296, n / 2 ^ 32 % 4294967296] = n := by simp only [val]; omega
  rw [e] at hr9
  exact hr9

theorem nat_cmp {w0 : World} {h0 : Mem}  (hs : MLe h0 (mem w0)) {v v' : Value} {xs ys : List Nat} (hv : Us .u32 h0 v xs) (hv' : Us .u32 h0 v' ys) :
    Calls Try.prog 16 #[v, v'] w0 (Ret w0 h0 (fun _ r => r = vI (cmpN (val xs) (val ys)))) := by
  refine calls_begin (n := 45) (e := [(0, v), (1, v')]) (vs := [v, v']) Try.func16 rfl rfl (Nat.le_of_ble_eq_true rfl) hs ⟨rfl, rfl, trivial⟩ ?_
  refine gc_seq ?_
  refine gc_region ?_  -- region 0 (line 27)
  refine gl_val (ov_assign (v := vI (0)) rfl) rfl rfl rfl ?_
  refine gl_nil ?_
  refine gq_keep (e' := [(0, _), (1, _)]) ⟨rfl, rfl, trivial⟩ ?_
  refine gq_then ?_
  refine gc_seq ?_
  refine gc_region ?_  -- region 1 (line 28)
  refine gl_val (ov_move rfl) rfl rfl rfl ?_
  refine gl_call (vs := [_]) rfl rfl rfl rfl Try.call40 ⟨rfl, trivial⟩ (fun w hs => nat_trim hs hv) ?_
  intro v7 h1 hh1 hr7
  replace hv := hv.mono hh1
  replace hv' := hv'.mono hh1
  replace hr7 := hr7.2
  refine gl_val (ov_move rfl) rfl rfl rfl ?_
  refine gl_call (vs := [_]) rfl rfl rfl rfl Try.call40 ⟨rfl, trivial⟩ (fun w hs => nat_trim hs hv') ?_
  intro v9 h2 hh2 hr9
  replace hv := hv.mono hh2
  replace hv' := hv'.mono hh2
  replace hr7 := hr7.mono hh2
  replace hr9 := hr9.2
  generalize hA : limbs (val xs) = AA at *
  generalize hB : limbs (val ys) = BB at *
  have vA : val AA = val xs := by rw [← hA, val_limbs]
  have vB' : val BB = val ys := by rw [← hB, val_limbs]
  have fA : Fit AA := hr7.lt
  have fB : Fit BB := hr9.lt
  have lA := hr7.lt63
  have lB := hr9.lt63
  refine gl_val (ov_assign rfl) rfl rfl rfl ?_
  refine gl_val (ov_assign rfl) rfl rfl rfl ?_
  refine gl_nil ?_
  refine gq_keep (e' := [(0, _), (1, _)]) ⟨rfl, rfl, trivial⟩ ?_
  refine gq_then ?_
  refine gc_seq ?_
  refine gc_seq ?_
  refine gc_region ?_  -- region 2 (line 29)
  refine gl_val (ov_move rfl) rfl rfl rfl ?_
  refine gl_val (ov_len_us Try.underlying22 rfl hr7) rfl rfl rfl ?_
  refine gl_val (ov_move rfl) rfl rfl rfl ?_
  refine gl_val (ov_len_us Try.underlying22 rfl hr9) rfl rfl rfl ?_
  refine gl_val (ov_neq_i rfl rfl) rfl rfl rfl ?_
  refine gl_nil ?_
  refine gq_keep (e' := [(0, _), (1, _), (14, _)]) ⟨rfl, rfl, rfl, trivial⟩ ?_
  refine gq_then ?_
  refine gc_cond rfl (fun hc14 => ?_) (fun hc14 => ?_)
  · skip
    refine gc_keep (e' := [(0, _), (1, _)]) ⟨rfl, rfl, trivial⟩ ?_
    refine gc_seq ?_
    refine gc_seq ?_
    refine gc_region ?_  -- region 3 (line 30)
    refine gl_val (ov_move rfl) rfl rfl rfl ?_
    refine gl_val (ov_len_us Try.underlying22 rfl hr7) rfl rfl rfl ?_
    refine gl_val (ov_move rfl) rfl rfl rfl ?_
    refine gl_val (ov_len_us Try.underlying22 rfl hr9) rfl rfl rfl ?_
    refine gl_val (ov_lss_i rfl rfl) rfl rfl rfl ?_
    refine gl_nil ?_
    refine gq_keep (e' := [(19, _)]) ⟨rfl, trivial⟩ ?_
    refine gq_then ?_
    refine gc_cond rfl (fun hc19 => ?_) (fun hc19 => ?_)
    · skip
      refine gc_keep (e' := []) trivial ?_
      refine gc_seq ?_
      refine gc_region ?_  -- region 4 (line 31)
      refine gl_val (ov_assign (v := vI (-1)) rfl) rfl rfl rfl ?_
      refine gl_nil ?_
      refine gq_then ?_
      refine gc_ret ?_
      refine gr_then ?_
      refine gr_then ?_
      refine gq_body1 rfl rfl ?_
      rw [cmpN_lt (lt_of_limbs_len (by rw [hA, hB]; omega))]
    · skip
      refine gc_keep (e' := []) trivial ?_
      refine gc_skip ?_
      refine gq_then ?_
      refine gc_seq ?_
      refine gc_region ?_  -- region 5 (line 33)
      refine gl_val (ov_assign (v := vI (1)) rfl) rfl rfl rfl ?_
      refine gl_nil ?_
      refine gq_then ?_
      refine gc_ret ?_
      refine gr_then ?_
      refine gq_body1 rfl rfl ?_
      rw [cmpN_gt (lt_of_limbs_len (by rw [hA, hB]; omega))]
  · skip
    have hl : AA.length = BB.length := by omega
    refine gc_keep (e' := [(0, _), (1, _)]) ⟨rfl, rfl, trivial⟩ ?_
    refine gc_skip ?_
    refine gq_then ?_
    refine gc_seq ?_
    refine gc_seq ?_
    refine gc_region ?_  -- region 6 (line 35)
    refine gl_val (ov_move rfl) rfl rfl rfl ?_
    refine gl_val (ov_len_us Try.underlying22 rfl hr7) rfl rfl rfl ?_
    refine gl_val (ov_sub_i (q := 1) rfl rfl (by omega) (by omega)) rfl rfl rfl ?_
    refine gl_val (ov_assign rfl) rfl rfl rfl ?_
    refine gl_nil ?_
    refine gq_keep (e' := [(0, _), (1, _), (5, _)]) ⟨rfl, rfl, rfl, trivial⟩ ?_
    refine gq_then ?_
    refine gc_block ?_
    refine gc_loop (ι := Nat) (fun (j : (Nat)) => j ≤ AA.length ∧ AA.drop j = BB.drop j) (fun (j : (Nat)) => [(0, v7), (1, v9), (5, vI (↑j - 1))]) (fun (j : (Nat)) => []) (fun (j : (Nat)) => h2) (fun (j : (Nat)) => j) AA.length ?_ ⟨rfl, rfl, rfl, trivial⟩ rfl rfl ?_
    · skip
      exact ⟨Nat.le_refl _, by rw [List.drop_of_length_le (Nat.le_refl _), List.drop_of_length_le (by omega)]⟩
    · skip
      intro j hx
      obtain ⟨hj, hd⟩ := hx
      show GC _ _ _ _ _ _ [(0, v7), (1, v9), (5, vI (↑j - 1))] [] h2
      refine gc_seq ?_
      refine gc_seq ?_
      refine gc_region ?_  -- region 7 (line 35)
      refine gl_val (ov_move rfl) rfl rfl rfl ?_
      refine gl_val (ov_geq_i (q := 0) rfl rfl) rfl rfl rfl ?_
      refine gl_nil ?_
      refine gq_keep (e' := [(0, _), (1, _), (5, _), (24, _)]) ⟨rfl, rfl, rfl, rfl, trivial⟩ ?_
      refine gq_then ?_
      refine gc_cond rfl (fun hc24 => ?_) (fun hc24 => ?_)
      · skip
        refine gc_keep (e' := [(0, _), (1, _), (5, _)]) ⟨rfl, rfl, rfl, trivial⟩ ?_
        refine gc_skip ?_
        refine gq_then ?_
        refine gc_seq ?_
        refine gc_block ?_
        refine gc_seq ?_
        refine gc_draw 9 _ [] [(0, .q), (1, .q), (2, .q), (3, .q), (4, .q), (5, .q), (6, .q), (7, .q), (8, .q)] mixed (fun x hx => by cases hx) (by kernel_rfl) (fun x hx => by cases hx) (fun r hr => hr) ?_  -- region 9 (line 36)
        refine w_q rfl (fun h' L' hh hR => ov_move rfl) rfl ?_
        refine w_q rfl (fun h' L' hh hR => ov_move rfl) rfl ?_
        refine w_q rfl (fun h' L' hh hR => ov_index_us (j - 1) Try.underlying22 Try.sizeOf45 rfl rfl (hr7.mono hh) (by omega) (by omega)) rfl ?_
        refine w_q rfl (fun h' L' hh hR => ov_load_us Try.isAgg45 rfl (hr7.mono hh) (by omega)) rfl ?_
        refine w_q rfl (fun h' L' hh hR => ov_move rfl) rfl ?_
        refine w_q rfl (fun h' L' hh hR => ov_move rfl) rfl ?_
        refine w_q rfl (fun h' L' hh hR => ov_index_us (j - 1) Try.underlying22 Try.sizeOf45 rfl rfl (hr9.mono hh) (by omega) (by omega)) rfl ?_
        refine w_q rfl (fun h' L' hh hR => ov_load_us Try.isAgg45 rfl (hr9.mono hh) (by omega)) rfl ?_
        refine w_q rfl (fun h' L' hh hR => ov_neq_u (k := .u32) rfl rfl) rfl ?_
        refine w_nil ?_
        refine gq_keep (e' := [(0, _), (1, _), (5, _), (35, _)]) ⟨rfl, rfl, rfl, rfl, trivial⟩ ?_
        refine gq_then ?_
        refine gc_cond rfl (fun hc35 => ?_) (fun hc35 => ?_)
        · skip
          refine gc_keep (e' := [(0, _), (1, _), (5, _)]) ⟨rfl, rfl, rfl, trivial⟩ ?_
          refine gc_seq ?_
          refine gc_seq ?_
          refine gc_draw 9 _ [] [(0, .q), (1, .q), (2, .q), (3, .q), (4, .q), (5, .q), (6, .q), (7, .q), (8, .q)] mixed (fun x hx => by cases hx) (by kernel_rfl) (fun x hx => by cases hx) (fun r hr => hr) ?_  -- region 10 (line 37)
          refine w_q rfl (fun h' L' hh hR => ov_move rfl) rfl ?_
          refine w_q rfl (fun h' L' hh hR => ov_move rfl) rfl ?_
          refine w_q rfl (fun h' L' hh hR => ov_index_us (j - 1) Try.underlying22 Try.sizeOf45 rfl rfl (hr7.mono hh) (by omega) (by omega)) rfl ?_
          refine w_q rfl (fun h' L' hh hR => ov_load_us Try.isAgg45 rfl (hr7.mono hh) (by omega)) rfl ?_
          refine w_q rfl (fun h' L' hh hR => ov_move rfl) rfl ?_
          refine w_q rfl (fun h' L' hh hR => ov_move rfl) rfl ?_
          refine w_q rfl (fun h' L' hh hR => ov_index_us (j - 1) Try.underlying22 Try.sizeOf45 rfl rfl (hr9.mono hh) (by omega) (by omega)) rfl ?_
          refine w_q rfl (fun h' L' hh hR => ov_load_us Try.isAgg45 rfl (hr9.mono hh) (by omega)) rfl ?_
          refine w_q rfl (fun h' L' hh hR => ov_lss_u (k := .u32) rfl rfl) rfl ?_
          refine w_nil ?_
          refine gq_keep (e' := [(44, _)]) ⟨rfl, trivial⟩ ?_
          refine gq_then ?_
          refine gc_cond rfl (fun hc44 => ?_) (fun hc44 => ?_)
          · skip
            refine gc_keep (e' := []) trivial ?_
            refine gc_seq ?_
            refine gc_region ?_  -- region 11 (line 38)
            refine gl_val (ov_assign (v := vI (-1)) rfl) rfl rfl rfl ?_
            refine gl_nil ?_
            refine gq_then ?_
            refine gc_ret ?_
            refine gr_then ?_
            refine gr_in ?_
            refine gr_then ?_
            refine gr_then ?_
            refine gr_in ?_
            refine gr_then ?_
            refine gq_body1 rfl rfl ?_
            rw [← vA, ← vB', cmpN_lt (val_top fA hl (by omega) hj hd hc44)]
          · skip
            refine gc_keep (e' := []) trivial ?_
            refine gc_skip ?_
            refine gq_then ?_
            refine gc_seq ?_
            refine gc_region ?_  -- region 12 (line 40)
            refine gl_val (ov_assign (v := vI (1)) rfl) rfl rfl rfl ?_
            refine gl_nil ?_
            refine gq_then ?_
            refine gc_ret ?_
            refine gr_in ?_
            refine gr_then ?_
            refine gr_then ?_
            refine gr_in ?_
            refine gr_then ?_
            refine gq_body1 rfl rfl ?_
            rw [← vA, ← vB', cmpN_gt (val_top fB hl.symm (by omega) (by omega) hd.symm (by omega))]
        · skip
          refine gc_keep (e' := [(0, _), (1, _), (5, _)]) ⟨rfl, rfl, rfl, trivial⟩ ?_
          refine gc_skip ?_
          refine gq_in ?_
          refine gq_then ?_
          refine gc_region ?_  -- region 8 (line 35)
          refine gl_val (ov_move rfl) rfl rfl rfl ?_
          refine gl_val (ov_sub_i (q := 1) rfl rfl (by omega) (by omega)) rfl rfl rfl ?_
          refine gl_val (ov_assign rfl) rfl rfl rfl ?_
          refine gl_nil ?_
          refine gq_round (j - 1) ?_ ?_ ⟨?_, ?_, ?_, trivial⟩ ?_ rfl
          · skip
            refine ⟨by omega, ?_⟩
            rw [drop_eq_cons AA (j - 1) (by omega), drop_eq_cons BB (j - 1) (by omega)]
            have e : j - 1 + 1 = j := by omega
            rw [e, hd, Classical.not_not.1 hc35]
          · skip
            omega
          · exact rfl
          · exact rfl
          · exact congrArg some (congrArg vI (by omega))
          · exact rfl
      · skip
        refine gc_keep (e' := []) trivial ?_
        refine gc_exit ?_
        refine gx_then ?_
        refine gx_then ?_
        refine gx_here ?_
        refine gq_then ?_
        refine gc_seq ?_
        refine gc_region ?_  -- region 13 (line 43)
        refine gl_val (ov_assign (v := vI (0)) rfl) rfl rfl rfl ?_
        refine gl_nil ?_
        refine gq_then ?_
        refine gc_ret ?_
        refine gq_body1 rfl rfl ?_
        have h0 : j = 0 := by omega
        subst h0
        simp only [List.drop_zero] at hd
        rw [← vA, ← vB', hd, cmpN_eq]

theorem sl_clone {w0 : World} {h0 : Mem}  (hs : MLe h0 (mem w0)) {v : Value} {xs : List Nat} (hv : Us .u32 h0 v xs) (hl : xs.length ≤ 1099511627776) :
    Calls Try.prog 43 #[v] w0 (RetOwn w0 h0 (fun _ r L => L = [.us 45 .u32 r xs])) := by
  refine calls_begin (n := 8) (e := [(0, v)]) (vs := [v]) Try.func43 rfl rfl (Nat.le_of_ble_eq_true rfl) hs ⟨rfl, trivial⟩ ?_
  refine gc_seq ?_
  refine gc_region ?_  -- region 0 (line 355)
  refine gl_val (ov_assign rfl) rfl rfl rfl ?_
  refine gl_nil ?_
  refine gq_keep (e' := [(0, _)]) ⟨rfl, trivial⟩ ?_
  refine gq_then ?_
  refine gc_seq ?_
  refine gc_seq ?_
  refine gc_region ?_  -- region 1 (line 357)
  refine gl_val (ov_move rfl) rfl rfl rfl ?_
  refine gl_val (ov_eql_nil Try.underlying22 rfl (let ⟨a, c, hv⟩ := hv.one; ⟨a, _, c, hv⟩)) rfl rfl rfl ?_
  refine gl_nil ?_
  refine gq_keep (e' := [(0, _), (4, _)]) ⟨rfl, rfl, trivial⟩ ?_
  refine gq_then ?_
  refine gc_cond rfl (fun hc4 => ?_) (fun hc4 => ?_)
  · skip
    refine gc_keep (e' := []) trivial ?_
    refine gc_seq ?_
    refine gc_region ?_  -- region 2 (line 358)
    refine gl_val (ov_assign rfl) rfl rfl rfl ?_
    refine gl_addnil (E := 45) (k := .u32) ?_
    refine gl_nil ?_
    refine gq_then ?_
    refine gc_ret ?_
    refine gr_then ?_
    refine gq_body1_own rfl rfl ?_
    obtain ⟨m, cap, rfl⟩ := hc4
    have hx : xs = [] := hv.nil_of
    subst hx
    rfl
  · skip
    refine gc_keep (e' := [(0, _)]) ⟨rfl, trivial⟩ ?_
    refine gc_skip ?_
    refine gq_then ?_
    refine gc_seq ?_
    refine gc_region ?_  -- region 3 (line 362)
    refine gl_newop (new_build0 (kd := .u32) Try.underlying22 info45 rfl rfl) rfl rfl rfl ?_
    intro v5 r5 hr5
    obtain rfl := hr5
    refine gl_val (ov_move rfl) rfl rfl rfl ?_
    refine gl_repop (A := []) (rep_append_us (kd := .u32) (bytes := 4) Try.underlying22 info45 rfl rfl rfl rfl rfl hv (by simp only [List.length_nil]; omega) (by simp only [List.length_nil]; omega)) rfl rfl rfl ?_
    intro v7 r7 hr7
    obtain rfl := hr7
    refine gl_val (ov_assign rfl) rfl rfl rfl ?_
    refine gl_nil ?_
    refine gq_keep (e' := [(2, _)]) ⟨rfl, trivial⟩ ?_
    refine gq_then ?_
    refine gc_ret ?_
    refine gq_body1_own rfl rfl ?_
    rfl

theorem nat_add {w0 : World} {h0 : Mem}  (hs : MLe h0 (mem w0)) {v v' : Value} {xs ys : List Nat} (hv : Us .u32 h0 v xs) (hv' : Us .u32 h0 v' ys) (hl : xs.length ≤ 1099511627776) (hl' : ys.length ≤ 1099511627776) :
    Calls Try.prog 23 #[v, v'] w0 (Ret w0 h0 (fun h r => Us .u32 h r (limbs (val xs + val ys)))) := by
  refine calls_begin (n := 58) (e := [(0, v), (1, v')]) (vs := [v, v']) Try.func23 rfl rfl (Nat.le_of_ble_eq_true rfl) hs ⟨rfl, rfl, trivial⟩ ?_
  refine gc_seq ?_
  refine gc_region ?_  -- region 0 (line 47)
  refine gl_val (ov_assign rfl) rfl rfl rfl ?_
  refine gl_nil ?_
  refine gq_keep (e' := [(0, _), (1, _)]) ⟨rfl, rfl, trivial⟩ ?_
  refine gq_then ?_
  refine gc_cut (ι := Value × List Nat × Value × List Nat) (fun (x_ : (Value × List Nat × Value × List Nat)) => match x_ with | (va, xa, vb, xb) => Us .u32 h0 va xa ∧ Us .u32 h0 vb xb ∧ xb.length ≤ xa.length ∧ val xa + val xb = val xs + val ys ∧ xa.length ≤ 1099511627776) (fun (x_ : (Value × List Nat × Value × List Nat)) => match x_ with | (va, xa, vb, xb) => [(0, va), (1, vb)]) (fun (x_ : (Value × List Nat × Value × List Nat)) => match x_ with | (va, xa, vb, xb) => []) (fun (x_ : (Value × List Nat × Value × List Nat)) => match x_ with | (va, xa, vb, xb) => h0) ?_ ?_
  · skip
    refine gc_seq ?_
    refine gc_region ?_  -- region 1 (line 48)
    refine gl_val (ov_move rfl) rfl rfl rfl ?_
    refine gl_val (ov_len_us Try.underlying22 rfl hv) rfl rfl rfl ?_
    refine gl_val (ov_move rfl) rfl rfl rfl ?_
    refine gl_val (ov_len_us Try.underlying22 rfl hv') rfl rfl rfl ?_
    refine gl_val (ov_lss_i rfl rfl) rfl rfl rfl ?_
    refine gl_nil ?_
    refine gq_keep (e' := [(0, _), (1, _), (13, _)]) ⟨rfl, rfl, rfl, trivial⟩ ?_
    refine gq_then ?_
    refine gc_cond rfl (fun hc13 => ?_) (fun hc13 => ?_)
    · skip
      refine gc_keep (e' := [(0, _), (1, _)]) ⟨rfl, rfl, trivial⟩ ?_
      refine gc_region ?_  -- region 2 (line 49)
      refine gl_val (ov_move rfl) rfl rfl rfl ?_
      refine gl_val (ov_move rfl) rfl rfl rfl ?_
      refine gl_val (ov_assign rfl) rfl rfl rfl ?_
      refine gl_val (ov_assign rfl) rfl rfl rfl ?_
      refine gl_nil ?_
      refine gq_cut (v', ys, v, xs) ?_ ⟨?_, ?_, trivial⟩ ?_ rfl
      · skip
        exact ⟨hv', hv, by omega, by omega, hl'⟩
      · exact rfl
      · exact rfl
      · exact rfl
    · skip
      refine gc_keep (e' := [(0, _), (1, _)]) ⟨rfl, rfl, trivial⟩ ?_
      refine gc_skip ?_
      refine gq_cut (v, xs, v', ys) ?_ ⟨?_, ?_, trivial⟩ ?_ rfl
      · skip
        exact ⟨hv, hv', by omega, rfl, hl⟩
      · exact rfl
      · exact rfl
      · exact rfl
  · skip
    intro x hx
    obtain ⟨va, xa, vb, xb⟩ := x
    obtain ⟨ha, hb, hle, hsum, hla⟩ := hx
    show GC _ _ _ _ _ _ [(0, va), (1, vb)] [] h0
    refine gc_seq ?_
    refine gc_region ?_  -- region 3 (line 51)
    refine gl_val (ov_move rfl) rfl rfl rfl ?_
    refine gl_val (ov_len_us Try.underlying22 rfl ha) rfl rfl rfl ?_
    refine gl_val (ov_add_i (q := 1) rfl rfl (by omega) (by omega)) rfl rfl rfl ?_
    refine gl_make_us (kd := .u32) (by' := 4) (xa.length + 1) Try.underlying22 info45 rfl rfl rfl rfl rfl (by omega) (by omega) (by omega) (by omega) rfl ?_
    intro v19
    refine gl_val (ov_assign rfl) rfl rfl rfl ?_
    refine gl_nil ?_
    refine gq_keep (e' := [(0, _), (1, _), (5, _)]) ⟨rfl, rfl, rfl, trivial⟩ ?_
    refine gq_then ?_
    refine gc_seq ?_
    refine gc_region ?_  -- region 4 (line 52)
    refine gl_val (ov_assign (v := vU .u64 0) rfl) rfl rfl rfl ?_
    refine gl_nil ?_
    refine gq_then ?_
    refine gc_seq ?_
    refine gc_seq ?_
    refine gc_region ?_  -- region 5 (line 53)
    refine gl_val (ov_move rfl) rfl rfl rfl ?_
    refine gl_val (ov_len_us Try.underlying22 rfl ha) rfl rfl rfl ?_
    refine gl_val (ov_move (v := vI (0)) rfl) rfl rfl rfl ?_
    refine gl_nil ?_
    refine gq_then ?_
    refine gc_block ?_
    refine gc_loop (ι := List Nat × Nat) (fun (x_ : (List Nat × Nat)) => match x_ with | (ss, c) => ss.length ≤ xa.length ∧ Fit ss ∧ c ≤ 1 ∧ val ss + 4294967296 ^ ss.length * c = val (xa.take ss.length) + val (xb.take ss.length)) (fun (x_ : (List Nat × Nat)) => match x_ with | (ss, c) => [(0, va), (1, vb), (5, v19), (6, vU .u64 c), (20, va), (21, vI ↑xa.length), (22, vI ↑ss.length)]) (fun (x_ : (List Nat × Nat)) => match x_ with | (ss, c) => [.us 45 .u32 v19 (fillTo ss (xa.length + 1))]) (fun (x_ : (List Nat × Nat)) => match x_ with | (ss, c) => h0) (fun (x_ : (List Nat × Nat)) => match x_ with | (ss, c) => xa.length - ss.length) ([], 0) ?_ ⟨rfl, rfl, rfl, rfl, rfl, rfl, rfl, trivial⟩ rfl rfl ?_
    · skip
      exact ⟨by simp, fun x hx => by simp at hx, by omega, by simp [val]⟩
    · skip
      intro x hx
      obtain ⟨ss, c⟩ := x
      obtain ⟨hss, hfs, hc1, hval⟩ := hx
      show GC _ _ _ _ _ _ [(0, va), (1, vb), (5, v19), (6, vU .u64 c), (20, va), (21, vI ↑xa.length), (22, vI ↑ss.length)] [.us 45 .u32 v19 (fillTo ss (xa.length + 1))] h0
      refine gc_seq ?_
      refine gc_region ?_  -- region 6 (line 53)
      refine gl_val (ov_lss_i rfl rfl) rfl rfl rfl ?_
      refine gl_nil ?_
      refine gq_then ?_
      refine gc_seq ?_
      refine gc_cond rfl (fun hc23 => ?_) (fun hc23 => ?_)
      · skip
        refine gc_keep (e' := [(0, _), (1, _), (5, _), (6, _), (20, _), (21, _), (22, _)]) ⟨rfl, rfl, rfl, rfl, rfl, rfl, rfl, trivial⟩ ?_
        refine gc_skip ?_
        refine gq_then ?_
        refine gc_seq ?_
        refine gc_block ?_
        refine gc_seq ?_
        refine gc_region ?_  -- region 7 (line 53)
        refine gl_val (ov_move rfl) rfl rfl rfl ?_
        refine gl_val (ov_index_us _ Try.underlying22 Try.sizeOf45 rfl rfl ha rfl (by omega)) rfl rfl rfl ?_
        refine gl_val (ov_load_us Try.isAgg45 rfl ha (by omega)) rfl rfl rfl ?_
        have hx1 := ha.get32 ss.length
        have hx2 := hb.get32 ss.length
        refine gl_val (ov_assign rfl) rfl rfl rfl ?_
        refine gl_val (ov_assign rfl) rfl rfl rfl ?_
        refine gl_nil ?_
        refine gq_keep (e' := [(0, _), (1, _), (5, _), (6, _), (20, _), (21, _), (22, _), (7, _), (8, _)]) ⟨rfl, rfl, rfl, rfl, rfl, rfl, rfl, rfl, rfl, trivial⟩ ?_
        refine gq_then ?_
        refine gc_seq ?_
        refine gc_region ?_  -- region 8 (line 54)
        refine gl_val (ov_move rfl) rfl rfl rfl ?_
        refine gl_val (ov_move rfl) rfl rfl rfl ?_
        refine gl_val (ov_conv_u (k := .u32) (k' := .u64) (W := 18446744073709551616) Try.underlying45 Try.underlying23 rfl rfl rfl (by omega)) rfl rfl rfl ?_
        refine gl_val (ov_add_u (k := .u64) (W := 18446744073709551616) rfl rfl rfl rfl (by omega)) rfl rfl rfl ?_
        refine gl_val (ov_assign rfl) rfl rfl rfl ?_
        refine gl_nil ?_
        refine gq_keep (e' := [(0, _), (1, _), (5, _), (20, _), (21, _), (22, _), (7, _), (6, _)]) ⟨rfl, rfl, rfl, rfl, rfl, rfl, rfl, rfl, trivial⟩ ?_
        refine gq_then ?_
        refine gc_cut (ι := Unit) (fun (_u : (Unit)) => True) (fun (_u : (Unit)) => [(0, va), (1, vb), (5, v19), (6, vU .u64 (c + xa.getD ss.length 0 + xb.getD ss.length 0)), (7, vI ↑ss.length), (20, va), (21, vI ↑xa.length), (22, vI ↑ss.length)]) (fun (_u : (Unit)) => [.us 45 .u32 v19 (fillTo ss (xa.length + 1))]) (fun (_u : (Unit)) => h0) ?_ ?_
        · skip
          refine gc_seq ?_
          refine gc_region ?_  -- region 9 (line 55)
          refine gl_val (ov_move rfl) rfl rfl rfl ?_
          refine gl_val (ov_move rfl) rfl rfl rfl ?_
          refine gl_val (ov_len_us Try.underlying22 rfl hb) rfl rfl rfl ?_
          refine gl_val (ov_lss_i rfl rfl) rfl rfl rfl ?_
          refine gl_nil ?_
          refine gq_keep (e' := [(0, _), (1, _), (5, _), (20, _), (21, _), (22, _), (7, _), (6, _), (34, _)]) ⟨rfl, rfl, rfl, rfl, rfl, rfl, rfl, rfl, rfl, trivial⟩ ?_
          refine gq_then ?_
          refine gc_cond rfl (fun hc34 => ?_) (fun hc34 => ?_)
          · skip
            refine gc_keep (e' := [(0, _), (1, _), (5, _), (20, _), (21, _), (22, _), (7, _), (6, _)]) ⟨rfl, rfl, rfl, rfl, rfl, rfl, rfl, rfl, trivial⟩ ?_
            refine gc_region ?_  -- region 10 (line 56)
            refine gl_val (ov_move rfl) rfl rfl rfl ?_
            refine gl_val (ov_move rfl) rfl rfl rfl ?_
            refine gl_val (ov_move rfl) rfl rfl rfl ?_
            refine gl_val (ov_index_us _ Try.underlying22 Try.sizeOf45 rfl rfl hb rfl (by omega)) rfl rfl rfl ?_
            refine gl_val (ov_load_us Try.isAgg45 rfl hb (by omega)) rfl rfl rfl ?_
            refine gl_val (ov_conv_u (k := .u32) (k' := .u64) (W := 18446744073709551616) Try.underlying45 Try.underlying23 rfl rfl rfl (by omega)) rfl rfl rfl ?_
            refine gl_val (ov_add_u (k := .u64) (W := 18446744073709551616) rfl rfl rfl rfl (by omega)) rfl rfl rfl ?_
            refine gl_val (ov_assign rfl) rfl rfl rfl ?_
            refine gl_nil ?_
            refine gq_cut (()) ?_ ⟨?_, ?_, ?_, ?_, ?_, ?_, ?_, ?_, trivial⟩ ?_ rfl
            · skip
              trivial
            · exact rfl
            · exact rfl
            · exact rfl
            · exact rfl
            · exact rfl
            · exact rfl
            · exact rfl
            · exact rfl
            · exact rfl
          · skip
            refine gc_keep (e' := [(0, _), (1, _), (5, _), (20, _), (21, _), (22, _), (7, _), (6, _)]) ⟨rfl, rfl, rfl, rfl, rfl, rfl, rfl, rfl, trivial⟩ ?_
            refine gc_skip ?_
            refine gq_cut (()) ?_ ⟨?_, ?_, ?_, ?_, ?_, ?_, ?_, ?_, trivial⟩ ?_ rfl
            · skip
              trivial
            · exact rfl
            · exact rfl
            · exact rfl
            · exact congrArg some (congrArg (vU .u64) (by rw [getD_out (xs := xb) (by omega)]; omega))
            · exact rfl
            · exact rfl
            · exact rfl
            · exact rfl
            · exact rfl
        · skip
          intro _u hx
          obtain hcut := hx
          show GC _ _ _ _ _ _ [(0, va), (1, vb), (5, v19), (6, vU .u64 (c + xa.getD ss.length 0 + xb.getD ss.length 0)), (7, vI ↑ss.length), (20, va), (21, vI ↑xa.length), (22, vI ↑ss.length)] [.us 45 .u32 v19 (fillTo ss (xa.length + 1))] h0
          refine gc_seq ?_
          refine gc_region ?_  -- region 11 (line 58)
          refine gl_val (ov_move rfl) rfl rfl rfl ?_
          refine gl_val (ov_move rfl) rfl rfl rfl ?_
          refine gl_val (ov_move rfl) rfl rfl rfl ?_
          refine gl_val (ov_conv_uu (k := .u64) (k' := .u32) (W := 4294967296) Try.underlying23 Try.underlying45 rfl rfl rfl) rfl rfl rfl ?_
          refine gl_val (ov_index_ous (A := []) _ Try.underlying22 Try.sizeOf45 rfl rfl rfl (by rw [length_fillTo (by omega)]; omega)) rfl rfl rfl ?_
          refine gl_store_ous0 Try.sizeOf45 rfl rfl (by rw [length_fillTo (by omega)]; omega) ?_
          refine gl_nil ?_
          refine gq_keep (e' := [(0, _), (1, _), (5, _), (6, _), (20, _), (21, _), (22, _)]) ⟨rfl, rfl, rfl, rfl, rfl, rfl, rfl, trivial⟩ ?_
          refine gq_then ?_
          refine gc_region ?_  -- region 12 (line 59)
          refine gl_val (ov_move rfl) rfl rfl rfl ?_
          refine gl_val (ov_shr_u (k := .u64) (s := 32) (yk := .u64) rfl rfl rfl (by simp only [ub]; omega)) rfl rfl rfl ?_
          refine gl_val (ov_assign rfl) rfl rfl rfl ?_
          refine gl_nil ?_
          refine gq_in ?_
          refine gq_keep (e' := [(0, _), (1, _), (5, _), (20, _), (21, _), (22, _), (6, _)]) ⟨rfl, rfl, rfl, rfl, rfl, rfl, rfl, trivial⟩ ?_
          refine gq_then ?_
          refine gc_region ?_  -- region 13 (line 53)
          refine gl_val (ov_add_i (q := 1) rfl rfl (by omega) (by omega)) rfl rfl rfl ?_
          refine gl_val (ov_move rfl) rfl rfl rfl ?_
          refine gl_nil ?_
          refine gq_round (ss ++ [(c + xa.getD ss.length 0 + xb.getD ss.length 0) % 4294967296], (c + xa.getD ss.length 0 + xb.getD ss.length 0) / 2 ^ 32) ?_ ?_ ⟨?_, ?_, ?_, ?_, ?_, ?_, ?_, trivial⟩ ?_ rfl
          · skip
            have hlt : ss.length < xa.length := by omega
            refine ⟨by simp; omega, fit_append hfs (fit_one (by omega)), by omega, ?_⟩
            rw [List.length_append, List.length_singleton, val_take_succ xa _ hlt, val_take_getD xb, val_snoc, Nat.pow_succ]
            have e := Nat.div_add_mod (c + xa.getD ss.length 0 + xb.getD ss.length 0) 4294967296
            have e2 : (2 : Nat) ^ 32 = 4294967296 := rfl
            rw [e2]
            generalize (c + xa.getD ss.length 0 + xb.getD ss.length 0) / 4294967296 = q at *
            generalize (c + xa.getD ss.length 0 + xb.getD ss.length 0) % 4294967296 = r at *
            grind
          · skip
            dsimp only
            simp; omega
          · exact rfl
          · exact rfl
          · exact rfl
          · exact rfl
          · exact rfl
          · exact rfl
          · exact congrArg some (congrArg vI (by simp))
          · rw [fillTo_set (by omega)]
      · skip
        refine gc_keep (e' := [(0, _), (5, _), (6, _)]) ⟨rfl, rfl, rfl, trivial⟩ ?_
        refine gc_exit ?_
        refine gx_then ?_
        refine gx_then ?_
        refine gx_here ?_
        refine gq_then ?_
        refine gc_seq ?_
        refine gc_region ?_  -- region 14 (line 61)
        refine gl_val (ov_move rfl) rfl rfl rfl ?_
        refine gl_val (ov_move rfl) rfl rfl rfl ?_
        refine gl_val (ov_len_us Try.underlying22 rfl ha) rfl rfl rfl ?_
        refine gl_val (ov_move rfl) rfl rfl rfl ?_
        refine gl_val (ov_conv_uu (k := .u64) (k' := .u32) (W := 4294967296) Try.underlying23 Try.underlying45 rfl rfl rfl) rfl rfl rfl ?_
        refine gl_val (ov_index_ous (A := []) (xa.length) Try.underlying22 Try.sizeOf45 rfl rfl (by rfl) (by rw [length_fillTo (by omega)]; omega)) rfl rfl rfl ?_
        refine gl_store_ous0 Try.sizeOf45 rfl rfl (by rw [length_fillTo (by omega)]; omega) ?_
        refine gl_nil ?_
        refine gq_keep (e' := [(5, _)]) ⟨rfl, trivial⟩ ?_
        refine gq_then ?_
        refine gc_seq ?_
        refine gc_region ?_  -- region 15 (line 62)
        refine gl_val (ov_move rfl) rfl rfl rfl ?_
        have hk : ss.length = xa.length := by omega
        have hfin : (fillTo ss (xa.length + 1)).set xa.length (c % 4294967296) = ss ++ [c % 4294967296] := by
          rw [← hk, fillTo_set (by omega), fillTo_full (by simp)]
        refine gl_freeze_us0 (by rw [hfin]; exact fit_append hfs (fit_one (by omega))) ?_
        intro h1 hh1 ho
        replace hv := hv.mono hh1
        replace hv' := hv'.mono hh1
        replace ha := ha.mono hh1
        replace hb := hb.mono hh1
        refine gl_call (vs := [_]) rfl rfl rfl rfl Try.call40 ⟨rfl, trivial⟩ (fun w hs => nat_trim hs ho) ?_
        intro v57 h2 hh2 hr57
        replace hv := hv.mono hh2
        replace hv' := hv'.mono hh2
        replace ha := ha.mono hh2
        replace hb := hb.mono hh2
        replace ho := ho.mono hh2
        replace hr57 := hr57.2
        refine gl_val (ov_assign rfl) rfl rfl rfl ?_
        refine gl_nil ?_
        refine gq_keep (e' := [(4, _)]) ⟨rfl, trivial⟩ ?_
        refine gq_then ?_
        refine gc_ret ?_
        refine gq_body1 rfl rfl ?_
        have e : val (ss ++ [c % 4294967296]) = val xs + val ys := by
          rw [val_snoc, Nat.mod_eq_of_lt (by omega), hval, val_take_all (by omega), val_take_all (by omega)]; exact hsum
        rw [hfin, e] at hr57
        exact hr57

theorem nat_sub {w0 : World} {h0 : Mem}  (hs : MLe h0 (mem w0)) {v v' : Value} {xs ys : List Nat} (hv : Us .u32 h0 v xs) (hv' : Us .u32 h0 v' ys) (hl : xs.length ≤ 1099511627776) :
    Calls Try.prog 36 #[v, v'] w0 (Ret w0 h0 (fun h r => ∃ u, r = .tuple #[u, vI (if val xs < val ys then 7 else 0)] ∧ Us .u32 h u (limbs (val xs - val ys)))) := by
  refine calls_begin (n := 54) (e := [(0, v), (1, v')]) (vs := [v, v']) Try.func36 rfl rfl (Nat.le_of_ble_eq_true rfl) hs ⟨rfl, rfl, trivial⟩ ?_
  refine gc_seq ?_
  refine gc_region ?_  -- region 0 (line 66)
  refine gl_val (ov_assign rfl) rfl rfl rfl ?_
  refine gl_val (ov_assign (v := vI (0)) rfl) rfl rfl rfl ?_
  refine gl_nil ?_
  refine gq_keep (e' := [(0, _), (1, _)]) ⟨rfl, rfl, trivial⟩ ?_
  refine gq_then ?_
  refine gc_seq ?_
  refine gc_seq ?_
  refine gc_region ?_  -- region 1 (line 67)
  refine gl_val (ov_move rfl) rfl rfl rfl ?_
  refine gl_val (ov_move rfl) rfl rfl rfl ?_
  refine gl_call (vs := [_, _]) rfl rfl rfl rfl Try.call16 ⟨rfl, rfl, trivial⟩ (fun w hs => nat_cmp hs hv hv') ?_
  intro v14 h1 hh1 hr14
  replace hv := hv.mono hh1
  replace hv' := hv'.mono hh1
  subst hr14
  refine gl_val (ov_lss_i (q := 0) rfl rfl) rfl rfl rfl ?_
  refine gl_nil ?_
  refine gq_keep (e' := [(0, _), (1, _), (15, _)]) ⟨rfl, rfl, rfl, trivial⟩ ?_
  refine gq_then ?_
  refine gc_cond rfl (fun hc15 => ?_) (fun hc15 => ?_)
  · skip
    have hlt := cmpN_neg.1 hc15
    refine gc_keep (e' := []) trivial ?_
    refine gc_seq ?_
    refine gc_region ?_  -- region 2 (line 68)
    refine gl_val (ov_assign rfl) rfl rfl rfl ?_
    refine gl_val (ov_assign (v := vI (7)) rfl) rfl rfl rfl ?_
    refine gl_nil ?_
    refine gq_then ?_
    refine gc_ret ?_
    refine gr_then ?_
    refine gq_body2 rfl rfl rfl ?_
    rw [if_pos hlt, Nat.sub_eq_zero_of_le (Nat.le_of_lt hlt), limbs_zero]
    exact ⟨_, rfl, Us.nil _ _⟩
  · skip
    have hge : val ys ≤ val xs := Nat.le_of_not_lt fun hc => hc15 (cmpN_neg.2 hc)
    refine gc_keep (e' := [(0, _), (1, _)]) ⟨rfl, rfl, trivial⟩ ?_
    refine gc_skip ?_
    refine gq_then ?_
    refine gc_seq ?_
    refine gc_region ?_  -- region 3 (line 70)
    refine gl_val (ov_move rfl) rfl rfl rfl ?_
    refine gl_call (vs := [_]) rfl rfl rfl rfl Try.call40 ⟨rfl, trivial⟩ (fun w hs => nat_trim hs hv') ?_
    intro v17 h2 hh2 hr17
    replace hv := hv.mono hh2
    replace hv' := hv'.mono hh2
    replace hr17 := hr17.2
    refine gl_val (ov_assign rfl) rfl rfl rfl ?_
    refine gl_nil ?_
    refine gq_keep (e' := [(0, _), (1, _)]) ⟨rfl, rfl, trivial⟩ ?_
    refine gq_then ?_
    refine gc_seq ?_
    refine gc_region ?_  -- region 4 (line 71)
    refine gl_val (ov_move rfl) rfl rfl rfl ?_
    refine gl_val (ov_len_us Try.underlying22 rfl hv) rfl rfl rfl ?_
    refine gl_make_us (kd := .u32) (by' := 4) _ Try.underlying22 info45 rfl rfl rfl rfl rfl rfl rfl (by omega) (by omega) rfl ?_
    intro v20
    refine gl_val (ov_assign rfl) rfl rfl rfl ?_
    refine gl_nil ?_
    refine gq_keep (e' := [(0, _), (1, _), (6, _)]) ⟨rfl, rfl, rfl, trivial⟩ ?_
    refine gq_then ?_
    refine gc_seq ?_
    refine gc_region ?_  -- region 5 (line 72)
    refine gl_val (ov_assign (v := vU .u64 0) rfl) rfl rfl rfl ?_
    refine gl_nil ?_
    refine gq_then ?_
    refine gc_seq ?_
    refine gc_seq ?_
    refine gc_region ?_  -- region 6 (line 73)
    refine gl_val (ov_move rfl) rfl rfl rfl ?_
    refine gl_val (ov_len_us Try.underlying22 rfl hv) rfl rfl rfl ?_
    refine gl_val (ov_move (v := vI (0)) rfl) rfl rfl rfl ?_
    refine gl_nil ?_
    refine gq_keep (e' := [(1, _), (6, _), (7, _), (21, _), (22, _), (23, _)]) ⟨rfl, rfl, rfl, rfl, rfl, rfl, trivial⟩ ?_
    refine gq_then ?_
    refine gc_block ?_
    refine gc_loop (ι := List Nat × Nat) (fun (x_ : (List Nat × Nat)) => match x_ with | (ss, c) => ss.length ≤ xs.length ∧ Fit ss ∧ c ≤ 1 ∧ val ss + val ((limbs (val ys)).take ss.length) = val (xs.take ss.length) + 4294967296 ^ ss.length * c) (fun (x_ : (List Nat × Nat)) => match x_ with | (ss, c) => [(1, v17), (6, v20), (7, vU .u64 c), (21, v), (22, vI ↑xs.length), (23, vI ↑ss.length)]) (fun (x_ : (List Nat × Nat)) => match x_ with | (ss, c) => [.us 45 .u32 v20 (fillTo ss xs.length)]) (fun (x_ : (List Nat × Nat)) => match x_ with | (ss, c) => h2) (fun (x_ : (List Nat × Nat)) => match x_ with | (ss, c) => xs.length - ss.length) ([], 0) ?_ ⟨rfl, rfl, rfl, rfl, rfl, rfl, trivial⟩ rfl rfl ?_
    · skip
      exact ⟨by simp, fun x hx => by simp at hx, by omega, by simp [val]⟩
    · skip
      intro x hx
      obtain ⟨ss, c⟩ := x
      obtain ⟨hss, hfs, hc1, hval⟩ := hx
      show GC _ _ _ _ _ _ [(1, v17), (6, v20), (7, vU .u64 c), (21, v), (22, vI ↑xs.length), (23, vI ↑ss.length)] [.us 45 .u32 v20 (fillTo ss xs.length)] h2
      refine gc_seq ?_
      refine gc_region ?_  -- region 7 (line 73)
      refine gl_val (ov_lss_i rfl rfl) rfl rfl rfl ?_
      refine gl_nil ?_
      refine gq_then ?_
      refine gc_seq ?_
      refine gc_cond rfl (fun hc24 => ?_) (fun hc24 => ?_)
      · skip
        refine gc_keep (e' := [(1, _), (6, _), (7, _), (21, _), (22, _), (23, _)]) ⟨rfl, rfl, rfl, rfl, rfl, rfl, trivial⟩ ?_
        refine gc_skip ?_
        refine gq_then ?_
        refine gc_seq ?_
        refine gc_block ?_
        refine gc_seq ?_
        refine gc_region ?_  -- region 8 (line 73)
        refine gl_val (ov_move rfl) rfl rfl rfl ?_
        refine gl_val (ov_index_us _ Try.underlying22 Try.sizeOf45 rfl rfl hv rfl (by omega)) rfl rfl rfl ?_
        refine gl_val (ov_load_us Try.isAgg45 rfl hv (by omega)) rfl rfl rfl ?_
        have hx1 := hv.get32 ss.length
        have hx2 := hr17.get32 ss.length
        refine gl_val (ov_assign rfl) rfl rfl rfl ?_
        refine gl_val (ov_assign rfl) rfl rfl rfl ?_
        refine gl_nil ?_
        refine gq_keep (e' := [(1, _), (6, _), (7, _), (21, _), (22, _), (23, _), (8, _), (9, _)]) ⟨rfl, rfl, rfl, rfl, rfl, rfl, rfl, rfl, trivial⟩ ?_
        refine gq_then ?_
        refine gc_seq ?_
        refine gc_region ?_  -- region 9 (line 74)
        refine gl_val (ov_move rfl) rfl rfl rfl ?_
        refine gl_val (ov_assign rfl) rfl rfl rfl ?_
        refine gl_nil ?_
        refine gq_keep (e' := [(1, _), (6, _), (21, _), (22, _), (23, _), (8, _), (9, _), (10, _)]) ⟨rfl, rfl, rfl, rfl, rfl, rfl, rfl, rfl, trivial⟩ ?_
        refine gq_then ?_
        refine gc_cut (ι := Unit) (fun (_u : (Unit)) => True) (fun (_u : (Unit)) => [(1, v17), (6, v20), (8, vI ↑ss.length), (9, vU .u32 (xs.getD ss.length 0)), (10, vU .u64 (c + (limbs (val ys)).getD ss.length 0)), (21, v), (22, vI ↑xs.length), (23, vI ↑ss.length)]) (fun (_u : (Unit)) => [.us 45 .u32 v20 (fillTo ss xs.length)]) (fun (_u : (Unit)) => h2) ?_ ?_
        · skip
          refine gc_seq ?_
          refine gc_region ?_  -- region 10 (line 75)
          refine gl_val (ov_move rfl) rfl rfl rfl ?_
          refine gl_val (ov_move rfl) rfl rfl rfl ?_
          refine gl_val (ov_len_us Try.underlying22 rfl hr17) rfl rfl rfl ?_
          refine gl_val (ov_lss_i rfl rfl) rfl rfl rfl ?_
          refine gl_nil ?_
          refine gq_keep (e' := [(1, _), (6, _), (21, _), (22, _), (23, _), (8, _), (9, _), (10, _), (32, _)]) ⟨rfl, rfl, rfl, rfl, rfl, rfl, rfl, rfl, rfl, trivial⟩ ?_
          refine gq_then ?_
          refine gc_cond rfl (fun hc32 => ?_) (fun hc32 => ?_)
          · skip
            refine gc_keep (e' := [(1, _), (6, _), (21, _), (22, _), (23, _), (8, _), (9, _), (10, _)]) ⟨rfl, rfl, rfl, rfl, rfl, rfl, rfl, rfl, trivial⟩ ?_
            refine gc_region ?_  -- region 11 (line 76)
            refine gl_val (ov_move rfl) rfl rfl rfl ?_
            refine gl_val (ov_move rfl) rfl rfl rfl ?_
            refine gl_val (ov_move rfl) rfl rfl rfl ?_
            refine gl_val (ov_index_us _ Try.underlying22 Try.sizeOf45 rfl rfl hr17 rfl (by omega)) rfl rfl rfl ?_
            refine gl_val (ov_load_us Try.isAgg45 rfl hr17 (by omega)) rfl rfl rfl ?_
            refine gl_val (ov_conv_u (k := .u32) (k' := .u64) (W := 18446744073709551616) Try.underlying45 Try.underlying23 rfl rfl rfl (by omega)) rfl rfl rfl ?_
            refine gl_val (ov_add_u (k := .u64) (W := 18446744073709551616) rfl rfl rfl rfl (by omega)) rfl rfl rfl ?_
            refine gl_val (ov_assign rfl) rfl rfl rfl ?_
            refine gl_nil ?_
            refine gq_cut (()) ?_ ⟨?_, ?_, ?_, ?_, ?_, ?_, ?_, ?_, trivial⟩ ?_ rfl
            · skip
              trivial
            · exact rfl
            · exact rfl
            · exact rfl
            · exact rfl
            · exact rfl
            · exact rfl
            · exact rfl
            · exact rfl
            · exact rfl
          · skip
            refine gc_keep (e' := [(1, _), (6, _), (21, _), (22, _), (23, _), (8, _), (9, _), (10, _)]) ⟨rfl, rfl, rfl, rfl, rfl, rfl, rfl, rfl, trivial⟩ ?_
            refine gc_skip ?_
            refine gq_cut (()) ?_ ⟨?_, ?_, ?_, ?_, ?_, ?_, ?_, ?_, trivial⟩ ?_ rfl
            · skip
              trivial
            · exact rfl
            · exact rfl
            · exact rfl
            · exact rfl
            · exact congrArg some (congrArg (vU .u64) (by rw [getD_out (xs := limbs (val ys)) (by omega)]; omega))
            · exact rfl
            · exact rfl
            · exact rfl
            · exact rfl
        · skip
          intro _u hx
          obtain hcut := hx
          show GC _ _ _ _ _ _ [(1, v17), (6, v20), (8, vI ↑ss.length), (9, vU .u32 (xs.getD ss.length 0)), (10, vU .u64 (c + (limbs (val ys)).getD ss.length 0)), (21, v), (22, vI ↑xs.length), (23, vI ↑ss.length)] [.us 45 .u32 v20 (fillTo ss xs.length)] h2
          refine gc_seq ?_
          refine gc_region ?_  -- region 12 (line 78)
          refine gl_val (ov_move rfl) rfl rfl rfl ?_
          refine gl_val (ov_conv_u (k := .u32) (k' := .u64) (W := 18446744073709551616) Try.underlying45 Try.underlying23 rfl rfl rfl (by omega)) rfl rfl rfl ?_
          refine gl_val (ov_move rfl) rfl rfl rfl ?_
          refine gl_val (ov_subw_u (k := .u64) (W := 18446744073709551616) rfl rfl rfl rfl (by omega)) rfl rfl rfl ?_
          refine gl_val (ov_assign rfl) rfl rfl rfl ?_
          refine gl_nil ?_
          refine gq_keep (e' := [(1, _), (6, _), (8, _), (21, _), (22, _), (23, _), (11, _)]) ⟨rfl, rfl, rfl, rfl, rfl, rfl, rfl, trivial⟩ ?_
          refine gq_then ?_
          refine gc_seq ?_
          refine gc_region ?_  -- region 13 (line 79)
          refine gl_val (ov_move rfl) rfl rfl rfl ?_
          refine gl_val (ov_move rfl) rfl rfl rfl ?_
          refine gl_val (ov_move rfl) rfl rfl rfl ?_
          refine gl_val (ov_conv_uu (k := .u64) (k' := .u32) (W := 4294967296) Try.underlying23 Try.underlying45 rfl rfl rfl) rfl rfl rfl ?_
          refine gl_val (ov_index_ous (A := []) _ Try.underlying22 Try.sizeOf45 rfl rfl rfl (by rw [length_fillTo (by omega)]; omega)) rfl rfl rfl ?_
          refine gl_store_ous0 Try.sizeOf45 rfl rfl (by rw [length_fillTo (by omega)]; omega) ?_
          refine gl_nil ?_
          refine gq_keep (e' := [(1, _), (6, _), (21, _), (22, _), (23, _), (11, _)]) ⟨rfl, rfl, rfl, rfl, rfl, rfl, trivial⟩ ?_
          refine gq_then ?_
          refine gc_region ?_  -- region 14 (line 80)
          refine gl_val (ov_move rfl) rfl rfl rfl ?_
          refine gl_val (ov_shr_u (k := .u64) (s := 63) (yk := .u64) rfl rfl rfl (by simp only [ub]; omega)) rfl rfl rfl ?_
          refine gl_val (ov_assign rfl) rfl rfl rfl ?_
          refine gl_nil ?_
          refine gq_in ?_
          refine gq_keep (e' := [(1, _), (6, _), (21, _), (22, _), (23, _), (7, _)]) ⟨rfl, rfl, rfl, rfl, rfl, rfl, trivial⟩ ?_
          refine gq_then ?_
          refine gc_region ?_  -- region 15 (line 73)
          refine gl_val (ov_add_i (q := 1) rfl rfl (by omega) (by omega)) rfl rfl rfl ?_
          refine gl_val (ov_move rfl) rfl rfl rfl ?_
          refine gl_nil ?_
          generalize hX : xs.getD ss.length 0 = X at *
          generalize hY : (limbs (val ys)).getD ss.length 0 = Y at *
          refine gq_round (ss ++ [(X + 18446744073709551616 - (c + Y)) % 18446744073709551616 % 4294967296], (X + 18446744073709551616 - (c + Y)) % 18446744073709551616 / 2 ^ 63) ?_ ?_ ⟨?_, ?_, ?_, ?_, ?_, ?_, trivial⟩ ?_ rfl
          · skip
            have hlt : ss.length < xs.length := by omega
            refine ⟨by simp; omega, fit_append hfs (fit_one (by omega)), by omega, ?_⟩
            rw [List.length_append, List.length_singleton, val_take_succ xs _ hlt, val_take_getD (limbs (val ys)), val_snoc, Nat.pow_succ, hX, hY]
            have e : (X + 18446744073709551616 - (c + Y)) % 18446744073709551616 % 4294967296 + c + Y = X + 4294967296 * ((X + 18446744073709551616 - (c + Y)) % 18446744073709551616 / 2 ^ 63) := by omega
            generalize (X + 18446744073709551616 - (c + Y)) % 18446744073709551616 / 2 ^ 63 = q at *
            generalize (X + 18446744073709551616 - (c + Y)) % 18446744073709551616 % 4294967296 = r at *
            grind
          · skip
            dsimp only
            simp; omega
          · exact rfl
          · exact rfl
          · exact rfl
          · exact rfl
          · exact rfl
          · exact congrArg some (congrArg vI (by simp))
          · rw [fillTo_set (by omega)]
      · skip
        refine gc_keep (e' := [(6, _)]) ⟨rfl, trivial⟩ ?_
        refine gc_exit ?_
        refine gx_then ?_
        refine gx_then ?_
        refine gx_here ?_
        refine gq_then ?_
        refine gc_seq ?_
        refine gc_region ?_  -- region 16 (line 82)
        refine gl_val (ov_move rfl) rfl rfl rfl ?_
        have hk : ss.length = xs.length := by omega
        rw [fillTo_full hk]
        refine gl_freeze_us0 (by exact hfs) ?_
        intro h3 hh3 ho
        replace hv := hv.mono hh3
        replace hv' := hv'.mono hh3
        replace hr17 := hr17.mono hh3
        refine gl_call (vs := [_]) rfl rfl rfl rfl Try.call40 ⟨rfl, trivial⟩ (fun w hs => nat_trim hs ho) ?_
        intro v53 h4 hh4 hr53
        replace hv := hv.mono hh4
        replace hv' := hv'.mono hh4
        replace hr17 := hr17.mono hh4
        replace ho := ho.mono hh4
        replace hr53 := hr53.2
        refine gl_val (ov_assign rfl) rfl rfl rfl ?_
        refine gl_val (ov_assign (v := vI (0)) rfl) rfl rfl rfl ?_
        refine gl_nil ?_
        refine gq_keep (e' := [(4, _), (5, _)]) ⟨rfl, rfl, trivial⟩ ?_
        refine gq_then ?_
        refine gc_ret ?_
        refine gq_body2 rfl rfl rfl ?_
        rw [if_neg (by omega)]
        refine ⟨_, rfl, ?_⟩
        have e : val ss = val xs - val ys := by
          have hly : (limbs (val ys)).length ≤ xs.length := Nat.le_trans (limbs_len_mono hge) (limbs_len_le hv.lt)
          rw [val_take_all (by omega), val_limbs, val_take_all (by omega)] at hval
          have h1 := val_lt hfs
          have h2 : c = 0 := Classical.byContradiction fun hne => by
            have : c = 1 := by omega
            subst this
            omega
          subst h2
          omega
        rw [e] at hr53
        exact hr53

theorem nat_mul {w0 : World} {h0 : Mem}  (hs : MLe h0 (mem w0)) {v v' : Value} {xs ys : List Nat} (hv : Us .u32 h0 v xs) (hv' : Us .u32 h0 v' ys) (hl : xs.length ≤ 1099511627776) (hl' : ys.length ≤ 1099511627776) :
    Calls Try.prog 24 #[v, v'] w0 (Ret w0 h0 (fun h r => Us .u32 h r (limbs (val xs * val ys)))) := by
  have hfx : Fit xs := hv.lt
  have hfy : Fit ys := hv'.lt
  refine calls_begin (n := 69) (e := [(0, v), (1, v')]) (vs := [v, v']) Try.func24 rfl rfl (Nat.le_of_ble_eq_true rfl) hs ⟨rfl, rfl, trivial⟩ ?_
  refine gc_seq ?_
  refine gc_region ?_  -- region 0 (line 86)
  refine gl_val (ov_assign rfl) rfl rfl rfl ?_
  refine gl_nil ?_
  refine gq_keep (e' := [(0, _), (1, _)]) ⟨rfl, rfl, trivial⟩ ?_
  refine gq_then ?_
  refine gc_seq ?_
  refine gc_region ?_  -- region 1 (line 87)
  refine gl_val (ov_move rfl) rfl rfl rfl ?_
  refine gl_val (ov_len_us Try.underlying22 rfl hv) rfl rfl rfl ?_
  refine gl_val (ov_move rfl) rfl rfl rfl ?_
  refine gl_val (ov_len_us Try.underlying22 rfl hv') rfl rfl rfl ?_
  refine gl_val (ov_add_i rfl rfl (by omega) (by omega)) rfl rfl rfl ?_
  refine gl_make_us (kd := .u32) (by' := 4) (xs.length + ys.length) Try.underlying22 info45 rfl rfl rfl rfl rfl (by omega) (by omega) (by omega) (by omega) rfl ?_
  intro v16
  refine gl_val (ov_assign rfl) rfl rfl rfl ?_
  refine gl_nil ?_
  refine gq_keep (e' := [(0, _), (1, _), (5, _)]) ⟨rfl, rfl, rfl, trivial⟩ ?_
  refine gq_then ?_
  refine gc_seq ?_
  refine gc_seq ?_
  refine gc_region ?_  -- region 2 (line 88)
  refine gl_val (ov_move rfl) rfl rfl rfl ?_
  refine gl_val (ov_len_us Try.underlying22 rfl hv) rfl rfl rfl ?_
  refine gl_val (ov_move (v := vI (0)) rfl) rfl rfl rfl ?_
  refine gl_nil ?_
  refine gq_keep (e' := [(1, _), (5, _), (17, _), (18, _), (19, _)]) ⟨rfl, rfl, rfl, rfl, rfl, trivial⟩ ?_
  refine gq_then ?_
  refine gc_block ?_
  refine gc_loop (ι := Nat × List Nat) (fun (x_ : (Nat × List Nat)) => match x_ with | (k, os) => k ≤ xs.length ∧ os.length = xs.length + ys.length ∧ Fit os ∧ val os = val (xs.take k) * val ys ∧ ∀ i, k + ys.length ≤ i → os.getD i 0 = 0) (fun (x_ : (Nat × List Nat)) => match x_ with | (k, os) => [(1, v'), (5, v16), (17, v), (18, vI ↑xs.length), (19, vI ↑k)]) (fun (x_ : (Nat × List Nat)) => match x_ with | (k, os) => [.us 45 .u32 v16 os]) (fun (x_ : (Nat × List Nat)) => match x_ with | (k, os) => h0) (fun (x_ : (Nat × List Nat)) => match x_ with | (k, os) => xs.length - k) (0, List.replicate (xs.length + ys.length) 0) ?_ ⟨rfl, rfl, rfl, rfl, rfl, trivial⟩ rfl rfl ?_
  · skip
    exact ⟨Nat.zero_le _, by simp, fit_replicate _, by rw [val_replicate]; simp [val], fun i _ => getD_replicate _ _⟩
  · skip
    intro x hx
    obtain ⟨k, os⟩ := x
    obtain ⟨hk, hos, hfo, hval, hz⟩ := hx
    show GC _ _ _ _ _ _ [(1, v'), (5, v16), (17, v), (18, vI ↑xs.length), (19, vI ↑k)] [.us 45 .u32 v16 os] h0
    refine gc_seq ?_
    refine gc_region ?_  -- region 3 (line 88)
    refine gl_val (ov_lss_i rfl rfl) rfl rfl rfl ?_
    refine gl_nil ?_
    refine gq_then ?_
    refine gc_seq ?_
    refine gc_cond rfl (fun hc20 => ?_) (fun hc20 => ?_)
    · skip
      refine gc_keep (e' := [(1, _), (5, _), (17, _), (18, _), (19, _)]) ⟨rfl, rfl, rfl, rfl, rfl, trivial⟩ ?_
      refine gc_skip ?_
      refine gq_then ?_
      refine gc_seq ?_
      refine gc_block ?_
      refine gc_seq ?_
      refine gc_region ?_  -- region 4 (line 88)
      refine gl_val (ov_move rfl) rfl rfl rfl ?_
      refine gl_val (ov_index_us _ Try.underlying22 Try.sizeOf45 rfl rfl hv rfl (by omega)) rfl rfl rfl ?_
      refine gl_val (ov_load_us Try.isAgg45 rfl hv (by omega)) rfl rfl rfl ?_
      have hx1 := hv.get32 k
      refine gl_val (ov_assign rfl) rfl rfl rfl ?_
      refine gl_val (ov_assign rfl) rfl rfl rfl ?_
      refine gl_nil ?_
      refine gq_keep (e' := [(1, _), (5, _), (17, _), (18, _), (19, _), (6, _), (7, _)]) ⟨rfl, rfl, rfl, rfl, rfl, rfl, rfl, trivial⟩ ?_
      refine gq_then ?_
      refine gc_seq ?_
      refine gc_seq ?_
      refine gc_region ?_  -- region 5 (line 89)
      refine gl_val (ov_move rfl) rfl rfl rfl ?_
      refine gl_val (ov_eql_u (k := .u32) (q := 0) rfl rfl) rfl rfl rfl ?_
      refine gl_nil ?_
      refine gq_keep (e' := [(1, _), (5, _), (17, _), (18, _), (19, _), (6, _), (7, _), (25, _)]) ⟨rfl, rfl, rfl, rfl, rfl, rfl, rfl, rfl, trivial⟩ ?_
      refine gq_then ?_
      refine gc_cond rfl (fun hc25 => ?_) (fun hc25 => ?_)
      · skip
        have hx0 : xs.getD k 0 = 0 := hc25
        refine gc_keep (e' := [(1, _), (5, _), (17, _), (18, _), (19, _)]) ⟨rfl, rfl, rfl, rfl, rfl, trivial⟩ ?_
        refine gc_exit ?_
        refine gx_then ?_
        refine gx_here ?_
        refine gq_then ?_
        refine gc_region ?_  -- region 15 (line 88)
        refine gl_val (ov_add_i (q := 1) rfl rfl (by omega) (by omega)) rfl rfl rfl ?_
        refine gl_val (ov_move rfl) rfl rfl rfl ?_
        refine gl_nil ?_
        refine gq_round (k + 1, os) ?_ ?_ ⟨?_, ?_, ?_, ?_, ?_, trivial⟩ ?_ rfl
        · skip
          exact ⟨by omega, hos, hfo, by rw [hval, val_take_succ xs k (by omega), hx0]; simp, fun i hi => hz i (by omega)⟩
        · skip
          dsimp only
          omega
        · exact rfl
        · exact rfl
        · exact rfl
        · exact rfl
        · exact rfl
        · exact rfl
      · skip
        have hx0 : xs.getD k 0 ≠ 0 := hc25
        refine gc_keep (e' := [(1, _), (5, _), (17, _), (18, _), (19, _), (6, _), (7, _)]) ⟨rfl, rfl, rfl, rfl, rfl, rfl, rfl, trivial⟩ ?_
        refine gc_skip ?_
        refine gq_then ?_
        refine gc_seq ?_
        refine gc_region ?_  -- region 6 (line 92)
        refine gl_val (ov_assign (v := vU .u64 0) rfl) rfl rfl rfl ?_
        refine gl_nil ?_
        refine gq_then ?_
        refine gc_seq ?_
        refine gc_seq ?_
        refine gc_region ?_  -- region 7 (line 93)
        refine gl_val (ov_move rfl) rfl rfl rfl ?_
        refine gl_val (ov_len_us Try.underlying22 rfl hv') rfl rfl rfl ?_
        refine gl_val (ov_move (v := vI (0)) rfl) rfl rfl rfl ?_
        refine gl_nil ?_
        refine gq_then ?_
        refine gc_block ?_
        refine gc_loop (ι := Nat × List Nat × Nat) (fun (x_ : (Nat × List Nat × Nat)) => match x_ with | (j, ts, c) => j ≤ ys.length ∧ ts.length = xs.length + ys.length ∧ Fit ts ∧ c < 4294967296 ∧ val ts + 4294967296 ^ (k + j) * c = val os + 4294967296 ^ k * (xs.getD k 0 * val (ys.take j)) ∧ ∀ i, k + ys.length ≤ i → ts.getD i 0 = 0) (fun (x_ : (Nat × List Nat × Nat)) => match x_ with | (j, ts, c) => [(1, v'), (5, v16), (6, vI ↑k), (7, vU .u32 (xs.getD k 0)), (8, vU .u64 c), (17, v), (18, vI ↑xs.length), (19, vI ↑k), (26, v'), (27, vI ↑ys.length), (28, vI ↑j)]) (fun (x_ : (Nat × List Nat × Nat)) => match x_ with | (j, ts, c) => [.us 45 .u32 v16 ts]) (fun (x_ : (Nat × List Nat × Nat)) => match x_ with | (j, ts, c) => h0) (fun (x_ : (Nat × List Nat × Nat)) => match x_ with | (j, ts, c) => ys.length - j) (0, os, 0) ?_ ⟨rfl, rfl, rfl, rfl, rfl, rfl, rfl, rfl, rfl, rfl, rfl, trivial⟩ rfl rfl ?_
        · skip
          exact ⟨Nat.zero_le _, hos, hfo, by omega, by simp [val], hz⟩
        · skip
          intro x hx
          obtain ⟨j, ts, c⟩ := x
          obtain ⟨hj, hts, hft, hcb, htv, htz⟩ := hx
          show GC _ _ _ _ _ _ [(1, v'), (5, v16), (6, vI ↑k), (7, vU .u32 (xs.getD k 0)), (8, vU .u64 c), (17, v), (18, vI ↑xs.length), (19, vI ↑k), (26, v'), (27, vI ↑ys.length), (28, vI ↑j)] [.us 45 .u32 v16 ts] h0
          refine gc_seq ?_
          refine gc_region ?_  -- region 8 (line 93)
          refine gl_val (ov_lss_i rfl rfl) rfl rfl rfl ?_
          refine gl_nil ?_
          refine gq_then ?_
          refine gc_seq ?_
          refine gc_cond rfl (fun hc29 => ?_) (fun hc29 => ?_)
          · skip
            refine gc_keep (e' := [(1, _), (5, _), (6, _), (7, _), (8, _), (17, _), (18, _), (19, _), (26, _), (27, _), (28, _)]) ⟨rfl, rfl, rfl, rfl, rfl, rfl, rfl, rfl, rfl, rfl, rfl, trivial⟩ ?_
            refine gc_skip ?_
            refine gq_then ?_
            refine gc_seq ?_
            refine gc_block ?_
            refine gc_seq ?_
            refine gc_region ?_  -- region 9 (line 93)
            refine gl_val (ov_move rfl) rfl rfl rfl ?_
            refine gl_val (ov_index_us _ Try.underlying22 Try.sizeOf45 rfl rfl hv' rfl (by omega)) rfl rfl rfl ?_
            refine gl_val (ov_load_us Try.isAgg45 rfl hv' (by omega)) rfl rfl rfl ?_
            have hx2 := hv'.get32 j
            have hx3 := fit_get hft (k + j)
            have hxy : xs.getD k 0 * ys.getD j 0 ≤ 4294967295 * 4294967295 := Nat.mul_le_mul (by omega) (by omega)
            refine gl_val (ov_assign rfl) rfl rfl rfl ?_
            refine gl_val (ov_assign rfl) rfl rfl rfl ?_
            refine gl_nil ?_
            refine gq_keep (e' := [(1, _), (5, _), (6, _), (7, _), (8, _), (17, _), (18, _), (19, _), (26, _), (27, _), (28, _), (9, _), (10, _)]) ⟨rfl, rfl, rfl, rfl, rfl, rfl, rfl, rfl, rfl, rfl, rfl, rfl, rfl, trivial⟩ ?_
            refine gq_then ?_
            refine gc_seq ?_
            refine gc_region ?_  -- region 10 (line 94)
            refine gl_val (ov_move rfl) rfl rfl rfl ?_
            refine gl_val (ov_move rfl) rfl rfl rfl ?_
            refine gl_val (ov_conv_u (k := .u32) (k' := .u64) (W := 18446744073709551616) Try.underlying45 Try.underlying23 rfl rfl rfl (by omega)) rfl rfl rfl ?_
            refine gl_val (ov_move rfl) rfl rfl rfl ?_
            refine gl_val (ov_conv_u (k := .u32) (k' := .u64) (W := 18446744073709551616) Try.underlying45 Try.underlying23 rfl rfl rfl (by omega)) rfl rfl rfl ?_
            refine gl_val (ov_mul_u (k := .u64) (W := 18446744073709551616) rfl rfl rfl rfl (by omega)) rfl rfl rfl ?_
            refine gl_val (ov_move rfl) rfl rfl rfl ?_
            refine gl_val (ov_move rfl) rfl rfl rfl ?_
            refine gl_val (ov_move rfl) rfl rfl rfl ?_
            refine gl_val (ov_add_i rfl rfl (by omega) (by omega)) rfl rfl rfl ?_
            refine gl_val (ov_index_ous (A := []) (k + j) Try.underlying22 Try.sizeOf45 rfl rfl (by omega) (by omega)) rfl rfl rfl ?_
            refine gl_val (ov_load_ous (A := []) Try.isAgg45 rfl (by omega)) rfl rfl rfl ?_
            refine gl_val (ov_conv_u (k := .u32) (k' := .u64) (W := 18446744073709551616) Try.underlying45 Try.underlying23 rfl rfl rfl (by omega)) rfl rfl rfl ?_
            refine gl_val (ov_add_u (k := .u64) (W := 18446744073709551616) rfl rfl rfl rfl (by omega)) rfl rfl rfl ?_
            refine gl_val (ov_add_u (k := .u64) (W := 18446744073709551616) rfl rfl rfl rfl (by omega)) rfl rfl rfl ?_
            refine gl_val (ov_assign rfl) rfl rfl rfl ?_
            refine gl_nil ?_
            refine gq_keep (e' := [(1, _), (5, _), (6, _), (7, _), (17, _), (18, _), (19, _), (26, _), (27, _), (28, _), (9, _), (8, _)]) ⟨rfl, rfl, rfl, rfl, rfl, rfl, rfl, rfl, rfl, rfl, rfl, rfl, trivial⟩ ?_
            refine gq_then ?_
            refine gc_seq ?_
            refine gc_region ?_  -- region 11 (line 95)
            refine gl_val (ov_move rfl) rfl rfl rfl ?_
            refine gl_val (ov_move rfl) rfl rfl rfl ?_
            refine gl_val (ov_move rfl) rfl rfl rfl ?_
            refine gl_val (ov_add_i rfl rfl (by omega) (by omega)) rfl rfl rfl ?_
            refine gl_val (ov_move rfl) rfl rfl rfl ?_
            refine gl_val (ov_conv_uu (k := .u64) (k' := .u32) (W := 4294967296) Try.underlying23 Try.underlying45 rfl rfl rfl) rfl rfl rfl ?_
            refine gl_val (ov_index_ous (A := []) (k + j) Try.underlying22 Try.sizeOf45 rfl rfl (by omega) (by omega)) rfl rfl rfl ?_
            refine gl_store_ous0 Try.sizeOf45 rfl rfl (by omega) ?_
            refine gl_nil ?_
            refine gq_keep (e' := [(1, _), (5, _), (6, _), (7, _), (17, _), (18, _), (19, _), (26, _), (27, _), (28, _), (8, _)]) ⟨rfl, rfl, rfl, rfl, rfl, rfl, rfl, rfl, rfl, rfl, rfl, trivial⟩ ?_
            refine gq_then ?_
            refine gc_region ?_  -- region 12 (line 96)
            refine gl_val (ov_move rfl) rfl rfl rfl ?_
            refine gl_val (ov_shr_u (k := .u64) (s := 32) (yk := .u64) rfl rfl rfl (by simp only [ub]; omega)) rfl rfl rfl ?_
            refine gl_val (ov_assign rfl) rfl rfl rfl ?_
            refine gl_nil ?_
            refine gq_in ?_
            refine gq_keep (e' := [(1, _), (5, _), (6, _), (7, _), (17, _), (18, _), (19, _), (26, _), (27, _), (28, _), (8, _)]) ⟨rfl, rfl, rfl, rfl, rfl, rfl, rfl, rfl, rfl, rfl, rfl, trivial⟩ ?_
            refine gq_then ?_
            refine gc_region ?_  -- region 13 (line 93)
            refine gl_val (ov_add_i (q := 1) rfl rfl (by omega) (by omega)) rfl rfl rfl ?_
            refine gl_val (ov_move rfl) rfl rfl rfl ?_
            refine gl_nil ?_
            refine gq_round (j + 1, ts.set (k + j) ((c + (xs.getD k 0 * ys.getD j 0 + ts.getD (k + j) 0)) % 4294967296), (c + (xs.getD k 0 * ys.getD j 0 + ts.getD (k + j) 0)) / 2 ^ 32) ?_ ?_ ⟨?_, ?_, ?_, ?_, ?_, ?_, ?_, ?_, ?_, ?_, ?_, trivial⟩ ?_ rfl
            · skip
              refine ⟨by omega, by simp [hts], fit_set hft _ (by omega), by omega, ?_, fun i hi => ?_⟩
              · have h1 := val_set (xs := ts) (i := k + j) (by omega) ((c + (xs.getD k 0 * ys.getD j 0 + ts.getD (k + j) 0)) % 4294967296)
                have e := Nat.div_add_mod (c + (xs.getD k 0 * ys.getD j 0 + ts.getD (k + j) 0)) 4294967296
                have e2 : (2 : Nat) ^ 32 = 4294967296 := rfl
                rw [val_take_succ ys j (by omega), e2]
                have ep : (4294967296 : Nat) ^ (k + (j + 1)) = 4294967296 ^ k * 4294967296 ^ j * 4294967296 := by rw [← Nat.add_assoc, Nat.pow_succ, Nat.pow_add]
                rw [ep]
                rw [Nat.pow_add] at h1 htv
                generalize (c + (xs.getD k 0 * ys.getD j 0 + ts.getD (k + j) 0)) / 4294967296 = q at *
                generalize (c + (xs.getD k 0 * ys.getD j 0 + ts.getD (k + j) 0)) % 4294967296 = r at *
                grind
              · rw [getD_set_other (by omega)]; exact htz i hi
            · skip
              dsimp only
              omega
            · exact rfl
            · exact rfl
            · exact rfl
            · exact rfl
            · exact rfl
            · exact rfl
            · exact rfl
            · exact rfl
            · exact rfl
            · exact rfl
            · exact rfl
            · exact rfl
          · skip
            refine gc_keep (e' := [(1, _), (5, _), (6, _), (8, _), (17, _), (18, _), (19, _)]) ⟨rfl, rfl, rfl, rfl, rfl, rfl, rfl, trivial⟩ ?_
            refine gc_exit ?_
            refine gx_then ?_
            refine gx_then ?_
            refine gx_here ?_
            refine gq_then ?_
            refine gc_region ?_  -- region 14 (line 98)
            refine gl_val (ov_move rfl) rfl rfl rfl ?_
            refine gl_val (ov_move rfl) rfl rfl rfl ?_
            refine gl_val (ov_move rfl) rfl rfl rfl ?_
            refine gl_val (ov_len_us Try.underlying22 rfl hv') rfl rfl rfl ?_
            refine gl_val (ov_add_i rfl rfl (by omega) (by omega)) rfl rfl rfl ?_
            refine gl_val (ov_move rfl) rfl rfl rfl ?_
            refine gl_val (ov_conv_uu (k := .u64) (k' := .u32) (W := 4294967296) Try.underlying23 Try.underlying45 rfl rfl rfl) rfl rfl rfl ?_
            refine gl_val (ov_index_ous (A := []) (k + ys.length) Try.underlying22 Try.sizeOf45 rfl rfl (by omega) (by omega)) rfl rfl rfl ?_
            refine gl_store_ous0 Try.sizeOf45 rfl rfl (by omega) ?_
            refine gl_nil ?_
            refine gq_in ?_
            refine gq_keep (e' := [(1, _), (5, _), (17, _), (18, _), (19, _)]) ⟨rfl, rfl, rfl, rfl, rfl, trivial⟩ ?_
            refine gq_then ?_
            refine gc_region ?_  -- region 15 (line 88)
            refine gl_val (ov_add_i (q := 1) rfl rfl (by omega) (by omega)) rfl rfl rfl ?_
            refine gl_val (ov_move rfl) rfl rfl rfl ?_
            refine gl_nil ?_
            refine gq_round (k + 1, ts.set (k + ys.length) (c % 4294967296)) ?_ ?_ ⟨?_, ?_, ?_, ?_, ?_, trivial⟩ ?_ rfl
            · skip
              have hj : j = ys.length := by omega
              subst hj
              refine ⟨by omega, by simp [hts], fit_set hft _ (by omega), ?_, fun i hi => ?_⟩
              · have h1 := val_set (xs := ts) (i := k + ys.length) (by omega) (c % 4294967296)
                rw [htz _ (Nat.le_refl _)] at h1
                rw [val_take_all (Nat.le_refl _)] at htv
                rw [Nat.mod_eq_of_lt hcb] at h1 ⊢
                rw [val_take_succ xs k (by omega)]
                grind
              · rw [getD_set_other (by omega)]; exact htz i (by omega)
            · skip
              dsimp only
              omega
            · exact rfl
            · exact rfl
            · exact rfl
            · exact rfl
            · exact rfl
            · exact rfl
    · skip
      refine gc_keep (e' := [(5, _)]) ⟨rfl, trivial⟩ ?_
      refine gc_exit ?_
      refine gx_then ?_
      refine gx_then ?_
      refine gx_here ?_
      refine gq_then ?_
      refine gc_seq ?_
      refine gc_region ?_  -- region 16 (line 100)
      refine gl_val (ov_move rfl) rfl rfl rfl ?_
      refine gl_freeze_us0 (by exact hfo) ?_
      intro h1 hh1 ho
      replace hv := hv.mono hh1
      replace hv' := hv'.mono hh1
      refine gl_call (vs := [_]) rfl rfl rfl rfl Try.call40 ⟨rfl, trivial⟩ (fun w hs => nat_trim hs ho) ?_
      intro v68 h2 hh2 hr68
      replace hv := hv.mono hh2
      replace hv' := hv'.mono hh2
      replace ho := ho.mono hh2
      replace hr68 := hr68.2
      refine gl_val (ov_assign rfl) rfl rfl rfl ?_
      refine gl_nil ?_
      refine gq_keep (e' := [(4, _)]) ⟨rfl, trivial⟩ ?_
      refine gq_then ?_
      refine gc_ret ?_
      refine gq_body1 rfl rfl ?_
      have hk' : k = xs.length := by omega
      rw [hval, hk', val_take_all (Nat.le_refl _)] at hr68
      exact hr68

end Go.Proofs.Ytoionddicppahaa
