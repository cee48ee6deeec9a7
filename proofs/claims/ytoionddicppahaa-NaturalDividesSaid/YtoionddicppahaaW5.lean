/- Contracts of functions, walked by their text (nat5). -/
import Derived.Test.YtoionddicppahaaW4
namespace Go.Proofs.Ytoionddicppahaa
open Bk Go
set_option linter.unusedVariables false
set_option linter.unusedSimpArgs false

theorem ref_trim {w0 : World} {h0 : Mem}  (hs : MLe h0 (mem w0)) {v : Value} {xs : List Nat} (hv : Us .u32 h0 v xs) (hl : xs.length ≤ 17592186044416) :
    Calls Try.prog 39 #[v] w0 (Ret w0 h0 (fun h r => Us .u32 h r (limbs (val xs)))) := by
  refine calls_begin (n := 23) (e := [(0, v)]) (vs := [v]) Try.func39 rfl rfl (Nat.le_of_ble_eq_true rfl) hs ⟨rfl, trivial⟩ ?_
  refine gc_seq ?_
  refine gc_region ?_  -- region 0 (line 10)
  refine gl_val (ov_assign rfl) rfl rfl rfl ?_
  refine gl_nil ?_
  refine gq_keep (e' := [(0, _)]) ⟨rfl, trivial⟩ ?_
  refine gq_then ?_
  refine gc_seq ?_
  refine gc_region ?_  -- region 1 (line 11)
  refine gl_val (ov_move rfl) rfl rfl rfl ?_
  refine gl_val (ov_len_us Try.underlying22 rfl hv) rfl rfl rfl ?_
  refine gl_val (ov_assign rfl) rfl rfl rfl ?_
  refine gl_nil ?_
  refine gq_keep (e' := [(0, _), (3, _)]) ⟨rfl, rfl, trivial⟩ ?_
  refine gq_then ?_
  refine gc_seq ?_
  refine gc_block ?_
  refine gc_loop (ι := Nat) (fun (k : (Nat)) => k ≤ xs.length ∧ ∀ i, k ≤ i → xs.getD i 0 = 0) (fun (k : (Nat)) => [(0, v), (3, vI ↑k)]) (fun (k : (Nat)) => []) (fun (k : (Nat)) => h0) (fun (k : (Nat)) => k) xs.length ?_ ⟨rfl, rfl, trivial⟩ rfl rfl ?_
  · skip
    exact ⟨Nat.le_refl _, fun i hi => by rw [List.getD_eq_getElem?_getD, List.getElem?_eq_none hi]; rfl⟩
  · skip
    intro k hx
    obtain ⟨hk, hz⟩ := hx
    show GC _ _ _ _ _ _ [(0, v), (3, vI ↑k)] [] h0
    refine gc_seq ?_
    refine gc_seq ?_
    refine gc_region ?_  -- region 2 (line 12)
    refine gl_val (ov_move rfl) rfl rfl rfl ?_
    refine gl_val (ov_gtr_i (q := 0) rfl rfl) rfl rfl rfl ?_
    refine gl_cut (ι := Unit) 8 (fun _ => True) (fun _ => [(15, vB (((0 : Int) < ↑k) ∧ (xs.getD (k - 1) 0 = 0))), (0, v), (3, vI ↑k)]) (fun _ => []) (fun _ => h0) ?_ ?_
    · skip
      refine gl_cases ((0 : Int) < ↑k) (fun hg => ?_) (fun hg => ?_)
      · skip
        refine gl_val (ov_move (v := .bool true) (congrArg some (vB_true hg))) rfl rfl rfl ?_
        refine gl_on rfl rfl rfl ?_
        refine gl_val (ov_move rfl) rfl rfl rfl ?_
        refine gl_on rfl rfl rfl ?_
        refine gl_val (ov_move rfl) rfl rfl rfl ?_
        refine gl_on rfl rfl rfl ?_
        refine gl_val (ov_sub_i (q := 1) rfl rfl (by omega) (by omega)) rfl rfl rfl ?_
        refine gl_on rfl rfl rfl ?_
        refine gl_val (ov_index_us (k - 1) Try.underlying22 Try.sizeOf45 rfl rfl hv (by omega) (by omega)) rfl rfl rfl ?_
        refine gl_on rfl rfl rfl ?_
        refine gl_val (ov_load_us Try.isAgg45 rfl hv (by omega)) rfl rfl rfl ?_
        refine gl_on rfl rfl rfl ?_
        refine gl_val (ov_eql_u (k := .u32) (q := 0) rfl rfl) rfl rfl rfl ?_
        refine gl_val (ov_pick_t rfl rfl) rfl rfl rfl ?_
        refine gl_nil ?_
        refine gq_cut () trivial ⟨?_, rfl, rfl, trivial⟩ rfl rfl
        exact congrArg some (vB_and_t hg)
      · skip
        refine gl_val (ov_move (v := .bool false) (congrArg some (vB_false hg))) rfl rfl rfl ?_
        refine gl_off rfl rfl rfl rfl rfl rfl ?_
        refine gl_off rfl rfl rfl rfl rfl rfl ?_
        refine gl_off rfl rfl rfl rfl rfl rfl ?_
        refine gl_off rfl rfl rfl rfl rfl rfl ?_
        refine gl_off rfl rfl rfl rfl rfl rfl ?_
        refine gl_off rfl rfl rfl rfl rfl rfl ?_
        refine gl_val (ov_pick_f rfl rfl) rfl rfl rfl ?_
        refine gl_nil ?_
        refine gq_cut () trivial ⟨?_, rfl, rfl, trivial⟩ rfl rfl
        exact congrArg some (vB_and_f hg)
    · skip
      intro _ _
      show GL _ _ _ _ _ _ _ [(15, vB (((0 : Int) < ↑k) ∧ (xs.getD (k - 1) 0 = 0))), (0, v), (3, vI ↑k)] [] h0
      refine gl_nil ?_
      refine gq_then ?_
      refine gc_cond rfl (fun hc15 => ?_) (fun hc15 => ?_)
      · skip
        refine gc_keep (e' := [(0, _), (3, _)]) ⟨rfl, rfl, trivial⟩ ?_
        refine gc_skip ?_
        refine gq_then ?_
        refine gc_block ?_
        refine gc_region ?_  -- region 3 (line 13)
        refine gl_val (ov_move rfl) rfl rfl rfl ?_
        refine gl_val (ov_sub_i (q := 1) rfl rfl (by omega) (by omega)) rfl rfl rfl ?_
        refine gl_val (ov_assign rfl) rfl rfl rfl ?_
        refine gl_nil ?_
        refine gq_in ?_
        refine gq_round (k - 1) ?_ ?_ ⟨?_, ?_, trivial⟩ ?_ rfl
        · skip
          exact ⟨by omega, fun i hi => by
            by_cases e : i = k - 1
            · rw [e]; exact hc15.2
            · exact hz i (by omega)⟩
        · skip
          have := hc15.1; omega
        · exact rfl
        · exact congrArg some (congrArg vI (by have := hc15.1; omega))
        · exact rfl
      · skip
        refine gc_keep (e' := [(0, _), (3, _)]) ⟨rfl, rfl, trivial⟩ ?_
        refine gc_exit ?_
        refine gx_then ?_
        refine gx_then ?_
        refine gx_here ?_
        refine gq_then ?_
        refine gc_seq ?_
        refine gc_region ?_  -- region 4 (line 15)
        refine gl_newop (new_build0 (kd := .u32) Try.underlying22 info45 rfl rfl) rfl rfl rfl ?_
        intro v18 r18 hr18
        obtain rfl := hr18
        refine gl_val (ov_move rfl) rfl rfl rfl ?_
        refine gl_val (ov_move rfl) rfl rfl rfl ?_
        refine gl_val (ov_slice_h _ Try.underlying22 Try.sizeOf45 rfl rfl hv.shape rfl (by omega)) rfl rfl rfl ?_
        have hsl21 := hv.sub (lo := 0) (hi := _) (by omega) (by omega)
        refine gl_repop (A := []) (rep_append_us (kd := .u32) (bytes := 4) Try.underlying22 info45 rfl rfl rfl rfl rfl hsl21 (by simp; omega) (by simp; omega)) rfl rfl rfl ?_
        intro v22 r22 hr22
        obtain rfl := hr22
        rw [List.nil_append, List.drop_zero, Nat.sub_zero]
        refine gl_freeze_us0 (by exact fit_take hv.lt k) ?_
        intro h1 hh1 ho
        replace hv := hv.mono hh1
        replace hsl21 := hsl21.mono hh1
        refine gl_val (ov_assign rfl) rfl rfl rfl ?_
        refine gl_nil ?_
        refine gq_keep (e' := [(2, _)]) ⟨rfl, trivial⟩ ?_
        refine gq_then ?_
        refine gc_ret ?_
        refine gq_body1 rfl rfl ?_
        have e : xs.take k = limbs (val xs) := trim_spec hv.lt hk hz (by
          by_cases h0 : k = 0
          · exact .inl h0
          · exact .inr fun h1 => hc15 ⟨by omega, h1⟩)
        rw [← e]
        exact ho

theorem made_mag {w0 : World} {h0 : Mem}  (hs : MLe h0 (mem w0)) {v : Value} {xs : List Nat} (hv : Us .u32 h0 v xs) (hl : xs.length ≤ 1099511627776) :
    Calls Try.prog 13 #[v] w0 (Ret w0 h0 (fun h r => Us .u32 h r (limbs (val xs)))) := by
  refine calls_begin (n := 5) (e := [(0, v)]) (vs := [v]) Try.func13 rfl rfl (Nat.le_of_ble_eq_true rfl) hs ⟨rfl, trivial⟩ ?_
  refine gc_seq ?_
  refine gc_region ?_  -- region 0 (line 65)
  refine gl_val (ov_assign rfl) rfl rfl rfl ?_
  refine gl_nil ?_
  refine gq_keep (e' := [(0, _)]) ⟨rfl, trivial⟩ ?_
  refine gq_then ?_
  refine gc_seq ?_
  refine gc_region ?_  -- region 1 (line 65)
  refine gl_val (ov_move rfl) rfl rfl rfl ?_
  refine gl_call (vs := [_]) rfl rfl rfl rfl Try.call39 ⟨rfl, trivial⟩ (fun w hs => ref_trim hs hv (by omega)) ?_
  intro v4 h1 hh1 hr4
  replace hv := hv.mono hh1
  refine gl_val (ov_assign rfl) rfl rfl rfl ?_
  refine gl_nil ?_
  refine gq_keep (e' := [(2, _)]) ⟨rfl, trivial⟩ ?_
  refine gq_then ?_
  refine gc_ret ?_
  refine gq_body1 rfl rfl ?_
  exact hr4

theorem law_light {w0 : World} {h0 : Mem}  (hs : MLe h0 (mem w0)) {v v' : Value} {xs ys : List Nat} (hv : Us .u32 h0 v xs) (hv' : Us .u32 h0 v' ys) :
    Calls Try.prog 11 #[v, v'] w0 (Ret w0 h0 (fun _ r => r = vB (xs.length ≤ 40 ∧ ys.length ≤ 40))) := by
  refine calls_begin (n := 13) (e := [(0, v), (1, v')]) (vs := [v, v']) Try.func11 rfl rfl (Nat.le_of_ble_eq_true rfl) hs ⟨rfl, rfl, trivial⟩ ?_
  refine gc_seq ?_
  refine gc_region ?_  -- region 0 (line 19)
  refine gl_val (ov_assign rfl) rfl rfl rfl ?_
  refine gl_nil ?_
  refine gq_keep (e' := [(0, _), (1, _)]) ⟨rfl, rfl, trivial⟩ ?_
  refine gq_then ?_
  refine gc_seq ?_
  refine gc_region ?_  -- region 1 (line 19)
  refine gl_val (ov_move rfl) rfl rfl rfl ?_
  refine gl_val (ov_len_us Try.underlying22 rfl hv) rfl rfl rfl ?_
  refine gl_val (ov_leq_i (q := 40) rfl rfl) rfl rfl rfl ?_
  refine gl_cut (ι := Unit) 5 (fun _ => True) (fun _ => [(12, vB (((↑xs.length : Int) ≤ 40) ∧ ((↑ys.length : Int) ≤ 40)))]) (fun _ => []) (fun _ => h0) ?_ ?_
  · skip
    refine gl_cases ((↑xs.length : Int) ≤ 40) (fun hg => ?_) (fun hg => ?_)
    · skip
      refine gl_val (ov_move (v := .bool true) (congrArg some (vB_true hg))) rfl rfl rfl ?_
      refine gl_on rfl rfl rfl ?_
      refine gl_val (ov_move rfl) rfl rfl rfl ?_
      refine gl_on rfl rfl rfl ?_
      refine gl_val (ov_len_us Try.underlying22 rfl hv') rfl rfl rfl ?_
      refine gl_on rfl rfl rfl ?_
      refine gl_val (ov_leq_i (q := 40) rfl rfl) rfl rfl rfl ?_
      refine gl_val (ov_pick_t rfl rfl) rfl rfl rfl ?_
      refine gl_nil ?_
      refine gq_cut () trivial ⟨?_, trivial⟩ rfl rfl
      exact congrArg some (vB_and_t hg)
    · skip
      refine gl_val (ov_move (v := .bool false) (congrArg some (vB_false hg))) rfl rfl rfl ?_
      refine gl_off rfl rfl rfl rfl rfl rfl ?_
      refine gl_off rfl rfl rfl rfl rfl rfl ?_
      refine gl_off rfl rfl rfl rfl rfl rfl ?_
      refine gl_val (ov_pick_f rfl rfl) rfl rfl rfl ?_
      refine gl_nil ?_
      refine gq_cut () trivial ⟨?_, trivial⟩ rfl rfl
      exact congrArg some (vB_and_f hg)
  · skip
    intro _ _
    show GL _ _ _ _ _ _ _ [(12, vB (((↑xs.length : Int) ≤ 40) ∧ ((↑ys.length : Int) ≤ 40)))] [] h0
    refine gl_val (ov_assign rfl) rfl rfl rfl ?_
    refine gl_nil ?_
    refine gq_keep (e' := [(4, _)]) ⟨rfl, trivial⟩ ?_
    refine gq_then ?_
    refine gc_ret ?_
    refine gq_body1 rfl rfl ?_
    exact vB_iff ⟨fun h => ⟨by omega, by omega⟩, fun h => ⟨by omega, by omega⟩⟩

theorem law_same {w0 : World} {h0 : Mem}  (hs : MLe h0 (mem w0)) {v v' : Value} {xs ys : List Nat} (hv : Us .u32 h0 v xs) (hv' : Us .u32 h0 v' ys) :
    Calls Try.prog 20 #[v, v'] w0 (Ret w0 h0 (fun _ r => r = vB (xs = ys))) := by
  have hlen := hv.lt63
  refine calls_begin (n := 26) (e := [(0, v), (1, v')]) (vs := [v, v']) Try.func20 rfl rfl (Nat.le_of_ble_eq_true rfl) hs ⟨rfl, rfl, trivial⟩ ?_
  refine gc_seq ?_
  refine gc_region ?_  -- region 0 (line 22)
  refine gl_val (ov_assign rfl) rfl rfl rfl ?_
  refine gl_nil ?_
  refine gq_keep (e' := [(0, _), (1, _)]) ⟨rfl, rfl, trivial⟩ ?_
  refine gq_then ?_
  refine gc_seq ?_
  refine gc_seq ?_
  refine gc_region ?_  -- region 1 (line 23)
  refine gl_val (ov_move rfl) rfl rfl rfl ?_
  refine gl_val (ov_len_us Try.underlying22 rfl hv) rfl rfl rfl ?_
  refine gl_val (ov_move rfl) rfl rfl rfl ?_
  refine gl_val (ov_len_us Try.underlying22 rfl hv') rfl rfl rfl ?_
  refine gl_val (ov_neq_i rfl rfl) rfl rfl rfl ?_
  refine gl_nil ?_
  refine gq_keep (e' := [(0, _), (1, _), (10, _)]) ⟨rfl, rfl, rfl, trivial⟩ ?_
  refine gq_then ?_
  refine gc_cond rfl (fun hc10 => ?_) (fun hc10 => ?_)
  · skip
    refine gc_keep (e' := []) trivial ?_
    refine gc_seq ?_
    refine gc_region ?_  -- region 2 (line 24)
    refine gl_val (ov_assign rfl) rfl rfl rfl ?_
    refine gl_nil ?_
    refine gq_then ?_
    refine gc_ret ?_
    refine gr_then ?_
    refine gq_body1 rfl rfl ?_
    exact (vB_false fun h => hc10 (by rw [h])).symm
  · skip
    have hl : xs.length = ys.length := by omega
    refine gc_keep (e' := [(0, _), (1, _)]) ⟨rfl, rfl, trivial⟩ ?_
    refine gc_skip ?_
    refine gq_then ?_
    refine gc_seq ?_
    refine gc_seq ?_
    refine gc_region ?_  -- region 3 (line 26)
    refine gl_val (ov_assign (v := vI (0)) rfl) rfl rfl rfl ?_
    refine gl_nil ?_
    refine gq_then ?_
    refine gc_block ?_
    refine gc_loop (ι := Nat) (fun (k : (Nat)) => k ≤ xs.length ∧ xs.take k = ys.take k) (fun (k : (Nat)) => [(0, v), (1, v'), (5, vI ↑k)]) (fun (k : (Nat)) => []) (fun (k : (Nat)) => h0) (fun (k : (Nat)) => xs.length - k) 0 ?_ ⟨rfl, rfl, rfl, trivial⟩ rfl rfl ?_
    · skip
      exact ⟨Nat.zero_le _, by simp⟩
    · skip
      intro k hx
      obtain ⟨hk, ht⟩ := hx
      show GC _ _ _ _ _ _ [(0, v), (1, v'), (5, vI ↑k)] [] h0
      refine gc_seq ?_
      refine gc_seq ?_
      refine gc_region ?_  -- region 4 (line 26)
      refine gl_val (ov_move rfl) rfl rfl rfl ?_
      refine gl_val (ov_move rfl) rfl rfl rfl ?_
      refine gl_val (ov_len_us Try.underlying22 rfl hv) rfl rfl rfl ?_
      refine gl_val (ov_lss_i rfl rfl) rfl rfl rfl ?_
      refine gl_nil ?_
      refine gq_keep (e' := [(0, _), (1, _), (5, _), (14, _)]) ⟨rfl, rfl, rfl, rfl, trivial⟩ ?_
      refine gq_then ?_
      refine gc_cond rfl (fun hc14 => ?_) (fun hc14 => ?_)
      · skip
        refine gc_keep (e' := [(0, _), (1, _), (5, _)]) ⟨rfl, rfl, rfl, trivial⟩ ?_
        refine gc_skip ?_
        refine gq_then ?_
        refine gc_seq ?_
        refine gc_block ?_
        refine gc_seq ?_
        refine gc_draw 9 _ [] [(0, .q), (1, .q), (2, .q), (3, .q), (4, .q), (5, .q), (6, .q), (7, .q), (8, .q)] mixed (fun x hx => by cases hx) (by kernel_rfl) (fun x hx => by cases hx) (fun r hr => hr) ?_  -- region 6 (line 27)
        refine w_q rfl (fun h' L' hh hR => ov_move rfl) rfl ?_
        refine w_q rfl (fun h' L' hh hR => ov_move rfl) rfl ?_
        refine w_q rfl (fun h' L' hh hR => ov_index_us (k) Try.underlying22 Try.sizeOf45 rfl rfl (hv.mono hh) (by omega) (by omega)) rfl ?_
        refine w_q rfl (fun h' L' hh hR => ov_load_us Try.isAgg45 rfl (hv.mono hh) (by omega)) rfl ?_
        refine w_q rfl (fun h' L' hh hR => ov_move rfl) rfl ?_
        refine w_q rfl (fun h' L' hh hR => ov_move rfl) rfl ?_
        refine w_q rfl (fun h' L' hh hR => ov_index_us (k) Try.underlying22 Try.sizeOf45 rfl rfl (hv'.mono hh) (by omega) (by omega)) rfl ?_
        refine w_q rfl (fun h' L' hh hR => ov_load_us Try.isAgg45 rfl (hv'.mono hh) (by omega)) rfl ?_
        refine w_q rfl (fun h' L' hh hR => ov_neq_u (k := .u32) rfl rfl) rfl ?_
        refine w_nil ?_
        refine gq_keep (e' := [(0, _), (1, _), (5, _), (25, _)]) ⟨rfl, rfl, rfl, rfl, trivial⟩ ?_
        refine gq_then ?_
        refine gc_cond rfl (fun hc25 => ?_) (fun hc25 => ?_)
        · skip
          refine gc_keep (e' := []) trivial ?_
          refine gc_seq ?_
          refine gc_region ?_  -- region 7 (line 28)
          refine gl_val (ov_assign rfl) rfl rfl rfl ?_
          refine gl_nil ?_
          refine gq_then ?_
          refine gc_ret ?_
          refine gr_in ?_
          refine gr_then ?_
          refine gr_then ?_
          refine gr_in ?_
          refine gr_then ?_
          refine gq_body1 rfl rfl ?_
          exact (vB_false fun h => hc25 (by rw [h])).symm
        · skip
          refine gc_keep (e' := [(0, _), (1, _), (5, _)]) ⟨rfl, rfl, rfl, trivial⟩ ?_
          refine gc_skip ?_
          refine gq_in ?_
          refine gq_then ?_
          refine gc_region ?_  -- region 5 (line 26)
          refine gl_val (ov_move rfl) rfl rfl rfl ?_
          refine gl_val (ov_add_i (q := 1) rfl rfl (by omega) (by omega)) rfl rfl rfl ?_
          refine gl_val (ov_assign rfl) rfl rfl rfl ?_
          refine gl_nil ?_
          refine gq_round (k + 1) ?_ ?_ ⟨?_, ?_, ?_, trivial⟩ ?_ rfl
          · skip
            exact ⟨by omega, by rw [take_succ xs k (by omega), take_succ ys k (by omega), ht, Classical.not_not.1 hc25]⟩
          · skip
            omega
          · exact rfl
          · exact rfl
          · exact rfl
          · exact rfl
      · skip
        refine gc_keep (e' := []) trivial ?_
        refine gc_exit ?_
        refine gx_then ?_
        refine gx_then ?_
        refine gx_here ?_
        refine gq_then ?_
        refine gc_seq ?_
        refine gc_region ?_  -- region 8 (line 31)
        refine gl_val (ov_assign rfl) rfl rfl rfl ?_
        refine gl_nil ?_
        refine gq_then ?_
        refine gc_ret ?_
        refine gq_body1 rfl rfl ?_
        exact (vB_true (by rw [← List.take_of_length_le (show xs.length ≤ k by omega), ht, List.take_of_length_le (by omega)])).symm

theorem law_awake {w0 : World} {h0 : Mem}  (hs : MLe h0 (mem w0))  :
    Calls Try.prog 12 #[] w0 (Ret w0 h0 (fun _ r => r = .bool true)) := by
  refine calls_begin (n := 44) (e := []) (vs := []) Try.func12 rfl rfl (Nat.le_of_ble_eq_true rfl) hs trivial ?_
  refine gc_seq ?_
  refine gc_region ?_  -- region 0 (line 12)
  refine gl_val (ov_assign rfl) rfl rfl rfl ?_
  refine gl_nil ?_
  refine gq_keep (e' := []) trivial ?_
  refine gq_then ?_
  refine gc_seq ?_
  refine gc_region ?_  -- region 1 (line 13)
  refine gl_newop (new_build1 (kd := .u32) (p := 4294967295) Try.underlying22 info45 rfl rfl rfl) rfl rfl rfl ?_
  intro v5 r5 hr5
  obtain rfl := hr5
  refine gl_freeze_us0 (by intro z hz; simp only [List.mem_cons, List.not_mem_nil, or_false] at hz; simp only [ub]; omega) ?_
  intro h1 hh1 ha
  refine gl_newop (new_build1 (kd := .u32) (p := 4294967295) Try.underlying22 info45 rfl rfl rfl) rfl rfl rfl ?_
  intro v6 r6 hr6
  obtain rfl := hr6
  refine gl_freeze_us0 (by intro z hz; simp only [List.mem_cons, List.not_mem_nil, or_false] at hz; simp only [ub]; omega) ?_
  intro h2 hh2 hb
  replace ha := ha.mono hh2
  refine gl_call (vs := [_, _]) rfl rfl rfl rfl Try.call24 ⟨rfl, rfl, trivial⟩ (fun w hs => nat_mul hs ha hb (by decide) (by decide)) ?_
  intro v7 h3 hh3 hr7
  replace ha := ha.mono hh3
  replace hb := hb.mono hh3
  have e7 : limbs (val [4294967295] * val [4294967295]) = [1, 4294967294] := limbs_of_val (xs := [1, 4294967294]) (fit_cons.2 ⟨by omega, fit_one (by omega)⟩) (.inr (by decide))
  rw [e7] at hr7
  refine gl_val (ov_assign rfl) rfl rfl rfl ?_
  refine gl_nil ?_
  refine gq_keep (e' := [(1, _)]) ⟨rfl, trivial⟩ ?_
  refine gq_then ?_
  refine gc_seq ?_
  refine gc_region ?_  -- region 2 (line 14)
  refine gl_newop (new_build3 (kd := .u32) (p := 0) (q := 0) (s := 1) Try.underlying22 info45 rfl rfl rfl rfl rfl) rfl rfl rfl ?_
  intro v9 r9 hr9
  obtain rfl := hr9
  refine gl_freeze_us0 (by intro z hz; simp only [List.mem_cons, List.not_mem_nil, or_false] at hz; simp only [ub]; omega) ?_
  intro h4 hh4 hc
  replace ha := ha.mono hh4
  replace hb := hb.mono hh4
  replace hr7 := hr7.mono hh4
  refine gl_newop (new_build1 (kd := .u32) (p := 3) Try.underlying22 info45 rfl rfl rfl) rfl rfl rfl ?_
  intro v10 r10 hr10
  obtain rfl := hr10
  refine gl_freeze_us0 (by intro z hz; simp only [List.mem_cons, List.not_mem_nil, or_false] at hz; simp only [ub]; omega) ?_
  intro h5 hh5 hd
  replace ha := ha.mono hh5
  replace hb := hb.mono hh5
  replace hr7 := hr7.mono hh5
  replace hc := hc.mono hh5
  refine gl_call (vs := [_, _]) rfl rfl rfl rfl Try.call32 ⟨rfl, rfl, trivial⟩ (fun w hs => nat_div hs hc hd (by decide) (by decide)) ?_
  intro v11 h6 hh6 hr11
  replace ha := ha.mono hh6
  replace hb := hb.mono hh6
  replace hr7 := hr7.mono hh6
  replace hc := hc.mono hh6
  replace hd := hd.mono hh6
  obtain ⟨q11, r11, rfl, hq11, hr11⟩ := hr11
  have e11 : val [0, 0, 1] / val [3] = 6148914691236517205 := by decide
  have e12 : val [0, 0, 1] % val [3] = 1 := by decide
  rw [e11] at hq11
  rw [if_neg (by decide), e12] at hr11
  rw [if_neg (by decide)]
  have l1 := limbs_len_word (n := 6148914691236517205) (by omega)
  have l2 := limbs_len_word (n := 1) (by omega)
  refine gl_val (ov_move rfl) rfl rfl rfl ?_
  refine gl_val (ov_extract (vs := [_, _, _]) rfl rfl) rfl rfl rfl ?_
  refine gl_val (ov_extract (vs := [_, _, _]) rfl rfl) rfl rfl rfl ?_
  refine gl_val (ov_extract (vs := [_, _, _]) rfl rfl) rfl rfl rfl ?_
  refine gl_val (ov_assign rfl) rfl rfl rfl ?_
  refine gl_val (ov_assign rfl) rfl rfl rfl ?_
  refine gl_val (ov_assign rfl) rfl rfl rfl ?_
  refine gl_nil ?_
  refine gq_keep (e' := [(1, _), (2, _), (3, _), (4, _)]) ⟨rfl, rfl, rfl, rfl, trivial⟩ ?_
  refine gq_then ?_
  refine gc_seq ?_
  refine gc_region ?_  -- region 3 (line 15)
  refine gl_val (ov_move rfl) rfl rfl rfl ?_
  refine gl_val (ov_len_us Try.underlying22 rfl hr7) rfl rfl rfl ?_
  refine gl_val (OpV.tr (by rfl) (ov_eql_i (q := 2) rfl rfl)) rfl rfl rfl ?_
  refine gl_val (ov_move rfl) rfl rfl rfl ?_
  refine gl_on rfl rfl rfl ?_
  refine gl_val (ov_move rfl) rfl rfl rfl ?_
  refine gl_on rfl rfl rfl ?_
  refine gl_val (ov_index_us (q := 0) (0) Try.underlying22 Try.sizeOf45 rfl rfl hr7 rfl (by decide)) rfl rfl rfl ?_
  refine gl_on rfl rfl rfl ?_
  refine gl_val (ov_load_us Try.isAgg45 rfl hr7 (by decide)) rfl rfl rfl ?_
  refine gl_on rfl rfl rfl ?_
  refine gl_val (OpV.tr (by rfl) (ov_eql_u (k := .u32) (q := 1) rfl rfl)) rfl rfl rfl ?_
  refine gl_val (ov_pick_t rfl rfl) rfl rfl rfl ?_
  refine gl_val (ov_move rfl) rfl rfl rfl ?_
  refine gl_on rfl rfl rfl ?_
  refine gl_val (ov_move rfl) rfl rfl rfl ?_
  refine gl_on rfl rfl rfl ?_
  refine gl_val (ov_index_us (q := 1) (1) Try.underlying22 Try.sizeOf45 rfl rfl hr7 rfl (by decide)) rfl rfl rfl ?_
  refine gl_on rfl rfl rfl ?_
  refine gl_val (ov_load_us Try.isAgg45 rfl hr7 (by decide)) rfl rfl rfl ?_
  refine gl_on rfl rfl rfl ?_
  refine gl_val (OpV.tr (by rfl) (ov_eql_u (k := .u32) (q := 4294967294) rfl rfl)) rfl rfl rfl ?_
  refine gl_val (ov_pick_t rfl rfl) rfl rfl rfl ?_
  refine gl_val (ov_move rfl) rfl rfl rfl ?_
  refine gl_on rfl rfl rfl ?_
  refine gl_val (ov_move rfl) rfl rfl rfl ?_
  refine gl_on rfl rfl rfl ?_
  refine gl_val (OpV.tr (by rfl) (ov_eql_i (q := 0) rfl rfl)) rfl rfl rfl ?_
  refine gl_val (ov_pick_t rfl rfl) rfl rfl rfl ?_
  refine gl_val (ov_move rfl) rfl rfl rfl ?_
  refine gl_on rfl rfl rfl ?_
  refine gl_val (ov_move rfl) rfl rfl rfl ?_
  refine gl_on rfl rfl rfl ?_
  refine gl_call (vs := [_]) rfl rfl rfl rfl Try.call29 ⟨rfl, trivial⟩ (fun w hs => nat_text hs hq11 (by omega)) ?_
  intro v36 h7 hh7 hr36
  replace ha := ha.mono hh7
  replace hb := hb.mono hh7
  replace hr7 := hr7.mono hh7
  replace hc := hc.mono hh7
  replace hd := hd.mono hh7
  replace hq11 := hq11.mono hh7
  replace hr11 := hr11.mono hh7
  subst hr36
  refine gl_on rfl rfl rfl ?_
  refine gl_val (OpV.tr (by rw [val_limbs]; simp [txt, chLE, decLE, strOf]) (ov_eql_str rfl rfl)) rfl rfl rfl ?_
  refine gl_val (ov_pick_t rfl rfl) rfl rfl rfl ?_
  refine gl_val (ov_move rfl) rfl rfl rfl ?_
  refine gl_on rfl rfl rfl ?_
  refine gl_val (ov_move rfl) rfl rfl rfl ?_
  refine gl_on rfl rfl rfl ?_
  refine gl_call (vs := [_]) rfl rfl rfl rfl Try.call29 ⟨rfl, trivial⟩ (fun w hs => nat_text hs hr11 (by omega)) ?_
  intro v41 h8 hh8 hr41
  replace ha := ha.mono hh8
  replace hb := hb.mono hh8
  replace hr7 := hr7.mono hh8
  replace hc := hc.mono hh8
  replace hd := hd.mono hh8
  replace hq11 := hq11.mono hh8
  replace hr11 := hr11.mono hh8
  subst hr41
  refine gl_on rfl rfl rfl ?_
  refine gl_val (OpV.tr (by rw [val_limbs]; simp [txt, chLE, decLE, strOf]) (ov_eql_str rfl rfl)) rfl rfl rfl ?_
  refine gl_val (ov_pick_t rfl rfl) rfl rfl rfl ?_
  refine gl_val (ov_assign rfl) rfl rfl rfl ?_
  refine gl_nil ?_
  refine gq_keep (e' := [(0, _)]) ⟨rfl, trivial⟩ ?_
  refine gq_then ?_
  refine gc_ret ?_
  refine gq_body1 rfl rfl ?_
  rfl

end Go.Proofs.Ytoionddicppahaa
