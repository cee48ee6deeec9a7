/- Contracts of functions, walked by their text (nat3/b). -/
import Derived.Test.YtimoeckkdodogaaW2
namespace Go.Proofs.Ytimoeckkdodogaa
open Bk Go
set_option linter.unusedVariables false
set_option linter.unusedSimpArgs false
set_option maxRecDepth 10000

theorem sl_reverse8 {w0 w : World} {h0 h : Mem}  {v : Value} {xs : List Nat} {L : List Res} (hl : xs.length < 4611686018427387904) (hs : St w0 h0 (.us 5 .u8 v xs :: L) h w) :
    Calls Try.prog 107 #[v] w (RetOwn w0 h0 (fun g _ K => g = h ∧ K = .us 5 .u8 v xs.reverse :: L)) := by
 refine calls_begin_st (n := 28) (e := [(0, v)]) (vs := [v]) Try.func107 rfl rfl (Nat.le_of_ble_eq_true rfl) hs ⟨rfl, trivial⟩ (gc_seq (gc_region (mv rfl rfl (gv (ov_len_ous (A := []) Try.underlying85 rfl) rfl (gv (ov_sub_i (q := 1) rfl rfl (by omega) (by omega)) rfl (asg (v := vI (0)) rfl rfl (asg rfl rfl (gl_nil (gq_then (gc_block ?_))))))))))
 refine gc_loop (ι := Nat × List Nat) (fun (x_ : (Nat × List Nat)) => match x_ with | (k, ys) => ys.length = xs.length ∧ (k = 0 ∨ 2 * k ≤ xs.length + 1) ∧ ∀ i, i < xs.length → ys.getD i 0 = if i < k ∨ xs.length ≤ i + k then xs.getD (xs.length - 1 - i) 0 else xs.getD i 0) (fun (x_ : (Nat × List Nat)) => match x_ with | (k, ys) => [(0, v), (2, vI ↑k), (3, vI (↑xs.length - 1 - ↑k))]) (fun (x_ : (Nat × List Nat)) => match x_ with | (k, ys) => (.us 5 .u8 v ys :: L)) (fun (x_ : (Nat × List Nat)) => match x_ with | (k, ys) => h) (fun (x_ : (Nat × List Nat)) => match x_ with | (k, ys) => xs.length - 2 * k) (0, xs) ?_ ⟨?_, ?_, ?_, trivial⟩ rfl rfl ?_
 ·
  exact ⟨rfl, .inl rfl, fun i hi => by rw [if_neg (by omega)]⟩
 · exact rfl
 · exact rfl
 · exact congrArg some (congrArg vI (by omega))
 ·
  intro x hx
  obtain ⟨k, ys⟩ := x
  obtain ⟨hyl, hk2, hys⟩ := hx
  show GC _ _ _ _ _ _ [(0, v), (2, vI ↑k), (3, vI (↑xs.length - 1 - ↑k))] (.us 5 .u8 v ys :: L) h
  refine gc_seq (gc_seq (gc_region (mv rfl rfl (mv rfl rfl (gv (ov_lss_i rfl rfl) rfl (gl_nil (gq_then ?_)))))))
  refine gc_cond rfl (fun hc9 => ?_) (fun hc9 => ?_)
  ·
   refine gc_skip (gq_then (gc_seq (gc_block ?_)))
   refine gc_draw 13 _ [] [(0, .q), (1, .q), (2, .p), (3, .p), (4, .q), (5, .q), (6, .q), (7, .q), (8, .q), (9, .q), (10, .q), (11, .q), (12, .q), (13, .t), (14, .t), (15, .t)] mixed (fun x hx => by cases hx) (by kernel_rfl) (fun x hx => by cases hx) (fun r hr => hr) (w_q rfl (fun h' L' hh hR => ov_move rfl) rfl (w_q rfl (fun h' L' hh hR => ov_move rfl) rfl (w_p (⟨.inl rfl,  rfl⟩) rfl rfl (w_p (⟨.inl rfl,  rfl⟩) rfl rfl (w_q rfl (fun h' L' hh hR => ov_move rfl) rfl (w_q rfl (fun h' L' hh hR => ov_move rfl) rfl (w_q rfl (fun h' L' hh hR => ov_index_ousM (hR _ (.head _)) (xs.length - 1 - k) Try.underlying85 Try.sizeOf5 rfl rfl (by omega) (by omega)) rfl (w_q rfl (fun h' L' hh hR => ov_load_ousM (hR _ (.head _)) Try.isAgg5 rfl (by omega)) rfl (w_q rfl (fun h' L' hh hR => ov_move rfl) rfl (w_q rfl (fun h' L' hh hR => ov_move rfl) rfl (w_q rfl (fun h' L' hh hR => ov_index_ousM (hR _ (.head _)) _ Try.underlying85 Try.sizeOf5 rfl rfl rfl (by omega)) rfl (w_q rfl (fun h' L' hh hR => ov_load_ousM (hR _ (.head _)) Try.isAgg5 rfl (by omega)) rfl (w_q rfl (fun h' L' hh hR => ov_index_ousM (hR _ (.head _)) _ Try.underlying85 Try.sizeOf5 rfl rfl rfl (by omega)) rfl ?_)))))))))))))
   refine w_t_upd (A := []) rfl (upd_store_ous Try.sizeOf5 rfl rfl (by omega)) rfl (w_t_val rfl (ov_index_ous (A := []) (xs.length - 1 - k) Try.underlying85 Try.sizeOf5 rfl rfl (by omega) (by simp; omega)) rfl (w_t_upd (A := []) rfl (upd_store_ous Try.sizeOf5 rfl rfl (by simp; omega)) rfl (w_nil (gq_in (gq_keep (e' := [(0, _), (2, _), (3, _)]) ⟨rfl, rfl, rfl, trivial⟩ (gq_then (gc_region (mv rfl rfl (gv (ov_add_i (q := 1) rfl rfl (by omega) (by omega)) rfl (mv rfl rfl (gv (ov_sub_i (q := 1) rfl rfl (by omega) (by omega)) rfl (asg rfl rfl (asg rfl rfl ?_)))))))))))))
   refine gl_nil ?_
   refine gq_round (k + 1, (ys.set k (ys.getD (xs.length - 1 - k) 0)).set (xs.length - 1 - k) (ys.getD k 0)) ?_ ?_ ⟨?_, ?_, ?_, trivial⟩ ?_ rfl
   ·
    refine ⟨by simp [hyl], .inr (by omega), fun i hi => ?_⟩
    by_cases e1 : i = xs.length - 1 - k
    · subst e1
      rw [List.getD_eq_getElem?_getD, List.getElem?_set_self (by simp; omega), Option.getD_some, hys k (by omega), if_neg (by omega), if_pos (by omega)]
      exact congrArg (fun z => xs.getD z 0) (by omega)
    · rw [List.getD_eq_getElem?_getD, List.getElem?_set_ne (by omega), ← List.getD_eq_getElem?_getD]
      by_cases e2 : i = k
      · subst e2
        rw [List.getD_eq_getElem?_getD, List.getElem?_set_self (by omega), Option.getD_some, hys _ (by omega), if_neg (by omega), if_pos (by omega)]
      · rw [List.getD_eq_getElem?_getD, List.getElem?_set_ne (by omega), ← List.getD_eq_getElem?_getD, hys i hi]
        by_cases h3 : i < k ∨ xs.length ≤ i + k
        · rw [if_pos h3, if_pos (by omega)]
        · rw [if_neg h3, if_neg (by omega)]
   ·
    dsimp only
    omega
   · exact rfl
   · exact rfl
   · exact congrArg some (congrArg vI (by omega))
   · exact rfl
  ·
   refine gc_exit (gx_then (gx_then (gx_here (gq_body0_own rfl ?_))))
   refine ⟨rfl, ?_⟩
   have e : ys = xs.reverse := reverse_of_get hyl fun i hi => by
     rw [hys i hi]
     by_cases h3 : i < k ∨ xs.length ≤ i + k
     · rw [if_pos h3]
     · rw [if_neg h3]
       exact congrArg (fun z => xs.getD z 0) (by omega)
   rw [e]

theorem nat_text {w0 : World} {h0 : Mem}  (hs : MLe h0 (mem w0)) {v : Value} {xs : List Nat} (hv : Us .u32 h0 v xs) (hl : xs.length ≤ 1099511627776) :
    Calls Try.prog 75 #[v] w0 (Ret w0 h0 (fun _ r => r = .string (strOf (txt (val xs))))) := by
 have hf : Fit xs := hv.lt
 have hcl := chLE_len hf
 refine calls_begin (n := 45) (e := [(0, v)]) (vs := [v]) Try.func75 rfl rfl (Nat.le_of_ble_eq_true rfl) hs ⟨rfl, trivial⟩ (gc_seq (gc_region (asg rfl rfl (gl_nil (gq_then (gc_seq (gc_region (mv rfl rfl ?_))))))))
 refine gl_call (vs := [_]) rfl rfl rfl rfl Try.call101 ⟨rfl, trivial⟩ (fun w hs => nat_trim hs hv) ?_
 intro v7 h1 hh1 hr7
 replace hr7 := hr7.2
 have hll := limbs_len_le hf
 refine asg rfl rfl (gl_nil (gq_then (gc_seq (gc_seq (gc_region (mv rfl rfl (gv (ov_len_us Try.underlying22 rfl hr7) rfl (gv (ov_eql_i (q := 0) rfl rfl) rfl (gl_nil (gq_then ?_))))))))))
 refine gc_cond rfl (fun hc10 => ?_) (fun hc10 => ?_)
 ·
  have hz0 : (limbs (val xs)).length = 0 := by omega
  refine gc_seq (gc_region (asg rfl rfl (gl_nil (gq_then (gc_ret (gr_then (gq_body1 rfl rfl ?_)))))))
  have e : val xs = 0 := Classical.byContradiction fun hne => by have := limbs_len_pos.2 hne; omega
  rw [e]; rfl
 ·
  have hnz : (limbs (val xs)).length ≠ 0 := by omega
  refine gc_skip (gq_then (gc_seq (gc_region (gl_val (ov_assign (v := .slice none 0 0) rfl) rfl rfl rfl (gl_addnil (E := 5) (k := .u8) (gl_nil (gq_then (gc_seq (gc_block ?_)))))))))
  refine gc_loop (ι := Value × Nat × Value × List Nat × Mem) (fun (x_ : (Value × Nat × Value × List Nat × Mem)) => match x_ with | (va, n, vo, ds, hm1) => MLe h1 hm1 ∧ (Us .u32 hm1 va (limbs n) ∧ n ≤ val xs ∧ ds ++ chLE n = chLE (val xs))) (fun (x_ : (Value × Nat × Value × List Nat × Mem)) => match x_ with | (va, n, vo, ds, hm1) => [(0, va), (3, vo)]) (fun (x_ : (Value × Nat × Value × List Nat × Mem)) => match x_ with | (va, n, vo, ds, hm1) => [.us 5 .u8 vo ds]) (fun (x_ : (Value × Nat × Value × List Nat × Mem)) => match x_ with | (va, n, vo, ds, hm1) => hm1) (fun (x_ : (Value × Nat × Value × List Nat × Mem)) => match x_ with | (va, n, vo, ds, hm1) => n) (v7, val xs, .slice none 0 0, [], h1) ?_ ⟨rfl, rfl, trivial⟩ rfl rfl ?_
  ·
   refine ⟨MLe.refl _, ?_⟩
   exact ⟨hr7, Nat.le_refl _, rfl⟩
  ·
   intro x hx
   obtain ⟨va, n, vo, ds, hm1⟩ := x
   obtain ⟨hmhm1, ⟨ha, hnle, hds⟩⟩ := hx
   show GC _ _ _ _ _ _ [(0, va), (3, vo)] [.us 5 .u8 vo ds] hm1
   have hlln : (limbs n).length ≤ xs.length := Nat.le_trans (limbs_len_mono hnle) hll
   refine gc_seq (gc_seq (gc_region (mv rfl rfl (gv (ov_len_us Try.underlying22 rfl ha) rfl (gv (ov_gtr_i (q := 0) rfl rfl) rfl (gl_nil (gq_then ?_)))))))
   refine gc_cond rfl (fun hc13 => ?_) (fun hc13 => ?_)
   ·
    refine gc_skip (gq_then (gc_block (gc_seq (gc_region (asg (v := vU .u32 0) rfl rfl (gl_nil (gq_then (gc_seq (gc_region (mv rfl rfl ?_))))))))))
    refine gl_call (vs := [_, vU .u32 1000000000]) rfl rfl rfl rfl Try.call106 ⟨rfl, rfl, trivial⟩ (fun w hs => nat_small hs ha (by omega) (by omega) (by omega)) ?_
    intro v16 h2 hh2 hr16
    obtain ⟨u16, rfl, hu16⟩ := hr16
    rw [val_limbs] at hu16 ⊢
    refine mv rfl rfl (gv (ov_extract (vs := [_, _]) rfl rfl) rfl (gv (ov_extract (vs := [_, _]) rfl rfl) rfl (asg rfl rfl (asg rfl rfl (gl_nil (gq_then (gc_seq (gc_region (asg (v := vI (0)) rfl rfl (gl_nil (gq_then (gc_block ?_))))))))))))
    refine gc_loop (ι := Nat × Nat × Value × List Nat × Mem) (fun (x_ : (Nat × Nat × Value × List Nat × Mem)) => match x_ with | (i, x, vo2, ds2, hm2) => MLe h2 hm2 ∧ (i ≤ 9 ∧ x < 10 ^ (9 - i) ∧ ds2 ++ chLE (x + 10 ^ (9 - i) * (n / 1000000000)) = chLE (val xs))) (fun (x_ : (Nat × Nat × Value × List Nat × Mem)) => match x_ with | (i, x, vo2, ds2, hm2) => [(0, u16), (3, vo2), (4, vU .u32 x), (5, vI ↑i)]) (fun (x_ : (Nat × Nat × Value × List Nat × Mem)) => match x_ with | (i, x, vo2, ds2, hm2) => [.us 5 .u8 vo2 ds2]) (fun (x_ : (Nat × Nat × Value × List Nat × Mem)) => match x_ with | (i, x, vo2, ds2, hm2) => hm2) (fun (x_ : (Nat × Nat × Value × List Nat × Mem)) => match x_ with | (i, x, vo2, ds2, hm2) => 9 - i) (0, n % 1000000000, vo, ds, h2) ?_ ⟨rfl, rfl, rfl, rfl, trivial⟩ rfl rfl ?_
    ·
     refine ⟨MLe.refl _, ?_⟩
     exact ⟨by omega, by omega, by rw [← hds]; congr 2; omega⟩
    ·
     intro x hx
     obtain ⟨i, x, vo2, ds2, hm2⟩ := x
     obtain ⟨hmhm2, ⟨hi, hxb, hds2⟩⟩ := hx
     show GC _ _ _ _ _ _ [(0, u16), (3, vo2), (4, vU .u32 x), (5, vI ↑i)] [.us 5 .u8 vo2 ds2] hm2
     have hxm : x < 4294967296 := Nat.lt_of_lt_of_le hxb (Nat.le_trans (Nat.pow_le_pow_right (by omega) (show 9 - i ≤ 9 by omega)) (by decide))
     refine gc_seq (gc_seq (gc_region (mv rfl rfl (gv (ov_lss_i (q := 9) rfl rfl) rfl ?_))))
     refine gl_cut (ι := Unit) 9 (fun _ => True) (fun _ => [(29, vB (((i : Int) < 9) ∧ (0 < x ∨ (0 : Int) < ↑(limbs (n / 1000000000)).length))), (0, u16), (3, vo2), (4, vU .u32 x), (5, vI ↑i)]) (fun _ => [.us 5 .u8 vo2 ds2]) (fun _ => hm2) ?_ ?_
     ·
      refine gl_cases ((i : Int) < 9) (fun hg => ?_) (fun hg => ?_)
      ·
       refine gl_val (ov_move (v := .bool true) (congrArg some (vB_true hg))) rfl rfl rfl (gl_on rfl rfl rfl (mv rfl rfl (gl_on rfl rfl rfl (gv (ov_gtr_u (k := .u32) (q := 0) rfl rfl) rfl ?_))))
       refine gl_cut (ι := Unit) 5 (fun _ => True) (fun _ => [(28, vB ((0 < x) ∨ ((0 : Int) < ↑(limbs (n / 1000000000)).length))), (0, u16), (3, vo2), (4, vU .u32 x), (5, vI ↑i), (21, .bool true)]) (fun _ => [.us 5 .u8 vo2 ds2]) (fun _ => hm2) ?_ ?_
       ·
        refine gl_cases (0 < x) (fun hg => ?_) (fun hg => ?_)
        ·
         refine gl_on rfl rfl rfl (gl_val (ov_move (v := .bool true) (congrArg some (vB_true hg))) rfl rfl rfl (gl_off rfl rfl rfl rfl rfl rfl (gl_off rfl rfl rfl rfl rfl rfl (gl_off rfl rfl rfl rfl rfl rfl (gl_on rfl rfl rfl (gv (ov_pick_t rfl rfl) rfl (gl_nil ?_)))))))
         refine gq_cut () trivial ⟨?_, rfl, rfl, rfl, rfl, rfl, trivial⟩ rfl rfl
         exact congrArg some (vB_or_t hg)
        ·
         refine gl_on rfl rfl rfl (gl_val (ov_move (v := .bool false) (congrArg some (vB_false hg))) rfl rfl rfl (gl_on rfl rfl rfl (mv rfl rfl (gl_on rfl rfl rfl ?_))))
         replace hu16 := hu16.mono hmhm2
         refine gv (ov_len_us Try.underlying22 rfl hu16) rfl (gl_on rfl rfl rfl (gv (ov_gtr_i (q := 0) rfl rfl) rfl (gl_on rfl rfl rfl (gv (ov_pick_f rfl rfl) rfl (gl_nil ?_)))))
         refine gq_cut () trivial ⟨?_, rfl, rfl, rfl, rfl, rfl, trivial⟩ rfl rfl
         exact congrArg some (vB_or_f hg)
       ·
        intro _ _
        show GL _ _ _ _ _ _ _ [(28, vB ((0 < x) ∨ ((0 : Int) < ↑(limbs (n / 1000000000)).length))), (0, u16), (3, vo2), (4, vU .u32 x), (5, vI ↑i), (21, .bool true)] [.us 5 .u8 vo2 ds2] hm2
        refine gv (ov_pick_t rfl rfl) rfl (gl_nil ?_)
        refine gq_cut () trivial ⟨?_, rfl, rfl, rfl, rfl, trivial⟩ rfl rfl
        exact congrArg some (vB_and_t hg)
      ·
       refine gl_val (ov_move (v := .bool false) (congrArg some (vB_false hg))) rfl rfl rfl (gl_off rfl rfl rfl rfl rfl rfl (gl_off rfl rfl rfl rfl rfl rfl (gl_off rfl rfl rfl rfl rfl rfl (gl_offu rfl rfl rfl rfl rfl (gl_offu rfl rfl rfl rfl rfl (gl_offu rfl rfl rfl rfl rfl (gl_off rfl rfl rfl rfl rfl rfl (gv (ov_pick_f rfl rfl) rfl (gl_nil ?_)))))))))
       refine gq_cut () trivial ⟨?_, rfl, rfl, rfl, rfl, trivial⟩ rfl rfl
       exact congrArg some (vB_and_f hg)
     ·
      intro _ _
      show GL _ _ _ _ _ _ _ [(29, vB (((i : Int) < 9) ∧ (0 < x ∨ (0 : Int) < ↑(limbs (n / 1000000000)).length))), (0, u16), (3, vo2), (4, vU .u32 x), (5, vI ↑i)] [.us 5 .u8 vo2 ds2] hm2
      refine gl_nil (gq_then ?_)
      refine gc_cond rfl (fun hc29 => ?_) (fun hc29 => ?_)
      ·
       have hdl2 : ds2.length ≤ (chLE (val xs)).length := by rw [← hds2]; simp
       refine gc_skip (gq_then (gc_seq (gc_block (gc_seq (gc_region (mv rfl rfl (mv rfl rfl (gv (ov_rem_u (k := .u32) (q := 10) rfl rfl (by omega)) rfl (gv (ov_add_u (k := .u32) (p := 48) (W := 4294967296) rfl rfl rfl rfl (by omega)) rfl (gv (ov_conv_u (k := .u32) (k' := .u8) (W := 256) Try.underlying61 Try.underlying5 rfl rfl rfl (by omega)) rfl (gl_newop (new_build1 (kd := .u8) Try.underlying85 info5 rfl rfl rfl) rfl rfl rfl ?_)))))))))))
       intro v37 r37 hr37
       obtain rfl := hr37
       refine gl_freeze_us0 (by intro z hz; simp only [List.mem_singleton] at hz; subst hz; simp only [ub]; omega) ?_
       intro h3 hh3 hch
       refine gl_repop (A := []) (rep_append_us (kd := .u8) (bytes := 1) Try.underlying85 info5 rfl rfl rfl rfl rfl hch (by simp only [List.length_singleton]; omega) (by simp only [List.length_singleton]; omega)) rfl rfl rfl ?_
       intro v38 r38 hr38
       obtain rfl := hr38
       refine asg rfl rfl (gl_nil (gq_then (gc_region (mv rfl rfl (gv (ov_quo_u (k := .u32) (q := 10) (W := 4294967296) rfl rfl rfl rfl (by omega) (by omega)) rfl (asg rfl rfl (gl_nil (gq_in (gq_then (gc_region (mv rfl rfl (gv (ov_add_i (q := 1) rfl rfl (by omega) (by omega)) rfl (asg rfl rfl ?_)))))))))))))
       refine gl_nil ?_
       refine gq_round (i + 1, x / 10, v38, ds2 ++ [48 + x % 10], h3) ?_ ?_ ⟨?_, ?_, ?_, ?_, trivial⟩ ?_ rfl
       ·
        refine ⟨(hmhm2.trans hh3), ?_⟩
        obtain ⟨h9, hor⟩ := hc29
        obtain ⟨k, hk⟩ : ∃ k, 9 - i = k + 1 := ⟨8 - i, by omega⟩
        have hln := limbs_len_pos (n := n / 1000000000)
        refine ⟨by omega, ?_, ?_⟩
        · rw [show 9 - (i + 1) = k by omega]
          rw [hk, Nat.pow_succ] at hxb
          omega
        · rw [show 9 - (i + 1) = k by omega]
          rw [hk, chLE_step (by omega)] at hds2
          rw [List.append_assoc]
          exact hds2
       ·
        dsimp only
        omega
       · exact rfl
       · exact rfl
       · exact rfl
       · exact rfl
       · exact rfl
      ·
       refine gc_exit (gx_then (gx_then (gx_here (gq_in ?_))))
       refine gq_round (u16, n / 1000000000, vo2, ds2, hm2) ?_ ?_ ⟨?_, ?_, trivial⟩ ?_ rfl
       ·
        refine ⟨((hmhm1.trans hh2).trans hmhm2), ?_⟩
        replace hu16 := hu16.mono hmhm2
        refine ⟨hu16, by omega, ?_⟩
        rw [← hds2]
        congr 2
        by_cases h9 : i = 9
        · subst h9; simp at hxb ⊢; omega
        · have h1 : ¬ (0 < x ∨ (0 : Int) < ↑(limbs (n / 1000000000)).length) := fun h => hc29 ⟨by omega, h⟩
          have h2 : n / 1000000000 = 0 := Classical.byContradiction fun hne => h1 (.inr (by have := limbs_len_pos.2 hne; omega))
          rw [h2, show x = 0 by omega, Nat.mul_zero]
       ·
        dsimp only
        have := limbs_len_pos (n := n); omega
       · exact rfl
       · exact rfl
       · exact rfl
   ·
    have hn0 : n = 0 := Classical.byContradiction fun hne => hc13 (by have := limbs_len_pos.2 hne; omega)
    subst hn0
    rw [chLE_zero, List.append_nil] at hds
    have hdl0 : ds.length ≤ 10 * xs.length := by rw [hds]; exact hcl
    refine gc_exit (gx_then (gx_then (gx_here (gq_then (gc_seq (gc_region (mv rfl rfl ?_)))))))
    refine gl_call_mut (vs := [_]) rfl rfl rfl rfl Try.call107 ⟨rfl, trivial⟩ (fun w hs => sl_reverse8 (by omega) hs) ?_
    intro v42 g42 L42 hr42
    obtain ⟨e1, e2⟩ := hr42
    rw [e1, e2]
    clear e1 e2 g42 L42
    refine gl_nil (gq_then (gc_seq (gc_region (gl_freeze_us0 (by intro z hz; rw [hds] at hz; exact chLE_lt _ z (List.mem_reverse.1 hz)) ?_))))
    intro h2 hh2 hfin
    refine mv rfl rfl (gv (ov_bytes_str Try.underlying85 Try.underlying5 Try.underlying9 rfl hfin) rfl (asg rfl rfl (gl_nil (gq_then (gc_ret (gq_body1 rfl rfl ?_))))))
    have e : val xs ≠ 0 := limbs_len_pos.1 (by omega)
    rw [txt, if_neg e, ← hds]

end Go.Proofs.Ytimoeckkdodogaa
