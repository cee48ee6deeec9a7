/- Contracts of functions, walked by their text (natural+nat5+nat6+nat7+nat10+rat1+rat5+rat6+rat7/r). -/
import Derived.Test.YtimoeckkdodogaaR8
namespace Go.Proofs.Ytimoeckkdodogaa
open Bk Go
set_option linter.unusedVariables false
set_option linter.unusedSimpArgs false
set_option maxRecDepth 10000

theorem ref_valid {w0 : World} {h0 : Mem}  (hs : MLe h0 (mem w0)) {v : Value} {xs : List Nat} (hv : Us .u32 h0 v xs) :
    Calls Try.prog 85 #[v] w0 (Ret w0 h0 (fun _ r => r = vB (xs = [] ∨ xs.getD (xs.length - 1) 0 ≠ 0))) := by
 have hlen := hv.lt63
 refine calls_begin (n := 15) (e := [(0, v)]) (vs := [v]) Try.func85 rfl rfl (Nat.le_of_ble_eq_true rfl) hs ⟨rfl, trivial⟩ (gc_seq (gc_region (asg rfl rfl (gl_nil (gq_then (gc_seq (gc_region (mv rfl rfl (gv (ov_len_us Try.underlying22 rfl hv) rfl (gv (ov_eql_i (q := 0) rfl rfl) rfl ?_))))))))))
 refine gl_cut (ι := Unit) 9 (fun _ => True) (fun _ => [(14, vB (((↑xs.length : Int) = 0) ∨ (xs.getD (xs.length - 1) 0 ≠ 0)))]) (fun _ => []) (fun _ => h0) ?_ ?_
 ·
  refine gl_cases ((↑xs.length : Int) = 0) (fun hg => ?_) (fun hg => ?_)
  ·
   refine gl_val (ov_move (v := .bool true) (congrArg some (vB_true hg))) rfl rfl rfl (gl_off rfl rfl rfl rfl rfl rfl (gl_off rfl rfl rfl rfl rfl rfl (gl_off rfl rfl rfl rfl rfl rfl (gl_off rfl rfl rfl rfl rfl rfl (gl_off rfl rfl rfl rfl rfl rfl (gl_off rfl rfl rfl rfl rfl rfl (gl_off rfl rfl rfl rfl rfl rfl (gv (ov_pick_t rfl rfl) rfl (gl_nil ?_)))))))))
   refine gq_cut () trivial ⟨?_, trivial⟩ rfl rfl
   exact congrArg some (vB_or_t hg)
  ·
   have hpos : 0 < xs.length := by omega
   refine gl_val (ov_move (v := .bool false) (congrArg some (vB_false hg))) rfl rfl rfl (gl_on rfl rfl rfl (mv rfl rfl (gl_on rfl rfl rfl (mv rfl rfl (gl_on rfl rfl rfl (gv (ov_len_us Try.underlying22 rfl hv) rfl (gl_on rfl rfl rfl (gv (ov_sub_i (q := 1) rfl rfl (by omega) (by omega)) rfl (gl_on rfl rfl rfl (gv (ov_index_us (xs.length - 1) Try.underlying22 Try.sizeOf61 rfl rfl hv (by omega) (by omega)) rfl (gl_on rfl rfl rfl (gv (ov_load_us Try.isAgg61 rfl hv (by omega)) rfl (gl_on rfl rfl rfl ?_)))))))))))))
   refine gv (ov_neq_u (k := .u32) (q := 0) rfl rfl) rfl (gv (ov_pick_f rfl rfl) rfl (gl_nil ?_))
   refine gq_cut () trivial ⟨?_, trivial⟩ rfl rfl
   exact congrArg some (vB_or_f hg)
 ·
  intro _ _
  show GL _ _ _ _ _ _ _ [(14, vB (((↑xs.length : Int) = 0) ∨ (xs.getD (xs.length - 1) 0 ≠ 0)))] [] h0
  refine asg rfl rfl (gl_nil (gq_then (gc_ret (gq_body1 rfl rfl ?_))))
  exact vB_iff ⟨fun h => h.imp (fun h => List.eq_nil_of_length_eq_zero (by omega)) id, fun h => h.imp (fun h => by rw [h]; rfl) id⟩

theorem ref_add {w0 : World} {h0 : Mem}  (hs : MLe h0 (mem w0)) {v v' : Value} {X Y : Nat} (hv : Us .u32 h0 v (limbs X)) (hv' : Us .u32 h0 v' (limbs Y)) (hl : (limbs X).length ≤ 1099511627776) (hl' : (limbs Y).length ≤ 1099511627776) :
    Calls Try.prog 72 #[v, v'] w0 (Ret w0 h0 (fun h r => Us .u32 h r (limbs (X + Y)))) := by
 have hlA := limbs_len_mono (Nat.le_add_right X Y)
 have hlB := limbs_len_mono (Nat.le_add_left Y X)
 have hls := limbs_len_add X Y
 refine calls_begin (n := 54) (e := [(0, v), (1, v')]) (vs := [v, v']) Try.func72 rfl rfl (Nat.le_of_ble_eq_true rfl) hs ⟨rfl, rfl, trivial⟩ (gc_seq (gc_region (asg rfl rfl (gl_nil (gq_then (gc_seq (gc_region (gl_val (ov_assign (v := .slice none 0 0) rfl) rfl rfl rfl (gl_addnil (E := 61) (k := .u32) (gl_nil (gq_then (gc_seq (gc_region ?_)))))))))))))
 refine asg (v := vU .u64 0) rfl rfl (gl_nil (gq_then (gc_seq (gc_seq (gc_region (asg (v := vI (0)) rfl rfl (gl_nil (gq_then (gc_block ?_)))))))))
 refine gc_loop (ι := Value × List Nat × Nat × Mem) (fun (x_ : (Value × List Nat × Nat × Mem)) => match x_ with | (vo, ss, c, k1) => MLe h0 k1 ∧ (ss.length ≤ (limbs (X + Y)).length ∧ Fit ss ∧ c ≤ 1 ∧ val ss + 4294967296 ^ ss.length * c = val ((limbs X).take ss.length) + val ((limbs Y).take ss.length))) (fun (x_ : (Value × List Nat × Nat × Mem)) => match x_ with | (vo, ss, c, k1) => [(0, v), (1, v'), (5, vo), (6, vU .u64 c), (7, vI ↑ss.length)]) (fun (x_ : (Value × List Nat × Nat × Mem)) => match x_ with | (vo, ss, c, k1) => [.us 61 .u32 vo ss]) (fun (x_ : (Value × List Nat × Nat × Mem)) => match x_ with | (vo, ss, c, k1) => k1) (fun (x_ : (Value × List Nat × Nat × Mem)) => match x_ with | (vo, ss, c, k1) => (limbs (X + Y)).length - ss.length) (.slice none 0 0, [], 0, h0) ?_ ⟨rfl, rfl, rfl, rfl, rfl, trivial⟩ rfl rfl ?_
 ·
  refine ⟨MLe.refl _, ?_⟩
  exact ⟨by simp, fun x hx => by simp at hx, by omega, by simp [val]⟩
 ·
  intro x hx
  obtain ⟨vo, ss, c, k1⟩ := x
  obtain ⟨hmk1, ⟨hss, hfs, hc1, hval⟩⟩ := hx
  show GC _ _ _ _ _ _ [(0, v), (1, v'), (5, vo), (6, vU .u64 c), (7, vI ↑ss.length)] [.us 61 .u32 vo ss] k1
  replace hv := hv.mono hmk1
  replace hv' := hv'.mono hmk1
  have hx1 := hv.get32 ss.length
  have hx2 := hv'.get32 ss.length
  refine gc_seq (gc_seq (gc_region (mv rfl rfl (mv rfl rfl (gv (ov_len_us Try.underlying22 rfl hv) rfl (gv (ov_lss_i rfl rfl) rfl ?_))))))
  refine gl_cut (ι := Unit) 6 (fun _ => True) (fun _ => [(17, vB (((↑ss.length : Int) < ↑(limbs X).length) ∨ ((↑ss.length : Int) < ↑(limbs Y).length))), (0, v), (1, v'), (5, vo), (6, vU .u64 c), (7, vI ↑ss.length)]) (fun _ => [.us 61 .u32 vo ss]) (fun _ => k1) ?_ ?_
  ·
   refine gl_cases ((↑ss.length : Int) < ↑(limbs X).length) (fun hg => ?_) (fun hg => ?_)
   ·
    refine gl_val (ov_move (v := .bool true) (congrArg some (vB_true hg))) rfl rfl rfl (gl_off rfl rfl rfl rfl rfl rfl (gl_off rfl rfl rfl rfl rfl rfl (gl_off rfl rfl rfl rfl rfl rfl (gl_off rfl rfl rfl rfl rfl rfl (gv (ov_pick_t rfl rfl) rfl (gl_nil ?_))))))
    refine gq_cut () trivial ⟨?_, rfl, rfl, rfl, rfl, rfl, trivial⟩ rfl rfl
    exact congrArg some (vB_or_t hg)
   ·
    refine gl_val (ov_move (v := .bool false) (congrArg some (vB_false hg))) rfl rfl rfl (gl_on rfl rfl rfl (mv rfl rfl (gl_on rfl rfl rfl (mv rfl rfl (gl_on rfl rfl rfl (gv (ov_len_us Try.underlying22 rfl hv') rfl (gl_on rfl rfl rfl (gv (ov_lss_i rfl rfl) rfl (gv (ov_pick_f rfl rfl) rfl (gl_nil ?_))))))))))
    refine gq_cut () trivial ⟨?_, rfl, rfl, rfl, rfl, rfl, trivial⟩ rfl rfl
    exact congrArg some (vB_or_f hg)
  ·
   intro _ _
   show GL _ _ _ _ _ _ _ [(17, vB (((↑ss.length : Int) < ↑(limbs X).length) ∨ ((↑ss.length : Int) < ↑(limbs Y).length))), (0, v), (1, v'), (5, vo), (6, vU .u64 c), (7, vI ↑ss.length)] [.us 61 .u32 vo ss] k1
   refine gl_cut (ι := Unit) 4 (fun _ => True) (fun _ => [(21, vB (((↑ss.length : Int) < ↑(limbs X).length ∨ (↑ss.length : Int) < ↑(limbs Y).length) ∨ (c ≠ 0))), (0, v), (1, v'), (5, vo), (6, vU .u64 c), (7, vI ↑ss.length)]) (fun _ => [.us 61 .u32 vo ss]) (fun _ => k1) ?_ ?_
   ·
    refine gl_cases ((↑ss.length : Int) < ↑(limbs X).length ∨ (↑ss.length : Int) < ↑(limbs Y).length) (fun hg => ?_) (fun hg => ?_)
    ·
     refine gl_val (ov_move (v := .bool true) (congrArg some (vB_true hg))) rfl rfl rfl (gl_off rfl rfl rfl rfl rfl rfl (gl_off rfl rfl rfl rfl rfl rfl (gv (ov_pick_t rfl rfl) rfl (gl_nil ?_))))
     refine gq_cut () trivial ⟨?_, rfl, rfl, rfl, rfl, rfl, trivial⟩ rfl rfl
     exact congrArg some (vB_or_t hg)
    ·
     refine gl_val (ov_move (v := .bool false) (congrArg some (vB_false hg))) rfl rfl rfl (gl_on rfl rfl rfl (mv rfl rfl (gl_on rfl rfl rfl (gv (ov_neq_u (k := .u64) (q := 0) rfl rfl) rfl (gv (ov_pick_f rfl rfl) rfl (gl_nil ?_))))))
     refine gq_cut () trivial ⟨?_, rfl, rfl, rfl, rfl, rfl, trivial⟩ rfl rfl
     exact congrArg some (vB_or_f hg)
   ·
    intro _ _
    show GL _ _ _ _ _ _ _ [(21, vB (((↑ss.length : Int) < ↑(limbs X).length ∨ (↑ss.length : Int) < ↑(limbs Y).length) ∨ (c ≠ 0))), (0, v), (1, v'), (5, vo), (6, vU .u64 c), (7, vI ↑ss.length)] [.us 61 .u32 vo ss] k1
    refine gl_nil (gq_then ?_)
    refine gc_cond rfl (fun hc21 => ?_) (fun hc21 => ?_)
    ·
     refine gc_skip (gq_then (gc_seq (gc_block ?_)))
     refine gc_cut (ι := Unit) (fun (_u : (Unit)) => True) (fun (_u : (Unit)) => [(0, v), (1, v'), (5, vo), (6, vU .u64 (c + (limbs X).getD ss.length 0)), (7, vI ↑ss.length)]) (fun (_u : (Unit)) => [.us 61 .u32 vo ss]) (fun (_u : (Unit)) => k1) ?_ ?_
     ·
      refine gc_seq (gc_region (mv rfl rfl (mv rfl rfl (gv (ov_len_us Try.underlying22 rfl hv) rfl (gv (ov_lss_i rfl rfl) rfl (gl_nil (gq_then ?_)))))))
      refine gc_cond rfl (fun hc27 => ?_) (fun hc27 => ?_)
      ·
       refine gc_region (mv rfl rfl (mv rfl rfl (mv rfl rfl (gv (ov_index_us (ss.length) Try.underlying22 Try.sizeOf61 rfl rfl hv (by omega) (by omega)) rfl (gv (ov_load_us Try.isAgg61 rfl hv (by omega)) rfl (gv (ov_conv_u (k := .u32) (k' := .u64) (W := 18446744073709551616) Try.underlying61 Try.underlying75 rfl rfl rfl (by omega)) rfl (gv (ov_add_u (k := .u64) (W := 18446744073709551616) rfl rfl rfl rfl (by omega)) rfl (asg rfl rfl (gl_nil ?_)))))))))
       refine gq_cut (()) ?_ ⟨?_, ?_, ?_, ?_, ?_, trivial⟩ ?_ rfl
       ·
        trivial
       · exact rfl
       · exact rfl
       · exact rfl
       · exact rfl
       · exact rfl
       · exact rfl
      ·
       refine gc_skip ?_
       refine gq_cut (()) ?_ ⟨?_, ?_, ?_, ?_, ?_, trivial⟩ ?_ rfl
       ·
        trivial
       · exact rfl
       · exact rfl
       · exact rfl
       · exact congrArg some (congrArg (vU .u64) (by rw [getD_out (xs := limbs X) (by omega)]; omega))
       · exact rfl
       · exact rfl
     ·
      intro _u hx
      obtain hcut := hx
      show GC _ _ _ _ _ _ [(0, v), (1, v'), (5, vo), (6, vU .u64 (c + (limbs X).getD ss.length 0)), (7, vI ↑ss.length)] [.us 61 .u32 vo ss] k1
      refine gc_cut (ι := Unit) (fun (_u : (Unit)) => True) (fun (_u : (Unit)) => [(0, v), (1, v'), (5, vo), (6, vU .u64 (c + (limbs X).getD ss.length 0 + (limbs Y).getD ss.length 0)), (7, vI ↑ss.length)]) (fun (_u : (Unit)) => [.us 61 .u32 vo ss]) (fun (_u : (Unit)) => k1) ?_ ?_
      ·
       refine gc_seq (gc_region (mv rfl rfl (mv rfl rfl (gv (ov_len_us Try.underlying22 rfl hv') rfl (gv (ov_lss_i rfl rfl) rfl (gl_nil (gq_then ?_)))))))
       refine gc_cond rfl (fun hc38 => ?_) (fun hc38 => ?_)
       ·
        refine gc_region (mv rfl rfl (mv rfl rfl (mv rfl rfl (gv (ov_index_us (ss.length) Try.underlying22 Try.sizeOf61 rfl rfl hv' (by omega) (by omega)) rfl (gv (ov_load_us Try.isAgg61 rfl hv' (by omega)) rfl (gv (ov_conv_u (k := .u32) (k' := .u64) (W := 18446744073709551616) Try.underlying61 Try.underlying75 rfl rfl rfl (by omega)) rfl (gv (ov_add_u (k := .u64) (W := 18446744073709551616) rfl rfl rfl rfl (by omega)) rfl (asg rfl rfl (gl_nil ?_)))))))))
        refine gq_cut (()) ?_ ⟨?_, ?_, ?_, ?_, ?_, trivial⟩ ?_ rfl
        ·
         trivial
        · exact rfl
        · exact rfl
        · exact rfl
        · exact rfl
        · exact rfl
        · exact rfl
       ·
        refine gc_skip ?_
        refine gq_cut (()) ?_ ⟨?_, ?_, ?_, ?_, ?_, trivial⟩ ?_ rfl
        ·
         trivial
        · exact rfl
        · exact rfl
        · exact rfl
        · exact congrArg some (congrArg (vU .u64) (by rw [getD_out (xs := limbs Y) (by omega)]; omega))
        · exact rfl
        · exact rfl
      ·
       intro _u hx
       obtain hcut := hx
       show GC _ _ _ _ _ _ [(0, v), (1, v'), (5, vo), (6, vU .u64 (c + (limbs X).getD ss.length 0 + (limbs Y).getD ss.length 0)), (7, vI ↑ss.length)] [.us 61 .u32 vo ss] k1
       refine gc_seq (gc_region (mv rfl rfl (mv rfl rfl (gv (ov_conv_uu (k := .u64) (k' := .u32) (W := 4294967296) Try.underlying75 Try.underlying61 rfl rfl rfl) rfl (gl_newop (new_build1 (kd := .u32) Try.underlying22 info61 rfl rfl rfl) rfl rfl rfl ?_)))))
       intro v49 r49 hr49
       obtain rfl := hr49
       refine gl_freeze_us0 (by intro z hz; simp only [List.mem_singleton] at hz; subst hz; simp only [ub]; omega) ?_
       intro h1 hh1 hch
       refine gl_repop (A := []) (rep_append_us (kd := .u32) (bytes := 4) Try.underlying22 info61 rfl rfl rfl rfl rfl hch (by simp only [List.length_singleton]; omega) (by simp only [List.length_singleton]; omega)) rfl rfl rfl ?_
       intro v50 r50 hr50
       obtain rfl := hr50
       refine asg rfl rfl (gl_nil (gq_then (gc_region (mv rfl rfl (gv (ov_shr_u (k := .u64) (s := 32) (yk := .u64) rfl rfl rfl (by simp only [ub]; omega)) rfl (asg rfl rfl (gl_nil (gq_in (gq_then (gc_region (mv rfl rfl (gv (ov_add_i (q := 1) rfl rfl (by omega) (by omega)) rfl (asg rfl rfl ?_)))))))))))))
       refine gl_nil ?_
       generalize hXi : (limbs X).getD ss.length 0 = p at *
       generalize hYi : (limbs Y).getD ss.length 0 = q at *
       have hgrow : ss.length < (limbs (X + Y)).length := by
         rcases hc21 with (h | h) | h
         · omega
         · omega
         · by_cases h1 : ss.length < (limbs X).length
           · omega
           · by_cases h2 : ss.length < (limbs Y).length
             · omega
             · rw [val_take_all (by omega), val_take_all (by omega), val_limbs, val_limbs] at hval
               refine limbs_len_gt ?_
               have := Nat.le_mul_of_pos_right (4294967296 ^ ss.length) (Nat.pos_of_ne_zero h)
               omega
       refine gq_round (v50, ss ++ [(c + p + q) % 4294967296], (c + p + q) / 2 ^ 32, h1) ?_ ?_ ⟨?_, ?_, ?_, ?_, ?_, trivial⟩ ?_ rfl
       ·
        refine ⟨(hmk1.trans hh1), ?_⟩
        refine ⟨by simp; omega, fit_append hfs (fit_one (by omega)), by omega, ?_⟩
        rw [List.length_append, List.length_singleton, val_take_getD, val_take_getD, hXi, hYi, val_snoc, Nat.pow_succ]
        have e := Nat.div_add_mod (c + p + q) 4294967296
        rw [show (2 : Nat) ^ 32 = 4294967296 from rfl]
        generalize (c + p + q) / 4294967296 = s at *
        generalize (c + p + q) % 4294967296 = r at *
        grind
       ·
        dsimp only
        simp; omega
       · exact rfl
       · exact rfl
       · exact rfl
       · exact rfl
       · exact congrArg some (congrArg vI (by simp))
       · exact rfl
    ·
     refine gc_exit (gx_then (gx_then (gx_here (gq_then (gc_seq (gc_region (mv rfl rfl (gl_freeze_us0 (by exact hfs) ?_))))))))
     intro h1 hh1 ho
     refine asg rfl rfl (gl_nil (gq_then (gc_ret (gq_body1 rfl rfl ?_))))
     have h1 : ¬ ss.length < (limbs X).length := fun h => hc21 (.inl (.inl (by omega)))
     have h2 : ¬ ss.length < (limbs Y).length := fun h => hc21 (.inl (.inr (by omega)))
     have h3 : c = 0 := Classical.byContradiction fun h => hc21 (.inr h)
     rw [val_take_all (by omega), val_take_all (by omega), val_limbs, val_limbs, h3] at hval
     have e : val ss = X + Y := by omega
     rw [← e, limbs_eq hfs (by rw [e]; exact hss)]
     exact ho

theorem ref_sub {w0 : World} {h0 : Mem}  (hs : MLe h0 (mem w0)) {v v' : Value} {X Y : Nat} (hv : Us .u32 h0 v (limbs X)) (hv' : Us .u32 h0 v' (limbs Y)) (hl : (limbs X).length ≤ 1099511627776) :
    Calls Try.prog 97 #[v, v'] w0 (Ret w0 h0 (fun h r => ∃ u, r = .tuple #[u, vI (if X < Y then 7 else 0)] ∧ Us .u32 h u (limbs (X - Y)))) := by
 refine calls_begin (n := 13) (e := [(0, v), (1, v')]) (vs := [v, v']) Try.func97 rfl rfl (Nat.le_of_ble_eq_true rfl) hs ⟨rfl, rfl, trivial⟩ (gc_seq (gc_region (asg rfl rfl (asg (v := vI (0)) rfl rfl (gl_nil (gq_then (gc_seq (gc_seq (gc_region (mv rfl rfl (mv rfl rfl ?_)))))))))))
 refine gl_call (vs := [_, _]) rfl rfl rfl rfl Try.call77 ⟨rfl, rfl, trivial⟩ (fun w hs => ref_cmp hs hv hv') ?_
 intro v8 h1 hh1 hr8
 subst hr8
 refine gv (ov_lss_i (q := 0) rfl rfl) rfl (gl_nil (gq_then ?_))
 refine gc_cond rfl (fun hc9 => ?_) (fun hc9 => ?_)
 ·
  have hlt := cmpN_neg.1 hc9
  refine gc_seq (gc_region (asg rfl rfl (asg (v := vI (7)) rfl rfl (gl_nil (gq_then (gc_ret (gr_then (gq_body2 rfl rfl rfl ?_))))))))
  rw [if_pos hlt, Nat.sub_eq_zero_of_le (Nat.le_of_lt hlt), limbs_zero]
  exact ⟨_, rfl, Us.nil _ _⟩
 ·
  have hge : Y ≤ X := Nat.le_of_not_lt fun hc => hc9 (cmpN_neg.2 hc)
  refine gc_skip (gq_then (gc_seq (gc_region (mv rfl rfl (mv rfl rfl ?_)))))
  replace hv := hv.mono hh1
  replace hv' := hv'.mono hh1
  refine gl_call (vs := [_, _]) rfl rfl rfl rfl Try.call117 ⟨rfl, rfl, trivial⟩ (fun w hs => ref_minus hs hv hv' (by omega) (by omega)) ?_
  intro v12 h2 hh2 hr12
  refine asg rfl rfl (asg (v := vI (0)) rfl rfl (gl_nil (gq_then (gc_ret (gq_body2 rfl rfl rfl ?_)))))
  rw [if_neg (by omega)]
  exact ⟨_, rfl, hr12⟩

theorem ref_shift {w0 : World} {h0 : Mem}  (hs : MLe h0 (mem w0)) {v : Value} {X : Nat} {n : Int} (hv : Us .u32 h0 v (limbs X)) (hn : -9223372036854775808 ≤ n) (hn' : n < 9223372036854775808) (hl : (limbs X).length ≤ 1099511627776) :
    Calls Try.prog 120 #[v, vI n] w0 (Ret w0 h0 (fun h r => ∃ u, r = .tuple #[u, vI (shE n)] ∧ Us .u32 h u (limbs (shN X n)))) := by
 refine calls_begin (n := 23) (e := [(0, v), (1, vI n)]) (vs := [v, vI n]) Try.func120 rfl rfl (Nat.le_of_ble_eq_true rfl) hs ⟨rfl, rfl, trivial⟩ (gc_seq (gc_region (asg rfl rfl (asg (v := vI (0)) rfl rfl (gl_nil (gq_then (gc_seq (gc_seq (gc_region (mv rfl rfl (gv (ov_gtr_i (q := 16384) rfl rfl) rfl (gl_nil (gq_then ?_)))))))))))))
 refine gc_cond rfl (fun hc7 => ?_) (fun hc7 => ?_)
 ·
  refine gc_seq (gc_region (asg rfl rfl (asg (v := vI (2)) rfl rfl (gl_nil (gq_then (gc_ret (gr_then (gq_body2 rfl rfl rfl ?_))))))))
  rw [shE, if_pos (by omega), shN, if_pos (by omega), limbs_zero]
  exact ⟨_, rfl, Us.nil _ _⟩
 ·
  refine gc_skip (gq_then (gc_seq (gc_seq (gc_region (mv rfl rfl (gv (ov_geq_i (q := 0) rfl rfl) rfl (gl_nil (gq_then ?_))))))))
  refine gc_cond rfl (fun hc9 => ?_) (fun hc9 => ?_)
  ·
   obtain ⟨N, hN⟩ : ∃ N : Nat, n = ↑N := ⟨n.toNat, by omega⟩
   subst hN
   refine gc_seq (gc_region (mv rfl rfl (mv rfl rfl ?_)))
   refine gl_call (vs := [_, _]) rfl rfl rfl rfl Try.call114 ⟨rfl, rfl, trivial⟩ (fun w hs => ref_up hs hv (by omega) (by omega)) ?_
   intro v12 h1 hh1 hr12
   refine asg rfl rfl (asg (v := vI (0)) rfl rfl (gl_nil (gq_then (gc_ret (gr_then (gq_body2 rfl rfl rfl ?_))))))
   rw [shE, if_neg (by omega), shN_up (by omega) (by omega), Int.toNat_natCast]
   exact ⟨_, rfl, hr12⟩
  ·
   obtain ⟨M, hM⟩ : ∃ M : Nat, n = -↑M := ⟨(-n).toNat, by omega⟩
   refine gc_skip (gq_then (gc_seq (gc_seq (gc_region (mv rfl rfl (mv rfl rfl (gv (ov_len_us Try.underlying22 rfl hv) rfl (gv (ov_add_i (q := 1) rfl rfl (by omega) (by omega)) rfl (gv (ov_mul_i (p := -32) rfl rfl (by omega) (by omega)) rfl (gv (ov_lss_i rfl rfl) rfl (gl_nil (gq_keep (e' := [(0, _), (1, _), (18, _)]) ⟨rfl, rfl, rfl, trivial⟩ (gq_then ?_)))))))))))))
   refine gc_cond rfl (fun hc18 => ?_) (fun hc18 => ?_)
   ·
    refine gc_seq (gc_region (asg rfl rfl (asg (v := vI (0)) rfl rfl (gl_nil (gq_then (gc_ret (gr_then (gq_body2 rfl rfl rfl ?_))))))))
    rw [shE, if_neg (by omega), shN_down (by omega), div_pow_zero (by omega), limbs_zero]
    exact ⟨_, rfl, Us.nil _ _⟩
   ·
    refine gc_skip (gq_then (gc_seq (gc_region (mv rfl rfl (mv rfl rfl (gv (ov_neg_i rfl (by omega) (by omega)) rfl ?_))))))
    rw [show -n = ↑M by omega]
    refine gl_call (vs := [_, _]) rfl rfl rfl rfl Try.call118 ⟨rfl, rfl, trivial⟩ (fun w hs => ref_down hs hv (by omega) (by omega)) ?_
    intro v22 h1 hh1 hr22
    refine asg rfl rfl (asg (v := vI (0)) rfl rfl (gl_nil (gq_then (gc_ret (gq_body2 rfl rfl rfl ?_)))))
    rw [shE, if_neg (by omega), shN_down (by omega), show (-n).toNat = M by omega]
    exact ⟨_, rfl, hr22⟩

theorem rat_abs {w0 : World} {h0 : Mem}  (hs : MLe h0 (mem w0)) {qa : Rat} {vna vda : Value} (hna : Us .u32 h0 vna (limbs qa.num.natAbs)) (hda : Us .u32 h0 vda (limbs (denN qa.den))) (hl : (limbs qa.num.natAbs).length ≤ 1099511627776) (hl' : (limbs (denN qa.den)).length ≤ 1099511627776) :
    Calls Try.prog 52 #[.agg #[vB (qa.num < 0), vna, vda]] w0 (Ret w0 h0 (fun h r => IsRat h r (absQ qa))) := by
 refine calls_begin (n := 7) (e := [(0, .agg #[vB (qa.num < 0), vna, vda])]) (vs := [.agg #[vB (qa.num < 0), vna, vda]]) Try.func52 rfl rfl (Nat.le_of_ble_eq_true rfl) hs ⟨rfl, trivial⟩ (gc_seq (gc_region (gl_newop (new_box (cs := [_, _, _]) rfl rfl) rfl rfl rfl ?_)))
 intro v1 r1 hr1
 obtain ⟨b1, rfl, rfl⟩ := hr1
 refine gl_newop (new_alloc (cs := [vB ((0 : Rat).num < 0), .slice none 0 0, .slice none 0 0]) info27 rfl (by simp only [zb]; rfl)) rfl rfl rfl ?_
 intro v2 r2 hr2
 obtain ⟨b2, rfl, rfl⟩ := hr2
 refine gl_nil (gq_then (gc_seq (gc_region (gv (ov_load_agg (vs := [_, _, _]) (.tail _ (.head _)) Try.underlying27 rfl size27 rfl rfl) rfl ?_))))
 refine gl_call (vs := [_]) rfl rfl rfl rfl Try.call99 ⟨rfl, trivial⟩ (fun w hs => rat_copied hs hna hda (by first | omega | exact Nat.le_trans (lq_num _) (by omega)) (by first | omega | exact Nat.le_trans (lq_denL _) (by omega))) ?_
 intro v4 h1 hh1 hr4
 obtain ⟨vn4, vd4, rfl, hn4, hd4⟩ := hr4
 refine gl_upd (A := [_]) (r' := .var b1 27 [vB ((qa).num < 0), vn4, vd4]) (upd_store_var (k := 0) (cs := [_, _, _]) (vs := [_, _, _]) rfl rfl rfl (ocr rfl (ocu hn4 (ocu hd4 oc0))) size27 (Nat.le_of_ble_eq_true rfl)) rfl rfl rfl (gl_nil (gq_then (gc_seq (gc_region (gv (ov_field_addr Try.underlying27 rfl Try.sizeOf4 rfl) rfl (gl_upd (A := [_]) (r' := .var b1 27 [.bool false, vn4, vd4]) (upd_store_var (k := 0) (cs := [_, _, _]) (vs := [_]) rfl rfl rfl rfl size4 (Nat.le_of_ble_eq_true rfl)) rfl rfl rfl (gl_nil (gq_then (gc_seq (gc_region (gv (ov_load_agg (vs := [_, _, _]) (.tail _ (.head _)) Try.underlying27 rfl size27 rfl rfl) rfl (gl_upd (A := []) (r' := .var b2 27 [.bool false, vn4, vd4]) (upd_store_var (k := 0) (cs := [_, _, _]) (vs := [_, _, _]) rfl rfl rfl (ocr rfl (ocu hn4 (ocu hd4 oc0))) size27 (Nat.le_of_ble_eq_true rfl)) rfl rfl rfl (gl_nil ?_)))))))))))))
 refine gq_then (gc_ret (gq_res (fun E S => run_res1 rfl (rv_agg (cs := [_, _, _]) (.head _) Try.underlying27 rfl size27 rfl) E S) ?_))
 exact IsRat.abs hn4 hd4

theorem rat_min {w0 : World} {h0 : Mem}  (hs : MLe h0 (mem w0)) {qa : Rat} {vna vda : Value} (hna : Us .u32 h0 vna (limbs qa.num.natAbs)) (hda : Us .u32 h0 vda (limbs (denN qa.den))) {qb : Rat} {vnb vdb : Value} (hnb : Us .u32 h0 vnb (limbs qb.num.natAbs)) (hdb : Us .u32 h0 vdb (limbs (denN qb.den))) (hqa : lq qa ≤ 100000000000) (hqb : lq qb ≤ 100000000000)  :
    Calls Try.prog 54 #[.agg #[vB (qa.num < 0), vna, vda], .agg #[vB (qb.num < 0), vnb, vdb]] w0 (Ret w0 h0 (fun h r => IsRat h r (minQ qa qb))) := by
 have hlna := lq_num qa
 have hlda := lq_den qa
 have hlDa := lq_denL qa
 have hlnb := lq_num qb
 have hldb := lq_den qb
 have hlDb := lq_denL qb
 refine calls_begin (n := 12) (e := [(0, .agg #[vB (qa.num < 0), vna, vda]), (1, .agg #[vB (qb.num < 0), vnb, vdb])]) (vs := [.agg #[vB (qa.num < 0), vna, vda], .agg #[vB (qb.num < 0), vnb, vdb]]) Try.func54 rfl rfl (Nat.le_of_ble_eq_true rfl) hs ⟨rfl, rfl, trivial⟩ (gc_seq (gc_region (gl_newop (new_box (cs := [_, _, _]) rfl rfl) rfl rfl rfl ?_)))
 intro v2 r2 hr2
 obtain ⟨b2, rfl, rfl⟩ := hr2
 refine gl_newop (new_box (cs := [_, _, _]) rfl rfl) rfl rfl rfl ?_
 intro v3 r3 hr3
 obtain ⟨b3, rfl, rfl⟩ := hr3
 refine gl_newop (new_alloc (cs := [vB ((0 : Rat).num < 0), .slice none 0 0, .slice none 0 0]) info27 rfl (by simp only [zb]; rfl)) rfl rfl rfl ?_
 intro v4 r4 hr4
 obtain ⟨b4, rfl, rfl⟩ := hr4
 refine gl_nil (gq_then (gc_seq (gc_seq (gc_region (gv (ov_load_agg (vs := [_, _, _]) (.tail _ (.head _)) Try.underlying27 rfl size27 rfl rfl) rfl (gv (ov_load_agg (vs := [_, _, _]) (.tail _ (.tail _ (.head _))) Try.underlying27 rfl size27 rfl rfl) rfl ?_))))))
 refine gl_call (vs := [_, _]) rfl rfl rfl rfl Try.call47 ⟨rfl, rfl, trivial⟩ (fun w hs => rat_cmp hs hnb hdb hna hda (by omega) (by omega)) ?_
 intro v7 h1 hh1 hr7
 have hcr7 := cmpQ_range qb qa
 subst hr7
 refine gv (ov_lss_i (q := 0) rfl rfl) rfl (gl_nil (gq_then ?_))
 refine gc_cond rfl (fun hc8 => ?_) (fun hc8 => ?_)
 ·
  refine gc_region (gv (ov_load_agg (vs := [_, _, _]) (.tail _ (.head _)) Try.underlying27 rfl size27 rfl rfl) rfl ?_)
  replace hnb := hnb.mono hh1
  replace hdb := hdb.mono hh1
  refine gl_upd (A := [_, _]) (r' := .var b2 27 [vB (qb.num < 0), vnb, vdb]) (upd_store_var (k := 0) (cs := [_, _, _]) (vs := [_, _, _]) rfl rfl rfl (ocr rfl (ocu hnb (ocu hdb oc0))) size27 (Nat.le_of_ble_eq_true rfl)) rfl rfl rfl (gl_nil (gq_then (gc_seq (gc_region (gv (ov_load_agg (vs := [_, _, _]) (.tail _ (.tail _ (.head _))) Try.underlying27 rfl size27 rfl rfl) rfl ?_)))))
  refine gl_call (vs := [_]) rfl rfl rfl rfl Try.call99 ⟨rfl, trivial⟩ (fun w hs => rat_copied hs hnb hdb (by first | omega | exact Nat.le_trans (lq_num _) (by omega)) (by first | omega | exact Nat.le_trans (lq_denL _) (by omega))) ?_
  intro v11 h2 hh2 hr11
  obtain ⟨vn11, vd11, rfl, hn11, hd11⟩ := hr11
  refine gl_upd (A := []) (r' := .var b4 27 [vB ((qb).num < 0), vn11, vd11]) (upd_store_var (k := 0) (cs := [_, _, _]) (vs := [_, _, _]) rfl rfl rfl (ocr rfl (ocu hn11 (ocu hd11 oc0))) size27 (Nat.le_of_ble_eq_true rfl)) rfl rfl rfl (gl_nil (gq_keep (e' := [(4, _)]) ⟨rfl, trivial⟩ (gq_then (gc_ret (gq_res (fun E S => run_res1 rfl (rv_agg (cs := [_, _, _]) (.head _) Try.underlying27 rfl size27 rfl) E S) ?_)))))
  rw [minQ_t hc8]
  exact ⟨_, _, rfl, hn11, hd11⟩
 ·
  refine gc_skip (gq_then (gc_seq (gc_region (gv (ov_load_agg (vs := [_, _, _]) (.tail _ (.tail _ (.head _))) Try.underlying27 rfl size27 rfl rfl) rfl ?_))))
  replace hna := hna.mono hh1
  replace hda := hda.mono hh1
  refine gl_call (vs := [_]) rfl rfl rfl rfl Try.call99 ⟨rfl, trivial⟩ (fun w hs => rat_copied hs hna hda (by first | omega | exact Nat.le_trans (lq_num _) (by omega)) (by first | omega | exact Nat.le_trans (lq_denL _) (by omega))) ?_
  intro v11 h2 hh2 hr11
  obtain ⟨vn11, vd11, rfl, hn11, hd11⟩ := hr11
  refine gl_upd (A := []) (r' := .var b4 27 [vB ((qa).num < 0), vn11, vd11]) (upd_store_var (k := 0) (cs := [_, _, _]) (vs := [_, _, _]) rfl rfl rfl (ocr rfl (ocu hn11 (ocu hd11 oc0))) size27 (Nat.le_of_ble_eq_true rfl)) rfl rfl rfl (gl_nil (gq_keep (e' := [(4, _)]) ⟨rfl, trivial⟩ (gq_then (gc_ret (gq_res (fun E S => run_res1 rfl (rv_agg (cs := [_, _, _]) (.head _) Try.underlying27 rfl size27 rfl) E S) ?_)))))
  rw [minQ_f hc8]
  exact ⟨_, _, rfl, hn11, hd11⟩

theorem rat_max {w0 : World} {h0 : Mem}  (hs : MLe h0 (mem w0)) {qa : Rat} {vna vda : Value} (hna : Us .u32 h0 vna (limbs qa.num.natAbs)) (hda : Us .u32 h0 vda (limbs (denN qa.den))) {qb : Rat} {vnb vdb : Value} (hnb : Us .u32 h0 vnb (limbs qb.num.natAbs)) (hdb : Us .u32 h0 vdb (limbs (denN qb.den))) (hqa : lq qa ≤ 100000000000) (hqb : lq qb ≤ 100000000000)  :
    Calls Try.prog 56 #[.agg #[vB (qa.num < 0), vna, vda], .agg #[vB (qb.num < 0), vnb, vdb]] w0 (Ret w0 h0 (fun h r => IsRat h r (maxQ qa qb))) := by
 have hlna := lq_num qa
 have hlda := lq_den qa
 have hlDa := lq_denL qa
 have hlnb := lq_num qb
 have hldb := lq_den qb
 have hlDb := lq_denL qb
 refine calls_begin (n := 12) (e := [(0, .agg #[vB (qa.num < 0), vna, vda]), (1, .agg #[vB (qb.num < 0), vnb, vdb])]) (vs := [.agg #[vB (qa.num < 0), vna, vda], .agg #[vB (qb.num < 0), vnb, vdb]]) Try.func56 rfl rfl (Nat.le_of_ble_eq_true rfl) hs ⟨rfl, rfl, trivial⟩ (gc_seq (gc_region (gl_newop (new_box (cs := [_, _, _]) rfl rfl) rfl rfl rfl ?_)))
 intro v2 r2 hr2
 obtain ⟨b2, rfl, rfl⟩ := hr2
 refine gl_newop (new_box (cs := [_, _, _]) rfl rfl) rfl rfl rfl ?_
 intro v3 r3 hr3
 obtain ⟨b3, rfl, rfl⟩ := hr3
 refine gl_newop (new_alloc (cs := [vB ((0 : Rat).num < 0), .slice none 0 0, .slice none 0 0]) info27 rfl (by simp only [zb]; rfl)) rfl rfl rfl ?_
 intro v4 r4 hr4
 obtain ⟨b4, rfl, rfl⟩ := hr4
 refine gl_nil (gq_then (gc_seq (gc_seq (gc_region (gv (ov_load_agg (vs := [_, _, _]) (.tail _ (.head _)) Try.underlying27 rfl size27 rfl rfl) rfl (gv (ov_load_agg (vs := [_, _, _]) (.tail _ (.tail _ (.head _))) Try.underlying27 rfl size27 rfl rfl) rfl ?_))))))
 refine gl_call (vs := [_, _]) rfl rfl rfl rfl Try.call47 ⟨rfl, rfl, trivial⟩ (fun w hs => rat_cmp hs hnb hdb hna hda (by omega) (by omega)) ?_
 intro v7 h1 hh1 hr7
 have hcr7 := cmpQ_range qb qa
 subst hr7
 refine gv (ov_gtr_i (q := 0) rfl rfl) rfl (gl_nil (gq_then ?_))
 refine gc_cond rfl (fun hc8 => ?_) (fun hc8 => ?_)
 ·
  refine gc_region (gv (ov_load_agg (vs := [_, _, _]) (.tail _ (.head _)) Try.underlying27 rfl size27 rfl rfl) rfl ?_)
  replace hnb := hnb.mono hh1
  replace hdb := hdb.mono hh1
  refine gl_upd (A := [_, _]) (r' := .var b2 27 [vB (qb.num < 0), vnb, vdb]) (upd_store_var (k := 0) (cs := [_, _, _]) (vs := [_, _, _]) rfl rfl rfl (ocr rfl (ocu hnb (ocu hdb oc0))) size27 (Nat.le_of_ble_eq_true rfl)) rfl rfl rfl (gl_nil (gq_then (gc_seq (gc_region (gv (ov_load_agg (vs := [_, _, _]) (.tail _ (.tail _ (.head _))) Try.underlying27 rfl size27 rfl rfl) rfl ?_)))))
  refine gl_call (vs := [_]) rfl rfl rfl rfl Try.call99 ⟨rfl, trivial⟩ (fun w hs => rat_copied hs hnb hdb (by first | omega | exact Nat.le_trans (lq_num _) (by omega)) (by first | omega | exact Nat.le_trans (lq_denL _) (by omega))) ?_
  intro v11 h2 hh2 hr11
  obtain ⟨vn11, vd11, rfl, hn11, hd11⟩ := hr11
  refine gl_upd (A := []) (r' := .var b4 27 [vB ((qb).num < 0), vn11, vd11]) (upd_store_var (k := 0) (cs := [_, _, _]) (vs := [_, _, _]) rfl rfl rfl (ocr rfl (ocu hn11 (ocu hd11 oc0))) size27 (Nat.le_of_ble_eq_true rfl)) rfl rfl rfl (gl_nil (gq_keep (e' := [(4, _)]) ⟨rfl, trivial⟩ (gq_then (gc_ret (gq_res (fun E S => run_res1 rfl (rv_agg (cs := [_, _, _]) (.head _) Try.underlying27 rfl size27 rfl) E S) ?_)))))
  rw [maxQ_t hc8]
  exact ⟨_, _, rfl, hn11, hd11⟩
 ·
  refine gc_skip (gq_then (gc_seq (gc_region (gv (ov_load_agg (vs := [_, _, _]) (.tail _ (.tail _ (.head _))) Try.underlying27 rfl size27 rfl rfl) rfl ?_))))
  replace hna := hna.mono hh1
  replace hda := hda.mono hh1
  refine gl_call (vs := [_]) rfl rfl rfl rfl Try.call99 ⟨rfl, trivial⟩ (fun w hs => rat_copied hs hna hda (by first | omega | exact Nat.le_trans (lq_num _) (by omega)) (by first | omega | exact Nat.le_trans (lq_denL _) (by omega))) ?_
  intro v11 h2 hh2 hr11
  obtain ⟨vn11, vd11, rfl, hn11, hd11⟩ := hr11
  refine gl_upd (A := []) (r' := .var b4 27 [vB ((qa).num < 0), vn11, vd11]) (upd_store_var (k := 0) (cs := [_, _, _]) (vs := [_, _, _]) rfl rfl rfl (ocr rfl (ocu hn11 (ocu hd11 oc0))) size27 (Nat.le_of_ble_eq_true rfl)) rfl rfl rfl (gl_nil (gq_keep (e' := [(4, _)]) ⟨rfl, trivial⟩ (gq_then (gc_ret (gq_res (fun E S => run_res1 rfl (rv_agg (cs := [_, _, _]) (.head _) Try.underlying27 rfl size27 rfl) E S) ?_)))))
  rw [maxQ_f hc8]
  exact ⟨_, _, rfl, hn11, hd11⟩

theorem rat_mid {w0 : World} {h0 : Mem}  (hs : MLe h0 (mem w0)) {qa : Rat} {vna vda : Value} (hna : Us .u32 h0 vna (limbs qa.num.natAbs)) (hda : Us .u32 h0 vda (limbs (denN qa.den))) {qb : Rat} {vnb vdb : Value} (hnb : Us .u32 h0 vnb (limbs qb.num.natAbs)) (hdb : Us .u32 h0 vdb (limbs (denN qb.den))) (hqa : lq qa ≤ 10000000000) (hqb : lq qb ≤ 10000000000)  :
    Calls Try.prog 58 #[.agg #[vB (qa.num < 0), vna, vda], .agg #[vB (qb.num < 0), vnb, vdb]] w0 (Ret w0 h0 (fun h r => IsRat h r (midQ qa qb))) := by
 have hlna := lq_num qa
 have hlda := lq_den qa
 have hlDa := lq_denL qa
 have hlnb := lq_num qb
 have hldb := lq_den qb
 have hlDb := lq_denL qb
 have hhf := lq_half
 refine calls_begin (n := 12) (e := [(0, .agg #[vB (qa.num < 0), vna, vda]), (1, .agg #[vB (qb.num < 0), vnb, vdb])]) (vs := [.agg #[vB (qa.num < 0), vna, vda], .agg #[vB (qb.num < 0), vnb, vdb]]) Try.func58 rfl rfl (Nat.le_of_ble_eq_true rfl) hs ⟨rfl, rfl, trivial⟩ (gc_seq (gc_region (gl_newop (new_box (cs := [_, _, _]) rfl rfl) rfl rfl rfl ?_)))
 intro v2 r2 hr2
 obtain ⟨b2, rfl, rfl⟩ := hr2
 refine gl_newop (new_box (cs := [_, _, _]) rfl rfl) rfl rfl rfl ?_
 intro v3 r3 hr3
 obtain ⟨b3, rfl, rfl⟩ := hr3
 refine gl_newop (new_alloc (cs := [vB ((0 : Rat).num < 0), .slice none 0 0, .slice none 0 0]) info27 rfl (by simp only [zb]; rfl)) rfl rfl rfl ?_
 intro v4 r4 hr4
 obtain ⟨b4, rfl, rfl⟩ := hr4
 refine gl_nil (gq_then (gc_seq (gc_region (gv (ov_load_agg (vs := [_, _, _]) (.tail _ (.tail _ (.head _))) Try.underlying27 rfl size27 rfl rfl) rfl (gv (ov_load_agg (vs := [_, _, _]) (.tail _ (.head _)) Try.underlying27 rfl size27 rfl rfl) rfl ?_)))))
 refine gl_call (vs := [_, _]) rfl rfl rfl rfl Try.call40 ⟨rfl, rfl, trivial⟩ (fun w hs => rat_add hs hna hda hnb hdb (by omega) (by omega)) ?_
 intro v7 h1 hh1 hr7
 obtain ⟨vn7, vd7, rfl, hn7, hd7⟩ := hr7
 have hlq7 := lq_add qa qb
 refine gl_call (vs := []) rfl rfl rfl rfl Try.call63 trivial (fun w hs => rat_one hs) ?_
 intro v8 h2 hh2 hr8
 rw [one_limbs] at hr8
 have hlm8 := len_one
 refine gl_newop (new_build1 (kd := .u32) (p := 2) Try.underlying22 info61 rfl rfl rfl) rfl rfl rfl ?_
 intro v9 r9 hr9
 obtain rfl := hr9
 refine gl_freeze_us0 (by intro z hz; simp only [List.mem_singleton] at hz; subst hz; decide) ?_
 intro h3 hh3 h9
 replace hr8 := hr8.mono hh3
 refine gv (ov_build_parts (ps' := [(1, _), (2, _)]) (vs := [vB (halfQ.num < 0), v8, v9]) Try.underlying27 info27 rfl (places27 Try.underlying27) ⟨rfl, rfl, rfl, rfl, trivial⟩ (by rw [half_neg]; obtain ⟨_, _, e0⟩ := hr8.one; obtain ⟨_, _, e1⟩ := h9.one; rw [e0, e1]; rfl)) rfl ?_
 replace hn7 := hn7.mono (hh2.trans hh3)
 replace hd7 := hd7.mono (hh2.trans hh3)
 refine gl_call (vs := [_, _]) rfl rfl rfl rfl Try.call44 ⟨rfl, rfl, trivial⟩ (fun w hs => rat_mul hs hn7 hd7 (half_num hr8) (half_den h9) (by omega) (by omega)) ?_
 intro v11 h4 hh4 hr11
 obtain ⟨vn11, vd11, rfl, hn11, hd11⟩ := hr11
 have hlq11 := lq_mul (qa + qb) halfQ
 refine gl_upd (A := []) (r' := .var b4 27 [vB (((qa + qb) * halfQ).num < 0), vn11, vd11]) (upd_store_var (k := 0) (cs := [_, _, _]) (vs := [_, _, _]) rfl rfl rfl (ocr rfl (ocu hn11 (ocu hd11 oc0))) size27 (Nat.le_of_ble_eq_true rfl)) rfl rfl rfl (gl_nil (gq_keep (e' := [(4, _)]) ⟨rfl, trivial⟩ (gq_then (gc_ret (gq_res (fun E S => run_res1 rfl (rv_agg (cs := [_, _, _]) (.head _) Try.underlying27 rfl size27 rfl) E S) ?_)))))
 exact ⟨_, _, rfl, hn11, hd11⟩

theorem rat_int {w0 : World} {h0 : Mem}  (hs : MLe h0 (mem w0)) {n : Int} (hn1 : -9223372036854775808 ≤ n) (hn2 : n < 9223372036854775808) :
    Calls Try.prog 23 #[vI n] w0 (Ret w0 h0 (fun h r => IsRat h r (n : Rat))) := by
 refine calls_begin (n := 9) (e := [(0, vI n)]) (vs := [vI n]) Try.func23 rfl rfl (Nat.le_of_ble_eq_true rfl) hs ⟨rfl, trivial⟩ (gc_seq (gc_region (gl_newop (new_alloc (cs := [vB ((0 : Rat).num < 0), .slice none 0 0, .slice none 0 0]) info27 rfl (by simp only [zb]; rfl)) rfl rfl rfl ?_)))
 intro v2 r2 hr2
 obtain ⟨b2, rfl, rfl⟩ := hr2
 refine gl_nil (gq_then (gc_seq (gc_region (mv rfl rfl (gv (ov_lss_i (q := 0) rfl rfl) rfl (mv rfl rfl ?_))))))
 refine gl_call (vs := [_]) rfl rfl rfl rfl Try.call78 ⟨rfl, trivial⟩ (fun w hs => rat_size hs (by omega) (by omega)) ?_
 intro v6 h1 hh1 hr6
 have hlm6 := limbs_len_i64 (n := n) (by omega) (by omega)
 refine gl_call (vs := []) rfl rfl rfl rfl Try.call63 trivial (fun w hs => rat_one hs) ?_
 intro v7 h2 hh2 hr7
 rw [one_limbs] at hr7
 have hlm7 := len_one
 replace hr6 := hr6.mono hh2
 refine gl_call (vs := [_, _, _]) rfl rfl rfl rfl Try.call68 ⟨rfl, rfl, rfl, trivial⟩ (fun w hs => rat_reduce hs hr6 hr7 (by omega) (by omega)) ?_
 intro v8 h3 hh3 hr8
 try simp only [val_limbs] at hr8
 obtain ⟨vn8, vd8, rfl, hn8, hd8⟩ := hr8
 refine gl_upd (A := []) (r' := .var b2 27 [vB ((mkRat (sg (n < (0 : Int)) (((n).natAbs))) ((1))).num < 0), vn8, vd8]) (upd_store_var (k := 0) (cs := [_, _, _]) (vs := [_, _, _]) rfl rfl rfl (ocr rfl (ocu hn8 (ocu hd8 oc0))) size27 (Nat.le_of_ble_eq_true rfl)) rfl rfl rfl (gl_nil (gq_then (gc_ret (gq_res (fun E S => run_res1 rfl (rv_agg (cs := [_, _, _]) (.head _) Try.underlying27 rfl size27 rfl) E S) ?_))))
 rw [int_eq] at hn8 hd8 ⊢
 exact ⟨_, _, rfl, hn8, hd8⟩

theorem rat_norm {w0 : World} {h0 : Mem}  (hs : MLe h0 (mem w0)) {sa : Prop} {ba vna vda : Value} {xa ya : List Nat} (hba : ba = vB sa) (hna : Us .u32 h0 vna xa) (hda : Us .u32 h0 vda ya) (hlx : xa.length ≤ 100000000000) (hly : ya.length ≤ 100000000000) :
    Calls Try.prog 25 #[.agg #[ba, vna, vda]] w0 (Ret w0 h0 (fun h r => ∃ u, r = .tuple #[u, vI (if dV ya = 0 then 3 else 0)] ∧ IsRat h u (mkRat (sg sa (val xa)) (dV ya)))) := by
 subst hba
 have hlx1 := limbs_len_le hna.lt
 have hly1 := limbs_len_le hda.lt
 refine calls_begin (n := 22) (e := [(0, .agg #[vB sa, vna, vda])]) (vs := [.agg #[vB sa, vna, vda]]) Try.func25 rfl rfl (Nat.le_of_ble_eq_true rfl) hs ⟨rfl, trivial⟩ (gc_seq (gc_region (gl_newop (new_box (cs := [_, _, _]) rfl rfl) rfl rfl rfl ?_)))
 intro v1 r1 hr1
 obtain ⟨b1, rfl, rfl⟩ := hr1
 refine gl_newop (new_alloc (cs := [vB ((0 : Rat).num < 0), .slice none 0 0, .slice none 0 0]) info27 rfl (by simp only [zb]; rfl)) rfl rfl rfl ?_
 intro v2 r2 hr2
 obtain ⟨b2, rfl, rfl⟩ := hr2
 refine asg (v := vI (0)) rfl rfl (gl_nil (gq_then (gc_seq (gc_seq (gc_region (gv (ov_field_addr Try.underlying27 rfl Try.sizeOf22 rfl) rfl (gv (ov_load_var (.tail _ (.head _)) Try.isAgg22 rfl rfl) rfl (gv (ov_len_us Try.underlying22 rfl hda) rfl (gv (ov_gtr_i (q := 0) rfl rfl) rfl ?_)))))))))
 refine gl_cut (ι := Mem) 6 (fun m_ => MLe h0 m_) (fun _ => [(13, vB (((0 : Int) < (↑(ya).length : Int)) ∧ ((↑(bitsN (val (ya))) : Int) = (0 : Int)))), (1, vP b1 0), (2, vP b2 0)]) (fun _ => [.var b2 27 [vB ((0 : Rat).num < 0), .slice none 0 0, .slice none 0 0], .var b1 27 [vB sa, vna, vda]]) (fun m_ => m_) ?_ ?_
 ·
  refine gl_cases ((0 : Int) < (↑(ya).length : Int)) (fun hg => ?_) (fun hg => ?_)
  ·
   refine gl_val (ov_move (v := .bool true) (congrArg some (vB_true hg))) rfl rfl rfl (gl_on rfl rfl rfl (gv (ov_field_addr Try.underlying27 rfl Try.sizeOf22 rfl) rfl (gl_on rfl rfl rfl (gv (ov_load_var (.tail _ (.head _)) Try.isAgg22 rfl rfl) rfl (gl_on rfl rfl rfl ?_)))))
   refine gl_call (vs := [_]) rfl rfl rfl rfl Try.call64 ⟨rfl, trivial⟩ (fun w hs => nat_bits hs hda (by omega)) ?_
   intro v11 h1 hh1 hr11
   try simp only [val_limbs] at hr11
   subst hr11
   refine gl_on rfl rfl rfl (gv (ov_eql_i (q := 0) rfl rfl) rfl (gv (ov_pick_t rfl rfl) rfl (gl_nil ?_)))
   refine gq_cut h1 hh1 ⟨?_, rfl, rfl, trivial⟩ rfl rfl
   exact congrArg some (vB_and_t hg)
  ·
   refine gl_val (ov_move (v := .bool false) (congrArg some (vB_false hg))) rfl rfl rfl (gl_off rfl rfl rfl rfl rfl rfl (gl_off rfl rfl rfl rfl rfl rfl (gl_off rfl rfl rfl rfl rfl rfl (gl_off rfl rfl rfl rfl rfl rfl (gv (ov_pick_f rfl rfl) rfl (gl_nil ?_))))))
   refine gq_cut h0 (MLe.refl _) ⟨?_, rfl, rfl, trivial⟩ rfl rfl
   exact congrArg some (vB_and_f hg)
 ·
  intro mg1_4 hmmg1_4
  show GL _ _ _ _ _ _ _ [(13, vB (((0 : Int) < (↑(ya).length : Int)) ∧ ((↑(bitsN (val (ya))) : Int) = (0 : Int)))), (1, vP b1 0), (2, vP b2 0)] [.var b2 27 [vB ((0 : Rat).num < 0), .slice none 0 0, .slice none 0 0], .var b1 27 [vB sa, vna, vda]] mg1_4
  refine gl_nil (gq_then ?_)
  refine gc_cond rfl (fun hc13 => ?_) (fun hc13 => ?_)
  ·
   refine gc_seq (gc_region (gv (ov_build_parts (ps' := []) (vs := [vB ((0 : Rat).num < 0), .slice none 0 0, .slice none 0 0]) Try.underlying27 info27 rfl (places27 Try.underlying27) trivial (by simp only [zb]; rfl)) rfl (gl_upd (A := []) (r' := .var b2 27 [vB ((0 : Rat).num < 0), .slice none 0 0, .slice none 0 0]) (upd_store_var (k := 0) (cs := [_, _, _]) (vs := [_, _, _]) rfl rfl rfl rfl size27 (Nat.le_of_ble_eq_true rfl)) rfl rfl rfl (asg (v := vI (3)) rfl rfl (gl_nil (gq_then (gc_ret (gr_then (gq_res (fun E S => run_res2 rfl (rv_agg (cs := [_, _, _]) (.head _) Try.underlying27 rfl size27 rfl) (rv_tmp rfl) E S) ?_)))))))))
   have e := dV_zero hc13
   rw [e, if_pos rfl, mk_zero']
   exact ⟨_, rfl, IsRat.zero _⟩
  ·
   refine gc_skip (gq_then (gc_seq ?_))
   refine gc_draw 7 _ [] [(0, .q), (1, .q), (2, .q), (3, .q), (4, .q), (5, .c), (6, .c), (7, .t), (8, .t)] mixed (fun x hx => by cases hx) (by kernel_rfl) (fun x hx => by cases hx) (fun r hr => hr) (w_q rfl (fun h' L' hh hR => ov_field_addr Try.underlying27 rfl Try.sizeOf4 rfl) rfl (w_q rfl (fun h' L' hh hR => ov_load_var (hR _ (.tail _ (.head _))) Try.isAgg4 rfl rfl) rfl (w_q rfl (fun h' L' hh hR => ov_field_addr Try.underlying27 rfl Try.sizeOf22 rfl) rfl (w_q rfl (fun h' L' hh hR => ov_load_var (hR _ (.tail _ (.head _))) Try.isAgg22 rfl rfl) rfl (w_q rfl (fun h' L' hh hR => ov_load_agg (vs := [_, _, _]) (hR _ (.tail _ (.head _))) Try.underlying27 rfl size27 rfl rfl) rfl ?_)))))
   refine w_c rfl ?_
   replace hna := hna.mono hmmg1_4
   replace hda := hda.mono hmmg1_4
   refine s_call (vs := [_]) Try.call80 ⟨rfl, trivial⟩ (fun w hs => rat_den hs hna hda) rfl ?_
   intro v20 h1 hh1 hr20
   have hlm20 := dL_len (ya)
   refine w_c rfl ?_
   replace hna := hna.mono hh1
   refine s_call (vs := [_, _, _]) Try.call68 ⟨rfl, rfl, rfl, trivial⟩ (fun w hs => rat_reduce hs hna hr20 (by omega) (by omega)) rfl ?_
   intro v21 h2 hh2 hr21
   try simp only [val_limbs] at hr21
   obtain ⟨vn21, vd21, rfl, hn21, hd21⟩ := hr21
   refine w_t_upd (A := []) (q' := .var b2 27 [vB ((mkRat (sg (sa) (val (xa))) (val (if (ya) = [] then [1] else (ya)))).num < 0), vn21, vd21]) rfl (upd_store_var (k := 0) (cs := [_, _, _]) (vs := [_, _, _]) rfl rfl rfl (ocr rfl (ocu hn21 (ocu hd21 oc0))) size27 (Nat.le_of_ble_eq_true rfl)) rfl (w_t_val rfl (ov_assign (v := vI (0)) rfl) rfl (w_nil (gq_then (gc_ret (gq_res (fun E S => run_res2 rfl (rv_agg (cs := [_, _, _]) (.head _) Try.underlying27 rfl size27 rfl) (rv_tmp rfl) E S) ?_)))))
   rw [if_neg (dV_ne hc13)]
   rw [val_dL] at hn21 hd21 ⊢
   exact ⟨_, rfl, _, _, rfl, hn21, hd21⟩

theorem rref_valid {w0 : World} {h0 : Mem}  (hs : MLe h0 (mem w0)) {sa : Prop} {ba vna vda : Value} {xa ya : List Nat} (hba : ba = vB sa) (hna : Us .u32 h0 vna xa) (hda : Us .u32 h0 vda ya) (hlx : xa.length ≤ 100000000000) (hly : ya.length ≤ 100000000000) :
    Calls Try.prog 28 #[.agg #[ba, vna, vda]] w0 (Ret w0 h0 (fun _ r => r = vB (validP sa xa ya))) := by
 subst hba
 have hlx1 := limbs_len_le hna.lt
 have hly1 := limbs_len_le hda.lt
 refine calls_begin (n := 57) (e := [(0, .agg #[vB sa, vna, vda])]) (vs := [.agg #[vB sa, vna, vda]]) Try.func28 rfl rfl (Nat.le_of_ble_eq_true rfl) hs ⟨rfl, trivial⟩ (gc_seq (gc_region (gl_newop (new_box (cs := [_, _, _]) rfl rfl) rfl rfl rfl ?_)))
 intro v1 r1 hr1
 obtain ⟨b1, rfl, rfl⟩ := hr1
 refine asg rfl rfl (gl_nil (gq_then (gc_seq (gc_seq (gc_region (gv (ov_field_addr Try.underlying27 rfl Try.sizeOf22 rfl) rfl (gv (ov_load_var (.head _) Try.isAgg22 rfl rfl) rfl ?_)))))))
 refine gl_call (vs := [_]) rfl rfl rfl rfl Try.call85 ⟨rfl, trivial⟩ (fun w hs => ref_valid hs hna) ?_
 intro v6 h1 hh1 hr6
 subst hr6
 refine gv (ov_not rfl) rfl ?_
 refine gl_cut (ι := Mem) 6 (fun m_ => MLe h1 m_) (fun _ => [(13, vB ((¬ (((xa) = [] ∨ ((xa)).getD (((xa)).length - 1) 0 ≠ 0))) ∨ (¬ (((ya) = [] ∨ ((ya)).getD (((ya)).length - 1) 0 ≠ 0))))), (1, vP b1 0)]) (fun _ => [.var b1 27 [vB sa, vna, vda]]) (fun m_ => m_) ?_ ?_
 ·
  refine gl_cases (¬ (((xa) = [] ∨ ((xa)).getD (((xa)).length - 1) 0 ≠ 0))) (fun hg => ?_) (fun hg => ?_)
  ·
   refine gl_val (ov_move (v := .bool true) (congrArg some (vB_true hg))) rfl rfl rfl (gl_off rfl rfl rfl rfl rfl rfl (gl_off rfl rfl rfl rfl rfl rfl (gl_off rfl rfl rfl rfl rfl rfl (gl_off rfl rfl rfl rfl rfl rfl (gv (ov_pick_t rfl rfl) rfl (gl_nil ?_))))))
   refine gq_cut h1 (MLe.refl _) ⟨?_, rfl, trivial⟩ rfl rfl
   exact congrArg some (vB_or_t hg)
  ·
   refine gl_val (ov_move (v := .bool false) (congrArg some (vB_false hg))) rfl rfl rfl (gl_on rfl rfl rfl (gv (ov_field_addr Try.underlying27 rfl Try.sizeOf22 rfl) rfl (gl_on rfl rfl rfl (gv (ov_load_var (.head _) Try.isAgg22 rfl rfl) rfl (gl_on rfl rfl rfl ?_)))))
   replace hda := hda.mono hh1
   refine gl_call (vs := [_]) rfl rfl rfl rfl Try.call85 ⟨rfl, trivial⟩ (fun w hs => ref_valid hs hda) ?_
   intro v11 h2 hh2 hr11
   subst hr11
   refine gl_on rfl rfl rfl (gv (ov_not rfl) rfl (gv (ov_pick_f rfl rfl) rfl (gl_nil ?_)))
   refine gq_cut h2 hh2 ⟨?_, rfl, trivial⟩ rfl rfl
   exact congrArg some (vB_or_f hg)
 ·
  intro mg1_4 hmmg1_4
  show GL _ _ _ _ _ _ _ [(13, vB ((¬ (((xa) = [] ∨ ((xa)).getD (((xa)).length - 1) 0 ≠ 0))) ∨ (¬ (((ya) = [] ∨ ((ya)).getD (((ya)).length - 1) 0 ≠ 0))))), (1, vP b1 0)] [.var b1 27 [vB sa, vna, vda]] mg1_4
  refine gl_cut (ι := Unit) 13 (fun _ => True) (fun _ => [(26, vB (((¬ (((xa) = [] ∨ ((xa)).getD (((xa)).length - 1) 0 ≠ 0))) ∨ (¬ (((ya) = [] ∨ ((ya)).getD (((ya)).length - 1) 0 ≠ 0)))) ∨ (((↑(ya).length : Int) = (1 : Int)) ∧ (((ya).getD (0) 0) = (1 : Nat))))), (1, vP b1 0)]) (fun _ => [.var b1 27 [vB sa, vna, vda]]) (fun _ => mg1_4) ?_ ?_
  ·
   refine gl_cases ((¬ (((xa) = [] ∨ ((xa)).getD (((xa)).length - 1) 0 ≠ 0))) ∨ (¬ (((ya) = [] ∨ ((ya)).getD (((ya)).length - 1) 0 ≠ 0)))) (fun hg => ?_) (fun hg => ?_)
   ·
    refine gl_val (ov_move (v := .bool true) (congrArg some (vB_true hg))) rfl rfl rfl (gl_off rfl rfl rfl rfl rfl rfl (gl_off rfl rfl rfl rfl rfl rfl (gl_off rfl rfl rfl rfl rfl rfl (gl_off rfl rfl rfl rfl rfl rfl (gl_off rfl rfl rfl rfl rfl rfl (gl_offu rfl rfl rfl rfl rfl (gl_offu rfl rfl rfl rfl rfl (gl_offu rfl rfl rfl rfl rfl (gl_offu rfl rfl rfl rfl rfl (gl_offu rfl rfl rfl rfl rfl (gl_off rfl rfl rfl rfl rfl rfl (gv (ov_pick_t rfl rfl) rfl (gl_nil ?_)))))))))))))
    refine gq_cut () trivial ⟨?_, rfl, trivial⟩ rfl rfl
    exact congrArg some (vB_or_t hg)
   ·
    refine gl_val (ov_move (v := .bool false) (congrArg some (vB_false hg))) rfl rfl rfl (gl_on rfl rfl rfl (gv (ov_field_addr Try.underlying27 rfl Try.sizeOf22 rfl) rfl (gl_on rfl rfl rfl (gv (ov_load_var (.head _) Try.isAgg22 rfl rfl) rfl (gl_on rfl rfl rfl ?_)))))
    replace hda := hda.mono (hh1.trans hmmg1_4)
    refine gv (ov_len_us Try.underlying22 rfl hda) rfl (gl_on rfl rfl rfl (gv (ov_eql_i (q := 1) rfl rfl) rfl ?_))
    refine gl_cut (ι := Unit) 7 (fun _ => True) (fun _ => [(25, vB (((↑(ya).length : Int) = (1 : Int)) ∧ (((ya).getD (0) 0) = (1 : Nat)))), (1, vP b1 0), (14, .bool false)]) (fun _ => [.var b1 27 [vB sa, vna, vda]]) (fun _ => mg1_4) ?_ ?_
    ·
     refine gl_cases ((↑(ya).length : Int) = (1 : Int)) (fun hg => ?_) (fun hg => ?_)
     ·
      refine gl_on rfl rfl rfl (gl_val (ov_move (v := .bool true) (congrArg some (vB_true hg))) rfl rfl rfl (gl_on rfl rfl rfl (gv (ov_field_addr Try.underlying27 rfl Try.sizeOf22 rfl) rfl (gl_on rfl rfl rfl (gv (ov_load_var (.head _) Try.isAgg22 rfl rfl) rfl (gl_on rfl rfl rfl (gv (ov_index_us (q := 0) (0) Try.underlying22 Try.sizeOf61 rfl rfl hda rfl (by omega)) rfl (gl_on rfl rfl rfl (gv (ov_load_us Try.isAgg61 rfl hda (by omega)) rfl (gl_on rfl rfl rfl (gv (ov_eql_u (k := .u32) (q := 1) rfl rfl) rfl (gl_on rfl rfl rfl (gv (ov_pick_t rfl rfl) rfl ?_)))))))))))))
      refine gl_nil ?_
      refine gq_cut () trivial ⟨?_, rfl, rfl, trivial⟩ rfl rfl
      exact congrArg some (vB_and_t hg)
     ·
      refine gl_on rfl rfl rfl (gl_val (ov_move (v := .bool false) (congrArg some (vB_false hg))) rfl rfl rfl (gl_off rfl rfl rfl rfl rfl rfl (gl_off rfl rfl rfl rfl rfl rfl (gl_off rfl rfl rfl rfl rfl rfl (gl_off rfl rfl rfl rfl rfl rfl (gl_off rfl rfl rfl rfl rfl rfl (gl_on rfl rfl rfl (gv (ov_pick_f rfl rfl) rfl (gl_nil ?_)))))))))
      refine gq_cut () trivial ⟨?_, rfl, rfl, trivial⟩ rfl rfl
      exact congrArg some (vB_and_f hg)
    ·
     intro _ _
     show GL _ _ _ _ _ _ _ [(25, vB (((↑(ya).length : Int) = (1 : Int)) ∧ (((ya).getD (0) 0) = (1 : Nat)))), (1, vP b1 0), (14, .bool false)] [.var b1 27 [vB sa, vna, vda]] mg1_4
     refine gv (ov_pick_f rfl rfl) rfl (gl_nil ?_)
     refine gq_cut () trivial ⟨?_, rfl, trivial⟩ rfl rfl
     exact congrArg some (vB_or_f hg)
  ·
   intro _ _
   show GL _ _ _ _ _ _ _ [(26, vB (((¬ (((xa) = [] ∨ ((xa)).getD (((xa)).length - 1) 0 ≠ 0))) ∨ (¬ (((ya) = [] ∨ ((ya)).getD (((ya)).length - 1) 0 ≠ 0)))) ∨ (((↑(ya).length : Int) = (1 : Int)) ∧ (((ya).getD (0) 0) = (1 : Nat))))), (1, vP b1 0)] [.var b1 27 [vB sa, vna, vda]] mg1_4
   refine gl_cut (ι := Unit) 16 (fun _ => True) (fun _ => [(42, vB ((((¬ (((xa) = [] ∨ ((xa)).getD (((xa)).length - 1) 0 ≠ 0))) ∨ (¬ (((ya) = [] ∨ ((ya)).getD (((ya)).length - 1) 0 ≠ 0)))) ∨ (((↑(ya).length : Int) = (1 : Int)) ∧ (((ya).getD (0) 0) = (1 : Nat)))) ∨ (((↑(xa).length : Int) = (0 : Int)) ∧ ((sa) ∨ ((0 : Int) < (↑(ya).length : Int)))))), (1, vP b1 0)]) (fun _ => [.var b1 27 [vB sa, vna, vda]]) (fun _ => mg1_4) ?_ ?_
   ·
    refine gl_cases (((¬ (((xa) = [] ∨ ((xa)).getD (((xa)).length - 1) 0 ≠ 0))) ∨ (¬ (((ya) = [] ∨ ((ya)).getD (((ya)).length - 1) 0 ≠ 0)))) ∨ (((↑(ya).length : Int) = (1 : Int)) ∧ (((ya).getD (0) 0) = (1 : Nat)))) (fun hg => ?_) (fun hg => ?_)
    ·
     refine gl_val (ov_move (v := .bool true) (congrArg some (vB_true hg))) rfl rfl rfl (gl_off rfl rfl rfl rfl rfl rfl (gl_off rfl rfl rfl rfl rfl rfl (gl_off rfl rfl rfl rfl rfl rfl (gl_off rfl rfl rfl rfl rfl rfl (gl_off rfl rfl rfl rfl rfl rfl (gl_offu rfl rfl rfl rfl rfl (gl_offu rfl rfl rfl rfl rfl (gl_offu rfl rfl rfl rfl rfl (gl_offu rfl rfl rfl rfl rfl (gl_offu rfl rfl rfl rfl rfl (gl_offu rfl rfl rfl rfl rfl (gl_offu rfl rfl rfl rfl rfl (gl_offu rfl rfl rfl rfl rfl ?_)))))))))))))
     refine gl_off rfl rfl rfl rfl rfl rfl (gv (ov_pick_t rfl rfl) rfl (gl_nil ?_))
     refine gq_cut () trivial ⟨?_, rfl, trivial⟩ rfl rfl
     exact congrArg some (vB_or_t hg)
    ·
     refine gl_val (ov_move (v := .bool false) (congrArg some (vB_false hg))) rfl rfl rfl (gl_on rfl rfl rfl (gv (ov_field_addr Try.underlying27 rfl Try.sizeOf22 rfl) rfl (gl_on rfl rfl rfl (gv (ov_load_var (.head _) Try.isAgg22 rfl rfl) rfl (gl_on rfl rfl rfl ?_)))))
     replace hna := hna.mono (hh1.trans hmmg1_4)
     refine gv (ov_len_us Try.underlying22 rfl hna) rfl (gl_on rfl rfl rfl (gv (ov_eql_i (q := 0) rfl rfl) rfl ?_))
     refine gl_cut (ι := Unit) 10 (fun _ => True) (fun _ => [(41, vB (((↑(xa).length : Int) = (0 : Int)) ∧ ((sa) ∨ ((0 : Int) < (↑(ya).length : Int))))), (1, vP b1 0), (27, .bool false)]) (fun _ => [.var b1 27 [vB sa, vna, vda]]) (fun _ => mg1_4) ?_ ?_
     ·
      refine gl_cases ((↑(xa).length : Int) = (0 : Int)) (fun hg => ?_) (fun hg => ?_)
      ·
       refine gl_on rfl rfl rfl (gl_val (ov_move (v := .bool true) (congrArg some (vB_true hg))) rfl rfl rfl (gl_on rfl rfl rfl (gv (ov_field_addr Try.underlying27 rfl Try.sizeOf4 rfl) rfl (gl_on rfl rfl rfl (gv (ov_load_var (.head _) Try.isAgg4 rfl rfl) rfl ?_)))))
       refine gl_cut (ι := Unit) 6 (fun _ => True) (fun _ => [(40, vB ((sa) ∨ ((0 : Int) < (↑(ya).length : Int)))), (1, vP b1 0), (27, .bool false), (32, .bool true)]) (fun _ => [.var b1 27 [vB sa, vna, vda]]) (fun _ => mg1_4) ?_ ?_
       ·
        refine gl_cases (sa) (fun hg => ?_) (fun hg => ?_)
        ·
         refine gl_on rfl rfl rfl (gl_val (ov_move (v := .bool true) (congrArg some (vB_true hg))) rfl rfl rfl (gl_off rfl rfl rfl rfl rfl rfl (gl_off rfl rfl rfl rfl rfl rfl (gl_off rfl rfl rfl rfl rfl rfl (gl_off rfl rfl rfl rfl rfl rfl (gl_on rfl rfl rfl (gv (ov_pick_t rfl rfl) rfl (gl_nil ?_))))))))
         refine gq_cut () trivial ⟨?_, rfl, rfl, rfl, trivial⟩ rfl rfl
         exact congrArg some (vB_or_t hg)
        ·
         refine gl_on rfl rfl rfl (gl_val (ov_move (v := .bool false) (congrArg some (vB_false hg))) rfl rfl rfl (gl_on rfl rfl rfl (gv (ov_field_addr Try.underlying27 rfl Try.sizeOf22 rfl) rfl (gl_on rfl rfl rfl (gv (ov_load_var (.head _) Try.isAgg22 rfl rfl) rfl (gl_on rfl rfl rfl ?_))))))
         replace hda := hda.mono (hh1.trans hmmg1_4)
         refine gv (ov_len_us Try.underlying22 rfl hda) rfl (gl_on rfl rfl rfl (gv (ov_gtr_i (q := 0) rfl rfl) rfl (gl_on rfl rfl rfl (gv (ov_pick_f rfl rfl) rfl (gl_nil ?_)))))
         refine gq_cut () trivial ⟨?_, rfl, rfl, rfl, trivial⟩ rfl rfl
         exact congrArg some (vB_or_f hg)
       ·
        intro _ _
        show GL _ _ _ _ _ _ _ [(40, vB ((sa) ∨ ((0 : Int) < (↑(ya).length : Int)))), (1, vP b1 0), (27, .bool false), (32, .bool true)] [.var b1 27 [vB sa, vna, vda]] mg1_4
        refine gl_on rfl rfl rfl (gv (ov_pick_t rfl rfl) rfl (gl_nil ?_))
        refine gq_cut () trivial ⟨?_, rfl, rfl, trivial⟩ rfl rfl
        exact congrArg some (vB_and_t hg)
      ·
       refine gl_on rfl rfl rfl (gl_val (ov_move (v := .bool false) (congrArg some (vB_false hg))) rfl rfl rfl (gl_off rfl rfl rfl rfl rfl rfl (gl_off rfl rfl rfl rfl rfl rfl (gl_off rfl rfl rfl rfl rfl rfl (gl_offu rfl rfl rfl rfl rfl (gl_offu rfl rfl rfl rfl rfl (gl_offu rfl rfl rfl rfl rfl (gl_offu rfl rfl rfl rfl rfl (gl_off rfl rfl rfl rfl rfl rfl (gl_on rfl rfl rfl (gv (ov_pick_f rfl rfl) rfl (gl_nil ?_))))))))))))
       refine gq_cut () trivial ⟨?_, rfl, rfl, trivial⟩ rfl rfl
       exact congrArg some (vB_and_f hg)
     ·
      intro _ _
      show GL _ _ _ _ _ _ _ [(41, vB (((↑(xa).length : Int) = (0 : Int)) ∧ ((sa) ∨ ((0 : Int) < (↑(ya).length : Int))))), (1, vP b1 0), (27, .bool false)] [.var b1 27 [vB sa, vna, vda]] mg1_4
      refine gv (ov_pick_f rfl rfl) rfl (gl_nil ?_)
      refine gq_cut () trivial ⟨?_, rfl, trivial⟩ rfl rfl
      exact congrArg some (vB_or_f hg)
   ·
    intro _ _
    show GL _ _ _ _ _ _ _ [(42, vB ((((¬ (((xa) = [] ∨ ((xa)).getD (((xa)).length - 1) 0 ≠ 0))) ∨ (¬ (((ya) = [] ∨ ((ya)).getD (((ya)).length - 1) 0 ≠ 0)))) ∨ (((↑(ya).length : Int) = (1 : Int)) ∧ (((ya).getD (0) 0) = (1 : Nat)))) ∨ (((↑(xa).length : Int) = (0 : Int)) ∧ ((sa) ∨ ((0 : Int) < (↑(ya).length : Int)))))), (1, vP b1 0)] [.var b1 27 [vB sa, vna, vda]] mg1_4
    refine gl_nil (gq_then ?_)
    refine gc_cond rfl (fun hc42 => ?_) (fun hc42 => ?_)
    ·
     refine gc_seq (gc_region (asg rfl rfl (gl_nil (gq_then (gc_ret (gr_then (gq_body1 rfl rfl ?_)))))))
     rw [vB_false (valid_ref_f hc42)]
    ·
     replace hna := hna.mono (hh1.trans hmmg1_4)
     replace hda := hda.mono (hh1.trans hmmg1_4)
     have hcx : canon xa := Classical.byContradiction fun h => hc42 (.inl (.inl (.inl h)))
     have hcy : canon ya := Classical.byContradiction fun h => hc42 (.inl (.inl (.inr h)))
     have ecx := canon_limbs hna.lt hcx
     have ecy := dL_limbs hda.lt hcy
     refine gc_skip (gq_then (gc_seq ?_))
     refine gc_draw 6 _ [] [(0, .q), (1, .q), (2, .q), (3, .c), (4, .c), (5, .q)] mixed (fun x hx => by cases hx) (by kernel_rfl) (fun x hx => by cases hx) (fun r hr => hr) (w_q rfl (fun h' L' hh hR => ov_field_addr Try.underlying27 rfl Try.sizeOf22 rfl) rfl (w_q rfl (fun h' L' hh hR => ov_load_var (hR _ (.head _)) Try.isAgg22 rfl rfl) rfl (w_q rfl (fun h' L' hh hR => ov_load_agg (vs := [_, _, _]) (hR _ (.head _)) Try.underlying27 rfl size27 rfl rfl) rfl ?_)))
     refine w_c rfl ?_
     refine s_call (vs := [_]) Try.call82 ⟨rfl, trivial⟩ (fun w hs => rref_den hs rfl hna hda) rfl ?_
     intro v46 h2 hh2 hr46
     have hlm46 := dL_len (ya)
     rw [ecy] at hr46 hlm46
     replace hna := hna.mono hh2
     rw [ecx] at hna
     refine w_c rfl ?_
     refine s_call (vs := [_, _]) Try.call86 ⟨rfl, rfl, trivial⟩ (fun w hs => ref_gcd hs hna hr46 (by omega) (by omega)) rfl ?_
     intro v47 h3 hh3 hr47
     refine w_q rfl (fun h' L' hh hR => ov_assign rfl) rfl (w_nil (gq_then (gc_seq (gc_region (mv rfl rfl (gv (ov_len_us Try.underlying22 rfl hr47) rfl (gv (ov_eql_i (q := 1) rfl rfl) rfl ?_)))))))
     refine gl_cut (ι := Unit) 6 (fun _ => True) (fun _ => [(56, vB (((↑(limbs (Nat.gcd (val xa) (dV ya))).length : Int) = (1 : Int)) ∧ (((limbs (Nat.gcd (val xa) (dV ya))).getD (0) 0) = (1 : Nat))))]) (fun _ => [.var b1 27 [vB sa, vna, vda]]) (fun _ => h3) ?_ ?_
     ·
      refine gl_cases ((↑(limbs (Nat.gcd (val xa) (dV ya))).length : Int) = (1 : Int)) (fun hg => ?_) (fun hg => ?_)
      ·
       refine gl_val (ov_move (v := .bool true) (congrArg some (vB_true hg))) rfl rfl rfl (gl_on rfl rfl rfl (mv rfl rfl (gl_on rfl rfl rfl (gv (ov_index_us (q := 0) (0) Try.underlying22 Try.sizeOf61 rfl rfl hr47 rfl (by omega)) rfl (gl_on rfl rfl rfl (gv (ov_load_us Try.isAgg61 rfl hr47 (by omega)) rfl (gl_on rfl rfl rfl (gv (ov_eql_u (k := .u32) (q := 1) rfl rfl) rfl (gv (ov_pick_t rfl rfl) rfl (gl_nil ?_))))))))))
       refine gq_cut () trivial ⟨?_, trivial⟩ rfl rfl
       exact congrArg some (vB_and_t hg)
      ·
       refine gl_val (ov_move (v := .bool false) (congrArg some (vB_false hg))) rfl rfl rfl (gl_off rfl rfl rfl rfl rfl rfl (gl_off rfl rfl rfl rfl rfl rfl (gl_off rfl rfl rfl rfl rfl rfl (gl_off rfl rfl rfl rfl rfl rfl (gv (ov_pick_f rfl rfl) rfl (gl_nil ?_))))))
       refine gq_cut () trivial ⟨?_, trivial⟩ rfl rfl
       exact congrArg some (vB_and_f hg)
     ·
      intro _ _
      show GL _ _ _ _ _ _ _ [(56, vB (((↑(limbs (Nat.gcd (val xa) (dV ya))).length : Int) = (1 : Int)) ∧ (((limbs (Nat.gcd (val xa) (dV ya))).getD (0) 0) = (1 : Nat))))] [.var b1 27 [vB sa, vna, vda]] h3
      refine asg rfl rfl (gl_nil (gq_then (gc_ret (gq_body1 rfl rfl ?_))))
      exact vB_iff (valid_ref hc42)

theorem rref_size {w0 : World} {h0 : Mem}  (hs : MLe h0 (mem w0)) {n : Int} (hn1 : -9223372036854775808 ≤ n) (hn2 : n < 9223372036854775808) :
    Calls Try.prog 79 #[vI n] w0 (Ret w0 h0 (fun h r => ∃ u, r = .tuple #[u, vB (n < 0)] ∧ Us .u32 h u (limbs n.natAbs))) := by
 refine calls_begin (n := 15) (e := [(0, vI n)]) (vs := [vI n]) Try.func79 rfl rfl (Nat.le_of_ble_eq_true rfl) hs ⟨rfl, trivial⟩ (gc_seq (gc_region (asg rfl rfl (asg rfl rfl (gl_nil (gq_then (gc_seq (gc_seq (gc_region (mv rfl rfl (gv (ov_lss_i (q := 0) rfl rfl) rfl (gl_nil (gq_then ?_)))))))))))))
 refine gc_cond rfl (fun hc5 => ?_) (fun hc5 => ?_)
 ·
  refine gc_seq (gc_region (mv rfl rfl (gv (ov_add_i (q := 1) rfl rfl (by omega) (by omega)) rfl (gv (ov_neg_i rfl (by omega) (by omega)) rfl (gv (ov_conv_iu (p := (-(n + 1)).toNat) (k' := .u64) (W := 18446744073709551616) Try.underlying2 Try.underlying75 rfl rfl (congrArg some (congrArg vI (by omega))) (by omega)) rfl (gv (ov_add_u (k := .u64) (q := 1) (W := 18446744073709551616) rfl rfl rfl rfl (by omega)) rfl ?_))))))
  refine gl_call (vs := [_]) rfl rfl rfl rfl Try.call110 ⟨rfl, trivial⟩ (fun w hs => ref_of hs (by omega)) ?_
  intro v11 h1 hh1 hr11
  refine asg rfl rfl (asg rfl rfl (gl_nil (gq_then (gc_ret (gr_then (gq_body2 rfl rfl rfl ?_))))))
  rw [vB_true hc5, show n.natAbs = (-(n + 1)).toNat + 1 by omega]
  exact ⟨_, rfl, hr11⟩
 ·
  refine gc_skip (gq_then (gc_seq (gc_region (mv rfl rfl (gv (ov_conv_iu (p := n.toNat) (k' := .u64) (W := 18446744073709551616) Try.underlying2 Try.underlying75 rfl rfl (congrArg some (congrArg vI (by omega))) (by omega)) rfl ?_)))))
  refine gl_call (vs := [_]) rfl rfl rfl rfl Try.call110 ⟨rfl, trivial⟩ (fun w hs => ref_of hs (by omega)) ?_
  intro v14 h1 hh1 hr14
  refine asg rfl rfl (asg rfl rfl (gl_nil (gq_then (gc_ret (gq_body2 rfl rfl rfl ?_)))))
  rw [vB_false hc5, show n.natAbs = n.toNat by omega]
  exact ⟨_, rfl, hr14⟩

theorem rref_make {w0 : World} {h0 : Mem}  (hs : MLe h0 (mem w0)) {n : Int} (hn1 : -9223372036854775808 ≤ n) (hn2 : n < 9223372036854775808) {d : Int} (hd1 : -9223372036854775808 ≤ d) (hd2 : d < 9223372036854775808) :
    Calls Try.prog 22 #[vI n, vI d] w0 (Ret w0 h0 (fun h r => ∃ u, r = .tuple #[u, vI (if d = 0 then 3 else 0)] ∧ IsRat h u (makeQ n d))) := by
 refine calls_begin (n := 29) (e := [(0, vI n), (1, vI d)]) (vs := [vI n, vI d]) Try.func22 rfl rfl (Nat.le_of_ble_eq_true rfl) hs ⟨rfl, rfl, trivial⟩ (gc_seq (gc_region (gl_newop (new_alloc (cs := [vB ((0 : Rat).num < 0), .slice none 0 0, .slice none 0 0]) info27 rfl (by simp only [zb]; rfl)) rfl rfl rfl ?_)))
 intro v4 r4 hr4
 obtain ⟨b4, rfl, rfl⟩ := hr4
 refine asg (v := vI (0)) rfl rfl (gl_nil (gq_then (gc_seq (gc_seq (gc_region (mv rfl rfl (gv (ov_eql_i (q := 0) rfl rfl) rfl (gl_nil (gq_then ?_)))))))))
 refine gc_cond rfl (fun hc11 => ?_) (fun hc11 => ?_)
 ·
  refine gc_seq (gc_region (gv (ov_build_parts (ps' := []) (vs := [vB ((0 : Rat).num < 0), .slice none 0 0, .slice none 0 0]) Try.underlying27 info27 rfl (places27 Try.underlying27) trivial (by simp only [zb]; rfl)) rfl (gl_upd (A := []) (r' := .var b4 27 [vB ((0 : Rat).num < 0), .slice none 0 0, .slice none 0 0]) (upd_store_var (k := 0) (cs := [_, _, _]) (vs := [_, _, _]) rfl rfl rfl rfl size27 (Nat.le_of_ble_eq_true rfl)) rfl rfl rfl (asg (v := vI (3)) rfl rfl (gl_nil (gq_then (gc_ret (gr_then (gq_res (fun E S => run_res2 rfl (rv_agg (cs := [_, _, _]) (.head _) Try.underlying27 rfl size27 rfl) (rv_tmp rfl) E S) ?_)))))))))
  rw [if_pos hc11, hc11, makeQ_zero]
  exact ⟨_, rfl, IsRat.zero _⟩
 ·
  have hda : d.natAbs ≠ 0 := by omega
  refine gc_skip (gq_then (gc_seq (gc_region (mv rfl rfl ?_))))
  refine gl_call (vs := [_]) rfl rfl rfl rfl Try.call79 ⟨rfl, trivial⟩ (fun w hs => rref_size hs (by omega) (by omega)) ?_
  intro v15 h1 hh1 hr15
  obtain ⟨u15, rfl, hu15⟩ := hr15
  have hlm15 := limbs_len_i64 (n := n) (by omega) (by omega)
  refine mv rfl rfl (gv (ov_extract (vs := [_, _]) rfl rfl) rfl (gv (ov_extract (vs := [_, _]) rfl rfl) rfl (asg rfl rfl (asg rfl rfl (gl_nil (gq_then (gc_seq (gc_region (mv rfl rfl ?_)))))))))
  refine gl_call (vs := [_]) rfl rfl rfl rfl Try.call79 ⟨rfl, trivial⟩ (fun w hs => rref_size hs (by omega) (by omega)) ?_
  intro v20 h2 hh2 hr20
  obtain ⟨u20, rfl, hu20⟩ := hr20
  have hlm20 := limbs_len_i64 (n := d) (by omega) (by omega)
  refine mv rfl rfl (gv (ov_extract (vs := [_, _]) rfl rfl) rfl (gv (ov_extract (vs := [_, _]) rfl rfl) rfl (asg rfl rfl (asg rfl rfl (gl_nil (gq_keep (e' := [(4, _), (6, _), (7, _), (8, _), (9, _)]) ⟨rfl, rfl, rfl, rfl, rfl, trivial⟩ (gq_then (gc_seq (gc_region (mv rfl rfl (mv rfl rfl (gv (ov_neq_b Try.underlying4 rfl rfl) rfl (mv rfl rfl ?_)))))))))))))
  refine mv rfl rfl ?_
  replace hu15 := hu15.mono hh2
  refine gl_call (vs := [_, _, _]) rfl rfl rfl rfl Try.call74 ⟨rfl, rfl, rfl, trivial⟩ (fun w hs => rref_reduce hs hu15 hu20 (by omega) (by omega) (by first | (simp only [val_limbs]; omega) | (simp only [val_limbs]; first | exact Rat.den_nz _ | exact Nat.mul_ne_zero (Rat.den_nz _) (Rat.den_nz _) | exact Nat.one_ne_zero | assumption) | assumption)) ?_
  intro v28 h3 hh3 hr28
  try simp only [val_limbs] at hr28
  obtain ⟨vn28, vd28, rfl, hn28, hd28⟩ := hr28
  refine gl_upd (A := []) (r' := .var b4 27 [vB ((mkRat (sg (¬ ((n < 0) ↔ (d < 0))) (((n).natAbs))) (((d).natAbs))).num < 0), vn28, vd28]) (upd_store_var (k := 0) (cs := [_, _, _]) (vs := [_, _, _]) rfl rfl rfl (ocr rfl (ocu hn28 (ocu hd28 oc0))) size27 (Nat.le_of_ble_eq_true rfl)) rfl rfl rfl (asg (v := vI (0)) rfl rfl (gl_nil (gq_keep (e' := [(4, _), (5, _)]) ⟨rfl, rfl, trivial⟩ (gq_then (gc_ret (gq_res (fun E S => run_res2 rfl (rv_agg (cs := [_, _, _]) (.head _) Try.underlying27 rfl size27 rfl) (rv_tmp rfl) E S) ?_))))))
  rw [if_neg hc11, ← makeQ_eq hc11]
  exact ⟨_, rfl, _, _, rfl, hn28, hd28⟩

theorem rref_int {w0 : World} {h0 : Mem}  (hs : MLe h0 (mem w0)) {n : Int} (hn1 : -9223372036854775808 ≤ n) (hn2 : n < 9223372036854775808) :
    Calls Try.prog 24 #[vI n] w0 (Ret w0 h0 (fun h r => IsRat h r (n : Rat))) := by
 refine calls_begin (n := 13) (e := [(0, vI n)]) (vs := [vI n]) Try.func24 rfl rfl (Nat.le_of_ble_eq_true rfl) hs ⟨rfl, trivial⟩ (gc_seq (gc_region (gl_newop (new_alloc (cs := [vB ((0 : Rat).num < 0), .slice none 0 0, .slice none 0 0]) info27 rfl (by simp only [zb]; rfl)) rfl rfl rfl ?_)))
 intro v2 r2 hr2
 obtain ⟨b2, rfl, rfl⟩ := hr2
 refine gl_nil (gq_then (gc_seq (gc_region (mv rfl rfl ?_))))
 refine gl_call (vs := [_]) rfl rfl rfl rfl Try.call79 ⟨rfl, trivial⟩ (fun w hs => rref_size hs (by omega) (by omega)) ?_
 intro v7 h1 hh1 hr7
 obtain ⟨u7, rfl, hu7⟩ := hr7
 have hlm7 := limbs_len_i64 (n := n) (by omega) (by omega)
 refine mv rfl rfl (gv (ov_extract (vs := [_, _]) rfl rfl) rfl (gv (ov_extract (vs := [_, _]) rfl rfl) rfl (asg rfl rfl (asg rfl rfl (gl_nil (gq_then (gc_seq (gc_region (mv rfl rfl (mv rfl rfl (gv (ov_build_parts (ps' := [(0, _), (1, _)]) (vs := [vB (n < 0), u7, .slice none 0 0]) Try.underlying27 info27 rfl (places27 Try.underlying27) ⟨rfl, rfl, rfl, rfl, trivial⟩ (by obtain ⟨_, _, e0⟩ := hu7.one; rw [e0]; rfl)) rfl (gl_upd (A := []) (r' := .var b2 27 [vB (n < 0), u7, .slice none 0 0]) (upd_store_var (k := 0) (cs := [_, _, _]) (vs := [_, _, _]) rfl rfl rfl (ocr rfl (ocu hu7 (ocr rfl oc0))) size27 (Nat.le_of_ble_eq_true rfl)) rfl rfl rfl (gl_nil ?_)))))))))))))
 refine gq_keep (e' := [(2, _)]) ⟨rfl, trivial⟩ (gq_then (gc_ret (gq_res (fun E S => run_res1 rfl (rv_agg (cs := [_, _, _]) (.head _) Try.underlying27 rfl size27 rfl) E S) ?_)))
 exact IsRat.int hu7

theorem rref_frac {w0 : World} {h0 : Mem}  (hs : MLe h0 (mem w0)) {n : Int} (hn1 : -9223372036854775808 ≤ n) (hn2 : n < 9223372036854775808) {d : Int} (hd1 : -9223372036854775808 ≤ d) (hd2 : d < 9223372036854775808) :
    Calls Try.prog 100 #[vI n, vI d] w0 (Ret w0 h0 (fun h r => IsRat h r (makeQ n d))) := by
 refine calls_begin (n := 14) (e := [(0, vI n), (1, vI d)]) (vs := [vI n, vI d]) Try.func100 rfl rfl (Nat.le_of_ble_eq_true rfl) hs ⟨rfl, rfl, trivial⟩ (gc_seq (gc_region (gl_newop (new_alloc (cs := [vB ((0 : Rat).num < 0), .slice none 0 0, .slice none 0 0]) info27 rfl (by simp only [zb]; rfl)) rfl rfl rfl ?_)))
 intro v4 r4 hr4
 obtain ⟨b4, rfl, rfl⟩ := hr4
 refine gl_nil (gq_then (gc_seq (gc_region (mv rfl rfl (mv rfl rfl ?_)))))
 refine gl_call (vs := [_, _]) rfl rfl rfl rfl Try.call22 ⟨rfl, rfl, trivial⟩ (fun w hs => rref_make hs (by omega) (by omega) (by omega) (by omega)) ?_
 intro v10 h1 hh1 hr10
 obtain ⟨_, rfl, vn10, vd10, rfl, hn10, hd10⟩ := hr10
 have hlq10 := lq_make (n := n) (d := d) (by omega) (by omega) (by omega) (by omega)
 refine mv rfl rfl (gv (ov_extract (vs := [_, _]) rfl rfl) rfl (gv (ov_extract (vs := [_, _]) rfl rfl) rfl (gl_newop (new_alloc (cs := [vB ((0 : Rat).num < 0), .slice none 0 0, .slice none 0 0]) info27 rfl (by simp only [zb]; rfl)) rfl rfl rfl ?_)))
 intro v5 r5 hr5
 obtain ⟨b5, rfl, rfl⟩ := hr5
 refine gl_upd (A := []) (r' := .var b5 27 [vB ((makeQ n d).num < 0), vn10, vd10]) (upd_store_var (k := 0) (cs := [_, _, _]) (vs := [_, _, _]) rfl rfl rfl (ocr rfl (ocu hn10 (ocu hd10 oc0))) size27 (Nat.le_of_ble_eq_true rfl)) rfl rfl rfl (asg rfl rfl (gl_nil (gq_then (gc_seq (gc_region (gv (ov_load_agg (vs := [_, _, _]) (.head _) Try.underlying27 rfl size27 rfl rfl) rfl (gl_upd (A := [_]) (r' := .var b4 27 [vB ((makeQ n d).num < 0), vn10, vd10]) (upd_store_var (k := 0) (cs := [_, _, _]) (vs := [_, _, _]) rfl rfl rfl (ocr rfl (ocu hn10 (ocu hd10 oc0))) size27 (Nat.le_of_ble_eq_true rfl)) rfl rfl rfl (gl_nil (gq_keep (e' := [(4, _)]) ⟨rfl, trivial⟩ (gq_then (gc_ret (gq_res (fun E S => run_res1 rfl (rv_agg (cs := [_, _, _]) (.tail _ (.head _)) Try.underlying27 rfl size27 rfl) E S) ?_))))))))))))
 exact ⟨_, _, rfl, hn10, hd10⟩

theorem rref_same {w0 : World} {h0 : Mem}  (hs : MLe h0 (mem w0)) {qa : Rat} {vna vda : Value} (hna : Us .u32 h0 vna (limbs qa.num.natAbs)) (hda : Us .u32 h0 vda (limbs (denN qa.den))) {qb : Rat} {vnb vdb : Value} (hnb : Us .u32 h0 vnb (limbs qb.num.natAbs)) (hdb : Us .u32 h0 vdb (limbs (denN qb.den))) (hqa : lq qa ≤ 100000000000) (hqb : lq qb ≤ 100000000000)  :
    Calls Try.prog 20 #[.agg #[vB (qa.num < 0), vna, vda], .agg #[vB (qb.num < 0), vnb, vdb]] w0 (Ret w0 h0 (fun _ r => r = vB (qa = qb))) := by
 have hlna := lq_num qa
 have hlda := lq_den qa
 have hlDa := lq_denL qa
 have hlnb := lq_num qb
 have hldb := lq_den qb
 have hlDb := lq_denL qb
 refine calls_begin (n := 26) (e := [(0, .agg #[vB (qa.num < 0), vna, vda]), (1, .agg #[vB (qb.num < 0), vnb, vdb])]) (vs := [.agg #[vB (qa.num < 0), vna, vda], .agg #[vB (qb.num < 0), vnb, vdb]]) Try.func20 rfl rfl (Nat.le_of_ble_eq_true rfl) hs ⟨rfl, rfl, trivial⟩ (gc_seq (gc_region (gl_newop (new_box (cs := [_, _, _]) rfl rfl) rfl rfl rfl ?_)))
 intro v2 r2 hr2
 obtain ⟨b2, rfl, rfl⟩ := hr2
 refine gl_newop (new_box (cs := [_, _, _]) rfl rfl) rfl rfl rfl ?_
 intro v3 r3 hr3
 obtain ⟨b3, rfl, rfl⟩ := hr3
 refine asg rfl rfl (gl_nil (gq_then (gc_seq (gc_region (gv (ov_field_addr Try.underlying27 rfl Try.sizeOf4 rfl) rfl (gv (ov_load_var (.tail _ (.head _)) Try.isAgg4 rfl rfl) rfl (gv (ov_field_addr Try.underlying27 rfl Try.sizeOf4 rfl) rfl (gv (ov_load_var (.head _) Try.isAgg4 rfl rfl) rfl (gv (ov_eql_b Try.underlying4 rfl rfl) rfl ?_)))))))))
 refine gl_cut (ι := Mem) 8 (fun m_ => MLe h0 m_) (fun _ => [(17, vB (((qa.num < 0) ↔ (qb.num < 0)) ∧ ((cmpN (qa.num.natAbs) (qb.num.natAbs)) = (0 : Int)))), (2, vP b2 0), (3, vP b3 0)]) (fun _ => [.var b3 27 [vB (qb.num < 0), vnb, vdb], .var b2 27 [vB (qa.num < 0), vna, vda]]) (fun m_ => m_) ?_ ?_
 ·
  refine gl_cases ((qa.num < 0) ↔ (qb.num < 0)) (fun hg => ?_) (fun hg => ?_)
  ·
   refine gl_val (ov_move (v := .bool true) (congrArg some (vB_true hg))) rfl rfl rfl (gl_on rfl rfl rfl (gv (ov_field_addr Try.underlying27 rfl Try.sizeOf22 rfl) rfl (gl_on rfl rfl rfl (gv (ov_load_var (.tail _ (.head _)) Try.isAgg22 rfl rfl) rfl (gl_on rfl rfl rfl (gv (ov_field_addr Try.underlying27 rfl Try.sizeOf22 rfl) rfl (gl_on rfl rfl rfl (gv (ov_load_var (.head _) Try.isAgg22 rfl rfl) rfl (gl_on rfl rfl rfl ?_)))))))))
   refine gl_call (vs := [_, _]) rfl rfl rfl rfl Try.call77 ⟨rfl, rfl, trivial⟩ (fun w hs => ref_cmp hs hna hnb) ?_
   intro v15 h1 hh1 hr15
   subst hr15
   refine gl_on rfl rfl rfl (gv (ov_eql_i (q := 0) rfl rfl) rfl (gv (ov_pick_t rfl rfl) rfl (gl_nil ?_)))
   refine gq_cut h1 hh1 ⟨?_, rfl, rfl, trivial⟩ rfl rfl
   exact congrArg some (vB_and_t hg)
  ·
   refine gl_val (ov_move (v := .bool false) (congrArg some (vB_false hg))) rfl rfl rfl (gl_off rfl rfl rfl rfl rfl rfl (gl_off rfl rfl rfl rfl rfl rfl (gl_off rfl rfl rfl rfl rfl rfl (gl_off rfl rfl rfl rfl rfl rfl (gl_off rfl rfl rfl rfl rfl rfl (gl_off rfl rfl rfl rfl rfl rfl (gv (ov_pick_f rfl rfl) rfl (gl_nil ?_))))))))
   refine gq_cut h0 (MLe.refl _) ⟨?_, rfl, rfl, trivial⟩ rfl rfl
   exact congrArg some (vB_and_f hg)
 ·
  intro mg1_5 hmmg1_5
  show GL _ _ _ _ _ _ _ [(17, vB (((qa.num < 0) ↔ (qb.num < 0)) ∧ ((cmpN (qa.num.natAbs) (qb.num.natAbs)) = (0 : Int)))), (2, vP b2 0), (3, vP b3 0)] [.var b3 27 [vB (qb.num < 0), vnb, vdb], .var b2 27 [vB (qa.num < 0), vna, vda]] mg1_5
  refine gl_cut (ι := Mem) 8 (fun m_ => MLe mg1_5 m_) (fun _ => [(25, vB ((((qa.num < 0) ↔ (qb.num < 0)) ∧ ((cmpN (qa.num.natAbs) (qb.num.natAbs)) = (0 : Int))) ∧ ((cmpN ((denN qa.den)) ((denN qb.den))) = (0 : Int))))]) (fun _ => [.var b3 27 [vB (qb.num < 0), vnb, vdb], .var b2 27 [vB (qa.num < 0), vna, vda]]) (fun m_ => m_) ?_ ?_
  ·
   refine gl_cases (((qa.num < 0) ↔ (qb.num < 0)) ∧ ((cmpN (qa.num.natAbs) (qb.num.natAbs)) = (0 : Int))) (fun hg => ?_) (fun hg => ?_)
   ·
    refine gl_val (ov_move (v := .bool true) (congrArg some (vB_true hg))) rfl rfl rfl (gl_on rfl rfl rfl (gv (ov_field_addr Try.underlying27 rfl Try.sizeOf22 rfl) rfl (gl_on rfl rfl rfl (gv (ov_load_var (.tail _ (.head _)) Try.isAgg22 rfl rfl) rfl (gl_on rfl rfl rfl (gv (ov_field_addr Try.underlying27 rfl Try.sizeOf22 rfl) rfl (gl_on rfl rfl rfl (gv (ov_load_var (.head _) Try.isAgg22 rfl rfl) rfl (gl_on rfl rfl rfl ?_)))))))))
    replace hda := hda.mono hmmg1_5
    replace hdb := hdb.mono hmmg1_5
    refine gl_call (vs := [_, _]) rfl rfl rfl rfl Try.call77 ⟨rfl, rfl, trivial⟩ (fun w hs => ref_cmp hs hda hdb) ?_
    intro v23 h1 hh1 hr23
    subst hr23
    refine gl_on rfl rfl rfl (gv (ov_eql_i (q := 0) rfl rfl) rfl (gv (ov_pick_t rfl rfl) rfl (gl_nil ?_)))
    refine gq_cut h1 hh1 ⟨?_, trivial⟩ rfl rfl
    exact congrArg some (vB_and_t hg)
   ·
    refine gl_val (ov_move (v := .bool false) (congrArg some (vB_false hg))) rfl rfl rfl (gl_off rfl rfl rfl rfl rfl rfl (gl_off rfl rfl rfl rfl rfl rfl (gl_off rfl rfl rfl rfl rfl rfl (gl_off rfl rfl rfl rfl rfl rfl (gl_off rfl rfl rfl rfl rfl rfl (gl_off rfl rfl rfl rfl rfl rfl (gv (ov_pick_f rfl rfl) rfl (gl_nil ?_))))))))
    refine gq_cut mg1_5 (MLe.refl _) ⟨?_, trivial⟩ rfl rfl
    exact congrArg some (vB_and_f hg)
  ·
   intro mg1_13 hmmg1_13
   show GL _ _ _ _ _ _ _ [(25, vB ((((qa.num < 0) ↔ (qb.num < 0)) ∧ ((cmpN (qa.num.natAbs) (qb.num.natAbs)) = (0 : Int))) ∧ ((cmpN ((denN qa.den)) ((denN qb.den))) = (0 : Int))))] [.var b3 27 [vB (qb.num < 0), vnb, vdb], .var b2 27 [vB (qa.num < 0), vna, vda]] mg1_13
   refine asg rfl rfl (gl_nil (gq_then (gc_ret (gq_body1 rfl rfl ?_))))
   exact vB_iff cmp_same

theorem rref_sign {w0 : World} {h0 : Mem}  (hs : MLe h0 (mem w0)) {qa : Rat} {vna vda : Value} (hna : Us .u32 h0 vna (limbs qa.num.natAbs)) (hda : Us .u32 h0 vda (limbs (denN qa.den))) (hqa : lq qa ≤ 100000000000)  :
    Calls Try.prog 49 #[.agg #[vB (qa.num < 0), vna, vda]] w0 (Ret w0 h0 (fun _ r => r = vI (sgnQ qa))) := by
 have hlna := lq_num qa
 have hlda := lq_den qa
 have hlDa := lq_denL qa
 refine calls_begin (n := 9) (e := [(0, .agg #[vB (qa.num < 0), vna, vda])]) (vs := [.agg #[vB (qa.num < 0), vna, vda]]) Try.func49 rfl rfl (Nat.le_of_ble_eq_true rfl) hs ⟨rfl, trivial⟩ (gc_seq (gc_region (gl_newop (new_box (cs := [_, _, _]) rfl rfl) rfl rfl rfl ?_)))
 intro v1 r1 hr1
 obtain ⟨b1, rfl, rfl⟩ := hr1
 refine asg (v := vI (0)) rfl rfl (gl_nil (gq_then (gc_seq (gc_seq (gc_region (gv (ov_field_addr Try.underlying27 rfl Try.sizeOf22 rfl) rfl (gv (ov_load_var (.head _) Try.isAgg22 rfl rfl) rfl (gv (ov_len_us Try.underlying22 rfl hna) rfl (gv (ov_eql_i (q := 0) rfl rfl) rfl (gl_nil (gq_then ?_)))))))))))
 refine gc_cond rfl (fun hc6 => ?_) (fun hc6 => ?_)
 ·
  refine gc_seq (gc_region (asg (v := vI (0)) rfl rfl (gl_nil (gq_then (gc_ret (gr_then (gq_body1 rfl rfl ?_)))))))
  rw [sgnQ_zero (num_zero hc6)]
 ·
  refine gc_skip (gq_then (gc_seq (gc_seq (gc_region (gv (ov_field_addr Try.underlying27 rfl Try.sizeOf4 rfl) rfl (gv (ov_load_var (.head _) Try.isAgg4 rfl rfl) rfl (gl_nil (gq_then ?_))))))))
  refine gc_cond rfl (fun hc8 => ?_) (fun hc8 => ?_)
  ·
   refine gc_seq (gc_region (asg (v := vI (-1)) rfl rfl (gl_nil (gq_then (gc_ret (gr_then (gq_body1 rfl rfl ?_)))))))
   rw [sgnQ_neg hc8]
  ·
   refine gc_skip (gq_then (gc_seq (gc_region (asg (v := vI (1)) rfl rfl (gl_nil (gq_then (gc_ret (gq_body1 rfl rfl ?_))))))))
   rw [sgnQ_pos (num_pos_of hc6) hc8]

theorem rref_neg {w0 : World} {h0 : Mem}  (hs : MLe h0 (mem w0)) {qa : Rat} {vna vda : Value} (hna : Us .u32 h0 vna (limbs qa.num.natAbs)) (hda : Us .u32 h0 vda (limbs (denN qa.den))) (hqa : lq qa ≤ 100000000000)  :
    Calls Try.prog 51 #[.agg #[vB (qa.num < 0), vna, vda]] w0 (Ret w0 h0 (fun h r => IsRat h r (-qa))) := by
 have hlna := lq_num qa
 have hlda := lq_den qa
 have hlDa := lq_denL qa
 refine calls_begin (n := 14) (e := [(0, .agg #[vB (qa.num < 0), vna, vda])]) (vs := [.agg #[vB (qa.num < 0), vna, vda]]) Try.func51 rfl rfl (Nat.le_of_ble_eq_true rfl) hs ⟨rfl, trivial⟩ (gc_seq (gc_region (gl_newop (new_box (cs := [_, _, _]) rfl rfl) rfl rfl rfl ?_)))
 intro v1 r1 hr1
 obtain ⟨b1, rfl, rfl⟩ := hr1
 refine gl_newop (new_alloc (cs := [vB ((0 : Rat).num < 0), .slice none 0 0, .slice none 0 0]) info27 rfl (by simp only [zb]; rfl)) rfl rfl rfl ?_
 intro v2 r2 hr2
 obtain ⟨b2, rfl, rfl⟩ := hr2
 refine gl_nil (gq_then (gc_seq (gc_region (gv (ov_field_addr Try.underlying27 rfl Try.sizeOf4 rfl) rfl (gv (ov_load_var (.tail _ (.head _)) Try.isAgg4 rfl rfl) rfl (gv (ov_not rfl) rfl ?_))))))
 refine gl_cut (ι := Unit) 6 (fun _ => True) (fun _ => [(11, vB ((¬ (qa.num < 0)) ∧ ((0 : Int) < (↑(limbs qa.num.natAbs).length : Int)))), (1, vP b1 0), (2, vP b2 0)]) (fun _ => [.var b2 27 [vB ((0 : Rat).num < 0), .slice none 0 0, .slice none 0 0], .var b1 27 [vB (qa.num < 0), vna, vda]]) (fun _ => h0) ?_ ?_
 ·
  refine gl_cases (¬ (qa.num < 0)) (fun hg => ?_) (fun hg => ?_)
  ·
   refine gl_val (ov_move (v := .bool true) (congrArg some (vB_true hg))) rfl rfl rfl (gl_on rfl rfl rfl (gv (ov_field_addr Try.underlying27 rfl Try.sizeOf22 rfl) rfl (gl_on rfl rfl rfl (gv (ov_load_var (.tail _ (.head _)) Try.isAgg22 rfl rfl) rfl (gl_on rfl rfl rfl (gv (ov_len_us Try.underlying22 rfl hna) rfl (gl_on rfl rfl rfl (gv (ov_gtr_i (q := 0) rfl rfl) rfl (gv (ov_pick_t rfl rfl) rfl (gl_nil ?_))))))))))
   refine gq_cut () trivial ⟨?_, rfl, rfl, trivial⟩ rfl rfl
   exact congrArg some (vB_and_t hg)
  ·
   refine gl_val (ov_move (v := .bool false) (congrArg some (vB_false hg))) rfl rfl rfl (gl_off rfl rfl rfl rfl rfl rfl (gl_off rfl rfl rfl rfl rfl rfl (gl_off rfl rfl rfl rfl rfl rfl (gl_off rfl rfl rfl rfl rfl rfl (gv (ov_pick_f rfl rfl) rfl (gl_nil ?_))))))
   refine gq_cut () trivial ⟨?_, rfl, rfl, trivial⟩ rfl rfl
   exact congrArg some (vB_and_f hg)
 ·
  intro _ _
  show GL _ _ _ _ _ _ _ [(11, vB ((¬ (qa.num < 0)) ∧ ((0 : Int) < (↑(limbs qa.num.natAbs).length : Int)))), (1, vP b1 0), (2, vP b2 0)] [.var b2 27 [vB ((0 : Rat).num < 0), .slice none 0 0, .slice none 0 0], .var b1 27 [vB (qa.num < 0), vna, vda]] h0
  refine gv (ov_field_addr Try.underlying27 rfl Try.sizeOf4 rfl) rfl (gl_upd (A := [_]) (r' := .var b1 27 [vB ((¬ (qa.num < 0)) ∧ ((0 : Int) < (↑(limbs qa.num.natAbs).length : Int))), vna, vda]) (upd_store_var (k := 0) (cs := [_, _, _]) (vs := [_]) rfl rfl rfl rfl size4 (Nat.le_of_ble_eq_true rfl)) rfl rfl rfl (gl_nil (gq_then (gc_seq (gc_region (gv (ov_load_agg (vs := [_, _, _]) (.tail _ (.head _)) Try.underlying27 rfl size27 rfl rfl) rfl (gl_upd (A := []) (r' := .var b2 27 [vB ((¬ (qa.num < 0)) ∧ ((0 : Int) < (↑(limbs qa.num.natAbs).length : Int))), vna, vda]) (upd_store_var (k := 0) (cs := [_, _, _]) (vs := [_, _, _]) rfl rfl rfl (ocr rfl (ocu hna (ocu hda oc0))) size27 (Nat.le_of_ble_eq_true rfl)) rfl rfl rfl (gl_nil (gq_then (gc_ret (gq_res (fun E S => run_res1 rfl (rv_agg (cs := [_, _, _]) (.head _) Try.underlying27 rfl size27 rfl) E S) ?_)))))))))))
  exact IsRat.negB hna hda

theorem rref_abs {w0 : World} {h0 : Mem}  (hs : MLe h0 (mem w0)) {qa : Rat} {vna vda : Value} (hna : Us .u32 h0 vna (limbs qa.num.natAbs)) (hda : Us .u32 h0 vda (limbs (denN qa.den))) (hqa : lq qa ≤ 100000000000)  :
    Calls Try.prog 53 #[.agg #[vB (qa.num < 0), vna, vda]] w0 (Ret w0 h0 (fun h r => IsRat h r (absQ qa))) := by
 have hlna := lq_num qa
 have hlda := lq_den qa
 have hlDa := lq_denL qa
 refine calls_begin (n := 5) (e := [(0, .agg #[vB (qa.num < 0), vna, vda])]) (vs := [.agg #[vB (qa.num < 0), vna, vda]]) Try.func53 rfl rfl (Nat.le_of_ble_eq_true rfl) hs ⟨rfl, trivial⟩ (gc_seq (gc_region (gl_newop (new_box (cs := [_, _, _]) rfl rfl) rfl rfl rfl ?_)))
 intro v1 r1 hr1
 obtain ⟨b1, rfl, rfl⟩ := hr1
 refine gl_newop (new_alloc (cs := [vB ((0 : Rat).num < 0), .slice none 0 0, .slice none 0 0]) info27 rfl (by simp only [zb]; rfl)) rfl rfl rfl ?_
 intro v2 r2 hr2
 obtain ⟨b2, rfl, rfl⟩ := hr2
 refine gl_nil (gq_then (gc_seq (gc_region (gv (ov_field_addr Try.underlying27 rfl Try.sizeOf4 rfl) rfl (gl_upd (A := [_]) (r' := .var b1 27 [.bool false, vna, vda]) (upd_store_var (k := 0) (cs := [_, _, _]) (vs := [_]) rfl rfl rfl rfl size4 (Nat.le_of_ble_eq_true rfl)) rfl rfl rfl (gl_nil (gq_then (gc_seq (gc_region (gv (ov_load_agg (vs := [_, _, _]) (.tail _ (.head _)) Try.underlying27 rfl size27 rfl rfl) rfl (gl_upd (A := []) (r' := .var b2 27 [.bool false, vna, vda]) (upd_store_var (k := 0) (cs := [_, _, _]) (vs := [_, _, _]) rfl rfl rfl (ocr rfl (ocu hna (ocu hda oc0))) size27 (Nat.le_of_ble_eq_true rfl)) rfl rfl rfl (gl_nil (gq_then ?_)))))))))))))
 refine gc_ret (gq_res (fun E S => run_res1 rfl (rv_agg (cs := [_, _, _]) (.head _) Try.underlying27 rfl size27 rfl) E S) ?_)
 exact IsRat.abs hna hda

theorem rref_add {w0 : World} {h0 : Mem}  (hs : MLe h0 (mem w0)) {qa : Rat} {vna vda : Value} (hna : Us .u32 h0 vna (limbs qa.num.natAbs)) (hda : Us .u32 h0 vda (limbs (denN qa.den))) {qb : Rat} {vnb vdb : Value} (hnb : Us .u32 h0 vnb (limbs qb.num.natAbs)) (hdb : Us .u32 h0 vdb (limbs (denN qb.den))) (hqa : lq qa ≤ 100000000000) (hqb : lq qb ≤ 100000000000)  :
    Calls Try.prog 41 #[.agg #[vB (qa.num < 0), vna, vda], .agg #[vB (qb.num < 0), vnb, vdb]] w0 (Ret w0 h0 (fun h r => IsRat h r (qa + qb))) := by
 have hlna := lq_num qa
 have hlda := lq_den qa
 have hlDa := lq_denL qa
 have hlnb := lq_num qb
 have hldb := lq_den qb
 have hlDb := lq_denL qb
 refine calls_begin (n := 75) (e := [(0, .agg #[vB (qa.num < 0), vna, vda]), (1, .agg #[vB (qb.num < 0), vnb, vdb])]) (vs := [.agg #[vB (qa.num < 0), vna, vda], .agg #[vB (qb.num < 0), vnb, vdb]]) Try.func41 rfl rfl (Nat.le_of_ble_eq_true rfl) hs ⟨rfl, rfl, trivial⟩ (gc_seq (gc_region (gl_newop (new_box (cs := [_, _, _]) rfl rfl) rfl rfl rfl ?_)))
 intro v2 r2 hr2
 obtain ⟨b2, rfl, rfl⟩ := hr2
 refine gl_newop (new_box (cs := [_, _, _]) rfl rfl) rfl rfl rfl ?_
 intro v3 r3 hr3
 obtain ⟨b3, rfl, rfl⟩ := hr3
 refine gl_newop (new_alloc (cs := [vB ((0 : Rat).num < 0), .slice none 0 0, .slice none 0 0]) info27 rfl (by simp only [zb]; rfl)) rfl rfl rfl ?_
 intro v4 r4 hr4
 obtain ⟨b4, rfl, rfl⟩ := hr4
 refine gl_nil (gq_then (gc_seq (gc_seq (gc_region (gv (ov_field_addr Try.underlying27 rfl Try.sizeOf22 rfl) rfl (gv (ov_load_var (.tail _ (.tail _ (.head _))) Try.isAgg22 rfl rfl) rfl (gv (ov_len_us Try.underlying22 rfl hna) rfl (gv (ov_eql_i (q := 0) rfl rfl) rfl (gl_nil (gq_then ?_))))))))))
 refine gc_cond rfl (fun hc15 => ?_) (fun hc15 => ?_)
 ·
  refine gc_seq (gc_region (gv (ov_load_agg (vs := [_, _, _]) (.tail _ (.head _)) Try.underlying27 rfl size27 rfl rfl) rfl (gl_upd (A := []) (r' := .var b4 27 [vB (qb.num < 0), vnb, vdb]) (upd_store_var (k := 0) (cs := [_, _, _]) (vs := [_, _, _]) rfl rfl rfl (ocr rfl (ocu hnb (ocu hdb oc0))) size27 (Nat.le_of_ble_eq_true rfl)) rfl rfl rfl (gl_nil (gq_then (gc_ret (gr_then (gq_res (fun E S => run_res1 rfl (rv_agg (cs := [_, _, _]) (.head _) Try.underlying27 rfl size27 rfl) E S) ?_))))))))
  rw [num_zero hc15, Rat.zero_add]
  exact ⟨_, _, rfl, hnb, hdb⟩
 ·
  refine gc_skip (gq_then (gc_seq (gc_seq (gc_region (gv (ov_field_addr Try.underlying27 rfl Try.sizeOf22 rfl) rfl (gv (ov_load_var (.tail _ (.head _)) Try.isAgg22 rfl rfl) rfl (gv (ov_len_us Try.underlying22 rfl hnb) rfl (gv (ov_eql_i (q := 0) rfl rfl) rfl (gl_nil (gq_then ?_))))))))))
  refine gc_cond rfl (fun hc20 => ?_) (fun hc20 => ?_)
  ·
   refine gc_keep (e' := [(2, _), (4, _)]) ⟨rfl, rfl, trivial⟩ (gc_seq (gc_region (gv (ov_load_agg (vs := [_, _, _]) (.tail _ (.tail _ (.head _))) Try.underlying27 rfl size27 rfl rfl) rfl (gl_upd (A := []) (r' := .var b4 27 [vB (qa.num < 0), vna, vda]) (upd_store_var (k := 0) (cs := [_, _, _]) (vs := [_, _, _]) rfl rfl rfl (ocr rfl (ocu hna (ocu hda oc0))) size27 (Nat.le_of_ble_eq_true rfl)) rfl rfl rfl (gl_nil (gq_then (gc_ret (gr_then (gq_res (fun E S => run_res1 rfl (rv_agg (cs := [_, _, _]) (.head _) Try.underlying27 rfl size27 rfl) E S) ?_)))))))))
   rw [num_zero hc20, Rat.add_zero]
   exact ⟨_, _, rfl, hna, hda⟩
  ·
   refine gc_keep (e' := [(2, _), (3, _), (4, _)]) ⟨rfl, rfl, rfl, trivial⟩ (gc_skip (gq_then (gc_seq ?_)))
   refine gc_draw 12 _ [] [(0, .q), (1, .q), (2, .q), (5, .q), (6, .q), (7, .q), (3, .c), (4, .c), (8, .c), (9, .c), (10, .q), (11, .q)] mixed (fun x hx => by cases hx) (by kernel_rfl) (fun x hx => by cases hx) (fun r hr => hr) (w_q rfl (fun h' L' hh hR => ov_field_addr Try.underlying27 rfl Try.sizeOf22 rfl) rfl (w_q rfl (fun h' L' hh hR => ov_load_var (hR _ (.tail _ (.tail _ (.head _)))) Try.isAgg22 rfl rfl) rfl (w_q rfl (fun h' L' hh hR => ov_load_agg (vs := [_, _, _]) (hR _ (.tail _ (.head _))) Try.underlying27 rfl size27 rfl rfl) rfl (w_q rfl (fun h' L' hh hR => ov_field_addr Try.underlying27 rfl Try.sizeOf22 rfl) rfl (w_q rfl (fun h' L' hh hR => ov_load_var (hR _ (.tail _ (.head _))) Try.isAgg22 rfl rfl) rfl (w_q rfl (fun h' L' hh hR => ov_load_agg (vs := [_, _, _]) (hR _ (.tail _ (.tail _ (.head _)))) Try.underlying27 rfl size27 rfl rfl) rfl ?_))))))
   refine w_c rfl ?_
   refine s_call (vs := [_]) Try.call82 ⟨rfl, trivial⟩ (fun w hs => rref_den hs rfl hnb hdb) rfl ?_
   intro v25 h1 hh1 hr25
   rw [denL_den] at hr25
   refine w_c rfl ?_
   replace hna := hna.mono hh1
   refine s_call (vs := [_, _]) Try.call73 ⟨rfl, rfl, trivial⟩ (fun w hs => ref_mul hs hna hr25 (by omega) (by omega)) rfl ?_
   intro v26 h2 hh2 hr26
   try simp only [val_limbs] at hr26
   have hlm26 := limbs_len_mul ((qa.num.natAbs)) ((qb.den))
   refine w_c rfl ?_
   replace hna := hna.mono hh2
   replace hda := hda.mono (hh1.trans hh2)
   refine s_call (vs := [_]) Try.call82 ⟨rfl, trivial⟩ (fun w hs => rref_den hs rfl hna hda) rfl ?_
   intro v30 h3 hh3 hr30
   rw [denL_den] at hr30
   refine w_c rfl ?_
   replace hnb := hnb.mono ((hh1.trans hh2).trans hh3)
   refine s_call (vs := [_, _]) Try.call73 ⟨rfl, rfl, trivial⟩ (fun w hs => ref_mul hs hnb hr30 (by omega) (by omega)) rfl ?_
   intro v31 h4 hh4 hr31
   try simp only [val_limbs] at hr31
   have hlm31 := limbs_len_mul ((qb.num.natAbs)) ((qa.den))
   refine w_q rfl (fun h' L' hh hR => ov_assign rfl) rfl (w_q rfl (fun h' L' hh hR => ov_assign rfl) rfl (w_nil (gq_keep (e' := [(2, _), (3, _), (4, _), (5, _), (6, _)]) ⟨rfl, rfl, rfl, rfl, rfl, trivial⟩ (gq_then (gc_seq ?_)))))
   refine gc_draw 6 _ [] [(0, .q), (2, .q), (1, .c), (3, .c), (4, .c), (5, .q)] mixed (fun x hx => by cases hx) (by kernel_rfl) (fun x hx => by cases hx) (fun r hr => hr) (w_q rfl (fun h' L' hh hR => ov_load_agg (vs := [_, _, _]) (hR _ (.tail _ (.tail _ (.head _)))) Try.underlying27 rfl size27 rfl rfl) rfl (w_q rfl (fun h' L' hh hR => ov_load_agg (vs := [_, _, _]) (hR _ (.tail _ (.head _))) Try.underlying27 rfl size27 rfl rfl) rfl ?_))
   refine w_c rfl ?_
   replace hna := hna.mono (hh3.trans hh4)
   replace hda := hda.mono (hh3.trans hh4)
   refine s_call (vs := [_]) Try.call82 ⟨rfl, trivial⟩ (fun w hs => rref_den hs rfl hna hda) rfl ?_
   intro v33 h5 hh5 hr33
   rw [denL_den] at hr33
   refine w_c rfl ?_
   replace hnb := hnb.mono (hh4.trans hh5)
   replace hdb := hdb.mono ((((hh1.trans hh2).trans hh3).trans hh4).trans hh5)
   refine s_call (vs := [_]) Try.call82 ⟨rfl, trivial⟩ (fun w hs => rref_den hs rfl hnb hdb) rfl ?_
   intro v35 h6 hh6 hr35
   rw [denL_den] at hr35
   refine w_c rfl ?_
   replace hr33 := hr33.mono hh6
   refine s_call (vs := [_, _]) Try.call73 ⟨rfl, rfl, trivial⟩ (fun w hs => ref_mul hs hr33 hr35 (by omega) (by omega)) rfl ?_
   intro v36 h7 hh7 hr36
   try simp only [val_limbs] at hr36
   have hlm36 := limbs_len_mul ((qa.den)) ((qb.den))
   refine w_q rfl (fun h' L' hh hR => ov_assign rfl) rfl (w_nil (gq_then (gc_seq (gc_seq (gc_region (gv (ov_field_addr Try.underlying27 rfl Try.sizeOf4 rfl) rfl (gv (ov_load_var (.tail _ (.tail _ (.head _))) Try.isAgg4 rfl rfl) rfl (gv (ov_field_addr Try.underlying27 rfl Try.sizeOf4 rfl) rfl (gv (ov_load_var (.tail _ (.head _)) Try.isAgg4 rfl rfl) rfl (gv (ov_eql_b Try.underlying4 rfl rfl) rfl (gl_nil (gq_then ?_))))))))))))
   refine gc_cond rfl (fun hc41 => ?_) (fun hc41 => ?_)
   ·
    refine gc_keep (e' := [(2, _), (4, _), (5, _), (6, _), (7, _)]) ⟨rfl, rfl, rfl, rfl, rfl, trivial⟩ (gc_seq ?_)
    refine gc_draw 7 _ [] [(0, .q), (1, .q), (2, .q), (3, .q), (5, .q), (4, .c), (6, .c), (7, .t)] mixed (fun x hx => by cases hx) (by kernel_rfl) (fun x hx => by cases hx) (fun r hr => hr) (w_q rfl (fun h' L' hh hR => ov_field_addr Try.underlying27 rfl Try.sizeOf4 rfl) rfl (w_q rfl (fun h' L' hh hR => ov_load_var (hR _ (.tail _ (.tail _ (.head _)))) Try.isAgg4 rfl rfl) rfl (w_q rfl (fun h' L' hh hR => ov_move rfl) rfl (w_q rfl (fun h' L' hh hR => ov_move rfl) rfl (w_q rfl (fun h' L' hh hR => ov_move rfl) rfl ?_)))))
    refine w_c rfl ?_
    replace hr26 := hr26.mono ((((hh3.trans hh4).trans hh5).trans hh6).trans hh7)
    replace hr31 := hr31.mono ((hh5.trans hh6).trans hh7)
    refine s_call (vs := [_, _]) Try.call72 ⟨rfl, rfl, trivial⟩ (fun w hs => ref_add hs hr26 hr31 (by omega) (by omega)) rfl ?_
    intro v46 h8 hh8 hr46
    have hlm46 := limbs_len_add ((((qa.num.natAbs)) * ((qb.den)))) ((((qb.num.natAbs)) * ((qa.den))))
    refine w_c rfl ?_
    replace hr36 := hr36.mono hh8
    refine s_call (vs := [_, _, _]) Try.call74 ⟨rfl, rfl, rfl, trivial⟩ (fun w hs => rref_reduce hs hr46 hr36 (by omega) (by omega) (by first | (simp only [val_limbs]; omega) | (simp only [val_limbs]; first | exact Rat.den_nz _ | exact Nat.mul_ne_zero (Rat.den_nz _) (Rat.den_nz _) | exact Nat.one_ne_zero | assumption) | assumption)) rfl ?_
    intro v48 h9 hh9 hr48
    try simp only [val_limbs] at hr48
    obtain ⟨vn48, vd48, rfl, hn48, hd48⟩ := hr48
    refine w_t_upd (A := []) (q' := .var b4 27 [vB ((mkRat (sg (qa.num < 0) (((((((qa.num.natAbs)) * ((qb.den)))) + ((((qb.num.natAbs)) * ((qa.den)))))))) (((((qa.den)) * ((qb.den)))))).num < 0), vn48, vd48]) rfl (upd_store_var (k := 0) (cs := [_, _, _]) (vs := [_, _, _]) rfl rfl rfl (ocr rfl (ocu hn48 (ocu hd48 oc0))) size27 (Nat.le_of_ble_eq_true rfl)) rfl (w_nil (gq_keep (e' := [(4, _)]) ⟨rfl, trivial⟩ (gq_then (gc_ret (gr_then (gq_res (fun E S => run_res1 rfl (rv_agg (cs := [_, _, _]) (.head _) Try.underlying27 rfl size27 rfl) E S) ?_))))))
    rw [add_same hc41] at hn48 hd48 ⊢
    exact ⟨_, _, rfl, hn48, hd48⟩
   ·
    refine gc_keep (e' := [(2, _), (3, _), (4, _), (5, _), (6, _), (7, _)]) ⟨rfl, rfl, rfl, rfl, rfl, rfl, trivial⟩ (gc_skip (gq_then (gc_seq (gc_seq (gc_region (mv rfl rfl (mv rfl rfl ?_)))))))
    replace hr26 := hr26.mono ((((hh3.trans hh4).trans hh5).trans hh6).trans hh7)
    replace hr31 := hr31.mono ((hh5.trans hh6).trans hh7)
    refine gl_call (vs := [_, _]) rfl rfl rfl rfl Try.call77 ⟨rfl, rfl, trivial⟩ (fun w hs => ref_cmp hs hr26 hr31) ?_
    intro v51 h8 hh8 hr51
    subst hr51
    refine gv (ov_lss_i (q := 0) rfl rfl) rfl (gl_nil (gq_then ?_))
    refine gc_cond rfl (fun hc52 => ?_) (fun hc52 => ?_)
    ·
     refine gc_seq (gc_region (mv rfl rfl (mv rfl rfl ?_)))
     replace hr26 := hr26.mono hh8
     replace hr31 := hr31.mono hh8
     refine gl_call (vs := [_, _]) rfl rfl rfl rfl Try.call97 ⟨rfl, rfl, trivial⟩ (fun w hs => ref_sub hs hr31 hr26 (by omega)) ?_
     intro v56 h9 hh9 hr56
     obtain ⟨u56, rfl, hu56⟩ := hr56
     have hlm56 := limbs_len_mono (Nat.sub_le ((((qb.num.natAbs)) * ((qa.den)))) ((((qa.num.natAbs)) * ((qb.den)))))
     refine mv rfl rfl (gv (ov_extract (vs := [_, _]) rfl rfl) rfl (gv (ov_extract (vs := [_, _]) rfl rfl) rfl (asg rfl rfl (asg rfl rfl (gl_nil (gq_keep (e' := [(3, _), (4, _), (7, _), (8, _)]) ⟨rfl, rfl, rfl, rfl, trivial⟩ (gq_then (gc_seq (gc_region (gv (ov_field_addr Try.underlying27 rfl Try.sizeOf4 rfl) rfl (gv (ov_load_var (.tail _ (.head _)) Try.isAgg4 rfl rfl) rfl (mv rfl rfl (mv rfl rfl ?_)))))))))))))
     replace hr36 := hr36.mono (hh8.trans hh9)
     refine gl_call (vs := [_, _, _]) rfl rfl rfl rfl Try.call74 ⟨rfl, rfl, rfl, trivial⟩ (fun w hs => rref_reduce hs hu56 hr36 (by omega) (by omega) (by first | (simp only [val_limbs]; omega) | (simp only [val_limbs]; first | exact Rat.den_nz _ | exact Nat.mul_ne_zero (Rat.den_nz _) (Rat.den_nz _) | exact Nat.one_ne_zero | assumption) | assumption)) ?_
     intro v63 h10 hh10 hr63
     try simp only [val_limbs] at hr63
     obtain ⟨vn63, vd63, rfl, hn63, hd63⟩ := hr63
     refine gl_upd (A := []) (r' := .var b4 27 [vB ((mkRat (sg (qb.num < 0) (((((((qb.num.natAbs)) * ((qa.den)))) - ((((qa.num.natAbs)) * ((qb.den)))))))) (((((qa.den)) * ((qb.den)))))).num < 0), vn63, vd63]) (upd_store_var (k := 0) (cs := [_, _, _]) (vs := [_, _, _]) rfl rfl rfl (ocr rfl (ocu hn63 (ocu hd63 oc0))) size27 (Nat.le_of_ble_eq_true rfl)) rfl rfl rfl (gl_nil (gq_then (gc_ret (gr_then (gq_res (fun E S => run_res1 rfl (rv_agg (cs := [_, _, _]) (.head _) Try.underlying27 rfl size27 rfl) E S) ?_)))))
     rw [add_lt hc41 (by have := cmpN_neg.1 hc52; omega)] at hn63 hd63 ⊢
     exact ⟨_, _, rfl, hn63, hd63⟩
    ·
     refine gc_skip (gq_then (gc_seq (gc_region (mv rfl rfl (mv rfl rfl ?_)))))
     replace hr26 := hr26.mono hh8
     replace hr31 := hr31.mono hh8
     refine gl_call (vs := [_, _]) rfl rfl rfl rfl Try.call97 ⟨rfl, rfl, trivial⟩ (fun w hs => ref_sub hs hr26 hr31 (by omega)) ?_
     intro v67 h9 hh9 hr67
     obtain ⟨u67, rfl, hu67⟩ := hr67
     have hlm67 := limbs_len_mono (Nat.sub_le ((((qa.num.natAbs)) * ((qb.den)))) ((((qb.num.natAbs)) * ((qa.den)))))
     refine mv rfl rfl (gv (ov_extract (vs := [_, _]) rfl rfl) rfl (gv (ov_extract (vs := [_, _]) rfl rfl) rfl (asg rfl rfl (asg rfl rfl (gl_nil (gq_keep (e' := [(2, _), (4, _), (7, _), (10, _)]) ⟨rfl, rfl, rfl, rfl, trivial⟩ (gq_then (gc_seq (gc_region (gv (ov_field_addr Try.underlying27 rfl Try.sizeOf4 rfl) rfl (gv (ov_load_var (.tail _ (.tail _ (.head _))) Try.isAgg4 rfl rfl) rfl (mv rfl rfl (mv rfl rfl ?_)))))))))))))
     replace hr36 := hr36.mono (hh8.trans hh9)
     refine gl_call (vs := [_, _, _]) rfl rfl rfl rfl Try.call74 ⟨rfl, rfl, rfl, trivial⟩ (fun w hs => rref_reduce hs hu67 hr36 (by omega) (by omega) (by first | (simp only [val_limbs]; omega) | (simp only [val_limbs]; first | exact Rat.den_nz _ | exact Nat.mul_ne_zero (Rat.den_nz _) (Rat.den_nz _) | exact Nat.one_ne_zero | assumption) | assumption)) ?_
     intro v74 h10 hh10 hr74
     try simp only [val_limbs] at hr74
     obtain ⟨vn74, vd74, rfl, hn74, hd74⟩ := hr74
     refine gl_upd (A := []) (r' := .var b4 27 [vB ((mkRat (sg (qa.num < 0) (((((((qa.num.natAbs)) * ((qb.den)))) - ((((qb.num.natAbs)) * ((qa.den)))))))) (((((qa.den)) * ((qb.den)))))).num < 0), vn74, vd74]) (upd_store_var (k := 0) (cs := [_, _, _]) (vs := [_, _, _]) rfl rfl rfl (ocr rfl (ocu hn74 (ocu hd74 oc0))) size27 (Nat.le_of_ble_eq_true rfl)) rfl rfl rfl (gl_nil (gq_then (gc_ret (gq_res (fun E S => run_res1 rfl (rv_agg (cs := [_, _, _]) (.head _) Try.underlying27 rfl size27 rfl) E S) ?_))))
     rw [add_ge hc41 (Nat.le_of_not_lt (fun h => hc52 (cmpN_neg.2 h)))] at hn74 hd74 ⊢
     exact ⟨_, _, rfl, hn74, hd74⟩

theorem rref_sub {w0 : World} {h0 : Mem}  (hs : MLe h0 (mem w0)) {qa : Rat} {vna vda : Value} (hna : Us .u32 h0 vna (limbs qa.num.natAbs)) (hda : Us .u32 h0 vda (limbs (denN qa.den))) {qb : Rat} {vnb vdb : Value} (hnb : Us .u32 h0 vnb (limbs qb.num.natAbs)) (hdb : Us .u32 h0 vdb (limbs (denN qb.den))) (hqa : lq qa ≤ 100000000000) (hqb : lq qb ≤ 100000000000)  :
    Calls Try.prog 43 #[.agg #[vB (qa.num < 0), vna, vda], .agg #[vB (qb.num < 0), vnb, vdb]] w0 (Ret w0 h0 (fun h r => IsRat h r (qa - qb))) := by
 have hlna := lq_num qa
 have hlda := lq_den qa
 have hlDa := lq_denL qa
 have hlnb := lq_num qb
 have hldb := lq_den qb
 have hlDb := lq_denL qb
 refine calls_begin (n := 9) (e := [(0, .agg #[vB (qa.num < 0), vna, vda]), (1, .agg #[vB (qb.num < 0), vnb, vdb])]) (vs := [.agg #[vB (qa.num < 0), vna, vda], .agg #[vB (qb.num < 0), vnb, vdb]]) Try.func43 rfl rfl (Nat.le_of_ble_eq_true rfl) hs ⟨rfl, rfl, trivial⟩ (gc_seq (gc_region (gl_newop (new_box (cs := [_, _, _]) rfl rfl) rfl rfl rfl ?_)))
 intro v2 r2 hr2
 obtain ⟨b2, rfl, rfl⟩ := hr2
 refine gl_newop (new_box (cs := [_, _, _]) rfl rfl) rfl rfl rfl ?_
 intro v3 r3 hr3
 obtain ⟨b3, rfl, rfl⟩ := hr3
 refine gl_newop (new_alloc (cs := [vB ((0 : Rat).num < 0), .slice none 0 0, .slice none 0 0]) info27 rfl (by simp only [zb]; rfl)) rfl rfl rfl ?_
 intro v4 r4 hr4
 obtain ⟨b4, rfl, rfl⟩ := hr4
 refine gl_nil (gq_then (gc_seq ?_))
 refine gc_draw 4 _ [] [(0, .q), (1, .q), (2, .c), (3, .c), (4, .t)] mixed (fun x hx => by cases hx) (by kernel_rfl) (fun x hx => by cases hx) (fun r hr => hr) (w_q rfl (fun h' L' hh hR => ov_load_agg (vs := [_, _, _]) (hR _ (.tail _ (.tail _ (.head _)))) Try.underlying27 rfl size27 rfl rfl) rfl (w_q rfl (fun h' L' hh hR => ov_load_agg (vs := [_, _, _]) (hR _ (.tail _ (.head _))) Try.underlying27 rfl size27 rfl rfl) rfl ?_))
 refine w_c rfl ?_
 refine s_call (vs := [_]) Try.call51 ⟨rfl, trivial⟩ (fun w hs => rref_neg hs hnb hdb (by omega)) rfl ?_
 intro v7 h1 hh1 hr7
 obtain ⟨vn7, vd7, rfl, hn7, hd7⟩ := hr7
 have hlq7 := lq_neg qb
 refine w_c rfl ?_
 replace hna := hna.mono hh1
 replace hda := hda.mono hh1
 refine s_call (vs := [_, _]) Try.call41 ⟨rfl, rfl, trivial⟩ (fun w hs => rref_add hs hna hda hn7 hd7 (by omega) (by omega)) rfl ?_
 intro v8 h2 hh2 hr8
 obtain ⟨vn8, vd8, rfl, hn8, hd8⟩ := hr8
 have hlq8 := lq_add qa (-qb)
 refine w_t_upd (A := []) (q' := .var b4 27 [vB ((qa + (-qb)).num < 0), vn8, vd8]) rfl (upd_store_var (k := 0) (cs := [_, _, _]) (vs := [_, _, _]) rfl rfl rfl (ocr rfl (ocu hn8 (ocu hd8 oc0))) size27 (Nat.le_of_ble_eq_true rfl)) rfl (w_nil (gq_then (gc_ret (gq_res (fun E S => run_res1 rfl (rv_agg (cs := [_, _, _]) (.head _) Try.underlying27 rfl size27 rfl) E S) ?_))))
 rw [← Rat.sub_eq_add_neg] at hn8 hd8 ⊢
 exact ⟨_, _, rfl, hn8, hd8⟩

theorem rref_mul {w0 : World} {h0 : Mem}  (hs : MLe h0 (mem w0)) {qa : Rat} {vna vda : Value} (hna : Us .u32 h0 vna (limbs qa.num.natAbs)) (hda : Us .u32 h0 vda (limbs (denN qa.den))) {qb : Rat} {vnb vdb : Value} (hnb : Us .u32 h0 vnb (limbs qb.num.natAbs)) (hdb : Us .u32 h0 vdb (limbs (denN qb.den))) (hqa : lq qa ≤ 100000000000) (hqb : lq qb ≤ 100000000000)  :
    Calls Try.prog 45 #[.agg #[vB (qa.num < 0), vna, vda], .agg #[vB (qb.num < 0), vnb, vdb]] w0 (Ret w0 h0 (fun h r => IsRat h r (qa * qb))) := by
 have hlna := lq_num qa
 have hlda := lq_den qa
 have hlDa := lq_denL qa
 have hlnb := lq_num qb
 have hldb := lq_den qb
 have hlDb := lq_denL qb
 refine calls_begin (n := 21) (e := [(0, .agg #[vB (qa.num < 0), vna, vda]), (1, .agg #[vB (qb.num < 0), vnb, vdb])]) (vs := [.agg #[vB (qa.num < 0), vna, vda], .agg #[vB (qb.num < 0), vnb, vdb]]) Try.func45 rfl rfl (Nat.le_of_ble_eq_true rfl) hs ⟨rfl, rfl, trivial⟩ (gc_seq (gc_region (gl_newop (new_box (cs := [_, _, _]) rfl rfl) rfl rfl rfl ?_)))
 intro v2 r2 hr2
 obtain ⟨b2, rfl, rfl⟩ := hr2
 refine gl_newop (new_box (cs := [_, _, _]) rfl rfl) rfl rfl rfl ?_
 intro v3 r3 hr3
 obtain ⟨b3, rfl, rfl⟩ := hr3
 refine gl_newop (new_alloc (cs := [vB ((0 : Rat).num < 0), .slice none 0 0, .slice none 0 0]) info27 rfl (by simp only [zb]; rfl)) rfl rfl rfl ?_
 intro v4 r4 hr4
 obtain ⟨b4, rfl, rfl⟩ := hr4
 refine gl_nil (gq_then (gc_seq ?_))
 refine gc_draw 16 _ [] [(0, .q), (1, .q), (2, .q), (3, .q), (4, .q), (5, .q), (6, .q), (7, .q), (8, .q), (10, .q), (12, .q), (9, .c), (11, .c), (13, .c), (14, .c), (15, .c), (16, .t)] mixed (fun x hx => by cases hx) (by kernel_rfl) (fun x hx => by cases hx) (fun r hr => hr) (w_q rfl (fun h' L' hh hR => ov_field_addr Try.underlying27 rfl Try.sizeOf4 rfl) rfl (w_q rfl (fun h' L' hh hR => ov_load_var (hR _ (.tail _ (.tail _ (.head _)))) Try.isAgg4 rfl rfl) rfl (w_q rfl (fun h' L' hh hR => ov_field_addr Try.underlying27 rfl Try.sizeOf4 rfl) rfl (w_q rfl (fun h' L' hh hR => ov_load_var (hR _ (.tail _ (.head _))) Try.isAgg4 rfl rfl) rfl (w_q rfl (fun h' L' hh hR => ov_neq_b Try.underlying4 rfl rfl) rfl (w_q rfl (fun h' L' hh hR => ov_field_addr Try.underlying27 rfl Try.sizeOf22 rfl) rfl (w_q rfl (fun h' L' hh hR => ov_load_var (hR _ (.tail _ (.tail _ (.head _)))) Try.isAgg22 rfl rfl) rfl (w_q rfl (fun h' L' hh hR => ov_field_addr Try.underlying27 rfl Try.sizeOf22 rfl) rfl (w_q rfl (fun h' L' hh hR => ov_load_var (hR _ (.tail _ (.head _))) Try.isAgg22 rfl rfl) rfl (w_q rfl (fun h' L' hh hR => ov_load_agg (vs := [_, _, _]) (hR _ (.tail _ (.tail _ (.head _)))) Try.underlying27 rfl size27 rfl rfl) rfl (w_q rfl (fun h' L' hh hR => ov_load_agg (vs := [_, _, _]) (hR _ (.tail _ (.head _))) Try.underlying27 rfl size27 rfl rfl) rfl ?_)))))))))))
 refine w_c rfl ?_
 refine s_call (vs := [_, _]) Try.call73 ⟨rfl, rfl, trivial⟩ (fun w hs => ref_mul hs hna hnb (by omega) (by omega)) rfl ?_
 intro v14 h1 hh1 hr14
 try simp only [val_limbs] at hr14
 have hlm14 := limbs_len_mul ((qa.num.natAbs)) ((qb.num.natAbs))
 refine w_c rfl ?_
 replace hna := hna.mono hh1
 replace hda := hda.mono hh1
 refine s_call (vs := [_]) Try.call82 ⟨rfl, trivial⟩ (fun w hs => rref_den hs rfl hna hda) rfl ?_
 intro v16 h2 hh2 hr16
 rw [denL_den] at hr16
 refine w_c rfl ?_
 replace hnb := hnb.mono (hh1.trans hh2)
 replace hdb := hdb.mono (hh1.trans hh2)
 refine s_call (vs := [_]) Try.call82 ⟨rfl, trivial⟩ (fun w hs => rref_den hs rfl hnb hdb) rfl ?_
 intro v18 h3 hh3 hr18
 rw [denL_den] at hr18
 refine w_c rfl ?_
 replace hr16 := hr16.mono hh3
 refine s_call (vs := [_, _]) Try.call73 ⟨rfl, rfl, trivial⟩ (fun w hs => ref_mul hs hr16 hr18 (by omega) (by omega)) rfl ?_
 intro v19 h4 hh4 hr19
 try simp only [val_limbs] at hr19
 have hlm19 := limbs_len_mul ((qa.den)) ((qb.den))
 refine w_c rfl ?_
 replace hr14 := hr14.mono ((hh2.trans hh3).trans hh4)
 refine s_call (vs := [_, _, _]) Try.call74 ⟨rfl, rfl, rfl, trivial⟩ (fun w hs => rref_reduce hs hr14 hr19 (by omega) (by omega) (by first | (simp only [val_limbs]; omega) | (simp only [val_limbs]; first | exact Rat.den_nz _ | exact Nat.mul_ne_zero (Rat.den_nz _) (Rat.den_nz _) | exact Nat.one_ne_zero | assumption) | assumption)) rfl ?_
 intro v20 h5 hh5 hr20
 try simp only [val_limbs] at hr20
 obtain ⟨vn20, vd20, rfl, hn20, hd20⟩ := hr20
 refine w_t_upd (A := []) (q' := .var b4 27 [vB ((mkRat (sg (¬ ((qa.num < 0) ↔ (qb.num < 0))) (((((qa.num.natAbs)) * ((qb.num.natAbs)))))) (((((qa.den)) * ((qb.den)))))).num < 0), vn20, vd20]) rfl (upd_store_var (k := 0) (cs := [_, _, _]) (vs := [_, _, _]) rfl rfl rfl (ocr rfl (ocu hn20 (ocu hd20 oc0))) size27 (Nat.le_of_ble_eq_true rfl)) rfl (w_nil (gq_keep (e' := [(4, _)]) ⟨rfl, trivial⟩ (gq_then (gc_ret (gq_res (fun E S => run_res1 rfl (rv_agg (cs := [_, _, _]) (.head _) Try.underlying27 rfl size27 rfl) E S) ?_)))))
 rw [mul_eq] at hn20 hd20 ⊢
 exact ⟨_, _, rfl, hn20, hd20⟩

theorem rref_quo {w0 : World} {h0 : Mem}  (hs : MLe h0 (mem w0)) {qa : Rat} {vna vda : Value} (hna : Us .u32 h0 vna (limbs qa.num.natAbs)) (hda : Us .u32 h0 vda (limbs (denN qa.den))) {qb : Rat} {vnb vdb : Value} (hnb : Us .u32 h0 vnb (limbs qb.num.natAbs)) (hdb : Us .u32 h0 vdb (limbs (denN qb.den))) (hqa : lq qa ≤ 100000000000) (hqb : lq qb ≤ 100000000000)  :
    Calls Try.prog 39 #[.agg #[vB (qa.num < 0), vna, vda], .agg #[vB (qb.num < 0), vnb, vdb]] w0 (Ret w0 h0 (fun h r => ∃ u, r = .tuple #[u, vI (if qb = 0 then 3 else 0)] ∧ IsRat h u (if qb = 0 then 0 else qa / qb))) := by
 have hlna := lq_num qa
 have hlda := lq_den qa
 have hlDa := lq_denL qa
 have hlnb := lq_num qb
 have hldb := lq_den qb
 have hlDb := lq_denL qb
 refine calls_begin (n := 27) (e := [(0, .agg #[vB (qa.num < 0), vna, vda]), (1, .agg #[vB (qb.num < 0), vnb, vdb])]) (vs := [.agg #[vB (qa.num < 0), vna, vda], .agg #[vB (qb.num < 0), vnb, vdb]]) Try.func39 rfl rfl (Nat.le_of_ble_eq_true rfl) hs ⟨rfl, rfl, trivial⟩ (gc_seq (gc_region (gl_newop (new_box (cs := [_, _, _]) rfl rfl) rfl rfl rfl ?_)))
 intro v2 r2 hr2
 obtain ⟨b2, rfl, rfl⟩ := hr2
 refine gl_newop (new_box (cs := [_, _, _]) rfl rfl) rfl rfl rfl ?_
 intro v3 r3 hr3
 obtain ⟨b3, rfl, rfl⟩ := hr3
 refine gl_newop (new_alloc (cs := [vB ((0 : Rat).num < 0), .slice none 0 0, .slice none 0 0]) info27 rfl (by simp only [zb]; rfl)) rfl rfl rfl ?_
 intro v4 r4 hr4
 obtain ⟨b4, rfl, rfl⟩ := hr4
 refine asg (v := vI (0)) rfl rfl (gl_nil (gq_then (gc_seq (gc_seq (gc_region (gv (ov_field_addr Try.underlying27 rfl Try.sizeOf22 rfl) rfl (gv (ov_load_var (.tail _ (.head _)) Try.isAgg22 rfl rfl) rfl (gv (ov_len_us Try.underlying22 rfl hnb) rfl (gv (ov_eql_i (q := 0) rfl rfl) rfl (gl_nil (gq_then ?_)))))))))))
 refine gc_cond rfl (fun hc9 => ?_) (fun hc9 => ?_)
 ·
  refine gc_seq (gc_region (gv (ov_build_parts (ps' := []) (vs := [vB ((0 : Rat).num < 0), .slice none 0 0, .slice none 0 0]) Try.underlying27 info27 rfl (places27 Try.underlying27) trivial (by simp only [zb]; rfl)) rfl (gl_upd (A := []) (r' := .var b4 27 [vB ((0 : Rat).num < 0), .slice none 0 0, .slice none 0 0]) (upd_store_var (k := 0) (cs := [_, _, _]) (vs := [_, _, _]) rfl rfl rfl rfl size27 (Nat.le_of_ble_eq_true rfl)) rfl rfl rfl (asg (v := vI (3)) rfl rfl (gl_nil (gq_then (gc_ret (gr_then (gq_res (fun E S => run_res2 rfl (rv_agg (cs := [_, _, _]) (.head _) Try.underlying27 rfl size27 rfl) (rv_tmp rfl) E S) ?_)))))))))
  rw [if_pos (num_zero hc9), if_pos (num_zero hc9)]
  exact ⟨_, rfl, IsRat.zero _⟩
 ·
  have hb0 := num_pos_of hc9
  have hbn := num_ne.2 hb0
  have hd0 : qa.den * qb.num.natAbs ≠ 0 := Nat.mul_ne_zero qa.den_nz hbn
  refine gc_skip (gq_then (gc_seq ?_))
  refine gc_draw 16 _ [] [(0, .q), (1, .q), (2, .q), (3, .q), (4, .q), (5, .q), (6, .q), (7, .q), (10, .q), (12, .q), (13, .q), (8, .c), (9, .c), (11, .c), (14, .c), (15, .c), (16, .t), (17, .t)] mixed (fun x hx => by cases hx) (by kernel_rfl) (fun x hx => by cases hx) (fun r hr => hr) (w_q rfl (fun h' L' hh hR => ov_field_addr Try.underlying27 rfl Try.sizeOf4 rfl) rfl (w_q rfl (fun h' L' hh hR => ov_load_var (hR _ (.tail _ (.tail _ (.head _)))) Try.isAgg4 rfl rfl) rfl (w_q rfl (fun h' L' hh hR => ov_field_addr Try.underlying27 rfl Try.sizeOf4 rfl) rfl (w_q rfl (fun h' L' hh hR => ov_load_var (hR _ (.tail _ (.head _))) Try.isAgg4 rfl rfl) rfl (w_q rfl (fun h' L' hh hR => ov_neq_b Try.underlying4 rfl rfl) rfl (w_q rfl (fun h' L' hh hR => ov_field_addr Try.underlying27 rfl Try.sizeOf22 rfl) rfl (w_q rfl (fun h' L' hh hR => ov_load_var (hR _ (.tail _ (.tail _ (.head _)))) Try.isAgg22 rfl rfl) rfl (w_q rfl (fun h' L' hh hR => ov_load_agg (vs := [_, _, _]) (hR _ (.tail _ (.head _))) Try.underlying27 rfl size27 rfl rfl) rfl (w_q rfl (fun h' L' hh hR => ov_load_agg (vs := [_, _, _]) (hR _ (.tail _ (.tail _ (.head _)))) Try.underlying27 rfl size27 rfl rfl) rfl (w_q rfl (fun h' L' hh hR => ov_field_addr Try.underlying27 rfl Try.sizeOf22 rfl) rfl (w_q rfl (fun h' L' hh hR => ov_load_var (hR _ (.tail _ (.head _))) Try.isAgg22 rfl rfl) rfl ?_)))))))))))
  refine w_c rfl ?_
  refine s_call (vs := [_]) Try.call82 ⟨rfl, trivial⟩ (fun w hs => rref_den hs rfl hnb hdb) rfl ?_
  intro v19 h1 hh1 hr19
  rw [denL_den] at hr19
  refine w_c rfl ?_
  replace hna := hna.mono hh1
  refine s_call (vs := [_, _]) Try.call73 ⟨rfl, rfl, trivial⟩ (fun w hs => ref_mul hs hna hr19 (by omega) (by omega)) rfl ?_
  intro v20 h2 hh2 hr20
  try simp only [val_limbs] at hr20
  have hlm20 := limbs_len_mul ((qa.num.natAbs)) ((qb.den))
  refine w_c rfl ?_
  replace hna := hna.mono hh2
  replace hda := hda.mono (hh1.trans hh2)
  refine s_call (vs := [_]) Try.call82 ⟨rfl, trivial⟩ (fun w hs => rref_den hs rfl hna hda) rfl ?_
  intro v22 h3 hh3 hr22
  rw [denL_den] at hr22
  refine w_c rfl ?_
  replace hnb := hnb.mono ((hh1.trans hh2).trans hh3)
  refine s_call (vs := [_, _]) Try.call73 ⟨rfl, rfl, trivial⟩ (fun w hs => ref_mul hs hr22 hnb (by omega) (by omega)) rfl ?_
  intro v25 h4 hh4 hr25
  try simp only [val_limbs] at hr25
  have hlm25 := limbs_len_mul ((qa.den)) ((qb.num.natAbs))
  refine w_c rfl ?_
  replace hr20 := hr20.mono (hh3.trans hh4)
  refine s_call (vs := [_, _, _]) Try.call74 ⟨rfl, rfl, rfl, trivial⟩ (fun w hs => rref_reduce hs hr20 hr25 (by omega) (by omega) (by first | (simp only [val_limbs]; omega) | (simp only [val_limbs]; first | exact Rat.den_nz _ | exact Nat.mul_ne_zero (Rat.den_nz _) (Rat.den_nz _) | exact Nat.one_ne_zero | assumption) | assumption)) rfl ?_
  intro v26 h5 hh5 hr26
  try simp only [val_limbs] at hr26
  obtain ⟨vn26, vd26, rfl, hn26, hd26⟩ := hr26
  refine w_t_upd (A := []) (q' := .var b4 27 [vB ((mkRat (sg (¬ ((qa.num < 0) ↔ (qb.num < 0))) (((((qa.num.natAbs)) * ((qb.den)))))) (((((qa.den)) * ((qb.num.natAbs)))))).num < 0), vn26, vd26]) rfl (upd_store_var (k := 0) (cs := [_, _, _]) (vs := [_, _, _]) rfl rfl rfl (ocr rfl (ocu hn26 (ocu hd26 oc0))) size27 (Nat.le_of_ble_eq_true rfl)) rfl (w_t_val rfl (ov_assign (v := vI (0)) rfl) rfl (w_nil (gq_keep (e' := [(4, _), (5, _)]) ⟨rfl, rfl, trivial⟩ (gq_then (gc_ret (gq_res (fun E S => run_res2 rfl (rv_agg (cs := [_, _, _]) (.head _) Try.underlying27 rfl size27 rfl) (rv_tmp rfl) E S) ?_))))))
  rw [if_neg hb0, if_neg hb0]
  rw [quo_eq _ hb0] at hn26 hd26 ⊢
  exact ⟨_, rfl, _, _, rfl, hn26, hd26⟩

theorem rref_over {w0 : World} {h0 : Mem}  (hs : MLe h0 (mem w0)) {qa : Rat} {vna vda : Value} (hna : Us .u32 h0 vna (limbs qa.num.natAbs)) (hda : Us .u32 h0 vda (limbs (denN qa.den))) {qb : Rat} {vnb vdb : Value} (hnb : Us .u32 h0 vnb (limbs qb.num.natAbs)) (hdb : Us .u32 h0 vdb (limbs (denN qb.den))) (hqa : lq qa ≤ 100000000000) (hqb : lq qb ≤ 100000000000)  :
    Calls Try.prog 91 #[.agg #[vB (qa.num < 0), vna, vda], .agg #[vB (qb.num < 0), vnb, vdb]] w0 (Ret w0 h0 (fun h r => IsRat h r (if qb = 0 then 0 else qa / qb))) := by
 have hlna := lq_num qa
 have hlda := lq_den qa
 have hlDa := lq_denL qa
 have hlnb := lq_num qb
 have hldb := lq_den qb
 have hlDb := lq_denL qb
 refine calls_begin (n := 14) (e := [(0, .agg #[vB (qa.num < 0), vna, vda]), (1, .agg #[vB (qb.num < 0), vnb, vdb])]) (vs := [.agg #[vB (qa.num < 0), vna, vda], .agg #[vB (qb.num < 0), vnb, vdb]]) Try.func91 rfl rfl (Nat.le_of_ble_eq_true rfl) hs ⟨rfl, rfl, trivial⟩ (gc_seq (gc_region (gl_newop (new_box (cs := [_, _, _]) rfl rfl) rfl rfl rfl ?_)))
 intro v2 r2 hr2
 obtain ⟨b2, rfl, rfl⟩ := hr2
 refine gl_newop (new_box (cs := [_, _, _]) rfl rfl) rfl rfl rfl ?_
 intro v3 r3 hr3
 obtain ⟨b3, rfl, rfl⟩ := hr3
 refine gl_newop (new_alloc (cs := [vB ((0 : Rat).num < 0), .slice none 0 0, .slice none 0 0]) info27 rfl (by simp only [zb]; rfl)) rfl rfl rfl ?_
 intro v4 r4 hr4
 obtain ⟨b4, rfl, rfl⟩ := hr4
 refine gl_nil (gq_then (gc_seq (gc_region (gv (ov_load_agg (vs := [_, _, _]) (.tail _ (.tail _ (.head _))) Try.underlying27 rfl size27 rfl rfl) rfl (gv (ov_load_agg (vs := [_, _, _]) (.tail _ (.head _)) Try.underlying27 rfl size27 rfl rfl) rfl ?_)))))
 refine gl_call (vs := [_, _]) rfl rfl rfl rfl Try.call39 ⟨rfl, rfl, trivial⟩ (fun w hs => rref_quo hs hna hda hnb hdb (by omega) (by omega)) ?_
 intro v10 h1 hh1 hr10
 obtain ⟨_, rfl, vn10, vd10, rfl, hn10, hd10⟩ := hr10
 have hlq10 := lq_quo' qa qb
 refine mv rfl rfl (gv (ov_extract (vs := [_, _]) rfl rfl) rfl (gv (ov_extract (vs := [_, _]) rfl rfl) rfl (gl_newop (new_alloc (cs := [vB ((0 : Rat).num < 0), .slice none 0 0, .slice none 0 0]) info27 rfl (by simp only [zb]; rfl)) rfl rfl rfl ?_)))
 intro v5 r5 hr5
 obtain ⟨b5, rfl, rfl⟩ := hr5
 refine gl_upd (A := []) (r' := .var b5 27 [vB ((if qb = 0 then 0 else qa / qb).num < 0), vn10, vd10]) (upd_store_var (k := 0) (cs := [_, _, _]) (vs := [_, _, _]) rfl rfl rfl (ocr rfl (ocu hn10 (ocu hd10 oc0))) size27 (Nat.le_of_ble_eq_true rfl)) rfl rfl rfl (asg rfl rfl (gl_nil (gq_keep (e' := [(4, _), (5, _)]) ⟨rfl, rfl, trivial⟩ (gq_then (gc_seq (gc_region (gv (ov_load_agg (vs := [_, _, _]) (.head _) Try.underlying27 rfl size27 rfl rfl) rfl (gl_upd (A := [_]) (r' := .var b4 27 [vB ((if qb = 0 then 0 else qa / qb).num < 0), vn10, vd10]) (upd_store_var (k := 0) (cs := [_, _, _]) (vs := [_, _, _]) rfl rfl rfl (ocr rfl (ocu hn10 (ocu hd10 oc0))) size27 (Nat.le_of_ble_eq_true rfl)) rfl rfl rfl (gl_nil (gq_then (gc_ret (gq_res (fun E S => run_res1 rfl (rv_agg (cs := [_, _, _]) (.tail _ (.head _)) Try.underlying27 rfl size27 rfl) E S) ?_))))))))))))
 exact ⟨_, _, rfl, hn10, hd10⟩

theorem rref_cmp {w0 : World} {h0 : Mem}  (hs : MLe h0 (mem w0)) {qa : Rat} {vna vda : Value} (hna : Us .u32 h0 vna (limbs qa.num.natAbs)) (hda : Us .u32 h0 vda (limbs (denN qa.den))) {qb : Rat} {vnb vdb : Value} (hnb : Us .u32 h0 vnb (limbs qb.num.natAbs)) (hdb : Us .u32 h0 vdb (limbs (denN qb.den))) (hqa : lq qa ≤ 100000000000) (hqb : lq qb ≤ 100000000000)  :
    Calls Try.prog 48 #[.agg #[vB (qa.num < 0), vna, vda], .agg #[vB (qb.num < 0), vnb, vdb]] w0 (Ret w0 h0 (fun _ r => r = vI (cmpQ qa qb))) := by
 have hlna := lq_num qa
 have hlda := lq_den qa
 have hlDa := lq_denL qa
 have hlnb := lq_num qb
 have hldb := lq_den qb
 have hlDb := lq_denL qb
 have hcr : -1 ≤ cmpN (qa.num.natAbs * qb.den) (qb.num.natAbs * qa.den) ∧ cmpN (qa.num.natAbs * qb.den) (qb.num.natAbs * qa.den) ≤ 1 := cN_range qa qb
 refine calls_begin (n := 34) (e := [(0, .agg #[vB (qa.num < 0), vna, vda]), (1, .agg #[vB (qb.num < 0), vnb, vdb])]) (vs := [.agg #[vB (qa.num < 0), vna, vda], .agg #[vB (qb.num < 0), vnb, vdb]]) Try.func48 rfl rfl (Nat.le_of_ble_eq_true rfl) hs ⟨rfl, rfl, trivial⟩ (gc_seq (gc_region (gl_newop (new_box (cs := [_, _, _]) rfl rfl) rfl rfl rfl ?_)))
 intro v2 r2 hr2
 obtain ⟨b2, rfl, rfl⟩ := hr2
 refine gl_newop (new_box (cs := [_, _, _]) rfl rfl) rfl rfl rfl ?_
 intro v3 r3 hr3
 obtain ⟨b3, rfl, rfl⟩ := hr3
 refine asg (v := vI (0)) rfl rfl (gl_nil (gq_then (gc_seq (gc_seq ?_))))
 refine gc_draw 6 _ [] [(0, .q), (2, .q), (1, .c), (3, .c), (4, .q), (5, .q)] mixed (fun x hx => by cases hx) (by kernel_rfl) (fun x hx => by cases hx) (fun r hr => hr) (w_q rfl (fun h' L' hh hR => ov_load_agg (vs := [_, _, _]) (hR _ (.tail _ (.head _))) Try.underlying27 rfl size27 rfl rfl) rfl (w_q rfl (fun h' L' hh hR => ov_load_agg (vs := [_, _, _]) (hR _ (.head _)) Try.underlying27 rfl size27 rfl rfl) rfl ?_))
 refine w_c rfl ?_
 refine s_call (vs := [_]) Try.call49 ⟨rfl, trivial⟩ (fun w hs => rref_sign hs hna hda (by omega)) rfl ?_
 intro v9 h1 hh1 hr9
 have hsr9 := sgnQ_range qa
 subst hr9
 refine w_c rfl ?_
 replace hnb := hnb.mono hh1
 replace hdb := hdb.mono hh1
 refine s_call (vs := [_]) Try.call49 ⟨rfl, trivial⟩ (fun w hs => rref_sign hs hnb hdb (by omega)) rfl ?_
 intro v11 h2 hh2 hr11
 have hsr11 := sgnQ_range qb
 subst hr11
 refine w_q rfl (fun h' L' hh hR => ov_assign rfl) rfl (w_q rfl (fun h' L' hh hR => ov_assign rfl) rfl (w_nil (gq_then (gc_seq (gc_region (mv rfl rfl (mv rfl rfl (gv (ov_neq_i rfl rfl) rfl (gl_nil (gq_then ?_))))))))))
 refine gc_cond rfl (fun hc14 => ?_) (fun hc14 => ?_)
 ·
  refine gc_keep (e' := [(5, _), (6, _)]) ⟨rfl, rfl, trivial⟩ (gc_seq (gc_seq (gc_region (mv rfl rfl (mv rfl rfl (gv (ov_lss_i rfl rfl) rfl (gl_nil (gq_then ?_))))))))
  refine gc_cond rfl (fun hc17 => ?_) (fun hc17 => ?_)
  ·
   refine gc_seq (gc_region (asg (v := vI (-1)) rfl rfl (gl_nil (gq_then (gc_ret (gr_then (gr_then (gq_body1 rfl rfl ?_))))))))
   rw [cmpQ_sgn hc14, if_pos hc17]
  ·
   refine gc_skip (gq_then (gc_seq (gc_region (asg (v := vI (1)) rfl rfl (gl_nil (gq_then (gc_ret (gr_then (gq_body1 rfl rfl ?_)))))))))
   rw [cmpQ_sgn hc14, if_neg hc17]
 ·
  have hss := sgn_same hc14
  refine gc_keep (e' := [(2, _), (3, _)]) ⟨rfl, rfl, trivial⟩ (gc_skip (gq_then (gc_seq ?_)))
  refine gc_draw 12 _ [] [(0, .q), (1, .q), (2, .q), (5, .q), (6, .q), (7, .q), (3, .c), (4, .c), (8, .c), (9, .c), (10, .c), (11, .q)] mixed (fun x hx => by cases hx) (by kernel_rfl) (fun x hx => by cases hx) (fun r hr => hr) (w_q rfl (fun h' L' hh hR => ov_field_addr Try.underlying27 rfl Try.sizeOf22 rfl) rfl (w_q rfl (fun h' L' hh hR => ov_load_var (hR _ (.tail _ (.head _))) Try.isAgg22 rfl rfl) rfl (w_q rfl (fun h' L' hh hR => ov_load_agg (vs := [_, _, _]) (hR _ (.head _)) Try.underlying27 rfl size27 rfl rfl) rfl (w_q rfl (fun h' L' hh hR => ov_field_addr Try.underlying27 rfl Try.sizeOf22 rfl) rfl (w_q rfl (fun h' L' hh hR => ov_load_var (hR _ (.head _)) Try.isAgg22 rfl rfl) rfl (w_q rfl (fun h' L' hh hR => ov_load_agg (vs := [_, _, _]) (hR _ (.tail _ (.head _))) Try.underlying27 rfl size27 rfl rfl) rfl ?_))))))
  refine w_c rfl ?_
  replace hnb := hnb.mono hh2
  replace hdb := hdb.mono hh2
  refine s_call (vs := [_]) Try.call82 ⟨rfl, trivial⟩ (fun w hs => rref_den hs rfl hnb hdb) rfl ?_
  intro v21 h3 hh3 hr21
  rw [denL_den] at hr21
  refine w_c rfl ?_
  replace hna := hna.mono ((hh1.trans hh2).trans hh3)
  refine s_call (vs := [_, _]) Try.call73 ⟨rfl, rfl, trivial⟩ (fun w hs => ref_mul hs hna hr21 (by omega) (by omega)) rfl ?_
  intro v22 h4 hh4 hr22
  try simp only [val_limbs] at hr22
  have hlm22 := limbs_len_mul ((qa.num.natAbs)) ((qb.den))
  refine w_c rfl ?_
  replace hna := hna.mono hh4
  replace hda := hda.mono (((hh1.trans hh2).trans hh3).trans hh4)
  refine s_call (vs := [_]) Try.call82 ⟨rfl, trivial⟩ (fun w hs => rref_den hs rfl hna hda) rfl ?_
  intro v26 h5 hh5 hr26
  rw [denL_den] at hr26
  refine w_c rfl ?_
  replace hnb := hnb.mono ((hh3.trans hh4).trans hh5)
  refine s_call (vs := [_, _]) Try.call73 ⟨rfl, rfl, trivial⟩ (fun w hs => ref_mul hs hnb hr26 (by omega) (by omega)) rfl ?_
  intro v27 h6 hh6 hr27
  try simp only [val_limbs] at hr27
  have hlm27 := limbs_len_mul ((qb.num.natAbs)) ((qa.den))
  refine w_c rfl ?_
  replace hr22 := hr22.mono (hh5.trans hh6)
  refine s_call (vs := [_, _]) Try.call77 ⟨rfl, rfl, trivial⟩ (fun w hs => ref_cmp hs hr22 hr27) rfl ?_
  intro v28 h7 hh7 hr28
  subst hr28
  refine w_q rfl (fun h' L' hh hR => ov_assign rfl) rfl (w_nil (gq_keep (e' := [(2, _), (7, _)]) ⟨rfl, rfl, trivial⟩ (gq_then (gc_seq (gc_seq (gc_region (gv (ov_field_addr Try.underlying27 rfl Try.sizeOf4 rfl) rfl (gv (ov_load_var (.tail _ (.head _)) Try.isAgg4 rfl rfl) rfl (gl_nil (gq_then ?_))))))))))
  refine gc_cond rfl (fun hc30 => ?_) (fun hc30 => ?_)
  ·
   refine gc_seq (gc_region (mv rfl rfl (gv (ov_neg_i rfl (by omega) (by omega)) rfl (asg rfl rfl (gl_nil (gq_then (gc_ret (gr_then (gq_body1 rfl rfl ?_)))))))))
   rw [cmpQ_cN hss hc30]; rfl
  ·
   refine gc_skip (gq_then (gc_seq (gc_region (mv rfl rfl (asg rfl rfl (gl_nil (gq_then (gc_ret (gq_body1 rfl rfl ?_)))))))))
   rw [cmpQ_cN' hss hc30]; rfl

theorem rref_min {w0 : World} {h0 : Mem}  (hs : MLe h0 (mem w0)) {qa : Rat} {vna vda : Value} (hna : Us .u32 h0 vna (limbs qa.num.natAbs)) (hda : Us .u32 h0 vda (limbs (denN qa.den))) {qb : Rat} {vnb vdb : Value} (hnb : Us .u32 h0 vnb (limbs qb.num.natAbs)) (hdb : Us .u32 h0 vdb (limbs (denN qb.den))) (hqa : lq qa ≤ 100000000000) (hqb : lq qb ≤ 100000000000)  :
    Calls Try.prog 55 #[.agg #[vB (qa.num < 0), vna, vda], .agg #[vB (qb.num < 0), vnb, vdb]] w0 (Ret w0 h0 (fun h r => IsRat h r (minQ qa qb))) := by
 have hlna := lq_num qa
 have hlda := lq_den qa
 have hlDa := lq_denL qa
 have hlnb := lq_num qb
 have hldb := lq_den qb
 have hlDb := lq_denL qb
 refine calls_begin (n := 11) (e := [(0, .agg #[vB (qa.num < 0), vna, vda]), (1, .agg #[vB (qb.num < 0), vnb, vdb])]) (vs := [.agg #[vB (qa.num < 0), vna, vda], .agg #[vB (qb.num < 0), vnb, vdb]]) Try.func55 rfl rfl (Nat.le_of_ble_eq_true rfl) hs ⟨rfl, rfl, trivial⟩ (gc_seq (gc_region (gl_newop (new_box (cs := [_, _, _]) rfl rfl) rfl rfl rfl ?_)))
 intro v2 r2 hr2
 obtain ⟨b2, rfl, rfl⟩ := hr2
 refine gl_newop (new_box (cs := [_, _, _]) rfl rfl) rfl rfl rfl ?_
 intro v3 r3 hr3
 obtain ⟨b3, rfl, rfl⟩ := hr3
 refine gl_newop (new_alloc (cs := [vB ((0 : Rat).num < 0), .slice none 0 0, .slice none 0 0]) info27 rfl (by simp only [zb]; rfl)) rfl rfl rfl ?_
 intro v4 r4 hr4
 obtain ⟨b4, rfl, rfl⟩ := hr4
 refine gl_nil (gq_then (gc_seq (gc_seq (gc_region (gv (ov_load_agg (vs := [_, _, _]) (.tail _ (.head _)) Try.underlying27 rfl size27 rfl rfl) rfl (gv (ov_load_agg (vs := [_, _, _]) (.tail _ (.tail _ (.head _))) Try.underlying27 rfl size27 rfl rfl) rfl ?_))))))
 refine gl_call (vs := [_, _]) rfl rfl rfl rfl Try.call48 ⟨rfl, rfl, trivial⟩ (fun w hs => rref_cmp hs hnb hdb hna hda (by omega) (by omega)) ?_
 intro v7 h1 hh1 hr7
 have hcr7 := cmpQ_range qb qa
 subst hr7
 refine gv (ov_lss_i (q := 0) rfl rfl) rfl (gl_nil (gq_then ?_))
 refine gc_cond rfl (fun hc8 => ?_) (fun hc8 => ?_)
 ·
  refine gc_seq (gc_region (gv (ov_load_agg (vs := [_, _, _]) (.tail _ (.head _)) Try.underlying27 rfl size27 rfl rfl) rfl ?_))
  replace hnb := hnb.mono hh1
  replace hdb := hdb.mono hh1
  refine gl_upd (A := []) (r' := .var b4 27 [vB (qb.num < 0), vnb, vdb]) (upd_store_var (k := 0) (cs := [_, _, _]) (vs := [_, _, _]) rfl rfl rfl (ocr rfl (ocu hnb (ocu hdb oc0))) size27 (Nat.le_of_ble_eq_true rfl)) rfl rfl rfl (gl_nil (gq_then (gc_ret (gr_then (gq_res (fun E S => run_res1 rfl (rv_agg (cs := [_, _, _]) (.head _) Try.underlying27 rfl size27 rfl) E S) ?_)))))
  rw [minQ_t hc8]
  exact ⟨_, _, rfl, hnb, hdb⟩
 ·
  refine gc_skip (gq_then (gc_seq (gc_region (gv (ov_load_agg (vs := [_, _, _]) (.tail _ (.tail _ (.head _))) Try.underlying27 rfl size27 rfl rfl) rfl ?_))))
  replace hna := hna.mono hh1
  replace hda := hda.mono hh1
  refine gl_upd (A := []) (r' := .var b4 27 [vB (qa.num < 0), vna, vda]) (upd_store_var (k := 0) (cs := [_, _, _]) (vs := [_, _, _]) rfl rfl rfl (ocr rfl (ocu hna (ocu hda oc0))) size27 (Nat.le_of_ble_eq_true rfl)) rfl rfl rfl (gl_nil (gq_then (gc_ret (gq_res (fun E S => run_res1 rfl (rv_agg (cs := [_, _, _]) (.head _) Try.underlying27 rfl size27 rfl) E S) ?_))))
  rw [minQ_f hc8]
  exact ⟨_, _, rfl, hna, hda⟩

theorem rref_max {w0 : World} {h0 : Mem}  (hs : MLe h0 (mem w0)) {qa : Rat} {vna vda : Value} (hna : Us .u32 h0 vna (limbs qa.num.natAbs)) (hda : Us .u32 h0 vda (limbs (denN qa.den))) {qb : Rat} {vnb vdb : Value} (hnb : Us .u32 h0 vnb (limbs qb.num.natAbs)) (hdb : Us .u32 h0 vdb (limbs (denN qb.den))) (hqa : lq qa ≤ 100000000000) (hqb : lq qb ≤ 100000000000)  :
    Calls Try.prog 57 #[.agg #[vB (qa.num < 0), vna, vda], .agg #[vB (qb.num < 0), vnb, vdb]] w0 (Ret w0 h0 (fun h r => IsRat h r (maxQ qa qb))) := by
 have hlna := lq_num qa
 have hlda := lq_den qa
 have hlDa := lq_denL qa
 have hlnb := lq_num qb
 have hldb := lq_den qb
 have hlDb := lq_denL qb
 refine calls_begin (n := 11) (e := [(0, .agg #[vB (qa.num < 0), vna, vda]), (1, .agg #[vB (qb.num < 0), vnb, vdb])]) (vs := [.agg #[vB (qa.num < 0), vna, vda], .agg #[vB (qb.num < 0), vnb, vdb]]) Try.func57 rfl rfl (Nat.le_of_ble_eq_true rfl) hs ⟨rfl, rfl, trivial⟩ (gc_seq (gc_region (gl_newop (new_box (cs := [_, _, _]) rfl rfl) rfl rfl rfl ?_)))
 intro v2 r2 hr2
 obtain ⟨b2, rfl, rfl⟩ := hr2
 refine gl_newop (new_box (cs := [_, _, _]) rfl rfl) rfl rfl rfl ?_
 intro v3 r3 hr3
 obtain ⟨b3, rfl, rfl⟩ := hr3
 refine gl_newop (new_alloc (cs := [vB ((0 : Rat).num < 0), .slice none 0 0, .slice none 0 0]) info27 rfl (by simp only [zb]; rfl)) rfl rfl rfl ?_
 intro v4 r4 hr4
 obtain ⟨b4, rfl, rfl⟩ := hr4
 refine gl_nil (gq_then (gc_seq (gc_seq (gc_region (gv (ov_load_agg (vs := [_, _, _]) (.tail _ (.head _)) Try.underlying27 rfl size27 rfl rfl) rfl (gv (ov_load_agg (vs := [_, _, _]) (.tail _ (.tail _ (.head _))) Try.underlying27 rfl size27 rfl rfl) rfl ?_))))))
 refine gl_call (vs := [_, _]) rfl rfl rfl rfl Try.call48 ⟨rfl, rfl, trivial⟩ (fun w hs => rref_cmp hs hnb hdb hna hda (by omega) (by omega)) ?_
 intro v7 h1 hh1 hr7
 have hcr7 := cmpQ_range qb qa
 subst hr7
 refine gv (ov_gtr_i (q := 0) rfl rfl) rfl (gl_nil (gq_then ?_))
 refine gc_cond rfl (fun hc8 => ?_) (fun hc8 => ?_)
 ·
  refine gc_seq (gc_region (gv (ov_load_agg (vs := [_, _, _]) (.tail _ (.head _)) Try.underlying27 rfl size27 rfl rfl) rfl ?_))
  replace hnb := hnb.mono hh1
  replace hdb := hdb.mono hh1
  refine gl_upd (A := []) (r' := .var b4 27 [vB (qb.num < 0), vnb, vdb]) (upd_store_var (k := 0) (cs := [_, _, _]) (vs := [_, _, _]) rfl rfl rfl (ocr rfl (ocu hnb (ocu hdb oc0))) size27 (Nat.le_of_ble_eq_true rfl)) rfl rfl rfl (gl_nil (gq_then (gc_ret (gr_then (gq_res (fun E S => run_res1 rfl (rv_agg (cs := [_, _, _]) (.head _) Try.underlying27 rfl size27 rfl) E S) ?_)))))
  rw [maxQ_t hc8]
  exact ⟨_, _, rfl, hnb, hdb⟩
 ·
  refine gc_skip (gq_then (gc_seq (gc_region (gv (ov_load_agg (vs := [_, _, _]) (.tail _ (.tail _ (.head _))) Try.underlying27 rfl size27 rfl rfl) rfl ?_))))
  replace hna := hna.mono hh1
  replace hda := hda.mono hh1
  refine gl_upd (A := []) (r' := .var b4 27 [vB (qa.num < 0), vna, vda]) (upd_store_var (k := 0) (cs := [_, _, _]) (vs := [_, _, _]) rfl rfl rfl (ocr rfl (ocu hna (ocu hda oc0))) size27 (Nat.le_of_ble_eq_true rfl)) rfl rfl rfl (gl_nil (gq_then (gc_ret (gq_res (fun E S => run_res1 rfl (rv_agg (cs := [_, _, _]) (.head _) Try.underlying27 rfl size27 rfl) E S) ?_))))
  rw [maxQ_f hc8]
  exact ⟨_, _, rfl, hna, hda⟩

theorem rref_mid {w0 : World} {h0 : Mem}  (hs : MLe h0 (mem w0)) {qa : Rat} {vna vda : Value} (hna : Us .u32 h0 vna (limbs qa.num.natAbs)) (hda : Us .u32 h0 vda (limbs (denN qa.den))) {qb : Rat} {vnb vdb : Value} (hnb : Us .u32 h0 vnb (limbs qb.num.natAbs)) (hdb : Us .u32 h0 vdb (limbs (denN qb.den))) (hqa : lq qa ≤ 10000000000) (hqb : lq qb ≤ 10000000000)  :
    Calls Try.prog 59 #[.agg #[vB (qa.num < 0), vna, vda], .agg #[vB (qb.num < 0), vnb, vdb]] w0 (Ret w0 h0 (fun h r => IsRat h r (midQ qa qb))) := by
 have hlna := lq_num qa
 have hlda := lq_den qa
 have hlDa := lq_denL qa
 have hlnb := lq_num qb
 have hldb := lq_den qb
 have hlDb := lq_denL qb
 refine calls_begin (n := 10) (e := [(0, .agg #[vB (qa.num < 0), vna, vda]), (1, .agg #[vB (qb.num < 0), vnb, vdb])]) (vs := [.agg #[vB (qa.num < 0), vna, vda], .agg #[vB (qb.num < 0), vnb, vdb]]) Try.func59 rfl rfl (Nat.le_of_ble_eq_true rfl) hs ⟨rfl, rfl, trivial⟩ (gc_seq (gc_region (gl_newop (new_box (cs := [_, _, _]) rfl rfl) rfl rfl rfl ?_)))
 intro v2 r2 hr2
 obtain ⟨b2, rfl, rfl⟩ := hr2
 refine gl_newop (new_box (cs := [_, _, _]) rfl rfl) rfl rfl rfl ?_
 intro v3 r3 hr3
 obtain ⟨b3, rfl, rfl⟩ := hr3
 refine gl_newop (new_alloc (cs := [vB ((0 : Rat).num < 0), .slice none 0 0, .slice none 0 0]) info27 rfl (by simp only [zb]; rfl)) rfl rfl rfl ?_
 intro v4 r4 hr4
 obtain ⟨b4, rfl, rfl⟩ := hr4
 refine gl_nil (gq_then (gc_seq (gc_region (gv (ov_load_agg (vs := [_, _, _]) (.tail _ (.tail _ (.head _))) Try.underlying27 rfl size27 rfl rfl) rfl (gv (ov_load_agg (vs := [_, _, _]) (.tail _ (.head _)) Try.underlying27 rfl size27 rfl rfl) rfl ?_)))))
 refine gl_call (vs := [_, _]) rfl rfl rfl rfl Try.call41 ⟨rfl, rfl, trivial⟩ (fun w hs => rref_add hs hna hda hnb hdb (by omega) (by omega)) ?_
 intro v7 h1 hh1 hr7
 obtain ⟨vn7, vd7, rfl, hn7, hd7⟩ := hr7
 have hlq7 := lq_add qa qb
 refine gl_call (vs := [vI (1), vI (2)]) rfl rfl rfl rfl Try.call100 ⟨rfl, rfl, trivial⟩ (fun w hs => rref_frac hs (by omega) (by omega) (by omega) (by omega)) ?_
 intro v8 h2 hh2 hr8
 have hlq8 := lq_make (n := (1 : Int)) (d := (2 : Int)) (by omega) (by omega) (by omega) (by omega)
 obtain ⟨vn8, vd8, rfl, hn8, hd8⟩ := hr8
 replace hn7 := hn7.mono hh2
 replace hd7 := hd7.mono hh2
 refine gl_call (vs := [_, _]) rfl rfl rfl rfl Try.call45 ⟨rfl, rfl, trivial⟩ (fun w hs => rref_mul hs hn7 hd7 hn8 hd8 (by omega) (by omega)) ?_
 intro v9 h3 hh3 hr9
 obtain ⟨vn9, vd9, rfl, hn9, hd9⟩ := hr9
 have hlq9 := lq_mul (qa + qb) (makeQ (1 : Int) (2 : Int))
 refine gl_upd (A := []) (r' := .var b4 27 [vB (((qa + qb) * (makeQ (1 : Int) (2 : Int))).num < 0), vn9, vd9]) (upd_store_var (k := 0) (cs := [_, _, _]) (vs := [_, _, _]) rfl rfl rfl (ocr rfl (ocu hn9 (ocu hd9 oc0))) size27 (Nat.le_of_ble_eq_true rfl)) rfl rfl rfl (gl_nil (gq_then (gc_ret (gq_res (fun E S => run_res1 rfl (rv_agg (cs := [_, _, _]) (.head _) Try.underlying27 rfl size27 rfl) E S) ?_))))
 rw [half_make] at hn9 hd9 ⊢
 exact ⟨_, _, rfl, hn9, hd9⟩

theorem rref_floor {w0 : World} {h0 : Mem}  (hs : MLe h0 (mem w0)) {qa : Rat} {vna vda : Value} (hna : Us .u32 h0 vna (limbs qa.num.natAbs)) (hda : Us .u32 h0 vda (limbs (denN qa.den))) (hqa : lq qa ≤ 100000000000)  :
    Calls Try.prog 31 #[.agg #[vB (qa.num < 0), vna, vda]] w0 (Ret w0 h0 (fun h r => IsRat h r (floorQ qa))) := by
 have hlna := lq_num qa
 have hlda := lq_den qa
 have hlDa := lq_denL qa
 refine calls_begin (n := 30) (e := [(0, .agg #[vB (qa.num < 0), vna, vda])]) (vs := [.agg #[vB (qa.num < 0), vna, vda]]) Try.func31 rfl rfl (Nat.le_of_ble_eq_true rfl) hs ⟨rfl, trivial⟩ (gc_seq (gc_region (gl_newop (new_box (cs := [_, _, _]) rfl rfl) rfl rfl rfl ?_)))
 intro v1 r1 hr1
 obtain ⟨b1, rfl, rfl⟩ := hr1
 refine gl_newop (new_alloc (cs := [vB ((0 : Rat).num < 0), .slice none 0 0, .slice none 0 0]) info27 rfl (by simp only [zb]; rfl)) rfl rfl rfl ?_
 intro v2 r2 hr2
 obtain ⟨b2, rfl, rfl⟩ := hr2
 refine gl_nil (gq_then (gc_seq ?_))
 refine gc_draw 12 _ [] [(0, .q), (1, .q), (2, .q), (3, .c), (4, .c), (5, .q), (6, .q), (7, .q), (8, .q), (9, .q), (10, .q), (11, .q)] mixed (fun x hx => by cases hx) (by kernel_rfl) (fun x hx => by cases hx) (fun r hr => hr) (w_q rfl (fun h' L' hh hR => ov_field_addr Try.underlying27 rfl Try.sizeOf22 rfl) rfl (w_q rfl (fun h' L' hh hR => ov_load_var (hR _ (.tail _ (.head _))) Try.isAgg22 rfl rfl) rfl (w_q rfl (fun h' L' hh hR => ov_load_agg (vs := [_, _, _]) (hR _ (.tail _ (.head _))) Try.underlying27 rfl size27 rfl rfl) rfl ?_)))
 refine w_c rfl ?_
 refine s_call (vs := [_]) Try.call82 ⟨rfl, trivial⟩ (fun w hs => rref_den hs rfl hna hda) rfl ?_
 intro v10 h1 hh1 hr10
 rw [denL_den] at hr10
 refine w_c rfl ?_
 replace hna := hna.mono hh1
 refine s_call (vs := [_, _]) Try.call89 ⟨rfl, rfl, trivial⟩ (fun w hs => ref_div hs hna hr10 (by omega) (by omega)) rfl ?_
 intro v11 h2 hh2 hr11
 obtain ⟨q11, r11, rfl, hq11, hr11⟩ := hr11
 have hlm11 := limbs_len_mono (Nat.div_le_self (qa.num.natAbs) (qa.den))
 rw [if_neg qa.den_nz] at hr11 ⊢
 have hlmm := limbs_len_mono (Nat.mod_le qa.num.natAbs qa.den)
 refine w_q rfl (fun h' L' hh hR => ov_move rfl) rfl (w_q rfl (fun h' L' hh hR => ov_extract (vs := [_, _, _]) rfl rfl) rfl (w_q rfl (fun h' L' hh hR => ov_extract (vs := [_, _, _]) rfl rfl) rfl (w_q rfl (fun h' L' hh hR => ov_extract (vs := [_, _, _]) rfl rfl) rfl (w_q rfl (fun h' L' hh hR => ov_assign rfl) rfl (w_q rfl (fun h' L' hh hR => ov_assign rfl) rfl (w_q rfl (fun h' L' hh hR => ov_assign rfl) rfl (w_nil (gq_keep (e' := [(1, _), (2, _), (3, _), (4, _)]) ⟨rfl, rfl, rfl, rfl, trivial⟩ (gq_then (gc_seq (gc_seq (gc_region (gv (ov_field_addr Try.underlying27 rfl Try.sizeOf4 rfl) rfl ?_)))))))))))))
 refine gv (ov_load_var (.tail _ (.head _)) Try.isAgg4 rfl rfl) rfl ?_
 refine gl_cut (ι := Unit) 5 (fun _ => True) (fun _ => [(21, vB ((qa.num < 0) ∧ ((0 : Int) < (↑(limbs (qa.num.natAbs % qa.den)).length : Int)))), (1, vP b1 0), (2, vP b2 0), (3, q11)]) (fun _ => [.var b2 27 [vB ((0 : Rat).num < 0), .slice none 0 0, .slice none 0 0], .var b1 27 [vB (qa.num < 0), vna, vda]]) (fun _ => h2) ?_ ?_
 ·
  refine gl_cases (qa.num < 0) (fun hg => ?_) (fun hg => ?_)
  ·
   refine gl_val (ov_move (v := .bool true) (congrArg some (vB_true hg))) rfl rfl rfl (gl_on rfl rfl rfl (mv rfl rfl (gl_on rfl rfl rfl (gv (ov_len_us Try.underlying22 rfl hr11) rfl (gl_on rfl rfl rfl (gv (ov_gtr_i (q := 0) rfl rfl) rfl (gv (ov_pick_t rfl rfl) rfl (gl_nil ?_))))))))
   refine gq_cut () trivial ⟨?_, rfl, rfl, rfl, trivial⟩ rfl rfl
   exact congrArg some (vB_and_t hg)
  ·
   refine gl_val (ov_move (v := .bool false) (congrArg some (vB_false hg))) rfl rfl rfl (gl_off rfl rfl rfl rfl rfl rfl (gl_off rfl rfl rfl rfl rfl rfl (gl_off rfl rfl rfl rfl rfl rfl (gv (ov_pick_f rfl rfl) rfl (gl_nil ?_)))))
   refine gq_cut () trivial ⟨?_, rfl, rfl, rfl, trivial⟩ rfl rfl
   exact congrArg some (vB_and_f hg)
 ·
  intro _ _
  show GL _ _ _ _ _ _ _ [(21, vB ((qa.num < 0) ∧ ((0 : Int) < (↑(limbs (qa.num.natAbs % qa.den)).length : Int)))), (1, vP b1 0), (2, vP b2 0), (3, q11)] [.var b2 27 [vB ((0 : Rat).num < 0), .slice none 0 0, .slice none 0 0], .var b1 27 [vB (qa.num < 0), vna, vda]] h2
  refine gl_nil (gq_then ?_)
  refine gc_cond rfl (fun hc21 => ?_) (fun hc21 => ?_)
  ·
   refine gc_region (mv rfl rfl (gl_newop (new_build1 (kd := .u32) (p := 1) Try.underlying22 info61 rfl rfl rfl) rfl rfl rfl ?_))
   intro v23 r23 hr23
   obtain rfl := hr23
   refine gl_freeze_us0 (by intro z hz; simp only [List.mem_singleton] at hz; subst hz; decide) ?_
   intro h3 hh3 ho23
   rw [one_limbs] at ho23
   have hlm23 := len_one
   replace hq11 := hq11.mono hh3
   refine gl_call (vs := [_, _]) rfl rfl rfl rfl Try.call72 ⟨rfl, rfl, trivial⟩ (fun w hs => ref_add hs hq11 ho23 (by omega) (by omega)) ?_
   intro v24 h4 hh4 hr24
   have hlm24 := limbs_len_add (((qa.num.natAbs) / (qa.den))) (1)
   refine asg rfl rfl (gl_nil (gq_then (gc_seq (gc_region (gv (ov_field_addr Try.underlying27 rfl Try.sizeOf4 rfl) rfl (gv (ov_load_var (.tail _ (.head _)) Try.isAgg4 rfl rfl) rfl (mv rfl rfl (gl_newop (new_build1 (kd := .u32) (p := 1) Try.underlying22 info61 rfl rfl rfl) rfl rfl rfl ?_))))))))
   intro v28 r28 hr28
   obtain rfl := hr28
   refine gl_freeze_us0 (by intro z hz; simp only [List.mem_singleton] at hz; subst hz; decide) ?_
   intro h5 hh5 ho28
   rw [one_limbs] at ho28
   have hlm28 := len_one
   replace hr24 := hr24.mono hh5
   refine gl_call (vs := [_, _, _]) rfl rfl rfl rfl Try.call74 ⟨rfl, rfl, rfl, trivial⟩ (fun w hs => rref_reduce hs hr24 ho28 (by omega) (by omega) (by first | (simp only [val_limbs]; omega) | (simp only [val_limbs]; first | exact Rat.den_nz _ | exact Nat.mul_ne_zero (Rat.den_nz _) (Rat.den_nz _) | exact Nat.one_ne_zero | assumption) | assumption)) ?_
   intro v29 h6 hh6 hr29
   try simp only [val_limbs] at hr29
   obtain ⟨vn29, vd29, rfl, hn29, hd29⟩ := hr29
   refine gl_upd (A := []) (r' := .var b2 27 [vB ((mkRat (sg (qa.num < 0) ((((((qa.num.natAbs) / (qa.den))) + (1))))) ((1))).num < 0), vn29, vd29]) (upd_store_var (k := 0) (cs := [_, _, _]) (vs := [_, _, _]) rfl rfl rfl (ocr rfl (ocu hn29 (ocu hd29 oc0))) size27 (Nat.le_of_ble_eq_true rfl)) rfl rfl rfl (gl_nil (gq_keep (e' := [(2, _)]) ⟨rfl, trivial⟩ (gq_then (gc_ret (gq_res (fun E S => run_res1 rfl (rv_agg (cs := [_, _, _]) (.head _) Try.underlying27 rfl size27 rfl) E S) ?_)))))
   rw [floor_rest hc21] at hn29 hd29 ⊢
   exact ⟨_, _, rfl, hn29, hd29⟩
  ·
   refine gc_skip (gq_then (gc_seq (gc_region (gv (ov_field_addr Try.underlying27 rfl Try.sizeOf4 rfl) rfl (gv (ov_load_var (.tail _ (.head _)) Try.isAgg4 rfl rfl) rfl (mv rfl rfl (gl_newop (new_build1 (kd := .u32) (p := 1) Try.underlying22 info61 rfl rfl rfl) rfl rfl rfl ?_)))))))
   intro v28 r28 hr28
   obtain rfl := hr28
   refine gl_freeze_us0 (by intro z hz; simp only [List.mem_singleton] at hz; subst hz; decide) ?_
   intro h3 hh3 ho28
   rw [one_limbs] at ho28
   have hlm28 := len_one
   replace hq11 := hq11.mono hh3
   refine gl_call (vs := [_, _, _]) rfl rfl rfl rfl Try.call74 ⟨rfl, rfl, rfl, trivial⟩ (fun w hs => rref_reduce hs hq11 ho28 (by omega) (by omega) (by first | (simp only [val_limbs]; omega) | (simp only [val_limbs]; first | exact Rat.den_nz _ | exact Nat.mul_ne_zero (Rat.den_nz _) (Rat.den_nz _) | exact Nat.one_ne_zero | assumption) | assumption)) ?_
   intro v29 h4 hh4 hr29
   try simp only [val_limbs] at hr29
   obtain ⟨vn29, vd29, rfl, hn29, hd29⟩ := hr29
   refine gl_upd (A := []) (r' := .var b2 27 [vB ((mkRat (sg (qa.num < 0) ((((qa.num.natAbs) / (qa.den))))) ((1))).num < 0), vn29, vd29]) (upd_store_var (k := 0) (cs := [_, _, _]) (vs := [_, _, _]) rfl rfl rfl (ocr rfl (ocu hn29 (ocu hd29 oc0))) size27 (Nat.le_of_ble_eq_true rfl)) rfl rfl rfl (gl_nil (gq_then (gc_ret (gq_res (fun E S => run_res1 rfl (rv_agg (cs := [_, _, _]) (.head _) Try.underlying27 rfl size27 rfl) E S) ?_))))
   rw [floor_rest' hc21] at hn29 hd29 ⊢
   exact ⟨_, _, rfl, hn29, hd29⟩

theorem rref_scale {w0 : World} {h0 : Mem}  (hs : MLe h0 (mem w0)) {k : Int} (hk1 : -9223372036854775808 ≤ k) (hk2 : k < 9223372036854775808) :
    Calls Try.prog 92 #[vI k] w0 (Ret w0 h0 (fun h r => IsRat h r ((2 ^ kN k : Nat) : Rat))) := by
 refine calls_begin (n := 15) (e := [(0, vI k)]) (vs := [vI k]) Try.func92 rfl rfl (Nat.le_of_ble_eq_true rfl) hs ⟨rfl, trivial⟩ (gc_seq (gc_region (gl_newop (new_alloc (cs := [vB ((0 : Rat).num < 0), .slice none 0 0, .slice none 0 0]) info27 rfl (by simp only [zb]; rfl)) rfl rfl rfl ?_)))
 intro v2 r2 hr2
 obtain ⟨b2, rfl, rfl⟩ := hr2
 refine gl_nil (gq_then (gc_seq (gc_region (gl_newop (new_build1 (kd := .u32) (p := 1) Try.underlying22 info61 rfl rfl rfl) rfl rfl rfl ?_))))
 intro v6 r6 hr6
 obtain rfl := hr6
 refine gl_freeze_us0 (by intro z hz; simp only [List.mem_singleton] at hz; subst hz; decide) ?_
 intro h1 hh1 ho6
 rw [one_limbs] at ho6
 have hlm6 := len_one
 refine mv rfl rfl (gv (ov_max_i (q := 0) rfl rfl) rfl (gv (ov_min_i (q := 4096) rfl rfl) rfl ?_))
 refine gl_call (vs := [_, _]) rfl rfl rfl rfl Try.call120 ⟨rfl, rfl, trivial⟩ (fun w hs => ref_shift hs ho6 (by omega) (by omega) (by omega)) ?_
 intro v10 h2 hh2 hr10
 obtain ⟨u10, rfl, hu10⟩ := hr10
 rw [shN_k1] at hu10
 rw [shE_k]
 refine mv rfl rfl (gv (ov_extract (vs := [_, _]) rfl rfl) rfl (gv (ov_extract (vs := [_, _]) rfl rfl) rfl (asg rfl rfl (asg rfl rfl (gl_nil (gq_keep (e' := [(2, _), (3, _)]) ⟨rfl, rfl, trivial⟩ (gq_then (gc_seq (gc_region (mv rfl rfl (gv (ov_build_parts (ps' := [(1, _)]) (vs := [vB (((2 ^ kN k : Nat) : Rat).num < 0), u10, .slice none 0 0]) Try.underlying27 info27 rfl (places27 Try.underlying27) ⟨rfl, rfl, trivial⟩ (by rw [nat_neg]; obtain ⟨_, _, e0⟩ := hu10.one; rw [e0]; rfl)) rfl (gl_upd (A := []) (r' := .var b2 27 [vB (((2 ^ kN k : Nat) : Rat).num < 0), u10, .slice none 0 0]) (upd_store_var (k := 0) (cs := [_, _, _]) (vs := [_, _, _]) rfl rfl rfl (ocr rfl (ocu (us_nat_num hu10) (ocr rfl oc0))) size27 (Nat.le_of_ble_eq_true rfl)) rfl rfl rfl (gl_nil ?_)))))))))))))
 refine gq_then (gc_ret (gq_res (fun E S => run_res1 rfl (rv_agg (cs := [_, _, _]) (.head _) Try.underlying27 rfl size27 rfl) E S) ?_))
 exact ⟨_, _, rfl, (us_nat_num hu10), us_nat_den⟩

theorem rref_down {w0 : World} {h0 : Mem}  (hs : MLe h0 (mem w0)) {qa : Rat} {vna vda : Value} (hna : Us .u32 h0 vna (limbs qa.num.natAbs)) (hda : Us .u32 h0 vda (limbs (denN qa.den))) (hqa : lq qa ≤ 10000000000) {k : Int} (hk1 : -9223372036854775808 ≤ k) (hk2 : k < 9223372036854775808) :
    Calls Try.prog 33 #[.agg #[vB (qa.num < 0), vna, vda], vI k] w0 (Ret w0 h0 (fun h r => IsRat h r (downQ qa k))) := by
 have hlna := lq_num qa
 have hlda := lq_den qa
 have hlDa := lq_denL qa
 refine calls_begin (n := 13) (e := [(0, .agg #[vB (qa.num < 0), vna, vda]), (1, vI k)]) (vs := [.agg #[vB (qa.num < 0), vna, vda], vI k]) Try.func33 rfl rfl (Nat.le_of_ble_eq_true rfl) hs ⟨rfl, rfl, trivial⟩ (gc_seq (gc_region (gl_newop (new_box (cs := [_, _, _]) rfl rfl) rfl rfl rfl ?_)))
 intro v2 r2 hr2
 obtain ⟨b2, rfl, rfl⟩ := hr2
 refine gl_newop (new_alloc (cs := [vB ((0 : Rat).num < 0), .slice none 0 0, .slice none 0 0]) info27 rfl (by simp only [zb]; rfl)) rfl rfl rfl ?_
 intro v4 r4 hr4
 obtain ⟨b4, rfl, rfl⟩ := hr4
 refine gl_nil (gq_then (gc_seq ?_))
 refine gc_draw 8 _ [] [(0, .q), (1, .q), (5, .q), (2, .c), (3, .c), (4, .c), (6, .c), (7, .c), (8, .t)] mixed (fun x hx => by cases hx) (by kernel_rfl) (fun x hx => by cases hx) (fun r hr => hr) (w_q rfl (fun h' L' hh hR => ov_load_agg (vs := [_, _, _]) (hR _ (.tail _ (.head _))) Try.underlying27 rfl size27 rfl rfl) rfl (w_q rfl (fun h' L' hh hR => ov_move rfl) rfl (w_q rfl (fun h' L' hh hR => ov_move rfl) rfl ?_)))
 refine w_c rfl ?_
 refine s_call (vs := [_]) Try.call92 ⟨rfl, trivial⟩ (fun w hs => rref_scale hs (by omega) (by omega)) rfl ?_
 intro v7 h1 hh1 hr7
 obtain ⟨vn7, vd7, rfl, hn7, hd7⟩ := hr7
 have hlq7 := lq_pow k
 refine w_c rfl ?_
 replace hna := hna.mono hh1
 replace hda := hda.mono hh1
 refine s_call (vs := [_, _]) Try.call45 ⟨rfl, rfl, trivial⟩ (fun w hs => rref_mul hs hna hda hn7 hd7 (by omega) (by omega)) rfl ?_
 intro v8 h2 hh2 hr8
 obtain ⟨vn8, vd8, rfl, hn8, hd8⟩ := hr8
 have hlq8 := lq_mul qa (((2 ^ kN k : Nat) : Rat))
 refine w_c rfl ?_
 refine s_call (vs := [_]) Try.call31 ⟨rfl, trivial⟩ (fun w hs => rref_floor hs hn8 hd8 (by omega)) rfl ?_
 intro v9 h3 hh3 hr9
 obtain ⟨vn9, vd9, rfl, hn9, hd9⟩ := hr9
 have hlq9 := lq_floor (qa * (((2 ^ kN k : Nat) : Rat)))
 refine w_c rfl ?_
 refine s_call (vs := [_]) Try.call92 ⟨rfl, trivial⟩ (fun w hs => rref_scale hs (by omega) (by omega)) rfl ?_
 intro v11 h4 hh4 hr11
 obtain ⟨vn11, vd11, rfl, hn11, hd11⟩ := hr11
 have hlq11 := lq_pow k
 refine w_c rfl ?_
 replace hn9 := hn9.mono hh4
 replace hd9 := hd9.mono hh4
 refine s_call (vs := [_, _]) Try.call91 ⟨rfl, rfl, trivial⟩ (fun w hs => rref_over hs hn9 hd9 hn11 hd11 (by omega) (by omega)) rfl ?_
 intro v12 h5 hh5 hr12
 obtain ⟨vn12, vd12, rfl, hn12, hd12⟩ := hr12
 have hlq12 := lq_quo' (floorQ (qa * (((2 ^ kN k : Nat) : Rat)))) (((2 ^ kN k : Nat) : Rat))
 refine w_t_upd (A := []) (q' := .var b4 27 [vB ((if (((2 ^ kN k : Nat) : Rat)) = 0 then 0 else (floorQ (qa * (((2 ^ kN k : Nat) : Rat)))) / (((2 ^ kN k : Nat) : Rat))).num < 0), vn12, vd12]) rfl (upd_store_var (k := 0) (cs := [_, _, _]) (vs := [_, _, _]) rfl rfl rfl (ocr rfl (ocu hn12 (ocu hd12 oc0))) size27 (Nat.le_of_ble_eq_true rfl)) rfl (w_nil (gq_keep (e' := [(4, _)]) ⟨rfl, trivial⟩ (gq_then (gc_ret (gq_res (fun E S => run_res1 rfl (rv_agg (cs := [_, _, _]) (.head _) Try.underlying27 rfl size27 rfl) E S) ?_)))))
 rw [if_neg (pow_ratne _), down_over] at hn12 hd12 ⊢
 exact ⟨_, _, rfl, hn12, hd12⟩

theorem rref_up {w0 : World} {h0 : Mem}  (hs : MLe h0 (mem w0)) {qa : Rat} {vna vda : Value} (hna : Us .u32 h0 vna (limbs qa.num.natAbs)) (hda : Us .u32 h0 vda (limbs (denN qa.den))) (hqa : lq qa ≤ 10000000000) {k : Int} (hk1 : -9223372036854775808 ≤ k) (hk2 : k < 9223372036854775808) :
    Calls Try.prog 35 #[.agg #[vB (qa.num < 0), vna, vda], vI k] w0 (Ret w0 h0 (fun h r => IsRat h r (upQ qa k))) := by
 have hlna := lq_num qa
 have hlda := lq_den qa
 have hlDa := lq_denL qa
 refine calls_begin (n := 10) (e := [(0, .agg #[vB (qa.num < 0), vna, vda]), (1, vI k)]) (vs := [.agg #[vB (qa.num < 0), vna, vda], vI k]) Try.func35 rfl rfl (Nat.le_of_ble_eq_true rfl) hs ⟨rfl, rfl, trivial⟩ (gc_seq (gc_region (gl_newop (new_box (cs := [_, _, _]) rfl rfl) rfl rfl rfl ?_)))
 intro v2 r2 hr2
 obtain ⟨b2, rfl, rfl⟩ := hr2
 refine gl_newop (new_alloc (cs := [vB ((0 : Rat).num < 0), .slice none 0 0, .slice none 0 0]) info27 rfl (by simp only [zb]; rfl)) rfl rfl rfl ?_
 intro v4 r4 hr4
 obtain ⟨b4, rfl, rfl⟩ := hr4
 refine gl_nil (gq_then (gc_seq (gc_region (gv (ov_load_agg (vs := [_, _, _]) (.tail _ (.head _)) Try.underlying27 rfl size27 rfl rfl) rfl ?_))))
 refine gl_call (vs := [_]) rfl rfl rfl rfl Try.call51 ⟨rfl, trivial⟩ (fun w hs => rref_neg hs hna hda (by omega)) ?_
 intro v6 h1 hh1 hr6
 obtain ⟨vn6, vd6, rfl, hn6, hd6⟩ := hr6
 have hlq6 := lq_neg qa
 refine mv rfl rfl ?_
 refine gl_call (vs := [_, _]) rfl rfl rfl rfl Try.call33 ⟨rfl, rfl, trivial⟩ (fun w hs => rref_down hs hn6 hd6 (by omega) (by omega) (by omega)) ?_
 intro v8 h2 hh2 hr8
 obtain ⟨vn8, vd8, rfl, hn8, hd8⟩ := hr8
 have hlq8 := lq_down (-qa) k
 refine gl_call (vs := [_]) rfl rfl rfl rfl Try.call51 ⟨rfl, trivial⟩ (fun w hs => rref_neg hs hn8 hd8 (by omega)) ?_
 intro v9 h3 hh3 hr9
 obtain ⟨vn9, vd9, rfl, hn9, hd9⟩ := hr9
 have hlq9 := lq_neg (downQ (-qa) k)
 refine gl_upd (A := []) (r' := .var b4 27 [vB ((-(downQ (-qa) k)).num < 0), vn9, vd9]) (upd_store_var (k := 0) (cs := [_, _, _]) (vs := [_, _, _]) rfl rfl rfl (ocr rfl (ocu hn9 (ocu hd9 oc0))) size27 (Nat.le_of_ble_eq_true rfl)) rfl rfl rfl (gl_nil (gq_then (gc_ret (gq_res (fun E S => run_res1 rfl (rv_agg (cs := [_, _, _]) (.head _) Try.underlying27 rfl size27 rfl) E S) ?_))))
 exact ⟨_, _, rfl, hn9, hd9⟩

theorem rref_bits {w0 : World} {h0 : Mem}  (hs : MLe h0 (mem w0)) {qa : Rat} {vna vda : Value} (hna : Us .u32 h0 vna (limbs qa.num.natAbs)) (hda : Us .u32 h0 vda (limbs (denN qa.den))) (hqa : lq qa ≤ 100000000000)  :
    Calls Try.prog 37 #[.agg #[vB (qa.num < 0), vna, vda]] w0 (Ret w0 h0 (fun _ r => r = vI (bitsQ qa))) := by
 have hlna := lq_num qa
 have hlda := lq_den qa
 have hlDa := lq_denL qa
 refine calls_begin (n := 10) (e := [(0, .agg #[vB (qa.num < 0), vna, vda])]) (vs := [.agg #[vB (qa.num < 0), vna, vda]]) Try.func37 rfl rfl (Nat.le_of_ble_eq_true rfl) hs ⟨rfl, trivial⟩ (gc_seq (gc_region (gl_newop (new_box (cs := [_, _, _]) rfl rfl) rfl rfl rfl ?_)))
 intro v1 r1 hr1
 obtain ⟨b1, rfl, rfl⟩ := hr1
 refine asg (v := vI (0)) rfl rfl (gl_nil (gq_then (gc_seq ?_)))
 refine gc_draw 8 _ [] [(0, .q), (1, .q), (3, .q), (2, .c), (4, .c), (5, .c), (6, .q), (7, .q)] mixed (fun x hx => by cases hx) (by kernel_rfl) (fun x hx => by cases hx) (fun r hr => hr) (w_q rfl (fun h' L' hh hR => ov_field_addr Try.underlying27 rfl Try.sizeOf22 rfl) rfl (w_q rfl (fun h' L' hh hR => ov_load_var (hR _ (.head _)) Try.isAgg22 rfl rfl) rfl (w_q rfl (fun h' L' hh hR => ov_load_agg (vs := [_, _, _]) (hR _ (.head _)) Try.underlying27 rfl size27 rfl rfl) rfl ?_)))
 refine w_c rfl ?_
 refine s_call (vs := [_]) Try.call93 ⟨rfl, trivial⟩ (fun w hs => ref_bits hs hna (by omega)) rfl ?_
 intro v5 h1 hh1 hr5
 subst hr5
 refine w_c rfl ?_
 replace hna := hna.mono hh1
 replace hda := hda.mono hh1
 refine s_call (vs := [_]) Try.call82 ⟨rfl, trivial⟩ (fun w hs => rref_den hs rfl hna hda) rfl ?_
 intro v7 h2 hh2 hr7
 rw [denL_den] at hr7
 refine w_c rfl ?_
 refine s_call (vs := [_]) Try.call93 ⟨rfl, trivial⟩ (fun w hs => ref_bits hs hr7 (by omega)) rfl ?_
 intro v8 h3 hh3 hr8
 subst hr8
 refine w_q rfl (fun h' L' hh hR => ov_max_i rfl rfl) rfl (w_q rfl (fun h' L' hh hR => ov_assign rfl) rfl (w_nil (gq_then (gc_ret (gq_body1 rfl rfl ?_)))))
 rfl

end Go.Proofs.Ytimoeckkdodogaa
