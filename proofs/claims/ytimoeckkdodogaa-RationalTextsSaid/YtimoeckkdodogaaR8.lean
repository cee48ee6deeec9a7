/- Contracts of functions, walked by their text (rat8/b). -/
import Derived.Test.YtimoeckkdodogaaR7
import Derived.Test.YtimoeckkdodogaaPar
namespace Go.Proofs.Ytimoeckkdodogaa
open Bk Go
set_option linter.unusedVariables false
set_option linter.unusedSimpArgs false
set_option maxRecDepth 10000

theorem rat_text {w0 : World} {h0 : Mem}  (hs : MLe h0 (mem w0)) {qa : Rat} {vna vda : Value} (hna : Us .u32 h0 vna (limbs qa.num.natAbs)) (hda : Us .u32 h0 vda (limbs (denN qa.den))) (hqa : lq qa ≤ 100000000000)  :
    Calls Try.prog 18 #[.agg #[vB (qa.num < 0), vna, vda]] w0 (Ret w0 h0 (fun _ r => r = .string (strOf (txtQ qa)))) := by
 have hlna := lq_num qa
 have hlda := lq_den qa
 have hlDa := lq_denL qa
 refine calls_begin (n := 22) (e := [(0, .agg #[vB (qa.num < 0), vna, vda])]) (vs := [.agg #[vB (qa.num < 0), vna, vda]]) Try.func18 rfl rfl (Nat.le_of_ble_eq_true rfl) hs ⟨rfl, trivial⟩ (gc_seq (gc_region (gl_newop (new_box (cs := [_, _, _]) rfl rfl) rfl rfl rfl ?_)))
 intro v1 r1 hr1
 obtain ⟨b1, rfl, rfl⟩ := hr1
 refine asg rfl rfl (gl_nil (gq_then (gc_seq (gc_region (gv (ov_field_addr Try.underlying27 rfl Try.sizeOf22 rfl) rfl (gv (ov_load_var (.head _) Try.isAgg22 rfl rfl) rfl ?_))))))
 refine gl_call (vs := [_]) rfl rfl rfl rfl Try.call75 ⟨rfl, trivial⟩ (fun w hs => nat_text hs hna (by omega)) ?_
 intro v6 h1 hh1 hr6
 try simp only [val_limbs] at hr6
 subst hr6
 have htl6 := txt_len ((qa.num.natAbs))
 refine asg rfl rfl (gl_nil (gq_then (gc_seq (gc_seq (gc_region (gv (ov_field_addr Try.underlying27 rfl Try.sizeOf4 rfl) rfl (gv (ov_load_var (.head _) Try.isAgg4 rfl rfl) rfl (gl_nil (gq_then ?_)))))))))
 refine gc_cond rfl (fun hc8 => ?_) (fun hc8 => ?_)
 ·
  refine gc_region (mv rfl rfl (gv (ov_add_s (pa := ([45] : List Nat)) (pb := (txt ((qa.num.natAbs)))) rfl rfl (by first | omega | (simp only [List.length_append, List.length_cons, List.length_nil, List.length_drop, List.length_take]; omega))) rfl (asg rfl rfl (gl_nil (gq_then (gc_seq (gc_seq (gc_region (gv (ov_field_addr Try.underlying27 rfl Try.sizeOf22 rfl) rfl (gv (ov_load_var (.head _) Try.isAgg22 rfl rfl) rfl ?_))))))))))
  replace hda := hda.mono hh1
  refine gv (ov_len_us Try.underlying22 rfl hda) rfl (gv (ov_gtr_i (q := 0) rfl rfl) rfl (gl_nil (gq_keep (e' := [(1, _), (3, _), (14, _)]) ⟨rfl, rfl, rfl, trivial⟩ (gq_then ?_))))
  refine gc_cond rfl (fun hc14 => ?_) (fun hc14 => ?_)
  ·
   refine gc_region (mv rfl rfl (gv (ov_field_addr Try.underlying27 rfl Try.sizeOf22 rfl) rfl (gv (ov_load_var (.head _) Try.isAgg22 rfl rfl) rfl ?_)))
   refine gl_call (vs := [_]) rfl rfl rfl rfl Try.call75 ⟨rfl, trivial⟩ (fun w hs => nat_text hs hda (by omega)) ?_
   intro v18 h2 hh2 hr18
   try simp only [val_limbs] at hr18
   subst hr18
   have htl18 := txt_len (((denN qa.den)))
   refine gv (ov_add_s (pa := ([47] : List Nat)) (pb := (txt (((denN qa.den))))) rfl rfl (by first | omega | (simp only [List.length_append, List.length_cons, List.length_nil, List.length_drop, List.length_take]; omega))) rfl (gv (ov_add_s (pa := (([45] : List Nat) ++ (txt ((qa.num.natAbs))))) (pb := (([47] : List Nat) ++ (txt (((denN qa.den)))))) rfl rfl (by first | omega | (simp only [List.length_append, List.length_cons, List.length_nil, List.length_drop, List.length_take]; omega))) rfl (asg rfl rfl (gl_nil (gq_then (gc_seq (gc_region (mv rfl rfl (asg rfl rfl (gl_nil (gq_keep (e' := [(2, _)]) ⟨rfl, trivial⟩ (gq_then (gc_ret (gq_body1 rfl rfl ?_)))))))))))))
   rw [← txtQ_t hc8 hc14]
  ·
   refine gc_skip (gq_then (gc_seq (gc_region (mv rfl rfl (asg rfl rfl (gl_nil (gq_then (gc_ret (gq_body1 rfl rfl ?_)))))))))
   rw [← txtQ_td hc8 hc14]
 ·
  refine gc_skip (gq_then (gc_seq (gc_seq (gc_region (gv (ov_field_addr Try.underlying27 rfl Try.sizeOf22 rfl) rfl (gv (ov_load_var (.head _) Try.isAgg22 rfl rfl) rfl ?_))))))
  replace hda := hda.mono hh1
  refine gv (ov_len_us Try.underlying22 rfl hda) rfl (gv (ov_gtr_i (q := 0) rfl rfl) rfl (gl_nil (gq_keep (e' := [(1, _), (3, _), (14, _)]) ⟨rfl, rfl, rfl, trivial⟩ (gq_then ?_))))
  refine gc_cond rfl (fun hc14 => ?_) (fun hc14 => ?_)
  ·
   refine gc_region (mv rfl rfl (gv (ov_field_addr Try.underlying27 rfl Try.sizeOf22 rfl) rfl (gv (ov_load_var (.head _) Try.isAgg22 rfl rfl) rfl ?_)))
   refine gl_call (vs := [_]) rfl rfl rfl rfl Try.call75 ⟨rfl, trivial⟩ (fun w hs => nat_text hs hda (by omega)) ?_
   intro v18 h2 hh2 hr18
   try simp only [val_limbs] at hr18
   subst hr18
   have htl18 := txt_len (((denN qa.den)))
   refine gv (ov_add_s (pa := ([47] : List Nat)) (pb := (txt (((denN qa.den))))) rfl rfl (by first | omega | (simp only [List.length_append, List.length_cons, List.length_nil, List.length_drop, List.length_take]; omega))) rfl (gv (ov_add_s (pa := (txt ((qa.num.natAbs)))) (pb := (([47] : List Nat) ++ (txt (((denN qa.den)))))) rfl rfl (by first | omega | (simp only [List.length_append, List.length_cons, List.length_nil, List.length_drop, List.length_take]; omega))) rfl (asg rfl rfl (gl_nil (gq_then (gc_seq (gc_region (mv rfl rfl (asg rfl rfl (gl_nil (gq_keep (e' := [(2, _)]) ⟨rfl, trivial⟩ (gq_then (gc_ret (gq_body1 rfl rfl ?_)))))))))))))
   rw [← txtQ_nt hc8 hc14]
  ·
   refine gc_skip (gq_then (gc_seq (gc_region (mv rfl rfl (asg rfl rfl (gl_nil (gq_then (gc_ret (gq_body1 rfl rfl ?_)))))))))
   rw [← txtQ_nd hc8 hc14]

theorem rat_digits {w0 : World} {h0 : Mem}  (hs : MLe h0 (mem w0)) {bs : List Nat} (hbs : ByB bs) (hls : bs.length ≤ 1000000000) {at0 : Nat} (ha : at0 ≤ bs.length) :
    Calls Try.prog 61 #[.string (strOf bs), vI ↑at0] w0 (Ret w0 h0 (fun _ r => r = vI ↑(at0 + digs (bs.drop at0)))) := by
 refine calls_begin (n := 24) (e := [(0, .string (strOf bs)), (1, vI ↑at0)]) (vs := [.string (strOf bs), vI ↑at0]) Try.func61 rfl rfl (Nat.le_of_ble_eq_true rfl) hs ⟨rfl, rfl, trivial⟩ (gc_seq (gc_region (asg (v := vI (0)) rfl rfl (gl_nil (gq_then (gc_seq (gc_block ?_)))))))
 refine gc_loop (ι := Nat) (fun (k : (Nat)) => at0 ≤ k ∧ k ≤ bs.length ∧ at0 + digs (bs.drop at0) = k + digs (bs.drop k)) (fun (k : (Nat)) => [(0, .string (strOf bs)), (1, vI ↑k)]) (fun (k : (Nat)) => []) (fun (k : (Nat)) => h0) (fun (k : (Nat)) => bs.length - k) at0 ?_ ⟨rfl, rfl, trivial⟩ rfl rfl ?_
 ·
  exact ⟨by omega, by omega, rfl⟩
 ·
  intro k hx
  obtain ⟨hk1, hk2, hk3⟩ := hx
  show GC _ _ _ _ _ _ [(0, .string (strOf bs)), (1, vI ↑k)] [] h0
  refine gc_seq (gc_seq (gc_region (mv rfl rfl (mv rfl rfl (gv (ov_len_s (bs := bs) Try.underlying9 rfl) rfl (gv (ov_lss_i rfl rfl) rfl ?_))))))
  refine gl_cut (ι := Unit) 6 (fun _ => True) (fun _ => [(14, vB (((↑k : Int) < (↑(bs).length : Int)) ∧ ((48 : Nat) ≤ ((bs).getD (k) 0)))), (0, .string (strOf bs)), (1, vI ↑k)]) (fun _ => []) (fun _ => h0) ?_ ?_
  ·
   refine gl_cases ((↑k : Int) < (↑(bs).length : Int)) (fun hg => ?_) (fun hg => ?_)
   ·
    refine gl_val (ov_move (v := .bool true) (congrArg some (vB_true hg))) rfl rfl rfl (gl_on rfl rfl rfl (mv rfl rfl (gl_on rfl rfl rfl (mv rfl rfl (gl_on rfl rfl rfl (gv (ov_index_s (bs := bs) hbs (k) Try.underlying9 rfl rfl (by omega) (by omega)) rfl ?_))))))
    have hlt12 := (hbs : ByB (bs)).lt (k)
    refine gl_on rfl rfl rfl (gv (ov_geq_u (k := .u8) (q := 48) rfl rfl) rfl (gv (ov_pick_t rfl rfl) rfl (gl_nil ?_)))
    refine gq_cut () trivial ⟨?_, rfl, rfl, trivial⟩ rfl rfl
    exact congrArg some (vB_and_t hg)
   ·
    refine gl_val (ov_move (v := .bool false) (congrArg some (vB_false hg))) rfl rfl rfl (gl_off rfl rfl rfl rfl rfl rfl (gl_off rfl rfl rfl rfl rfl rfl (gl_off rfl rfl rfl rfl rfl rfl (gl_off rfl rfl rfl rfl rfl rfl (gv (ov_pick_f rfl rfl) rfl (gl_nil ?_))))))
    refine gq_cut () trivial ⟨?_, rfl, rfl, trivial⟩ rfl rfl
    exact congrArg some (vB_and_f hg)
  ·
   intro _ _
   show GL _ _ _ _ _ _ _ [(14, vB (((↑k : Int) < (↑(bs).length : Int)) ∧ ((48 : Nat) ≤ ((bs).getD (k) 0)))), (0, .string (strOf bs)), (1, vI ↑k)] [] h0
   refine gl_cut (ι := Unit) 6 (fun _ => True) (fun _ => [(20, vB ((((↑k : Int) < (↑(bs).length : Int)) ∧ ((48 : Nat) ≤ ((bs).getD (k) 0))) ∧ (((bs).getD (k) 0) ≤ (57 : Nat)))), (0, .string (strOf bs)), (1, vI ↑k)]) (fun _ => []) (fun _ => h0) ?_ ?_
   ·
    refine gl_cases (((↑k : Int) < (↑(bs).length : Int)) ∧ ((48 : Nat) ≤ ((bs).getD (k) 0))) (fun hg => ?_) (fun hg => ?_)
    ·
     refine gl_val (ov_move (v := .bool true) (congrArg some (vB_true hg))) rfl rfl rfl (gl_on rfl rfl rfl (mv rfl rfl (gl_on rfl rfl rfl (mv rfl rfl (gl_on rfl rfl rfl (gv (ov_index_s (bs := bs) hbs (k) Try.underlying9 rfl rfl (by omega) (by omega)) rfl ?_))))))
     have hlt18 := (hbs : ByB (bs)).lt (k)
     refine gl_on rfl rfl rfl (gv (ov_leq_u (k := .u8) (q := 57) rfl rfl) rfl (gv (ov_pick_t rfl rfl) rfl (gl_nil ?_)))
     refine gq_cut () trivial ⟨?_, rfl, rfl, trivial⟩ rfl rfl
     exact congrArg some (vB_and_t hg)
    ·
     refine gl_val (ov_move (v := .bool false) (congrArg some (vB_false hg))) rfl rfl rfl (gl_off rfl rfl rfl rfl rfl rfl (gl_off rfl rfl rfl rfl rfl rfl (gl_off rfl rfl rfl rfl rfl rfl (gl_off rfl rfl rfl rfl rfl rfl (gv (ov_pick_f rfl rfl) rfl (gl_nil ?_))))))
     refine gq_cut () trivial ⟨?_, rfl, rfl, trivial⟩ rfl rfl
     exact congrArg some (vB_and_f hg)
   ·
    intro _ _
    show GL _ _ _ _ _ _ _ [(20, vB ((((↑k : Int) < (↑(bs).length : Int)) ∧ ((48 : Nat) ≤ ((bs).getD (k) 0))) ∧ (((bs).getD (k) 0) ≤ (57 : Nat)))), (0, .string (strOf bs)), (1, vI ↑k)] [] h0
    refine gl_nil (gq_then ?_)
    refine gc_cond rfl (fun hc20 => ?_) (fun hc20 => ?_)
    ·
     refine gc_skip (gq_then (gc_block (gc_region (mv rfl rfl (gv (ov_add_i (q := 1) rfl rfl (by omega) (by omega)) rfl (asg rfl rfl (gl_nil (gq_in ?_))))))))
     refine gq_round (k + 1) ?_ ?_ ⟨?_, ?_, trivial⟩ ?_ rfl
     ·
      refine ⟨by omega, by omega, ?_⟩
      rw [hk3, digs_step (by omega) hc20.1.2 hc20.2]
      omega
     ·
      omega
     · exact rfl
     · exact congrArg some (congrArg vI (by omega))
     · exact rfl
    ·
     refine gc_exit (gx_then (gx_then (gx_here (gq_then (gc_seq (gc_region (mv rfl rfl (asg rfl rfl (gl_nil (gq_then (gc_ret (gq_body1 rfl rfl ?_))))))))))))
     rw [hk3, digs_stop (fun e => hc20 ⟨⟨by omega, e.2.1⟩, e.2.2⟩)]; rfl

theorem rat_power {w0 : World} {h0 : Mem}  (hs : MLe h0 (mem w0)) {n : Int} (hn : 0 ≤ n) (hn' : n ≤ 100000) :
    Calls Try.prog 65 #[vI n] w0 (Ret w0 h0 (fun h r => Us .u32 h r (limbs (10 ^ n.toNat)))) := by
 refine calls_begin (n := 13) (e := [(0, vI n)]) (vs := [vI n]) Try.func65 rfl rfl (Nat.le_of_ble_eq_true rfl) hs ⟨rfl, trivial⟩ (gc_seq (gc_region (asg rfl rfl (gl_nil (gq_then (gc_seq (gc_region ?_)))))))
 refine gl_call (vs := []) rfl rfl rfl rfl Try.call63 trivial (fun w hs => rat_one hs) ?_
 intro v4 h1 hh1 hr4
 rw [one_limbs] at hr4
 have hlm4 := len_one
 refine asg rfl rfl (gl_nil (gq_then (gc_seq (gc_block ?_))))
 refine gc_loop (ι := Nat × Value × Nat × Mem) (fun (x_ : (Nat × Value × Nat × Mem)) => match x_ with | (k, vo, X, m0) => MLe h1 m0 ∧ (Us .u32 m0 vo (limbs X) ∧ X * 10 ^ k = 10 ^ n.toNat ∧ k ≤ 100000 ∧ (limbs X).length + k ≤ 100001)) (fun (x_ : (Nat × Value × Nat × Mem)) => match x_ with | (k, vo, X, m0) => [(0, vI ↑k), (3, vo)]) (fun (x_ : (Nat × Value × Nat × Mem)) => match x_ with | (k, vo, X, m0) => []) (fun (x_ : (Nat × Value × Nat × Mem)) => match x_ with | (k, vo, X, m0) => m0) (fun (x_ : (Nat × Value × Nat × Mem)) => match x_ with | (k, vo, X, m0) => k) (n.toNat, v4, 1, h1) ?_ ⟨?_, ?_, trivial⟩ rfl rfl ?_
 ·
  refine ⟨MLe.refl _, ?_⟩
  exact ⟨hr4, by rw [Nat.one_mul], by omega, by rw [len_one]; omega⟩
 · exact congrArg some (congrArg vI (by omega))
 · exact rfl
 ·
  intro x hx
  obtain ⟨k, vo, X, m0⟩ := x
  obtain ⟨hmm0, ⟨ho, hX, hk, hl⟩⟩ := hx
  show GC _ _ _ _ _ _ [(0, vI ↑k), (3, vo)] [] m0
  refine gc_seq (gc_seq (gc_region (mv rfl rfl (gv (ov_gtr_i (q := 0) rfl rfl) rfl (gl_nil (gq_then ?_))))))
  refine gc_cond rfl (fun hc6 => ?_) (fun hc6 => ?_)
  ·
   refine gc_skip (gq_then (gc_seq (gc_block (gc_region (mv rfl rfl (gl_newop (new_build1 (kd := .u32) (p := 10) Try.underlying22 info61 rfl rfl rfl) rfl rfl rfl ?_))))))
   intro v10 r10 hr10
   obtain rfl := hr10
   refine gl_freeze_us0 (by intro z hz; simp only [List.mem_singleton] at hz; subst hz; decide) ?_
   intro h2 hh2 h10
   replace ho := ho.mono hh2
   refine gl_call (vs := [_, _]) rfl rfl rfl rfl Try.call67 ⟨rfl, rfl, trivial⟩ (fun w hs => nat_mul hs ho h10 (by omega) (by simp)) ?_
   intro v11 h3 hh3 hr11
   rw [val_limbs, show val [10] = 10 from rfl] at hr11
   refine asg rfl rfl (gl_nil (gq_in (gq_then (gc_region (mv rfl rfl (gv (ov_sub_i (q := 1) rfl rfl (by omega) (by omega)) rfl (asg rfl rfl (gl_nil ?_))))))))
   refine gq_round (k - 1, v11, X * 10, h3) ?_ ?_ ⟨?_, ?_, trivial⟩ ?_ rfl
   ·
    refine ⟨((hmm0.trans hh2).trans hh3), ?_⟩
    refine ⟨hr11, ?_, by omega, ?_⟩
    · rw [← hX, Nat.mul_assoc, ← Nat.pow_succ', Nat.succ_eq_add_one, show k - 1 + 1 = k by omega]
    · have := limbs_len_mul X 10
      rw [limbs_one (t := 10) (by omega) (by omega)] at this
      simp only [List.length_cons, List.length_nil] at this
      omega
   ·
    dsimp only
    omega
   · exact congrArg some (congrArg vI (by omega))
   · exact rfl
   · exact rfl
  ·
   refine gc_exit (gx_then (gx_then (gx_here (gq_then (gc_seq (gc_region (mv rfl rfl (asg rfl rfl (gl_nil (gq_then (gc_ret (gq_body1 rfl rfl ?_))))))))))))
   have hk0 : k = 0 := by omega
   rw [hk0, Nat.pow_zero, Nat.mul_one] at hX
   rw [← hX]
   exact ho

theorem rat_exponent {w0 : World} {h0 : Mem}  (hs : MLe h0 (mem w0)) {bs : List Nat} (hbs : ByB bs) (hls : bs.length ≤ 1000000000) (hne : bs ≠ []) :
    Calls Try.prog 66 #[.string (strOf bs)] w0 (Ret w0 h0 (fun _ r => r = .tuple #[vB (exOk bs ∧ exDown bs), vI ↑(exN bs), vB (exOk bs)])) := by
 have hpos := List.length_pos_iff.2 hne
 refine calls_begin (n := 63) (e := [(0, .string (strOf bs))]) (vs := [.string (strOf bs)]) Try.func66 rfl rfl (Nat.le_of_ble_eq_true rfl) hs ⟨rfl, trivial⟩ (gc_seq (gc_region (asg rfl rfl (asg (v := vI (0)) rfl rfl (asg rfl rfl (gl_nil (gq_then (gc_seq (gc_seq (gc_region (mv rfl rfl (gv (ov_index_s (q := 0) (bs := bs) hbs (0) Try.underlying9 rfl rfl rfl (by first | omega | (have hnn := List.length_pos_iff.2 (by assumption); omega) | (have hnn := List.length_pos_iff.2 (And.left (by assumption)); omega) | (simp only [List.length_drop, List.length_take]; omega))) rfl ?_))))))))))))
 have hlt7 := (hbs : ByB (bs)).lt (0)
 refine gv (ov_neq_u (k := .u8) (q := 101) rfl rfl) rfl ?_
 refine gl_cut (ι := Unit) 5 (fun _ => True) (fun _ => [(13, vB ((((bs).getD (0) 0) ≠ (101 : Nat)) ∧ (((bs).getD (0) 0) ≠ (69 : Nat)))), (0, .string (strOf bs)), (2, .bool false), (3, vI (0))]) (fun _ => []) (fun _ => h0) ?_ ?_
 ·
  refine gl_cases (((bs).getD (0) 0) ≠ (101 : Nat)) (fun hg => ?_) (fun hg => ?_)
  ·
   refine gl_val (ov_move (v := .bool true) (congrArg some (vB_true hg))) rfl rfl rfl (gl_on rfl rfl rfl (mv rfl rfl (gl_on rfl rfl rfl (gv (ov_index_s (q := 0) (bs := bs) hbs (0) Try.underlying9 rfl rfl rfl (by first | omega | (have hnn := List.length_pos_iff.2 (by assumption); omega) | (have hnn := List.length_pos_iff.2 (And.left (by assumption)); omega) | (simp only [List.length_drop, List.length_take]; omega))) rfl ?_))))
   have hlt11 := (hbs : ByB (bs)).lt (0)
   refine gl_on rfl rfl rfl (gv (ov_neq_u (k := .u8) (q := 69) rfl rfl) rfl (gv (ov_pick_t rfl rfl) rfl (gl_nil ?_)))
   refine gq_cut () trivial ⟨?_, rfl, rfl, rfl, trivial⟩ rfl rfl
   exact congrArg some (vB_and_t hg)
  ·
   refine gl_val (ov_move (v := .bool false) (congrArg some (vB_false hg))) rfl rfl rfl (gl_off rfl rfl rfl rfl rfl rfl (gl_off rfl rfl rfl rfl rfl rfl (gl_off rfl rfl rfl rfl rfl rfl (gv (ov_pick_f rfl rfl) rfl (gl_nil ?_)))))
   refine gq_cut () trivial ⟨?_, rfl, rfl, rfl, trivial⟩ rfl rfl
   exact congrArg some (vB_and_f hg)
 ·
  intro _ _
  show GL _ _ _ _ _ _ _ [(13, vB ((((bs).getD (0) 0) ≠ (101 : Nat)) ∧ (((bs).getD (0) 0) ≠ (69 : Nat)))), (0, .string (strOf bs)), (2, .bool false), (3, vI (0))] [] h0
  refine gl_nil (gq_then ?_)
  refine gc_cond rfl (fun hc13 => ?_) (fun hc13 => ?_)
  ·
   refine gc_seq (gc_region (asg rfl rfl (asg (v := vI (0)) rfl rfl (asg rfl rfl (gl_nil (gq_then (gc_ret (gr_then (gq_body3 rfl rfl rfl rfl ?_)))))))))
   have e := exp_bad hc13
   rw [vB_false (fun h => e h.1), vB_false e, exN_f e]; rfl
  ·
   refine gc_skip (gq_then (gc_seq (gc_region (mv rfl rfl (gv (ov_slice_s_l (bs := bs) (p := 1) (1) Try.underlying9 rfl rfl rfl (by first | omega | (have hnn := List.length_pos_iff.2 (by assumption); omega) | (have hnn := List.length_pos_iff.2 (And.left (by assumption)); omega) | (simp only [List.length_drop, List.length_take]; omega))) rfl (asg rfl rfl (gl_nil (gq_then ?_))))))))
   refine gc_cut (ι := List Nat) (fun (u : (List Nat)) => exU bs = u ∧ ByB u ∧ u.length ≤ bs.length) (fun (u : (List Nat)) => [(0, .string (strOf u)), (2, vB (exDown bs)), (3, vI (0))]) (fun (u : (List Nat)) => []) (fun (u : (List Nat)) => h0) ?_ ?_
   ·
    refine gc_seq (gc_region (mv rfl rfl (gv (ov_neq_s (pa := ((bs).drop (1))) (pb := ([] : List Nat)) (hbs.dr (1)) (show ByB [] by unfold ByB; decide) rfl rfl) rfl ?_)))
    refine gl_cut (ι := Unit) 10 (fun _ => True) (fun _ => [(27, vB ((((bs).drop (1)) ≠ ([] : List Nat)) ∧ ((((((bs).drop (1))).getD (0) 0) = (43 : Nat)) ∨ (((((bs).drop (1))).getD (0) 0) = (45 : Nat))))), (2, .bool false), (3, vI (0)), (0, .string (strOf (((bs).drop (1)))))]) (fun _ => []) (fun _ => h0) ?_ ?_
    ·
     refine gl_cases (((bs).drop (1)) ≠ ([] : List Nat)) (fun hg => ?_) (fun hg => ?_)
     ·
      refine gl_val (ov_move (v := .bool true) (congrArg some (vB_true hg))) rfl rfl rfl (gl_on rfl rfl rfl (mv rfl rfl (gl_on rfl rfl rfl (gv (ov_index_s (q := 0) (bs := ((bs).drop (1))) (hbs.dr (1)) (0) Try.underlying9 rfl rfl rfl (by first | omega | (have hnn := List.length_pos_iff.2 (by assumption); omega) | (have hnn := List.length_pos_iff.2 (And.left (by assumption)); omega) | (simp only [List.length_drop, List.length_take]; omega))) rfl ?_))))
      have hlt20 := ((hbs.dr (1)) : ByB (((bs).drop (1)))).lt (0)
      refine gl_on rfl rfl rfl (gv (ov_eql_u (k := .u8) (q := 43) rfl rfl) rfl ?_)
      refine gl_cut (ι := Unit) 5 (fun _ => True) (fun _ => [(26, vB ((((((bs).drop (1))).getD (0) 0) = (43 : Nat)) ∨ (((((bs).drop (1))).getD (0) 0) = (45 : Nat)))), (2, .bool false), (3, vI (0)), (0, .string (strOf (((bs).drop (1))))), (18, .bool true)]) (fun _ => []) (fun _ => h0) ?_ ?_
      ·
       refine gl_cases (((((bs).drop (1))).getD (0) 0) = (43 : Nat)) (fun hg => ?_) (fun hg => ?_)
       ·
        refine gl_on rfl rfl rfl (gl_val (ov_move (v := .bool true) (congrArg some (vB_true hg))) rfl rfl rfl (gl_off rfl rfl rfl rfl rfl rfl (gl_off rfl rfl rfl rfl rfl rfl (gl_off rfl rfl rfl rfl rfl rfl (gl_on rfl rfl rfl (gv (ov_pick_t rfl rfl) rfl (gl_nil ?_)))))))
        refine gq_cut () trivial ⟨?_, rfl, rfl, rfl, rfl, trivial⟩ rfl rfl
        exact congrArg some (vB_or_t hg)
       ·
        refine gl_on rfl rfl rfl (gl_val (ov_move (v := .bool false) (congrArg some (vB_false hg))) rfl rfl rfl (gl_on rfl rfl rfl (mv rfl rfl (gl_on rfl rfl rfl (gv (ov_index_s (q := 0) (bs := ((bs).drop (1))) (hbs.dr (1)) (0) Try.underlying9 rfl rfl rfl (by first | omega | (have hnn := List.length_pos_iff.2 (by assumption); omega) | (have hnn := List.length_pos_iff.2 (And.left (by assumption)); omega) | (simp only [List.length_drop, List.length_take]; omega))) rfl ?_)))))
        have hlt24 := ((hbs.dr (1)) : ByB (((bs).drop (1)))).lt (0)
        refine gl_on rfl rfl rfl (gv (ov_eql_u (k := .u8) (q := 45) rfl rfl) rfl (gl_on rfl rfl rfl (gv (ov_pick_f rfl rfl) rfl (gl_nil ?_))))
        refine gq_cut () trivial ⟨?_, rfl, rfl, rfl, rfl, trivial⟩ rfl rfl
        exact congrArg some (vB_or_f hg)
      ·
       intro _ _
       show GL _ _ _ _ _ _ _ [(26, vB ((((((bs).drop (1))).getD (0) 0) = (43 : Nat)) ∨ (((((bs).drop (1))).getD (0) 0) = (45 : Nat)))), (2, .bool false), (3, vI (0)), (0, .string (strOf (((bs).drop (1))))), (18, .bool true)] [] h0
       refine gv (ov_pick_t rfl rfl) rfl (gl_nil ?_)
       refine gq_cut () trivial ⟨?_, rfl, rfl, rfl, trivial⟩ rfl rfl
       exact congrArg some (vB_and_t hg)
     ·
      refine gl_val (ov_move (v := .bool false) (congrArg some (vB_false hg))) rfl rfl rfl (gl_off rfl rfl rfl rfl rfl rfl (gl_off rfl rfl rfl rfl rfl rfl (gl_off rfl rfl rfl rfl rfl rfl (gl_off rfl rfl rfl rfl rfl rfl (gl_offu rfl rfl rfl rfl rfl (gl_offu rfl rfl rfl rfl rfl (gl_offu rfl rfl rfl rfl rfl (gl_off rfl rfl rfl rfl rfl rfl (gv (ov_pick_f rfl rfl) rfl (gl_nil ?_))))))))))
      refine gq_cut () trivial ⟨?_, rfl, rfl, rfl, trivial⟩ rfl rfl
      exact congrArg some (vB_and_f hg)
    ·
     intro _ _
     show GL _ _ _ _ _ _ _ [(27, vB ((((bs).drop (1)) ≠ ([] : List Nat)) ∧ ((((((bs).drop (1))).getD (0) 0) = (43 : Nat)) ∨ (((((bs).drop (1))).getD (0) 0) = (45 : Nat))))), (2, .bool false), (3, vI (0)), (0, .string (strOf (((bs).drop (1)))))] [] h0
     refine gl_nil (gq_then ?_)
     refine gc_cond rfl (fun hc27 => ?_) (fun hc27 => ?_)
     ·
      refine gc_seq (gc_region (mv rfl rfl (gv (ov_index_s (q := 0) (bs := ((bs).drop (1))) (hbs.dr (1)) (0) Try.underlying9 rfl rfl rfl (by first | omega | (have hnn := List.length_pos_iff.2 (by assumption); omega) | (have hnn := List.length_pos_iff.2 (And.left (by assumption)); omega) | (simp only [List.length_drop, List.length_take]; omega))) rfl ?_)))
      have hlt29 := ((hbs.dr (1)) : ByB (((bs).drop (1)))).lt (0)
      refine gv (ov_eql_u (k := .u8) (q := 45) rfl rfl) rfl (asg rfl rfl (gl_nil (gq_then (gc_region (mv rfl rfl (gv (ov_slice_s_l (bs := ((bs).drop (1))) (p := 1) (1) Try.underlying9 rfl rfl rfl (by first | omega | (have hnn := List.length_pos_iff.2 (by assumption); omega) | (have hnn := List.length_pos_iff.2 (And.left (by assumption)); omega) | (simp only [List.length_drop, List.length_take]; omega))) rfl (asg rfl rfl (gl_nil ?_))))))))
      refine gq_cut ((bs.drop 1).drop 1) ?_ ⟨?_, ?_, ?_, trivial⟩ ?_ rfl
      ·
       exact ⟨exU_t hc27, (hbs.dr 1).dr 1, by simp⟩
      · exact rfl
      · exact congrArg some (vB_iff ⟨fun h => ⟨hc27.1, h⟩, fun h => h.2⟩)
      · exact rfl
      · exact rfl
     ·
      refine gc_skip ?_
      refine gq_cut (bs.drop 1) ?_ ⟨?_, ?_, ?_, trivial⟩ ?_ rfl
      ·
       exact ⟨exU_f hc27, hbs.dr 1, by simp⟩
      · exact rfl
      · exact congrArg some (vB_false (fun h => hc27 ⟨h.1, .inr h.2⟩)).symm
      · exact rfl
      · exact rfl
   ·
    intro u hx
    obtain ⟨hu, hbu, hul⟩ := hx
    show GC _ _ _ _ _ _ [(0, .string (strOf u)), (2, vB (exDown bs)), (3, vI (0))] [] h0
    refine gc_seq (gc_seq (gc_region (mv rfl rfl (gv (ov_eql_s (pa := u) (pb := ([] : List Nat)) hbu (show ByB [] by unfold ByB; decide) rfl rfl) rfl ?_))))
    refine gl_cut (ι := Unit) 5 (fun _ => True) (fun _ => [(39, vB ((u = ([] : List Nat)) ∨ ((3 : Int) < (↑(u).length : Int)))), (0, .string (strOf u)), (2, vB (exDown bs)), (3, vI (0))]) (fun _ => []) (fun _ => h0) ?_ ?_
    ·
     refine gl_cases (u = ([] : List Nat)) (fun hg => ?_) (fun hg => ?_)
     ·
      refine gl_val (ov_move (v := .bool true) (congrArg some (vB_true hg))) rfl rfl rfl (gl_off rfl rfl rfl rfl rfl rfl (gl_off rfl rfl rfl rfl rfl rfl (gl_off rfl rfl rfl rfl rfl rfl (gv (ov_pick_t rfl rfl) rfl (gl_nil ?_)))))
      refine gq_cut () trivial ⟨?_, rfl, rfl, rfl, trivial⟩ rfl rfl
      exact congrArg some (vB_or_t hg)
     ·
      refine gl_val (ov_move (v := .bool false) (congrArg some (vB_false hg))) rfl rfl rfl (gl_on rfl rfl rfl (mv rfl rfl (gl_on rfl rfl rfl (gv (ov_len_s (bs := u) Try.underlying9 rfl) rfl (gl_on rfl rfl rfl (gv (ov_gtr_i (q := 3) rfl rfl) rfl (gv (ov_pick_f rfl rfl) rfl (gl_nil ?_))))))))
      refine gq_cut () trivial ⟨?_, rfl, rfl, rfl, trivial⟩ rfl rfl
      exact congrArg some (vB_or_f hg)
    ·
     intro _ _
     show GL _ _ _ _ _ _ _ [(39, vB ((u = ([] : List Nat)) ∨ ((3 : Int) < (↑(u).length : Int)))), (0, .string (strOf u)), (2, vB (exDown bs)), (3, vI (0))] [] h0
     refine gl_cut (ι := Mem) 7 (fun m_ => MLe h0 m_) (fun _ => [(46, vB (((u = ([] : List Nat)) ∨ ((3 : Int) < (↑(u).length : Int))) ∨ ((↑(0 + digs ((u).drop 0)) : Int) ≠ (↑(u).length : Int)))), (0, .string (strOf u)), (2, vB (exDown bs)), (3, vI (0))]) (fun _ => []) (fun m_ => m_) ?_ ?_
     ·
      refine gl_cases ((u = ([] : List Nat)) ∨ ((3 : Int) < (↑(u).length : Int))) (fun hg => ?_) (fun hg => ?_)
      ·
       refine gl_val (ov_move (v := .bool true) (congrArg some (vB_true hg))) rfl rfl rfl (gl_off rfl rfl rfl rfl rfl rfl (gl_off rfl rfl rfl rfl rfl rfl (gl_off rfl rfl rfl rfl rfl rfl (gl_off rfl rfl rfl rfl rfl rfl (gl_off rfl rfl rfl rfl rfl rfl (gv (ov_pick_t rfl rfl) rfl (gl_nil ?_)))))))
       refine gq_cut h0 (MLe.refl _) ⟨?_, rfl, rfl, rfl, trivial⟩ rfl rfl
       exact congrArg some (vB_or_t hg)
      ·
       refine gl_val (ov_move (v := .bool false) (congrArg some (vB_false hg))) rfl rfl rfl (gl_on rfl rfl rfl (mv rfl rfl (gl_on rfl rfl rfl ?_)))
       refine gl_call (vs := [_, vI (0)]) rfl rfl rfl rfl Try.call61 ⟨rfl, rfl, trivial⟩ (fun w hs => rat_digits (at0 := 0) hs hbu (by omega) (by omega)) ?_
       intro v42 h1 hh1 hr42
       have hdl42 := digs_le u
       subst hr42
       refine gl_on rfl rfl rfl (mv rfl rfl (gl_on rfl rfl rfl (gv (ov_len_s (bs := u) Try.underlying9 rfl) rfl (gl_on rfl rfl rfl (gv (ov_neq_i rfl rfl) rfl (gv (ov_pick_f rfl rfl) rfl (gl_nil ?_)))))))
       refine gq_cut h1 hh1 ⟨?_, rfl, rfl, rfl, trivial⟩ rfl rfl
       exact congrArg some (vB_or_f hg)
     ·
      intro mg7_7 hmmg7_7
      show GL _ _ _ _ _ _ _ [(46, vB (((u = ([] : List Nat)) ∨ ((3 : Int) < (↑(u).length : Int))) ∨ ((↑(0 + digs ((u).drop 0)) : Int) ≠ (↑(u).length : Int)))), (0, .string (strOf u)), (2, vB (exDown bs)), (3, vI (0))] [] mg7_7
      refine gl_nil (gq_then ?_)
      refine gc_cond rfl (fun hc46 => ?_) (fun hc46 => ?_)
      ·
       refine gc_seq (gc_region (asg rfl rfl (asg (v := vI (0)) rfl rfl (asg rfl rfl (gl_nil (gq_then (gc_ret (gr_then (gq_body3 rfl rfl rfl rfl ?_)))))))))
       have e := exp_bad2 hu hc46
       rw [vB_false (fun h => e h.1), vB_false e, exN_f e]; rfl
      ·
       have hok := exp_ok hc13 hu hc46
       have hd3 := hok.2.2
       rw [hu] at hd3
       obtain ⟨hu3, hd3⟩ := hd3
       have hdB := digs_all.1 hd3
       refine gc_skip (gq_then (gc_seq (gc_seq (gc_region (mv rfl rfl (gv (ov_len_s (bs := u) Try.underlying9 rfl) rfl (mv (v := vI (0)) rfl rfl (gl_nil (gq_then (gc_block ?_))))))))))
       refine gc_loop (ι := Nat) (fun (k : (Nat)) => k ≤ u.length) (fun (k : (Nat)) => [(0, .string (strOf u)), (2, vB (exDown bs)), (3, vI ↑(hor (u.take k))), (48, vI ↑u.length), (49, vI ↑k)]) (fun (k : (Nat)) => []) (fun (k : (Nat)) => mg7_7) (fun (k : (Nat)) => u.length - k) 0 ?_ ⟨rfl, rfl, rfl, rfl, rfl, trivial⟩ rfl rfl ?_
       ·
        omega
       ·
        intro k hx
        obtain hk := hx
        show GC _ _ _ _ _ _ [(0, .string (strOf u)), (2, vB (exDown bs)), (3, vI ↑(hor (u.take k))), (48, vI ↑u.length), (49, vI ↑k)] [] mg7_7
        refine gc_seq (gc_region (gv (ov_lss_i rfl rfl) rfl (gl_nil (gq_then (gc_seq ?_)))))
        refine gc_cond rfl (fun hc50 => ?_) (fun hc50 => ?_)
        ·
         refine gc_skip (gq_then (gc_seq (gc_block (gc_seq (gc_region (mv rfl rfl (asg rfl rfl (gl_nil (gq_then (gc_region (mv rfl rfl ?_)))))))))))
         have h99 := hor3 (bs := u.take k) (by unfold digB at *; exact List.all_eq_true.2 fun x hx => List.all_eq_true.1 hdB x (List.mem_of_mem_take hx)) (by rw [List.length_take]; omega)
         refine gv (ov_mul_i (p := 10) rfl rfl (by omega) (by omega)) rfl (mv rfl rfl (mv rfl rfl (gv (ov_index_s (bs := u) hbu (k) Try.underlying9 rfl rfl (by omega) (by omega)) rfl ?_)))
         have hlt56 := (hbu : ByB (u)).lt (k)
         have hdk := digB_get hdB (i := k) (by omega)
         refine gv (ov_sub_u (k := .u8) (q := 48) (W := 256) rfl rfl rfl rfl (by omega) (by omega)) rfl (gv (ov_conv_ui (k := .u8) Try.underlying5 Try.underlying3 rfl (by omega)) rfl (gv (ov_add_i rfl rfl (by omega) (by omega)) rfl (asg rfl rfl (gl_nil (gq_in (gq_keep (e' := [(0, _), (2, _), (48, _), (49, _), (3, _)]) ⟨rfl, rfl, rfl, rfl, rfl, trivial⟩ (gq_then (gc_region (gv (ov_add_i (q := 1) rfl rfl (by omega) (by omega)) rfl (mv rfl rfl (gl_nil ?_)))))))))))
         refine gq_round (k + 1) ?_ ?_ ⟨?_, ?_, ?_, ?_, ?_, trivial⟩ ?_ rfl
         ·
          omega
         ·
          omega
         · exact rfl
         · exact rfl
         · exact congrArg some (congrArg vI (by rw [hor_take (by omega)]; omega))
         · exact rfl
         · exact congrArg some (congrArg vI (by omega))
         · exact rfl
        ·
         refine gc_exit (gx_then (gx_then (gx_here (gq_then (gc_seq (gc_region (mv rfl rfl (mv rfl rfl (asg rfl rfl (asg rfl rfl (asg rfl rfl (gl_nil (gq_then ?_)))))))))))))
         refine gc_ret (gq_body3 rfl rfl rfl rfl ?_)
         have e : k = u.length := by omega
         rw [vB_iff (q := exOk bs ∧ exDown bs) ⟨fun h => ⟨hok, h⟩, fun h => h.2⟩, vB_true hok, exN_t hok, hu, e, List.take_length]

set_option maxHeartbeats 1000000 in
theorem rat_parse {w0 : World} {h0 : Mem}  (hs : MLe h0 (mem w0)) {bs : List Nat} (hbs : ByB bs) (hls : bs.length ≤ 9223372036854775807) :
    Calls Try.prog 16 #[.string (strOf bs)] w0 (Ret w0 h0 (fun h r => ∃ u, r = .tuple #[u, vI (parQ bs).1] ∧ IsRat h u (parQ bs).2)) := by
 refine calls_begin (n := 126) (e := [(0, .string (strOf bs))]) (vs := [.string (strOf bs)]) Try.func16 rfl rfl (Nat.le_of_ble_eq_true rfl) hs ⟨rfl, trivial⟩ (gc_seq (gc_region (gl_newop (new_alloc (cs := [vB ((0 : Rat).num < 0), .slice none 0 0, .slice none 0 0]) info27 rfl (by simp only [zb]; rfl)) rfl rfl rfl ?_)))
 intro v2 r2 hr2
 obtain ⟨b2, rfl, rfl⟩ := hr2
 refine asg (v := vI (0)) rfl rfl (gl_nil (gq_then (gc_seq (gc_seq (gc_region (mv rfl rfl (gv (ov_len_s (bs := bs) Try.underlying9 rfl) rfl (gv (ov_gtr_i (q := 4096) rfl rfl) rfl (gl_nil (gq_then ?_))))))))))
 refine gc_cond rfl (fun hc17 => ?_) (fun hc17 => ?_)
 ·
  refine gc_seq (gc_region (gv (ov_build_parts (ps' := []) (vs := [vB ((0 : Rat).num < 0), .slice none 0 0, .slice none 0 0]) Try.underlying27 info27 rfl (places27 Try.underlying27) trivial (by simp only [zb]; rfl)) rfl (gl_upd (A := []) (r' := .var b2 27 [vB ((0 : Rat).num < 0), .slice none 0 0, .slice none 0 0]) (upd_store_var (k := 0) (cs := [_, _, _]) (vs := [_, _, _]) rfl rfl rfl rfl size27 (Nat.le_of_ble_eq_true rfl)) rfl rfl rfl (asg (v := vI (2)) rfl rfl (gl_nil (gq_then (gc_ret (gr_then (gq_res (fun E S => run_res2 rfl (rv_agg (cs := [_, _, _]) (.head _) Try.underlying27 rfl size27 rfl) (rv_tmp rfl) E S) ?_)))))))))
  rw [parQ_big hc17]
  exact ⟨_, rfl, IsRat.zero _⟩
 ·
  have hpar := parQ_fin hc17
  refine gc_skip (gq_then (gc_seq (gc_region (mv rfl rfl (gv (ov_len_s (bs := bs) Try.underlying9 rfl) rfl (gv (ov_gtr_i (q := 0) rfl rfl) rfl ?_))))))
  refine gl_cut (ι := Unit) 5 (fun _ => True) (fun _ => [(26, vB (((0 : Int) < (↑(bs).length : Int)) ∧ (((bs).getD (0) 0) = (45 : Nat)))), (0, .string (strOf bs)), (2, vP b2 0)]) (fun _ => [.var b2 27 [vB ((0 : Rat).num < 0), .slice none 0 0, .slice none 0 0]]) (fun _ => h0) ?_ ?_
  ·
   refine gl_cases ((0 : Int) < (↑(bs).length : Int)) (fun hg => ?_) (fun hg => ?_)
   ·
    refine gl_val (ov_move (v := .bool true) (congrArg some (vB_true hg))) rfl rfl rfl (gl_on rfl rfl rfl (mv rfl rfl (gl_on rfl rfl rfl (gv (ov_index_s (q := 0) (bs := bs) hbs (0) Try.underlying9 rfl rfl rfl (by first | omega | (have hnn := List.length_pos_iff.2 (by assumption); omega) | (have hnn := List.length_pos_iff.2 (And.left (by assumption)); omega) | (simp only [List.length_drop, List.length_take]; omega))) rfl ?_))))
    have hlt24 := (hbs : ByB (bs)).lt (0)
    refine gl_on rfl rfl rfl (gv (ov_eql_u (k := .u8) (q := 45) rfl rfl) rfl (gv (ov_pick_t rfl rfl) rfl (gl_nil ?_)))
    refine gq_cut () trivial ⟨?_, rfl, rfl, trivial⟩ rfl rfl
    exact congrArg some (vB_and_t hg)
   ·
    refine gl_val (ov_move (v := .bool false) (congrArg some (vB_false hg))) rfl rfl rfl (gl_off rfl rfl rfl rfl rfl rfl (gl_off rfl rfl rfl rfl rfl rfl (gl_off rfl rfl rfl rfl rfl rfl (gv (ov_pick_f rfl rfl) rfl (gl_nil ?_)))))
    refine gq_cut () trivial ⟨?_, rfl, rfl, trivial⟩ rfl rfl
    exact congrArg some (vB_and_f hg)
  ·
   intro _ _
   show GL _ _ _ _ _ _ _ [(26, vB (((0 : Int) < (↑(bs).length : Int)) ∧ (((bs).getD (0) 0) = (45 : Nat)))), (0, .string (strOf bs)), (2, vP b2 0)] [.var b2 27 [vB ((0 : Rat).num < 0), .slice none 0 0, .slice none 0 0]] h0
   refine asg rfl rfl (gl_nil (gq_then ?_))
   refine gc_cut (ι := List Nat) (fun (s1 : (List Nat)) => parBody bs = s1 ∧ ByB s1 ∧ s1.length ≤ bs.length) (fun (s1 : (List Nat)) => [(0, .string (strOf s1)), (2, vP b2 0), (4, vB (parNeg bs))]) (fun (s1 : (List Nat)) => [.var b2 27 [vB ((0 : Rat).num < 0), .slice none 0 0, .slice none 0 0]]) (fun (s1 : (List Nat)) => h0) ?_ ?_
   ·
    refine gc_seq (gc_region (mv rfl rfl (gl_nil (gq_then ?_))))
    refine gc_cond rfl (fun hc27 => ?_) (fun hc27 => ?_)
    ·
     refine gc_region (mv rfl rfl (gv (ov_slice_s_l (bs := bs) (p := 1) (1) Try.underlying9 rfl rfl rfl (by first | omega | (have hnn := List.length_pos_iff.2 (by assumption); omega) | (have hnn := List.length_pos_iff.2 (And.left (by assumption)); omega) | (simp only [List.length_drop, List.length_take]; omega))) rfl (asg rfl rfl (gl_nil ?_))))
     refine gq_cut (bs.drop 1) ?_ ⟨?_, ?_, ?_, trivial⟩ ?_ rfl
     ·
      exact ⟨parBody_t hc27, hbs.dr 1, by simp⟩
     · exact rfl
     · exact rfl
     · exact rfl
     · exact rfl
    ·
     refine gc_skip ?_
     refine gq_cut (bs) ?_ ⟨?_, ?_, ?_, trivial⟩ ?_ rfl
     ·
      exact ⟨parBody_f hc27, hbs, Nat.le_refl _⟩
     · exact rfl
     · exact rfl
     · exact rfl
     · exact rfl
   ·
    intro s1 hx
    obtain ⟨hs1, hbs1, hls1⟩ := hx
    show GC _ _ _ _ _ _ [(0, .string (strOf s1)), (2, vP b2 0), (4, vB (parNeg bs))] [.var b2 27 [vB ((0 : Rat).num < 0), .slice none 0 0, .slice none 0 0]] h0
    rw [hs1] at hpar
    refine gc_seq (gc_region (mv rfl rfl ?_))
    refine gl_call (vs := [_, vI (0)]) rfl rfl rfl rfl Try.call61 ⟨rfl, rfl, trivial⟩ (fun w hs => rat_digits (at0 := 0) hs hbs1 (by omega) (by omega)) ?_
    intro v31 h1 hh1 hr31
    have hdl := digs_le s1
    simp only [List.drop_zero, Nat.zero_add] at hr31
    subst hr31
    refine asg rfl rfl (gl_nil (gq_then (gc_seq (gc_region (mv rfl rfl (mv rfl rfl (gv (ov_slice_s_h (bs := s1) (digs s1) Try.underlying9 rfl rfl (by omega) (by first | omega | (have hnn := List.length_pos_iff.2 (by assumption); omega) | (have hnn := List.length_pos_iff.2 (And.left (by assumption)); omega) | (simp only [List.length_drop, List.length_take]; omega))) rfl ?_)))))))
    refine gl_call (vs := [_]) rfl rfl rfl rfl Try.call62 ⟨rfl, trivial⟩ (fun w hs => nat_parse hs (by rw [Us.str_size]; simp only [List.length_take, List.length_drop, List.length_append]; omega)) ?_
    intro v36 h2 hh2 hr36
    obtain ⟨u36, rfl, hu36⟩ := hr36
    rw [byt_strOf (hbs1.tk (digs s1))] at hu36 ⊢
    rw [pval_take (by omega)] at hu36
    rw [perr_take (by omega)]
    have hlN := hor_limbs (digs_digB s1)
    rw [List.length_take] at hlN
    refine mv rfl rfl (gv (ov_extract (vs := [_, _]) rfl rfl) rfl (gv (ov_extract (vs := [_, _]) rfl rfl) rfl (asg rfl rfl (asg rfl rfl (gl_nil (gq_then (gc_seq (gc_seq (gc_region (mv rfl rfl (gv (ov_neq_i (q := 0) rfl rfl) rfl (gl_nil (gq_keep (e' := [(0, _), (2, _), (4, _), (5, _), (6, _), (40, _)]) ⟨rfl, rfl, rfl, rfl, rfl, rfl, trivial⟩ ?_)))))))))))))
    refine gq_then ?_
    refine gc_cond rfl (fun hc40 => ?_) (fun hc40 => ?_)
    ·
     refine gc_seq (gc_region (gv (ov_build_parts (ps' := []) (vs := [vB ((0 : Rat).num < 0), .slice none 0 0, .slice none 0 0]) Try.underlying27 info27 rfl (places27 Try.underlying27) trivial (by simp only [zb]; rfl)) rfl (gl_upd (A := []) (r' := .var b2 27 [vB ((0 : Rat).num < 0), .slice none 0 0, .slice none 0 0]) (upd_store_var (k := 0) (cs := [_, _, _]) (vs := [_, _, _]) rfl rfl rfl rfl size27 (Nat.le_of_ble_eq_true rfl)) rfl rfl rfl (asg (v := vI (4)) rfl rfl (gl_nil (gq_then (gc_ret (gr_then (gq_res (fun E S => run_res2 rfl (rv_agg (cs := [_, _, _]) (.head _) Try.underlying27 rfl size27 rfl) (rv_tmp rfl) E S) ?_)))))))))
     rw [hpar, fin2_none (err4.1 hc40)]
     exact ⟨_, rfl, IsRat.zero _⟩
    ·
     have hd0 : digs s1 ≠ 0 := fun e => hc40 (err4.2 e)
     refine gc_skip (gq_then (gc_seq (gc_region (mv rfl rfl (mv rfl rfl (gv (ov_slice_s_l (bs := s1) (digs s1) Try.underlying9 rfl rfl (by omega) (by first | omega | (have hnn := List.length_pos_iff.2 (by assumption); omega) | (have hnn := List.length_pos_iff.2 (And.left (by assumption)); omega) | (simp only [List.length_drop, List.length_take]; omega))) rfl (asg rfl rfl (gl_nil (gq_then (gc_seq (gc_region ?_)))))))))))
     refine gl_call (vs := []) rfl rfl rfl rfl Try.call63 trivial (fun w hs => rat_one hs) ?_
     intro v45 h3 hh3 hr45
     rw [one_limbs] at hr45
     have hlm45 := len_one
     refine asg rfl rfl (gl_nil (gq_then ?_))
     refine gc_cut (ι := Value × Nat × List Nat × Mem) (fun (x_ : (Value × Nat × List Nat × Mem)) => match x_ with | (vb, B, r, m1) => MLe h3 m1 ∧ (Us .u32 m1 vb (limbs B) ∧ B ≠ 0 ∧ (limbs B).length ≤ 5000 ∧ ByB r ∧ r.length ≤ s1.length ∧ ((r = [] ∧ fin2 (parNeg bs) s1 = fin3 (parNeg bs) (hor (s1.take (digs s1))) B []) ∨ (B = 1 ∧ r = s1.drop (digs s1) ∧ ¬ slash r)))) (fun (x_ : (Value × Nat × List Nat × Mem)) => match x_ with | (vb, B, r, m1) => [(0, .string (strOf s1)), (2, vP b2 0), (4, vB (parNeg bs)), (5, vI (↑(digs s1) : Int)), (6, u36), (8, .string (strOf r)), (9, vb)]) (fun (x_ : (Value × Nat × List Nat × Mem)) => match x_ with | (vb, B, r, m1) => [.var b2 27 [vB ((0 : Rat).num < 0), .slice none 0 0, .slice none 0 0]]) (fun (x_ : (Value × Nat × List Nat × Mem)) => match x_ with | (vb, B, r, m1) => m1) ?_ ?_
     ·
      refine gc_seq (gc_region (mv rfl rfl (gv (ov_neq_s (pa := ((s1).drop (digs s1))) (pb := ([] : List Nat)) (hbs1.dr (digs s1)) (show ByB [] by unfold ByB; decide) rfl rfl) rfl ?_)))
      refine gl_cut (ι := Unit) 5 (fun _ => True) (fun _ => [(52, vB ((((s1).drop (digs s1)) ≠ ([] : List Nat)) ∧ (((((s1).drop (digs s1))).getD (0) 0) = (47 : Nat)))), (0, .string (strOf s1)), (2, vP b2 0), (4, vB (parNeg bs)), (5, vI (↑(digs s1) : Int)), (6, u36), (8, .string (strOf (((s1).drop (digs s1))))), (9, v45)]) (fun _ => [.var b2 27 [vB ((0 : Rat).num < 0), .slice none 0 0, .slice none 0 0]]) (fun _ => h3) ?_ ?_
      ·
       refine gl_cases (((s1).drop (digs s1)) ≠ ([] : List Nat)) (fun hg => ?_) (fun hg => ?_)
       ·
        refine gl_val (ov_move (v := .bool true) (congrArg some (vB_true hg))) rfl rfl rfl (gl_on rfl rfl rfl (mv rfl rfl (gl_on rfl rfl rfl (gv (ov_index_s (q := 0) (bs := ((s1).drop (digs s1))) (hbs1.dr (digs s1)) (0) Try.underlying9 rfl rfl rfl (by first | omega | (have hnn := List.length_pos_iff.2 (by assumption); omega) | (have hnn := List.length_pos_iff.2 (And.left (by assumption)); omega) | (simp only [List.length_drop, List.length_take]; omega))) rfl ?_))))
        have hlt50 := ((hbs1.dr (digs s1)) : ByB (((s1).drop (digs s1)))).lt (0)
        refine gl_on rfl rfl rfl (gv (ov_eql_u (k := .u8) (q := 47) rfl rfl) rfl (gv (ov_pick_t rfl rfl) rfl (gl_nil ?_)))
        refine gq_cut () trivial ⟨?_, rfl, rfl, rfl, rfl, rfl, rfl, rfl, trivial⟩ rfl rfl
        exact congrArg some (vB_and_t hg)
       ·
        refine gl_val (ov_move (v := .bool false) (congrArg some (vB_false hg))) rfl rfl rfl (gl_off rfl rfl rfl rfl rfl rfl (gl_off rfl rfl rfl rfl rfl rfl (gl_off rfl rfl rfl rfl rfl rfl (gv (ov_pick_f rfl rfl) rfl (gl_nil ?_)))))
        refine gq_cut () trivial ⟨?_, rfl, rfl, rfl, rfl, rfl, rfl, rfl, trivial⟩ rfl rfl
        exact congrArg some (vB_and_f hg)
      ·
       intro _ _
       show GL _ _ _ _ _ _ _ [(52, vB ((((s1).drop (digs s1)) ≠ ([] : List Nat)) ∧ (((((s1).drop (digs s1))).getD (0) 0) = (47 : Nat)))), (0, .string (strOf s1)), (2, vP b2 0), (4, vB (parNeg bs)), (5, vI (↑(digs s1) : Int)), (6, u36), (8, .string (strOf (((s1).drop (digs s1))))), (9, v45)] [.var b2 27 [vB ((0 : Rat).num < 0), .slice none 0 0, .slice none 0 0]] h3
       refine gl_nil (gq_then ?_)
       refine gc_cond rfl (fun hc52 => ?_) (fun hc52 => ?_)
       ·
        refine gc_seq (gc_region (mv rfl rfl (gv (ov_slice_s_l (bs := ((s1).drop (digs s1))) (p := 1) (1) Try.underlying9 rfl rfl rfl (by first | omega | (have hnn := List.length_pos_iff.2 (by assumption); omega) | (have hnn := List.length_pos_iff.2 (And.left (by assumption)); omega) | (simp only [List.length_drop, List.length_take]; omega))) rfl ?_)))
        refine gl_call (vs := [_]) rfl rfl rfl rfl Try.call62 ⟨rfl, trivial⟩ (fun w hs => nat_parse hs (by rw [Us.str_size]; simp only [List.length_take, List.length_drop, List.length_append]; omega)) ?_
        intro v56 h4 hh4 hr56
        obtain ⟨u56, rfl, hu56⟩ := hr56
        rw [byt_strOf ((hbs1.dr (digs s1)).dr (1))] at hu56 ⊢
        refine mv rfl rfl (gv (ov_extract (vs := [_, _]) rfl rfl) rfl (gv (ov_extract (vs := [_, _]) rfl rfl) rfl (asg rfl rfl (asg rfl rfl (gl_nil (gq_then (gc_seq (gc_seq (gc_region (mv rfl rfl (gv (ov_neq_i (q := 0) rfl rfl) rfl (gl_nil (gq_keep (e' := [(0, _), (2, _), (4, _), (5, _), (6, _), (9, _), (60, _)]) ⟨rfl, rfl, rfl, rfl, rfl, rfl, rfl, trivial⟩ ?_)))))))))))))
        refine gq_then ?_
        refine gc_cond rfl (fun hc60 => ?_) (fun hc60 => ?_)
        ·
         refine gc_seq (gc_region (gv (ov_build_parts (ps' := []) (vs := [vB ((0 : Rat).num < 0), .slice none 0 0, .slice none 0 0]) Try.underlying27 info27 rfl (places27 Try.underlying27) trivial (by simp only [zb]; rfl)) rfl (gl_upd (A := []) (r' := .var b2 27 [vB ((0 : Rat).num < 0), .slice none 0 0, .slice none 0 0]) (upd_store_var (k := 0) (cs := [_, _, _]) (vs := [_, _, _]) rfl rfl rfl rfl size27 (Nat.le_of_ble_eq_true rfl)) rfl rfl rfl (asg (v := vI (4)) rfl rfl (gl_nil (gq_then (gc_ret (gr_then (gr_then (gq_res (fun E S => run_res2 rfl (rv_agg (cs := [_, _, _]) (.head _) Try.underlying27 rfl size27 rfl) (rv_tmp rfl) E S) ?_))))))))))
         rw [hpar, fin2_slash_bad hd0 rfl hc52 ((perr_ne (by simp; omega)).1 hc60)]
         exact ⟨_, rfl, IsRat.zero _⟩
        ·
         have hok2 := fun e => hc60 ((perr_ne (by simp; omega)).2 e)
         have hdB := digs_all.1 (Classical.not_not.1 fun e => hok2 (.inr e))
         rw [pval_dig (by simp; omega) hdB] at hu56
         have hlB := hor_limbs hdB
         have hdl3 := digs_le ((s1.drop (digs s1)).drop 1)
         rw [List.length_drop, List.length_drop] at hdl3 hlB
         refine gc_skip (gq_then (gc_seq (gc_seq (gc_region (mv rfl rfl ?_)))))
         refine gl_call (vs := [_]) rfl rfl rfl rfl Try.call64 ⟨rfl, trivial⟩ (fun w hs => nat_bits hs hu56 (by omega)) ?_
         intro v63 h5 hh5 hr63
         try simp only [val_limbs] at hr63
         subst hr63
         refine gv (ov_eql_i (q := 0) rfl rfl) rfl (gl_nil (gq_then ?_))
         refine gc_cond rfl (fun hc64 => ?_) (fun hc64 => ?_)
         ·
          refine gc_seq (gc_region (gv (ov_build_parts (ps' := []) (vs := [vB ((0 : Rat).num < 0), .slice none 0 0, .slice none 0 0]) Try.underlying27 info27 rfl (places27 Try.underlying27) trivial (by simp only [zb]; rfl)) rfl (gl_upd (A := []) (r' := .var b2 27 [vB ((0 : Rat).num < 0), .slice none 0 0, .slice none 0 0]) (upd_store_var (k := 0) (cs := [_, _, _]) (vs := [_, _, _]) rfl rfl rfl rfl size27 (Nat.le_of_ble_eq_true rfl)) rfl rfl rfl (asg (v := vI (3)) rfl rfl (gl_nil (gq_keep (e' := [(2, _), (3, _)]) ⟨rfl, rfl, trivial⟩ (gq_then (gc_ret (gr_then (gr_then (gq_res (fun E S => run_res2 rfl (rv_agg (cs := [_, _, _]) (.head _) Try.underlying27 rfl size27 rfl) (rv_tmp rfl) E S) ?_)))))))))))
          rw [hpar, fin2_slash_zero hd0 rfl hc52 hok2 (bitsN_eq_zero.1 (by omega))]
          exact ⟨_, rfl, IsRat.zero _⟩
         ·
          have hB0 : hor ((s1.drop (digs s1)).drop 1) ≠ 0 := fun e => hc64 (by rw [e]; rfl)
          refine gc_skip (gq_then (gc_region (asg rfl rfl (gl_nil ?_))))
          refine gq_cut (u56, hor ((s1.drop (digs s1)).drop 1), [], h5) ?_ ⟨?_, ?_, ?_, ?_, ?_, ?_, ?_, trivial⟩ ?_ rfl
          ·
           refine ⟨(hh4.trans hh5), ?_⟩
           replace hu56 := hu56.mono hh5
           exact ⟨hu56, hB0, by have h9 := List.length_drop (i := 1) (l := s1.drop (digs s1)); have h10 := List.length_drop (i := digs s1) (l := s1); omega, ByB.nil, by simp, .inl ⟨rfl, fin2_slash hd0 rfl hc52 hok2 hB0⟩⟩
          · exact rfl
          · exact rfl
          · exact rfl
          · exact rfl
          · exact rfl
          · exact rfl
          · exact rfl
          · exact rfl
       ·
        refine gc_skip ?_
        refine gq_cut (v45, 1, s1.drop (digs s1), h3) ?_ ⟨?_, ?_, ?_, ?_, ?_, ?_, ?_, trivial⟩ ?_ rfl
        ·
         refine ⟨MLe.refl _, ?_⟩
         exact ⟨hr45, by omega, by rw [len_one]; omega, hbs1.dr _, by simp, .inr ⟨rfl, rfl, hc52⟩⟩
        · exact rfl
        · exact rfl
        · exact rfl
        · exact rfl
        · exact rfl
        · exact rfl
        · exact rfl
        · exact rfl
     ·
      intro x hx
      obtain ⟨vb, B, r, m1⟩ := x
      obtain ⟨hmm1, ⟨hvb, hB0, hlB, hbr, hlr, hor1⟩⟩ := hx
      show GC _ _ _ _ _ _ [(0, .string (strOf s1)), (2, vP b2 0), (4, vB (parNeg bs)), (5, vI (↑(digs s1) : Int)), (6, u36), (8, .string (strOf r)), (9, vb)] [.var b2 27 [vB ((0 : Rat).num < 0), .slice none 0 0, .slice none 0 0]] m1
      refine gc_cut (ι := Value × Nat × Value × Nat × List Nat × Mem) (fun (x_ : (Value × Nat × Value × Nat × List Nat × Mem)) => match x_ with | (va, A, vc, D, r2, m2) => MLe m1 m2 ∧ (Us .u32 m2 va (limbs A) ∧ Us .u32 m2 vc (limbs D) ∧ D ≠ 0 ∧ (limbs A).length ≤ 10000 ∧ (limbs D).length ≤ 10000 ∧ ByB r2 ∧ r2.length ≤ s1.length ∧ fin2 (parNeg bs) s1 = fin3 (parNeg bs) A D r2)) (fun (x_ : (Value × Nat × Value × Nat × List Nat × Mem)) => match x_ with | (va, A, vc, D, r2, m2) => [(2, vP b2 0), (4, vB (parNeg bs)), (6, va), (8, .string (strOf r2)), (9, vc)]) (fun (x_ : (Value × Nat × Value × Nat × List Nat × Mem)) => match x_ with | (va, A, vc, D, r2, m2) => [.var b2 27 [vB ((0 : Rat).num < 0), .slice none 0 0, .slice none 0 0]]) (fun (x_ : (Value × Nat × Value × Nat × List Nat × Mem)) => match x_ with | (va, A, vc, D, r2, m2) => m2) ?_ ?_
      ·
       refine gc_seq (gc_region (mv rfl rfl (gv (ov_neq_s (pa := r) (pb := ([] : List Nat)) hbr (show ByB [] by unfold ByB; decide) rfl rfl) rfl ?_)))
       refine gl_cut (ι := Unit) 5 (fun _ => True) (fun _ => [(72, vB ((r ≠ ([] : List Nat)) ∧ (((r).getD (0) 0) = (46 : Nat)))), (0, .string (strOf s1)), (2, vP b2 0), (4, vB (parNeg bs)), (5, vI (↑(digs s1) : Int)), (6, u36), (8, .string (strOf r)), (9, vb)]) (fun _ => [.var b2 27 [vB ((0 : Rat).num < 0), .slice none 0 0, .slice none 0 0]]) (fun _ => m1) ?_ ?_
       ·
        refine gl_cases (r ≠ ([] : List Nat)) (fun hg => ?_) (fun hg => ?_)
        ·
         refine gl_val (ov_move (v := .bool true) (congrArg some (vB_true hg))) rfl rfl rfl (gl_on rfl rfl rfl (mv rfl rfl (gl_on rfl rfl rfl (gv (ov_index_s (q := 0) (bs := r) hbr (0) Try.underlying9 rfl rfl rfl (by first | omega | (have hnn := List.length_pos_iff.2 (by assumption); omega) | (have hnn := List.length_pos_iff.2 (And.left (by assumption)); omega) | (simp only [List.length_drop, List.length_take]; omega))) rfl ?_))))
         have hlt70 := (hbr : ByB (r)).lt (0)
         refine gl_on rfl rfl rfl (gv (ov_eql_u (k := .u8) (q := 46) rfl rfl) rfl (gv (ov_pick_t rfl rfl) rfl (gl_nil ?_)))
         refine gq_cut () trivial ⟨?_, rfl, rfl, rfl, rfl, rfl, rfl, rfl, trivial⟩ rfl rfl
         exact congrArg some (vB_and_t hg)
        ·
         refine gl_val (ov_move (v := .bool false) (congrArg some (vB_false hg))) rfl rfl rfl (gl_off rfl rfl rfl rfl rfl rfl (gl_off rfl rfl rfl rfl rfl rfl (gl_off rfl rfl rfl rfl rfl rfl (gv (ov_pick_f rfl rfl) rfl (gl_nil ?_)))))
         refine gq_cut () trivial ⟨?_, rfl, rfl, rfl, rfl, rfl, rfl, rfl, trivial⟩ rfl rfl
         exact congrArg some (vB_and_f hg)
       ·
        intro _ _
        show GL _ _ _ _ _ _ _ [(72, vB ((r ≠ ([] : List Nat)) ∧ (((r).getD (0) 0) = (46 : Nat)))), (0, .string (strOf s1)), (2, vP b2 0), (4, vB (parNeg bs)), (5, vI (↑(digs s1) : Int)), (6, u36), (8, .string (strOf r)), (9, vb)] [.var b2 27 [vB ((0 : Rat).num < 0), .slice none 0 0, .slice none 0 0]] m1
        refine gl_nil (gq_then ?_)
        refine gc_cond rfl (fun hc72 => ?_) (fun hc72 => ?_)
        ·
         refine gc_seq (gc_region (mv rfl rfl ?_))
         refine gl_call (vs := [_, vI (1)]) rfl rfl rfl rfl Try.call61 ⟨rfl, rfl, trivial⟩ (fun w hs => rat_digits (at0 := 1) hs hbr (by omega) (by have hnn := List.length_pos_iff.2 hc72.1; omega)) ?_
         intro v74 h4 hh4 hr74
         have hdl2 := digs_le (r.drop 1)
         rw [List.length_drop] at hdl2
         subst hr74
         have hnn := List.length_pos_iff.2 hc72.1
         rcases hor1 with ⟨hr0, _⟩ | ⟨hB1, hr0, hnsl⟩
         · exact absurd hr0 hc72.1
         refine asg rfl rfl (gl_nil (gq_then (gc_seq (gc_seq (gc_region (mv rfl rfl (gv (ov_eql_i (q := 1) rfl rfl) rfl (gl_nil (gq_then ?_)))))))))
         refine gc_cond rfl (fun hc76 => ?_) (fun hc76 => ?_)
         ·
          refine gc_keep (e' := [(2, _)]) ⟨rfl, trivial⟩ (gc_seq (gc_region (gv (ov_build_parts (ps' := []) (vs := [vB ((0 : Rat).num < 0), .slice none 0 0, .slice none 0 0]) Try.underlying27 info27 rfl (places27 Try.underlying27) trivial (by simp only [zb]; rfl)) rfl (gl_upd (A := []) (r' := .var b2 27 [vB ((0 : Rat).num < 0), .slice none 0 0, .slice none 0 0]) (upd_store_var (k := 0) (cs := [_, _, _]) (vs := [_, _, _]) rfl rfl rfl rfl size27 (Nat.le_of_ble_eq_true rfl)) rfl rfl rfl (asg (v := vI (4)) rfl rfl (gl_nil (gq_then (gc_ret (gr_then (gr_then (gq_res (fun E S => run_res2 rfl (rv_agg (cs := [_, _, _]) (.head _) Try.underlying27 rfl size27 rfl) (rv_tmp rfl) E S) ?_)))))))))))
          rw [hpar, fin2_dot_bad hd0 hr0 hnsl hc72 (by omega)]
          exact ⟨_, rfl, IsRat.zero _⟩
         ·
          have hdd : digs (r.drop 1) ≠ 0 := by omega
          refine gc_skip (gq_then (gc_seq ?_))
          refine gc_draw 12 _ [] [(0, .q), (1, .q), (2, .q), (3, .q), (4, .q), (5, .q), (6, .q), (7, .c), (8, .q), (9, .q), (10, .q), (11, .q)] mixed (fun x hx => by cases hx) (by kernel_rfl) (fun x hx => by cases hx) (fun r hr => hr) (w_q rfl (fun h' L' hh hR => ov_move rfl) rfl (w_q rfl (fun h' L' hh hR => ov_move rfl) rfl (w_q rfl (fun h' L' hh hR => ov_slice_s_h (bs := s1) (digs s1) Try.underlying9 rfl rfl (by omega) (by first | omega | (have hnn := List.length_pos_iff.2 (by assumption); omega) | (have hnn := List.length_pos_iff.2 (And.left (by assumption)); omega) | (simp only [List.length_drop, List.length_take]; omega))) rfl (w_q rfl (fun h' L' hh hR => ov_move rfl) rfl (w_q rfl (fun h' L' hh hR => ov_move rfl) rfl (w_q rfl (fun h' L' hh hR => ov_slice_s_lh (bs := r) (p := 1) (1) (1 + digs (r.drop 1)) Try.underlying9 rfl rfl rfl rfl (by omega) (by first | omega | (have hnn := List.length_pos_iff.2 (by assumption); omega) | (have hnn := List.length_pos_iff.2 (And.left (by assumption)); omega) | (simp only [List.length_drop, List.length_take]; omega)) (by first | omega | (have hnn := List.length_pos_iff.2 (by assumption); omega) | (have hnn := List.length_pos_iff.2 (And.left (by assumption)); omega) | (simp only [List.length_drop, List.length_take]; omega))) rfl (w_q rfl (fun h' L' hh hR => ov_add_s (pa := ((s1).take (digs s1))) (pb := (((r).drop (1)).take ((1 + digs (r.drop 1)) - (1)))) rfl rfl (by first | omega | (simp only [List.length_append, List.length_cons, List.length_nil, List.length_drop, List.length_take]; omega))) rfl ?_)))))))
          refine w_c rfl ?_
          refine s_call (vs := [_]) Try.call62 ⟨rfl, trivial⟩ (fun w hs => nat_parse hs (by rw [Us.str_size]; simp only [List.length_take, List.length_drop, List.length_append]; omega)) rfl ?_
          intro v86 h5 hh5 hr86
          have hdg : digB (s1.take (digs s1) ++ (r.drop 1).take (digs (r.drop 1))) = true := digB_app (digs_digB _) (digs_digB _)
          have hle : (s1.take (digs s1) ++ (r.drop 1).take (digs (r.drop 1))).length ≤ 4096 := by
            have h8 : r.length = s1.length - digs s1 := by rw [hr0, List.length_drop]
            simp only [List.length_append, List.length_take, List.length_drop]
            omega
          obtain ⟨u86, rfl, hu86⟩ := hr86
          rw [byt_strOf ((hbs1.tk (digs s1)).app ((hbr.dr (1)).tk ((1 + digs (r.drop 1)) - (1))))] at hu86 ⊢
          rw [Nat.add_sub_cancel_left, pval_dig hle hdg] at hu86
          refine w_q rfl (fun h' L' hh hR => ov_move rfl) rfl (w_q rfl (fun h' L' hh hR => ov_extract (vs := [_, _]) rfl rfl) rfl (w_q rfl (fun h' L' hh hR => ov_extract (vs := [_, _]) rfl rfl) rfl (w_q rfl (fun h' L' hh hR => ov_assign rfl) rfl (w_nil (gq_keep (e' := [(2, _), (4, _), (8, _), (10, _), (6, _)]) ⟨rfl, rfl, rfl, rfl, rfl, trivial⟩ (gq_then (gc_seq (gc_region (mv rfl rfl (gv (ov_sub_i (q := 1) rfl rfl (by omega) (by omega)) rfl ?_))))))))))
          refine gl_call (vs := [_]) rfl rfl rfl rfl Try.call65 ⟨rfl, trivial⟩ (fun w hs => rat_power hs (by omega) (by omega)) ?_
          intro v91 h6 hh6 hr91
          rw [show ((↑(1 + digs (r.drop 1)) : Int) - 1).toNat = digs (r.drop 1) by omega] at hr91
          refine asg rfl rfl (gl_nil (gq_then (gc_region (mv rfl rfl (mv rfl rfl (gv (ov_slice_s_l (bs := r) (1 + digs (r.drop 1)) Try.underlying9 rfl rfl (by omega) (by first | omega | (have hnn := List.length_pos_iff.2 (by assumption); omega) | (have hnn := List.length_pos_iff.2 (And.left (by assumption)); omega) | (simp only [List.length_drop, List.length_take]; omega))) rfl (asg rfl rfl (gl_nil ?_))))))))
          refine gq_cut (u86, hor (s1.take (digs s1) ++ (r.drop 1).take (digs (r.drop 1))), v91, 10 ^ digs (r.drop 1), r.drop (1 + digs (r.drop 1)), h6) ?_ ⟨?_, ?_, ?_, ?_, ?_, trivial⟩ ?_ rfl
          ·
           refine ⟨((hh4.trans hh5).trans hh6), ?_⟩
           replace hu86 := hu86.mono hh6
           refine ⟨hu86, hr91, Nat.ne_of_gt (Nat.pow_pos (by omega)), ?_, ?_, hbr.dr _, by simp only [List.length_drop]; omega, ?_⟩
           · have := hor_limbs hdg; omega
           · have := ten_len (digs (r.drop 1)); omega
           · rw [Nat.add_comm 1]; exact fin2_dot hd0 hr0 hnsl hc72 hdd
          · exact rfl
          · exact rfl
          · exact rfl
          · exact rfl
          · exact rfl
          · exact rfl
        ·
         refine gc_skip ?_
         refine gq_cut (u36, hor (s1.take (digs s1)), vb, B, r, m1) ?_ ⟨?_, ?_, ?_, ?_, ?_, trivial⟩ ?_ rfl
         ·
          refine ⟨MLe.refl _, ?_⟩
          replace hu36 := hu36.mono (hh3.trans hmm1)
          refine ⟨hu36, hvb, hB0, by omega, by omega, hbr, hlr, ?_⟩
          rcases hor1 with ⟨h1, h2⟩ | ⟨h1, h2, h3⟩
          · rw [h1]; exact h2
          · rw [h1]; exact fin2_plain hd0 h2 h3 hc72
         · exact rfl
         · exact rfl
         · exact rfl
         · exact rfl
         · exact rfl
         · exact rfl
      ·
       intro x hx
       obtain ⟨va, A, vc, D, r2, m2⟩ := x
       obtain ⟨hmm2, ⟨hva, hvc, hD0, hlA, hlD, hbr2, hlr2, hfin⟩⟩ := hx
       show GC _ _ _ _ _ _ [(2, vP b2 0), (4, vB (parNeg bs)), (6, va), (8, .string (strOf r2)), (9, vc)] [.var b2 27 [vB ((0 : Rat).num < 0), .slice none 0 0, .slice none 0 0]] m2
       refine gc_cut (ι := Value × Nat × Value × Nat × Mem) (fun (x_ : (Value × Nat × Value × Nat × Mem)) => match x_ with | (vx, X, vy, Y, m3) => MLe m2 m3 ∧ (Us .u32 m3 vx (limbs X) ∧ Us .u32 m3 vy (limbs Y) ∧ Y ≠ 0 ∧ (limbs X).length ≤ 20000 ∧ (limbs Y).length ≤ 20000 ∧ fin2 (parNeg bs) s1 = fin4 (parNeg bs) X Y)) (fun (x_ : (Value × Nat × Value × Nat × Mem)) => match x_ with | (vx, X, vy, Y, m3) => [(2, vP b2 0), (4, vB (parNeg bs)), (6, vx), (9, vy)]) (fun (x_ : (Value × Nat × Value × Nat × Mem)) => match x_ with | (vx, X, vy, Y, m3) => [.var b2 27 [vB ((0 : Rat).num < 0), .slice none 0 0, .slice none 0 0]]) (fun (x_ : (Value × Nat × Value × Nat × Mem)) => match x_ with | (vx, X, vy, Y, m3) => m3) ?_ ?_
       ·
        refine gc_seq (gc_region (mv rfl rfl (gv (ov_neq_s (pa := r2) (pb := ([] : List Nat)) hbr2 (show ByB [] by unfold ByB; decide) rfl rfl) rfl (gl_nil (gq_then ?_)))))
        refine gc_cond rfl (fun hc96 => ?_) (fun hc96 => ?_)
        ·
         refine gc_seq (gc_region (mv rfl rfl ?_))
         refine gl_call (vs := [_]) rfl rfl rfl rfl Try.call66 ⟨rfl, trivial⟩ (fun w hs => rat_exponent hs hbr2 (by omega) (by assumption)) ?_
         intro v99 h4 hh4 hr99
         have hen99 := exN_le r2
         subst hr99
         refine mv rfl rfl (gv (ov_extract (vs := [_, _, _]) rfl rfl) rfl (gv (ov_extract (vs := [_, _, _]) rfl rfl) rfl (gv (ov_extract (vs := [_, _, _]) rfl rfl) rfl (asg rfl rfl (asg rfl rfl (asg rfl rfl (gl_nil (gq_then (gc_block (gc_seq (gc_region (mv rfl rfl (gv (ov_not rfl) rfl ?_)))))))))))))
         refine asg rfl rfl (gl_nil (gq_keep (e' := [(2, _), (4, _), (6, _), (9, _), (11, _), (12, _), (107, _)]) ⟨rfl, rfl, rfl, rfl, rfl, rfl, rfl, trivial⟩ (gq_then ?_)))
         refine gc_cond rfl (fun hc107 => ?_) (fun hc107 => ?_)
         ·
          refine gc_seq (gc_region (gv (ov_build_parts (ps' := []) (vs := [vB ((0 : Rat).num < 0), .slice none 0 0, .slice none 0 0]) Try.underlying27 info27 rfl (places27 Try.underlying27) trivial (by simp only [zb]; rfl)) rfl (gl_upd (A := []) (r' := .var b2 27 [vB ((0 : Rat).num < 0), .slice none 0 0, .slice none 0 0]) (upd_store_var (k := 0) (cs := [_, _, _]) (vs := [_, _, _]) rfl rfl rfl rfl size27 (Nat.le_of_ble_eq_true rfl)) rfl rfl rfl (asg (v := vI (4)) rfl rfl (gl_nil (gq_then (gc_ret (gr_in (gr_then (gq_res (fun E S => run_res2 rfl (rv_agg (cs := [_, _, _]) (.head _) Try.underlying27 rfl size27 rfl) (rv_tmp rfl) E S) ?_))))))))))
          rw [hpar, hfin, fin3_bad hc96 hc107]
          exact ⟨_, rfl, IsRat.zero _⟩
         ·
          refine gc_seq (gc_region (mv rfl rfl (asg rfl rfl (gl_nil (gq_then ?_)))))
          refine gc_cond rfl (fun hc111 => ?_) (fun hc111 => ?_)
          ·
           refine gc_region (mv rfl rfl (mv rfl rfl ?_))
           refine gl_call (vs := [_]) rfl rfl rfl rfl Try.call65 ⟨rfl, trivial⟩ (fun w hs => rat_power hs (by omega) (by omega)) ?_
           intro v115 h5 hh5 hr115
           have hlm115 := ten_len ((↑(exN r2) : Int)).toNat
           replace hvc := hvc.mono (hh4.trans hh5)
           refine gl_call (vs := [_, _]) rfl rfl rfl rfl Try.call67 ⟨rfl, rfl, trivial⟩ (fun w hs => nat_mul hs hvc hr115 (by omega) (by omega)) ?_
           intro v116 h6 hh6 hr116
           try simp only [val_limbs] at hr116
           have hlm116 := limbs_len_mul ((D)) (((10 ^ ((↑(exN r2) : Int)).toNat)))
           refine asg rfl rfl (gl_nil (gq_in ?_))
           refine gq_cut (va, A, v116, D * 10 ^ exN r2, h6) ?_ ⟨?_, ?_, ?_, ?_, trivial⟩ ?_ rfl
           ·
            refine ⟨((hh4.trans hh5).trans hh6), ?_⟩
            replace hva := hva.mono ((hh4.trans hh5).trans hh6)
            refine ⟨hva, hr116, Nat.mul_ne_zero hD0 (Nat.ne_of_gt (Nat.pow_pos (by omega))), by omega, ?_, ?_⟩
            · have h8 := limbs_len_mul D (10 ^ exN r2)
              have h9 := ten_len (exN r2)
              omega
            · rw [hfin]; exact fin3_down hc96 hc111.1 hc111.2
           · exact rfl
           · exact rfl
           · exact rfl
           · exact rfl
           · exact rfl
          ·
           refine gc_region (mv rfl rfl (mv rfl rfl ?_))
           refine gl_call (vs := [_]) rfl rfl rfl rfl Try.call65 ⟨rfl, trivial⟩ (fun w hs => rat_power hs (by omega) (by omega)) ?_
           intro v105 h5 hh5 hr105
           have hlm105 := ten_len ((↑(exN r2) : Int)).toNat
           replace hva := hva.mono (hh4.trans hh5)
           refine gl_call (vs := [_, _]) rfl rfl rfl rfl Try.call67 ⟨rfl, rfl, trivial⟩ (fun w hs => nat_mul hs hva hr105 (by omega) (by omega)) ?_
           intro v106 h6 hh6 hr106
           try simp only [val_limbs] at hr106
           have hlm106 := limbs_len_mul ((A)) (((10 ^ ((↑(exN r2) : Int)).toNat)))
           refine asg rfl rfl (gl_nil (gq_in ?_))
           refine gq_cut (v106, A * 10 ^ exN r2, vc, D, h6) ?_ ⟨?_, ?_, ?_, ?_, trivial⟩ ?_ rfl
           ·
            refine ⟨((hh4.trans hh5).trans hh6), ?_⟩
            replace hvc := hvc.mono ((hh4.trans hh5).trans hh6)
            refine ⟨hr106, hvc, hD0, ?_, by omega, ?_⟩
            · have h8 := limbs_len_mul A (10 ^ exN r2)
              have h9 := ten_len (exN r2)
              omega
            · have hk := Classical.not_not.1 hc107
              rw [hfin]; exact fin3_up hc96 hk (fun h => hc111 ⟨hk, h⟩)
           · exact rfl
           · exact rfl
           · exact rfl
           · exact rfl
           · exact rfl
        ·
         refine gc_skip ?_
         refine gq_cut (va, A, vc, D, m2) ?_ ⟨?_, ?_, ?_, ?_, trivial⟩ ?_ rfl
         ·
          refine ⟨MLe.refl _, ?_⟩
          refine ⟨hva, hvc, hD0, by omega, by omega, ?_⟩
          rw [hfin, Classical.not_not.1 hc96]; exact fin3_nil _ _ _
         · exact rfl
         · exact rfl
         · exact rfl
         · exact rfl
         · exact rfl
       ·
        intro x hx
        obtain ⟨vx, X, vy, Y, m3⟩ := x
        obtain ⟨hmm3, ⟨hvx, hvy, hY0, hlX, hlY, hfin4⟩⟩ := hx
        show GC _ _ _ _ _ _ [(2, vP b2 0), (4, vB (parNeg bs)), (6, vx), (9, vy)] [.var b2 27 [vB ((0 : Rat).num < 0), .slice none 0 0, .slice none 0 0]] m3
        refine gc_seq (gc_region (mv rfl rfl (mv rfl rfl (mv rfl rfl ?_))))
        refine gl_call (vs := [_, _, _]) rfl rfl rfl rfl Try.call68 ⟨rfl, rfl, rfl, trivial⟩ (fun w hs => rat_reduce hs hvx hvy (by omega) (by omega)) ?_
        intro v120 h4 hh4 hr120
        have hlqm := lq_mk (s := parNeg bs) (n := X) (d := Y) (k := 20000) (by omega) (by omega) (by omega)
        try simp only [val_limbs] at hr120
        obtain ⟨vn120, vd120, rfl, hn120, hd120⟩ := hr120
        refine gl_newop (new_alloc (cs := [vB ((0 : Rat).num < 0), .slice none 0 0, .slice none 0 0]) info27 rfl (by simp only [zb]; rfl)) rfl rfl rfl ?_
        intro v14 r14 hr14
        obtain ⟨b14, rfl, rfl⟩ := hr14
        refine gl_upd (A := []) (r' := .var b14 27 [vB ((mkRat (sg (parNeg bs) ((X))) ((Y))).num < 0), vn120, vd120]) (upd_store_var (k := 0) (cs := [_, _, _]) (vs := [_, _, _]) rfl rfl rfl (ocr rfl (ocu hn120 (ocu hd120 oc0))) size27 (Nat.le_of_ble_eq_true rfl)) rfl rfl rfl (gl_nil (gq_then (gc_seq (gc_seq (gc_region (gv (ov_load_agg (vs := [_, _, _]) (.head _) Try.underlying27 rfl size27 rfl rfl) rfl ?_))))))
        refine gl_call (vs := [_]) rfl rfl rfl rfl Try.call36 ⟨rfl, trivial⟩ (fun w hs => rat_bits hs hn120 hd120 (by omega)) ?_
        intro v122 h5 hh5 hr122
        subst hr122
        refine gv (ov_gtr_i (q := 2048) rfl rfl) rfl (gl_nil (gq_then ?_))
        refine gc_cond rfl (fun hc123 => ?_) (fun hc123 => ?_)
        ·
         refine gc_keep (e' := [(2, _)]) ⟨rfl, trivial⟩ (gc_seq (gc_region (gv (ov_build_parts (ps' := []) (vs := [vB ((0 : Rat).num < 0), .slice none 0 0, .slice none 0 0]) Try.underlying27 info27 rfl (places27 Try.underlying27) trivial (by simp only [zb]; rfl)) rfl (gl_upd (A := [_]) (r' := .var b2 27 [vB ((0 : Rat).num < 0), .slice none 0 0, .slice none 0 0]) (upd_store_var (k := 0) (cs := [_, _, _]) (vs := [_, _, _]) rfl rfl rfl rfl size27 (Nat.le_of_ble_eq_true rfl)) rfl rfl rfl (asg (v := vI (2)) rfl rfl (gl_nil (gq_then (gc_ret (gr_then (gq_res (fun E S => run_res2 rfl (rv_agg (cs := [_, _, _]) (.tail _ (.head _)) Try.underlying27 rfl size27 rfl) (rv_tmp rfl) E S) ?_))))))))))
         rw [hpar, hfin4, fin4_big hc123]
         exact ⟨_, rfl, IsRat.zero _⟩
        ·
         refine gc_keep (e' := [(2, _), (14, _)]) ⟨rfl, rfl, trivial⟩ (gc_skip (gq_then (gc_seq (gc_region (gv (ov_load_agg (vs := [_, _, _]) (.head _) Try.underlying27 rfl size27 rfl rfl) rfl ?_)))))
         replace hn120 := hn120.mono hh5
         replace hd120 := hd120.mono hh5
         refine gl_upd (A := [_]) (r' := .var b2 27 [vB ((mkRat (sg (parNeg bs) ((X))) ((Y))).num < 0), vn120, vd120]) (upd_store_var (k := 0) (cs := [_, _, _]) (vs := [_, _, _]) rfl rfl rfl (ocr rfl (ocu hn120 (ocu hd120 oc0))) size27 (Nat.le_of_ble_eq_true rfl)) rfl rfl rfl (asg (v := vI (0)) rfl rfl (gl_nil (gq_then (gc_ret (gq_res (fun E S => run_res2 rfl (rv_agg (cs := [_, _, _]) (.tail _ (.head _)) Try.underlying27 rfl size27 rfl) (rv_tmp rfl) E S) ?_)))))
         rw [hpar, hfin4, fin4_ok hc123]
         exact ⟨_, rfl, _, _, rfl, hn120, hd120⟩

end Go.Proofs.Ytimoeckkdodogaa
