/- Texts that the proof needs, part 6. -/
import Derived.Test.YtfpjclgbieppeaaK5

namespace Go.Proofs.Ytfpjclgbieppeaa
open Bk Go
set_option linter.unusedVariables false
set_option linter.unusedSimpArgs false
set_option maxRecDepth 10000

theorem o_r5_flat {w0 : World} {h0 : Mem}  (hs : MLe h0 (mem w0)) {k : Nat} {vp : Value} {p : (T3 Rat)} (rp : (rpT (rpQ k)).Is h0 vp p)  :
    Calls Try.prog 45 #[vp] w0 (Ret w0 h0 (fun h r => (rpT (rpQ (k + 1))).Is h r (T3.mk p.x p.y (0 : Rat)))) := by
 refine calls_begin (n := 8) (e := [(0, vp)]) (vs := [vp]) Try.func45 rfl rfl (Nat.le_of_ble_eq_true rfl) hs ⟨rfl, trivial⟩ (gc_seq (gc_region (gl_newop (new_boxx (ρ := (rpT (rpQ k))) rfl rp) rfl rfl rfl ?_)))
 intro v1 q1 hq1
 obtain ⟨b1, cs1, rfl, rfl, rb1⟩ := hq1
 refine gl_newop (new_allocx (ρ := (rpT (rpQ (k + 1)))) (X := (T3.mk (0 : Rat) (0 : Rat) (0 : Rat))) info31 rfl rfl (zr_t (zr_q (by omega)))) rfl rfl rfl ?_
 intro v2 q2 hq2
 obtain ⟨b2, cs2, rfl, rfl, rb2⟩ := hq2
 refine gl_nil (gq_then (gc_seq (gc_region (gv ((ov_index_arr (sz := 3) (q := 0) 0 Try.underlying31 Try.sizeOf29 rfl rfl rfl (by decide)).cv (show _ = vP b1 0 from congrArg (vP b1) (by rfl))) rfl (gl_x (F := fun v_ => (rpQ k).Is h0 v_ p.x) (ox_load_box ty29 (Pc.tx (Pc.here _)) rfl rfl rb1 rfl) (mem1 (.tail _ (.head _))) rfl ?_)))))
 intro v4 r4
 refine gv ((ov_index_arr (sz := 3) (q := 1) 1 Try.underlying31 Try.sizeOf29 rfl rfl rfl (by decide)).cv (show _ = vP b1 3 from congrArg (vP b1) (by rfl))) rfl (gl_x (F := fun v_ => (rpQ k).Is h0 v_ p.y) (ox_load_box ty29 (Pc.ty (Pc.here _)) rfl rfl rb1 rfl) (mem1 (.tail _ (.head _))) rfl ?_)
 intro v6 r6
 refine gl_x (F := fun v_ => (rpT (rpQ (k + 1))).Is h0 v_ (T3.mk p.x p.y (0 : Rat))) (ox_build_arr (ps' := [(0, _), (1, _)]) Try.underlying31 info31 rfl rfl Try.sizeOf29 ⟨rfl, rfl, rfl, rfl, trivial⟩ rfl (zr_t (zr_q (by omega))) (fx_one rfl (Pc.tx (Pc.here _)) (r4.le (Le.q (l := k + 1) (by omega))) (fx_one rfl (Pc.ty (Pc.here _)) (r6.le (Le.q (l := k + 1) (by omega))) fx_nil))) mem0 rfl ?_
 intro v7 r7
 refine gl_updx (A := []) (F := fun c_ => (rpT (rpQ (k + 1))).R h0 c_ (T3.mk p.x p.y (0 : Rat))) (upd_box Try.sizeOf31 (Pc.here _) rfl rfl rfl rb2 r7 rfl) ?_
 intro cs_1 rb_2
 refine gl_nil (gq_then (gc_ret (gq_exv (rv_o (t := 2) ty31 (.head _) rfl rb_2) ?_)))
 intro w_3 hvw_3 rr_4
 refine gq_res (fun E S => run_res1 rfl hvw_3 E S) ?_
 exact rr_4

theorem o_r5_equal {w0 : World} {h0 : Mem}  (hs : MLe h0 (mem w0)) {k : Nat} {va : Value} {a : (T3 Rat)} (ra : (rpT (rpQ k)).Is h0 va a) {vb : Value} {b : (T3 Rat)} (rb : (rpT (rpQ k)).Is h0 vb b) (hcd0 : k ≤ 2000000000)  :
    Calls Try.prog 49 #[va, vb] w0 (Ret w0 h0 (fun _ r => r = vB ((pr a 0 1) = (pr b 0 1)))) := by
 refine calls_begin (n := 17) (e := [(0, va), (1, vb)]) (vs := [va, vb]) Try.func49 rfl rfl (Nat.le_of_ble_eq_true rfl) hs ⟨rfl, rfl, trivial⟩ (gc_seq (gc_region (gl_newop (new_boxx (ρ := (rpT (rpQ k))) rfl ra) rfl rfl rfl ?_)))
 intro v2 q2 hq2
 obtain ⟨b2, cs2, rfl, rfl, rb2⟩ := hq2
 refine gl_newop (new_boxx (ρ := (rpT (rpQ k))) rfl rb) rfl rfl rfl ?_
 intro v3 q3 hq3
 obtain ⟨b3, cs3, rfl, rfl, rb3⟩ := hq3
 refine asg rfl rfl (gl_nil (gq_then (gc_seq (gc_region (gv ((ov_index_arr (sz := 3) (q := 0) 0 Try.underlying31 Try.sizeOf29 rfl rfl rfl (by decide)).cv (show _ = vP b2 0 from congrArg (vP b2) (by rfl))) rfl (gl_x (F := fun v_ => (rpQ k).Is h0 v_ a.x) (ox_load_box ty29 (Pc.tx (Pc.here _)) rfl rfl rb2 rfl) (mem1 (.tail _ (.head _))) rfl ?_))))))
 intro v6 r6
 refine gv ((ov_index_arr (sz := 3) (q := 0) 0 Try.underlying31 Try.sizeOf29 rfl rfl rfl (by decide)).cv (show _ = vP b3 0 from congrArg (vP b3) (by rfl))) rfl (gl_x (F := fun v_ => (rpQ k).Is h0 v_ b.x) (ox_load_box ty29 (Pc.tx (Pc.here _)) rfl rfl rb3 rfl) (mem1 (.head _)) rfl ?_)
 intro v8 r8
 refine gl_call (vs := [_, _]) rfl rfl rfl rfl Try.call19 ⟨rfl, rfl, trivial⟩ (fun w hs => o_rref_same hs r6 r8 (by omega)) ?_
 intro v9 h1 hh1 r9
 obtain rfl : v9 = vB (a.x = b.x) := r9
 refine gl_cut (ι := Mem) 7 (fun m_ => MLe h1 m_) (fun _ => [(16, vB ((a.x = b.x) ∧ (a.y = b.y)))]) (fun _ => [.var b3 31 cs3, .var b2 31 cs2]) (fun m_ => m_) ?_ ?_
 ·
  refine gl_cases (a.x = b.x) (fun hg => ?_) (fun hg => ?_)
  ·
   refine gl_val (ov_move (v := .bool true) (congrArg some (vB_true hg))) rfl rfl rfl (gl_on rfl rfl rfl (gv ((ov_index_arr (sz := 3) (q := 1) 1 Try.underlying31 Try.sizeOf29 rfl rfl rfl (by decide)).cv (show _ = vP b2 3 from congrArg (vP b2) (by rfl))) rfl (gl_on rfl rfl rfl ?_)))
   replace rb2 := rb2.mono hh1
   refine gl_x (F := fun v_ => (rpQ k).Is h1 v_ a.y) (ox_load_box ty29 (Pc.ty (Pc.here _)) rfl rfl rb2 rfl) (mem1 (.tail _ (.head _))) rfl ?_
   intro v12 r12
   refine gl_on rfl rfl rfl (gv ((ov_index_arr (sz := 3) (q := 1) 1 Try.underlying31 Try.sizeOf29 rfl rfl rfl (by decide)).cv (show _ = vP b3 3 from congrArg (vP b3) (by rfl))) rfl (gl_on rfl rfl rfl ?_))
   replace rb3 := rb3.mono hh1
   refine gl_x (F := fun v_ => (rpQ k).Is h1 v_ b.y) (ox_load_box ty29 (Pc.ty (Pc.here _)) rfl rfl rb3 rfl) (mem1 (.head _)) rfl ?_
   intro v14 r14
   refine gl_on rfl rfl rfl ?_
   refine gl_call (vs := [_, _]) rfl rfl rfl rfl Try.call19 ⟨rfl, rfl, trivial⟩ (fun w hs => o_rref_same hs r12 r14 (by omega)) ?_
   intro v15 h2 hh2 r15
   obtain rfl : v15 = vB (a.y = b.y) := r15
   refine gv (ov_pick_t rfl rfl) rfl (gl_nil ?_)
   refine gq_cut h2 hh2 ⟨?_, trivial⟩ rfl rfl
   exact congrArg some (vB_and_t hg)
  ·
   refine gl_val (ov_move (v := .bool false) (congrArg some (vB_false hg))) rfl rfl rfl (gl_off rfl rfl rfl rfl rfl rfl (gl_off rfl rfl rfl rfl rfl rfl (gl_off rfl rfl rfl rfl rfl rfl (gl_off rfl rfl rfl rfl rfl rfl (gl_off rfl rfl rfl rfl rfl rfl (gv (ov_pick_f rfl rfl) rfl (gl_nil ?_)))))))
   refine gq_cut h1 (MLe.refl _) ⟨?_, trivial⟩ rfl rfl
   exact congrArg some (vB_and_f hg)
 ·
  intro mg1_5 hmmg1_5
  show GL _ _ _ _ _ _ _ [(16, vB ((a.x = b.x) ∧ (a.y = b.y)))] [.var b3 31 cs3, .var b2 31 cs2] mg1_5
  refine asg rfl rfl (gl_nil (gq_then (gc_ret (gq_body1 rfl rfl ?_))))
  first | exact vB_iff (by rw [pr_eq]; exact Iff.rfl) | exact (vB_true (by rw [pr_eq]; exact Iff.rfl)).symm | exact (vB_false (by rw [pr_eq]; exact Iff.rfl)).symm

theorem o_r5_less {w0 : World} {h0 : Mem}  (hs : MLe h0 (mem w0)) {k : Nat} {va : Value} {a : (T3 Rat)} (ra : (rpT (rpQ k)).Is h0 va a) {vb : Value} {b : (T3 Rat)} (rb : (rpT (rpQ k)).Is h0 vb b) (hcd0 : k ≤ 2000000000)  :
    Calls Try.prog 46 #[va, vb] w0 (Ret w0 h0 (fun _ r => r = vB (lx (pr a 0 1) (pr b 0 1)))) := by
 refine calls_begin (n := 21) (e := [(0, va), (1, vb)]) (vs := [va, vb]) Try.func46 rfl rfl (Nat.le_of_ble_eq_true rfl) hs ⟨rfl, rfl, trivial⟩ (gc_seq (gc_region (gl_newop (new_boxx (ρ := (rpT (rpQ k))) rfl ra) rfl rfl rfl ?_)))
 intro v2 q2 hq2
 obtain ⟨b2, cs2, rfl, rfl, rb2⟩ := hq2
 refine gl_newop (new_boxx (ρ := (rpT (rpQ k))) rfl rb) rfl rfl rfl ?_
 intro v3 q3 hq3
 obtain ⟨b3, cs3, rfl, rfl, rb3⟩ := hq3
 refine asg rfl rfl (gl_nil (gq_then (gc_seq (gc_seq (gc_region (gv ((ov_index_arr (sz := 3) (q := 0) 0 Try.underlying31 Try.sizeOf29 rfl rfl rfl (by decide)).cv (show _ = vP b2 0 from congrArg (vP b2) (by rfl))) rfl (gl_x (F := fun v_ => (rpQ k).Is h0 v_ a.x) (ox_load_box ty29 (Pc.tx (Pc.here _)) rfl rfl rb2 rfl) (mem1 (.tail _ (.head _))) rfl ?_)))))))
 intro v7 r7
 refine gv ((ov_index_arr (sz := 3) (q := 0) 0 Try.underlying31 Try.sizeOf29 rfl rfl rfl (by decide)).cv (show _ = vP b3 0 from congrArg (vP b3) (by rfl))) rfl (gl_x (F := fun v_ => (rpQ k).Is h0 v_ b.x) (ox_load_box ty29 (Pc.tx (Pc.here _)) rfl rfl rb3 rfl) (mem1 (.head _)) rfl ?_)
 intro v9 r9
 refine gl_call (vs := [_, _]) rfl rfl rfl rfl Try.call73 ⟨rfl, rfl, trivial⟩ (fun w hs => o_rref_cmp hs r7 r9 (by omega)) ?_
 intro v10 h1 hh1 r10
 obtain rfl : v10 = vI (cmpQ a.x b.x) := r10
 have hcr10 := cmpQ_range a.x b.x
 refine asg rfl rfl (gl_nil (gq_then (gc_seq (gc_region (mv rfl rfl (gv (ov_neq_i (q := 0) rfl rfl) rfl (gl_nil (gq_then ?_))))))))
 refine gc_cond rfl (fun hc12 => ?_) (fun hc12 => ?_)
 ·
  refine gc_keep (e' := [(5, _)]) ⟨rfl, trivial⟩ (gc_seq (gc_region (mv rfl rfl (gv (ov_lss_i (q := 0) rfl rfl) rfl (asg rfl rfl (gl_nil (gq_then (gc_ret (gr_then (gq_body1 rfl rfl ?_))))))))))
  exact vB_iff (less_1 hc12)
 ·
  refine gc_keep (e' := [(2, _), (3, _)]) ⟨rfl, rfl, trivial⟩ (gc_skip (gq_then (gc_seq (gc_region (gv ((ov_index_arr (sz := 3) (q := 1) 1 Try.underlying31 Try.sizeOf29 rfl rfl rfl (by decide)).cv (show _ = vP b2 3 from congrArg (vP b2) (by rfl))) rfl ?_)))))
  replace rb2 := rb2.mono hh1
  refine gl_x (F := fun v_ => (rpQ k).Is h1 v_ a.y) (ox_load_box ty29 (Pc.ty (Pc.here _)) rfl rfl rb2 rfl) (mem1 (.tail _ (.head _))) rfl ?_
  intro v16 r16
  refine gv ((ov_index_arr (sz := 3) (q := 1) 1 Try.underlying31 Try.sizeOf29 rfl rfl rfl (by decide)).cv (show _ = vP b3 3 from congrArg (vP b3) (by rfl))) rfl ?_
  replace rb3 := rb3.mono hh1
  refine gl_x (F := fun v_ => (rpQ k).Is h1 v_ b.y) (ox_load_box ty29 (Pc.ty (Pc.here _)) rfl rfl rb3 rfl) (mem1 (.head _)) rfl ?_
  intro v18 r18
  refine gl_call (vs := [_, _]) rfl rfl rfl rfl Try.call73 ⟨rfl, rfl, trivial⟩ (fun w hs => o_rref_cmp hs r16 r18 (by omega)) ?_
  intro v19 h2 hh2 r19
  obtain rfl : v19 = vI (cmpQ a.y b.y) := r19
  have hcr19 := cmpQ_range a.y b.y
  refine gv (ov_lss_i (q := 0) rfl rfl) rfl (asg rfl rfl (gl_nil (gq_then (gc_ret (gq_body1 rfl rfl ?_)))))
  exact vB_iff (less_2 hc12)

theorem o_r5_area {w0 : World} {h0 : Mem}  (hs : MLe h0 (mem w0)) {k : Nat} {vl : Value} {l : (List (T3 Rat))} (rl : (rpS (rpT (rpQ k))).Is h0 vl l) (hcd0 : k ≤ 100000) (hcd1 : l.length ≤ 1000)  :
    Calls Try.prog 74 #[vl] w0 (Ret w0 h0 (fun h r => (rpQ 1000000000).Is h r (areaTo l 0 1 l.length))) := by
 refine calls_begin (n := 40) (e := [(0, vl)]) (vs := [vl]) Try.func74 rfl rfl (Nat.le_of_ble_eq_true rfl) hs ⟨rfl, trivial⟩ (gc_seq (gc_region (gl_newop (new_allocx (ρ := (rpQ 1)) (X := (0 : Rat)) info29 rfl rfl (zr_q (by decide))) rfl rfl rfl ?_)))
 intro v2 q2 hq2
 obtain ⟨b2, cs2, rfl, rfl, rb2⟩ := hq2
 refine gl_nil (gq_then (gc_seq (gc_region (gl_x (F := fun v_ => (rpQ 1).Is h0 v_ (0 : Rat)) (ox_build (ps' := []) Try.underlying29 info29 rfl rfl (places29 Try.underlying29) trivial rfl (zr_q (by decide)) fx_nil) mem0 rfl ?_))))
 intro v7 r7
 refine gl_newop (new_allocx (ρ := (rpQ 1)) (X := (0 : Rat)) info29 rfl rfl (zr_q (by decide))) rfl rfl rfl ?_
 intro v3 q3 hq3
 obtain ⟨b3, cs3, rfl, rfl, rb3⟩ := hq3
 refine gl_updx (A := []) (F := fun c_ => (rpQ 1).R h0 c_ (0 : Rat)) (upd_box Try.sizeOf29 (Pc.here _) rfl rfl rfl rb3 r7 rfl) ?_
 intro cs_5 rb_6
 refine gl_nil (gq_then (gc_seq (gc_seq (gc_region (asg (v := vI (0)) rfl rfl (gl_nil (gq_then (gc_block ?_))))))))
 refine gc_loop (ι := Nat × Nat × List Value × Mem) (fun (x_ : (Nat × Nat × List Value × Mem)) => match x_ with | (m, q, cs_7, ma) => MLe h0 ma ∧ ((rpQ q).R ma cs_7 (areaTo l 0 1 m) ∧ m ≤ l.length ∧ q ≤ (4 * k + 9) * m + 1)) (fun (x_ : (Nat × Nat × List Value × Mem)) => match x_ with | (m, q, cs_7, ma) => [(0, vl), (2, vP b2 0), (3, vP b3 0), (4, vI ↑m)]) (fun (x_ : (Nat × Nat × List Value × Mem)) => match x_ with | (m, q, cs_7, ma) => [.var b3 29 cs_7, .var b2 29 cs2]) (fun (x_ : (Nat × Nat × List Value × Mem)) => match x_ with | (m, q, cs_7, ma) => ma) (fun (x_ : (Nat × Nat × List Value × Mem)) => match x_ with | (m, q, cs_7, ma) => l.length - m) (0, 1, cs_5, h0) ?_ ⟨rfl, rfl, rfl, rfl, trivial⟩ rfl rfl ?_
 ·
  refine ⟨MLe.refl _, ?_⟩
  refine ⟨rb_6, ?_⟩
  exact ⟨by omega, by omega⟩
 ·
  intro x hx
  obtain ⟨m, q, cs_7, ma⟩ := x
  obtain ⟨hmma, hinv⟩ := hx
  show GC _ _ _ _ _ _ [(0, vl), (2, vP b2 0), (3, vP b3 0), (4, vI ↑m)] [.var b3 29 cs_7, .var b2 29 cs2] ma
  obtain ⟨rb_8, hinv⟩ := hinv
  obtain ⟨hm1, hq1⟩ := hinv
  have hq2 := Nat.mul_le_mul_left (4 * k + 9) (show m ≤ 1000 by omega)
  refine gc_seq (gc_seq (gc_region (mv rfl rfl (mv rfl rfl ?_))))
  replace rl := rl.mono hmma
  refine gv (ov_len_sr Try.underlying38 rfl rl) rfl (gv (ov_lss_i rfl rfl) rfl (gl_nil (gq_then ?_)))
  refine gc_cond rfl (fun hc11 => ?_) (fun hc11 => ?_)
  ·
   refine gc_skip (gq_then (gc_seq (gc_block (gc_seq ?_))))
   refine gc_draw 16 _ [(12, (5, 31, [.bool false, .slice none 0 0, .slice none 0 0, .bool false, .slice none 0 0, .slice none 0 0, .bool false, .slice none 0 0, .slice none 0 0])), (13, (6, 31, [.bool false, .slice none 0 0, .slice none 0 0, .bool false, .slice none 0 0, .slice none 0 0, .bool false, .slice none 0 0, .slice none 0 0]))] [(0, .q), (1, .q), (2, .q), (3, .q), (4, .q), (5, .q), (6, .q), (7, .q), (8, .q), (9, .q), (10, .q), (11, .q), (12, .a), (13, .a), (14, .c), (15, .c)] mixed (AlOk.cons rfl (zero_run info31 rfl rfl) (AlOk.cons rfl (zero_run info31 rfl rfl) AlOk.nil)) (chk_of [0, 0, 3, 4, 0, 0, 32, 0, 128, 320, 528, 1024, 0, 0, 12303, 32767] [65535, 65535, 65532, 65531, 65535, 65535, 65503, 65535, 65407, 65215, 65007, 64511, 65535, 65535, 61431, 55295] (by kernel_rfl)) (hae_cons rfl rfl (hae_cons rfl rfl hae_nil)) (fun r hr => hr) (w_q rfl (fun h' L' hh hR => ov_move rfl) rfl (w_q rfl (fun h' L' hh hR => ov_move rfl) rfl (w_qx (F := fun v_ => AtP (rpT (rpQ k)) ma v_ (l.getD m (T3.mk (0 : Rat) (0 : Rat) (0 : Rat)))) rfl (ox_idx_s (T3.mk (0 : Rat) (0 : Rat) (0 : Rat)) m Try.underlying38 ty31 rfl rfl rl rfl (by omega) (show 0 < 9 from by decide)) mem0 rfl ?_)))
   intro v16 r16
   refine w_qx (F := fun v_ => (rpT (rpQ k)).Is ma v_ (l.getD m (T3.mk (0 : Rat) (0 : Rat) (0 : Rat)))) rfl (ox_load_at ty31 rfl r16) mem0 rfl ?_
   intro v17 r17
   refine w_q rfl (fun h' L' hh hR => ov_move rfl) rfl (w_q rfl (fun h' L' hh hR => ov_move rfl) rfl (w_q rfl (fun h' L' hh hR => ov_add_i (q := 1) rfl rfl (by omega) (by omega)) rfl (w_q rfl (fun h' L' hh hR => ov_move rfl) rfl (w_q rfl (fun h' L' hh hR => ov_len_sr Try.underlying38 rfl (rl.mono hh)) rfl (w_q rfl (fun h' L' hh hR => ov_rem_i rfl rfl (by omega) (by omega)) rfl (w_qx (F := fun v_ => AtP (rpT (rpQ k)) ma v_ (l.getD ((m + 1) % l.length) (T3.mk (0 : Rat) (0 : Rat) (0 : Rat)))) rfl (ox_idx_s (T3.mk (0 : Rat) (0 : Rat) (0 : Rat)) ((m + 1) % l.length) Try.underlying38 ty31 rfl rfl rl (by first | rfl | (push_cast; rfl)) (by exact Nat.mod_lt _ (by omega)) (show 0 < 9 from by decide)) mem0 rfl ?_))))))
   intro v24 r24
   refine w_qx (F := fun v_ => (rpT (rpQ k)).Is ma v_ (l.getD ((m + 1) % l.length) (T3.mk (0 : Rat) (0 : Rat) (0 : Rat)))) rfl (ox_load_at ty31 rfl r24) mem0 rfl ?_
   intro v25 r25
   refine w_a rfl (fun b5 => ?_)
   have rb5 : (rpT (rpQ 1)).R ma [.bool false, .slice none 0 0, .slice none 0 0, .bool false, .slice none 0 0, .slice none 0 0, .bool false, .slice none 0 0, .slice none 0 0] (T3.mk (0 : Rat) (0 : Rat) (0 : Rat)) := (zr_t (zr_q (by decide)))
   refine w_a rfl (fun b6 => ?_)
   have rb6 : (rpT (rpQ 1)).R ma [.bool false, .slice none 0 0, .slice none 0 0, .bool false, .slice none 0 0, .slice none 0 0, .bool false, .slice none 0 0, .slice none 0 0] (T3.mk (0 : Rat) (0 : Rat) (0 : Rat)) := (zr_t (zr_q (by decide)))
   refine w_c rfl ?_
   have rw_9 := (Le.t (Le.q (l := k + 1) (by omega))).R rb5
   refine s_updx (A := [_]) (F := fun c_ => (rpT (rpQ (k + 1))).R ma c_ (l.getD m (T3.mk (0 : Rat) (0 : Rat) (0 : Rat)))) (upd_box Try.sizeOf31 (Pc.here _) rfl rfl rfl rw_9 (r17.le (Le.t (Le.q (l := k + 1) (by omega)))) rfl) (mem_kept (by simp)) ?_
   intro cs_10 rb_11
   refine w_c rfl ?_
   have rw_12 := (Le.t (Le.q (l := k + 1) (by omega))).R rb6
   refine s_updx (A := []) (F := fun c_ => (rpT (rpQ (k + 1))).R ma c_ (l.getD ((m + 1) % l.length) (T3.mk (0 : Rat) (0 : Rat) (0 : Rat)))) (upd_box Try.sizeOf31 (Pc.here _) rfl rfl rfl rw_12 (r25.le (Le.t (Le.q (l := k + 1) (by omega)))) rfl) (mem_kept (by simp)) ?_
   intro cs_13 rb_14
   refine w_nil (gq_keep (e' := [(0, _), (2, _), (3, _), (4, _), (5, _), (6, _)]) ⟨rfl, rfl, rfl, rfl, rfl, rfl, trivial⟩ (gq_then ?_))
   refine gc_draw 13 _ [] [(0, .q), (1, .q), (2, .q), (3, .q), (4, .q), (6, .q), (7, .q), (8, .q), (9, .q), (5, .c), (10, .c), (11, .c), (12, .c), (13, .t)] mixed (fun x hx => by cases hx) (chk_of [0, 0, 2, 0, 8, 20, 0, 64, 0, 256, 672, 1056, 2049, 8191] [16383, 16383, 16381, 16383, 16375, 16363, 16383, 16319, 16383, 16127, 15743, 15327, 14334, 12287] (by kernel_rfl)) (fun x hx => by cases hx) (fun r hr => hr) (w_qx (F := fun v_ => (rpQ q).Is ma v_ (areaTo l 0 1 m)) rfl (ox_load_box ty29 (Pc.here _) rfl rfl rb_8 rfl) (mem1 (.tail _ (.tail _ (.head _)))) rfl ?_)
   intro v26 r26
   refine w_q rfl (fun h' L' hh hR => (ov_index_arr (sz := 3) (q := 0) 0 Try.underlying31 Try.sizeOf29 rfl rfl rfl (by decide)).cv (show _ = vP b5 0 from congrArg (vP b5) (by rfl))) rfl (w_qx (F := fun v_ => (rpQ (k + 1)).Is ma v_ ((l.getD m (T3.mk (0 : Rat) (0 : Rat) (0 : Rat))).x)) rfl (ox_load_box ty29 (Pc.tx (Pc.here _)) rfl rfl rb_11 rfl) (mem1 (.tail _ (.head _))) rfl ?_)
   intro v28 r28
   refine w_q rfl (fun h' L' hh hR => (ov_index_arr (sz := 3) (q := 1) 1 Try.underlying31 Try.sizeOf29 rfl rfl rfl (by decide)).cv (show _ = vP b6 3 from congrArg (vP b6) (by rfl))) rfl (w_qx (F := fun v_ => (rpQ (k + 1)).Is ma v_ ((l.getD ((m + 1) % l.length) (T3.mk (0 : Rat) (0 : Rat) (0 : Rat))).y)) rfl (ox_load_box ty29 (Pc.ty (Pc.here _)) rfl rfl rb_14 rfl) (mem1 (.head _)) rfl ?_)
   intro v30 r30
   refine w_q rfl (fun h' L' hh hR => (ov_index_arr (sz := 3) (q := 0) 0 Try.underlying31 Try.sizeOf29 rfl rfl rfl (by decide)).cv (show _ = vP b6 0 from congrArg (vP b6) (by rfl))) rfl (w_qx (F := fun v_ => (rpQ (k + 1)).Is ma v_ ((l.getD ((m + 1) % l.length) (T3.mk (0 : Rat) (0 : Rat) (0 : Rat))).x)) rfl (ox_load_box ty29 (Pc.tx (Pc.here _)) rfl rfl rb_14 rfl) (mem1 (.head _)) rfl ?_)
   intro v33 r33
   refine w_q rfl (fun h' L' hh hR => (ov_index_arr (sz := 3) (q := 1) 1 Try.underlying31 Try.sizeOf29 rfl rfl rfl (by decide)).cv (show _ = vP b5 3 from congrArg (vP b5) (by rfl))) rfl (w_qx (F := fun v_ => (rpQ (k + 1)).Is ma v_ ((l.getD m (T3.mk (0 : Rat) (0 : Rat) (0 : Rat))).y)) rfl (ox_load_box ty29 (Pc.ty (Pc.here _)) rfl rfl rb_11 rfl) (mem1 (.tail _ (.head _))) rfl ?_)
   intro v35 r35
   refine w_c rfl ?_
   refine s_call (vs := [_, _]) Try.call41 ⟨rfl, rfl, trivial⟩ (fun w hs => o_rref_mul hs r28 r30 (by omega)) rfl ?_
   intro v31 h1 hh1 r31
   change (rpQ ((k + 1) + (k + 1))).Is h1 v31 (((l.getD m (T3.mk (0 : Rat) (0 : Rat) (0 : Rat))).x) * ((l.getD ((m + 1) % l.length) (T3.mk (0 : Rat) (0 : Rat) (0 : Rat))).y)) at r31
   replace r31 := Rp.Is.le r31 (Le.q (l := 2 * k + 2) (by omega))
   refine w_c rfl ?_
   replace r33 := r33.mono hh1
   replace r35 := r35.mono hh1
   refine s_call (vs := [_, _]) Try.call41 ⟨rfl, rfl, trivial⟩ (fun w hs => o_rref_mul hs r33 r35 (by omega)) rfl ?_
   intro v36 h2 hh2 r36
   change (rpQ ((k + 1) + (k + 1))).Is h2 v36 (((l.getD ((m + 1) % l.length) (T3.mk (0 : Rat) (0 : Rat) (0 : Rat))).x) * ((l.getD m (T3.mk (0 : Rat) (0 : Rat) (0 : Rat))).y)) at r36
   replace r36 := Rp.Is.le r36 (Le.q (l := 2 * k + 2) (by omega))
   refine w_c rfl ?_
   replace r31 := r31.mono hh2
   refine s_call (vs := [_, _]) Try.call43 ⟨rfl, rfl, trivial⟩ (fun w hs => o_rref_sub hs r31 r36 (by omega)) rfl ?_
   intro v37 h3 hh3 r37
   change (rpQ ((2 * k + 2) + (2 * k + 2) + 1)).Is h3 v37 ((((l.getD m (T3.mk (0 : Rat) (0 : Rat) (0 : Rat))).x) * ((l.getD ((m + 1) % l.length) (T3.mk (0 : Rat) (0 : Rat) (0 : Rat))).y)) - (((l.getD ((m + 1) % l.length) (T3.mk (0 : Rat) (0 : Rat) (0 : Rat))).x) * ((l.getD m (T3.mk (0 : Rat) (0 : Rat) (0 : Rat))).y))) at r37
   replace r37 := Rp.Is.le r37 (Le.q (l := 4 * k + 5) (by omega))
   refine w_c rfl ?_
   replace r26 := r26.mono ((hh1.trans hh2).trans hh3)
   refine s_call (vs := [_, _]) Try.call40 ⟨rfl, rfl, trivial⟩ (fun w hs => o_rref_add hs r26 r37 (by omega)) rfl ?_
   intro v38 h4 hh4 r38
   change (rpQ (q + (4 * k + 5) + 1)).Is h4 v38 ((areaTo l 0 1 m) + ((((l.getD m (T3.mk (0 : Rat) (0 : Rat) (0 : Rat))).x) * ((l.getD ((m + 1) % l.length) (T3.mk (0 : Rat) (0 : Rat) (0 : Rat))).y)) - (((l.getD ((m + 1) % l.length) (T3.mk (0 : Rat) (0 : Rat) (0 : Rat))).x) * ((l.getD m (T3.mk (0 : Rat) (0 : Rat) (0 : Rat))).y)))) at r38
   replace r38 := Rp.Is.le r38 (Le.q (l := 4 * k + q + 6) (by omega))
   replace rb_8 := rb_8.mono (((hh1.trans hh2).trans hh3).trans hh4)
   have rw_15 := (Le.q (l := 4 * k + q + 6) (by omega)).R rb_8
   refine w_tx_upd (A := [_, _]) (F := fun c_ => (rpQ (4 * k + q + 6)).R h4 c_ ((areaTo l 0 1 m) + ((((l.getD m (T3.mk (0 : Rat) (0 : Rat) (0 : Rat))).x) * ((l.getD ((m + 1) % l.length) (T3.mk (0 : Rat) (0 : Rat) (0 : Rat))).y)) - (((l.getD ((m + 1) % l.length) (T3.mk (0 : Rat) (0 : Rat) (0 : Rat))).x) * ((l.getD m (T3.mk (0 : Rat) (0 : Rat) (0 : Rat))).y))))) rfl (upd_box Try.sizeOf29 (Pc.here _) rfl rfl rfl rw_15 r38 rfl) ?_
   intro cs_16 rb_17
   refine w_nil (gq_in (gq_keep (e' := [(0, _), (2, _), (3, _), (4, _)]) ⟨rfl, rfl, rfl, rfl, trivial⟩ (gq_then (gc_region (mv rfl rfl (gv (ov_add_i (q := 1) rfl rfl (by omega) (by omega)) rfl (asg rfl rfl (gl_nil (gq_drop (A := []) (gq_drop (A := []) ?_))))))))))
   refine gq_round ((m + 1), (q + (4 * k + 9)), cs_16, h4) ?_ ?_ ⟨?_, ?_, ?_, ?_, trivial⟩ ?_ rfl
   ·
    refine ⟨((((hmma.trans hh1).trans hh2).trans hh3).trans hh4), ?_⟩
    refine ⟨(Rp.castR (Le.R (Le.q (l := q + (4 * k + 9)) (by omega)) rb_17) rfl), ?_⟩
    exact ⟨by omega, by rw [Nat.mul_succ]; omega⟩
   ·
    dsimp only
    omega
   · exact rfl
   · exact rfl
   · exact rfl
   · exact rfl
   · exact rfl
  ·
   have em : m = l.length := by omega
   have hq2 := Nat.mul_le_mul_left (4 * k + 9) (show m ≤ 1000 by omega)
   refine gc_exit (gx_then (gx_then (gx_here (gq_then (gc_seq (gc_region (gl_x (F := fun v_ => (rpQ q).Is ma v_ (areaTo l 0 1 m)) (ox_load_box ty29 (Pc.here _) rfl rfl rb_8 rfl) (mem1 (.head _)) rfl ?_)))))))
   intro v39 r39
   replace rb2 := rb2.mono hmma
   have rw_18 := (Le.q (l := q + 1) (by omega)).R rb2
   refine gl_updx (A := [_]) (F := fun c_ => (rpQ (q + 1)).R ma c_ (areaTo l 0 1 m)) (upd_box Try.sizeOf29 (Pc.here _) rfl rfl rfl rw_18 (r39.le (Le.q (l := q + 1) (by omega))) rfl) ?_
   intro cs_19 rb_20
   refine gl_nil (gq_then (gc_ret (gq_exv (rv_o (t := 2) ty29 (.tail _ (.head _)) rfl rb_20) ?_)))
   intro w_21 hvw_21 rr_22
   refine gq_res (fun E S => run_res1 rfl hvw_21 E S) ?_
   exact (Rp.Is.cast (Rp.Is.le rr_22 (Le.q (l := 1000000000) (by omega))) (by rw [em]))

theorem o_r5_turn {w0 : World} {h0 : Mem}  (hs : MLe h0 (mem w0)) {k : Nat} {va : Value} {a : (T3 Rat)} (ra : (rpT (rpQ k)).Is h0 va a) {vb : Value} {b : (T3 Rat)} (rb : (rpT (rpQ k)).Is h0 vb b) {vc : Value} {c : (T3 Rat)} (rc : (rpT (rpQ k)).Is h0 vc c) (hcd0 : k ≤ 10000)  :
    Calls Try.prog 47 #[va, vb, vc] w0 (Ret w0 h0 (fun _ r => r = vI (orZ (pr a 0 1) (pr b 0 1) (pr c 0 1)))) := by
 refine calls_begin (n := 13) (e := [(0, va), (1, vb), (2, vc)]) (vs := [va, vb, vc]) Try.func47 rfl rfl (Nat.le_of_ble_eq_true rfl) hs ⟨rfl, rfl, rfl, trivial⟩ (gc_seq (gc_region (gl_newop (new_boxx (ρ := (rpT (rpQ k))) rfl ra) rfl rfl rfl ?_)))
 intro v3 q3 hq3
 obtain ⟨b3, cs3, rfl, rfl, rb3⟩ := hq3
 refine gl_newop (new_boxx (ρ := (rpT (rpQ k))) rfl rb) rfl rfl rfl ?_
 intro v4 q4 hq4
 obtain ⟨b4, cs4, rfl, rfl, rb4⟩ := hq4
 refine gl_newop (new_boxx (ρ := (rpT (rpQ k))) rfl rc) rfl rfl rfl ?_
 intro v5 q5 hq5
 obtain ⟨b5, cs5, rfl, rfl, rb5⟩ := hq5
 refine asg (v := vI (0)) rfl rfl (gl_nil (gq_then (gc_seq (gc_region (gl_x (F := fun v_ => (rpT (rpQ k)).Is h0 v_ a) (ox_load_box ty31 (Pc.here _) rfl rfl rb3 rfl) (mem1 (.tail _ (.tail _ (.head _)))) rfl ?_)))))
 intro v7 r7
 refine gl_x (F := fun v_ => (rpT (rpQ k)).Is h0 v_ b) (ox_load_box ty31 (Pc.here _) rfl rfl rb4 rfl) (mem1 (.tail _ (.head _))) rfl ?_
 intro v8 r8
 refine gl_x (F := fun v_ => (rpT (rpQ k)).Is h0 v_ c) (ox_load_box ty31 (Pc.here _) rfl rfl rb5 rfl) (mem1 (.head _)) rfl ?_
 intro v9 r9
 refine gl_newop (new_buildx (ρ := (rpT (rpQ (k + 1)))) (m := 3) (xs := [a, b, c]) (ps' := [(0, _), (1, _), (2, _)]) Try.underlying38 info31 rfl rfl rfl (zr_t (zr_q (by omega))) ⟨rfl, rfl, rfl, rfl, rfl, rfl, trivial⟩ (fx_one rfl (Pc.arr (Pc.here _) (T3.mk (0 : Rat) (0 : Rat) (0 : Rat)) 0 (by decide)) (r7.le (Le.t (Le.q (l := k + 1) (by omega)))) (fx_one rfl (Pc.arr (Pc.here _) (T3.mk (0 : Rat) (0 : Rat) (0 : Rat)) 1 (by decide)) (r8.le (Le.t (Le.q (l := k + 1) (by omega)))) (fx_one rfl (Pc.arr (Pc.here _) (T3.mk (0 : Rat) (0 : Rat) (0 : Rat)) 2 (by decide)) (r9.le (Le.t (Le.q (l := k + 1) (by omega)))) fx_nil))) (show 3 * 9 ≤ 16777216 from by decide) (show 0 < 9 from by decide)) rfl rfl rfl ?_
 intro v10 q10 hq10
 obtain ⟨cs10, rfl, rl10⟩ := hq10
 refine gl_freezex (A := []) (ρ := (rpT (rpQ (k + 1)))) rl10 ?_
 intro h1 hh1 rs_23
 refine gl_call (vs := [_]) rfl rfl rfl rfl Try.call74 ⟨rfl, trivial⟩ (fun w hs => o_r5_area hs rs_23 (by first | omega | exact (by decide : 3 ≤ 1000)) (by first | omega | exact (by decide : 3 ≤ 1000))) ?_
 intro v11 h2 hh2 r11
 change (rpQ 1000000000).Is h2 v11 (areaTo [a, b, c] 0 1 [a, b, c].length) at r11
 refine gl_call (vs := [_]) rfl rfl rfl rfl Try.call34 ⟨rfl, trivial⟩ (fun w hs => o_rref_sign hs r11 (by decide)) ?_
 intro v12 h3 hh3 r12
 obtain rfl : v12 = vI (sgnQ (areaTo [a, b, c] 0 1 [a, b, c].length)) := r12
 have hsr12 := sgnQ_range (areaTo [a, b, c] 0 1 [a, b, c].length)
 refine asg rfl rfl (gl_nil (gq_keep (e' := [(6, _)]) ⟨rfl, trivial⟩ (gq_then (gc_ret (gq_body1 rfl rfl ?_)))))
 exact congrArg vI (turn_eq a b c)

theorem o_r5_on {w0 : World} {h0 : Mem}  (hs : MLe h0 (mem w0)) {k : Nat} {va : Value} {a : (T3 Rat)} (ra : (rpT (rpQ k)).Is h0 va a) {vb : Value} {b : (T3 Rat)} (rb : (rpT (rpQ k)).Is h0 vb b) {vp : Value} {p : (T3 Rat)} (rp : (rpT (rpQ k)).Is h0 vp p) (hcd0 : k ≤ 10000)  :
    Calls Try.prog 75 #[va, vb, vp] w0 (Ret w0 h0 (fun _ r => r = vB (onS (pr a 0 1) (pr b 0 1) (pr p 0 1)))) := by
 refine calls_begin (n := 29) (e := [(0, va), (1, vb), (2, vp)]) (vs := [va, vb, vp]) Try.func75 rfl rfl (Nat.le_of_ble_eq_true rfl) hs ⟨rfl, rfl, rfl, trivial⟩ (gc_seq (gc_region (gl_newop (new_boxx (ρ := (rpT (rpQ k))) rfl ra) rfl rfl rfl ?_)))
 intro v3 q3 hq3
 obtain ⟨b3, cs3, rfl, rfl, rb3⟩ := hq3
 refine gl_newop (new_boxx (ρ := (rpT (rpQ k))) rfl rb) rfl rfl rfl ?_
 intro v4 q4 hq4
 obtain ⟨b4, cs4, rfl, rfl, rb4⟩ := hq4
 refine gl_newop (new_boxx (ρ := (rpT (rpQ k))) rfl rp) rfl rfl rfl ?_
 intro v5 q5 hq5
 obtain ⟨b5, cs5, rfl, rfl, rb5⟩ := hq5
 refine asg rfl rfl (gl_nil (gq_then ?_))
 refine gc_cut (ι := List Value × List Value × Mem) (fun (x_ : (List Value × List Value × Mem)) => match x_ with | (cs_24, cs_26, m1) => MLe h0 m1 ∧ ((rpT (rpQ k)).R m1 cs_24 (loT a b 0 1) ∧ (rpT (rpQ k)).R m1 cs_26 (hiT a b 0 1) ∧ True)) (fun (x_ : (List Value × List Value × Mem)) => match x_ with | (cs_24, cs_26, m1) => [(3, vP b3 0), (4, vP b4 0), (5, vP b5 0)]) (fun (x_ : (List Value × List Value × Mem)) => match x_ with | (cs_24, cs_26, m1) => [.var b5 31 cs5, .var b4 31 cs_26, .var b3 31 cs_24]) (fun (x_ : (List Value × List Value × Mem)) => match x_ with | (cs_24, cs_26, m1) => m1) ?_ ?_
 ·
  refine gc_seq (gc_region (gl_x (F := fun v_ => (rpT (rpQ k)).Is h0 v_ b) (ox_load_box ty31 (Pc.here _) rfl rfl rb4 rfl) (mem1 (.tail _ (.head _))) rfl ?_))
  intro v7 r7
  refine gl_x (F := fun v_ => (rpT (rpQ k)).Is h0 v_ a) (ox_load_box ty31 (Pc.here _) rfl rfl rb3 rfl) (mem1 (.tail _ (.tail _ (.head _)))) rfl ?_
  intro v8 r8
  refine gl_call (vs := [_, _]) rfl rfl rfl rfl Try.call46 ⟨rfl, rfl, trivial⟩ (fun w hs => o_r5_less hs r7 r8 (by omega)) ?_
  intro v9 h1 hh1 r9
  obtain rfl : v9 = vB (lx (pr b 0 1) (pr a 0 1)) := r9
  refine gl_nil (gq_then ?_)
  refine gc_cond rfl (fun hc9 => ?_) (fun hc9 => ?_)
  ·
   refine gc_region ?_
   replace rb4 := rb4.mono hh1
   refine gl_x (F := fun v_ => (rpT (rpQ k)).Is h1 v_ b) (ox_load_box ty31 (Pc.here _) rfl rfl rb4 rfl) (mem1 (.tail _ (.head _))) rfl ?_
   intro v10 r10
   replace rb3 := rb3.mono hh1
   refine gl_x (F := fun v_ => (rpT (rpQ k)).Is h1 v_ a) (ox_load_box ty31 (Pc.here _) rfl rfl rb3 rfl) (mem1 (.tail _ (.tail _ (.head _)))) rfl ?_
   intro v11 r11
   refine gl_updx (A := [_, _]) (F := fun c_ => (rpT (rpQ k)).R h1 c_ b) (upd_box Try.sizeOf31 (Pc.here _) rfl rfl rfl rb3 r10 rfl) ?_
   intro cs_28 rb_29
   refine gl_updx (A := [_]) (F := fun c_ => (rpT (rpQ k)).R h1 c_ a) (upd_box Try.sizeOf31 (Pc.here _) rfl rfl rfl rb4 r11 rfl) ?_
   intro cs_30 rb_31
   refine gl_nil ?_
   refine gq_cut (cs_28, cs_30, h1) ?_ ⟨?_, ?_, ?_, trivial⟩ ?_ rfl
   ·
    refine ⟨hh1, ?_⟩
    refine ⟨(Rp.castR rb_29 (if_pos hc9).symm), (Rp.castR rb_31 (if_pos hc9).symm), ?_⟩
    trivial
   · exact rfl
   · exact rfl
   · exact rfl
   · exact rfl
  ·
   refine gc_skip ?_
   refine gq_cut (cs3, cs4, h1) ?_ ⟨?_, ?_, ?_, trivial⟩ ?_ rfl
   ·
    refine ⟨hh1, ?_⟩
    replace rb3 := rb3.mono hh1
    replace rb4 := rb4.mono hh1
    refine ⟨(Rp.castR rb3 (if_neg hc9).symm), (Rp.castR rb4 (if_neg hc9).symm), ?_⟩
    trivial
   · exact rfl
   · exact rfl
   · exact rfl
   · exact rfl
 ·
  intro x hx
  obtain ⟨cs_24, cs_26, m1⟩ := x
  obtain ⟨hmm1, hcut⟩ := hx
  show GC _ _ _ _ _ _ [(3, vP b3 0), (4, vP b4 0), (5, vP b5 0)] [.var b5 31 cs5, .var b4 31 cs_26, .var b3 31 cs_24] m1
  obtain ⟨rb_25, rb_27, hcut⟩ := hcut
  refine gc_seq (gc_region (gl_x (F := fun v_ => (rpT (rpQ k)).Is m1 v_ (loT a b 0 1)) (ox_load_box ty31 (Pc.here _) rfl rfl rb_25 rfl) (mem1 (.tail _ (.tail _ (.head _)))) rfl ?_))
  intro v12 r12
  refine gl_x (F := fun v_ => (rpT (rpQ k)).Is m1 v_ (hiT a b 0 1)) (ox_load_box ty31 (Pc.here _) rfl rfl rb_27 rfl) (mem1 (.tail _ (.head _))) rfl ?_
  intro v13 r13
  replace rb5 := rb5.mono hmm1
  refine gl_x (F := fun v_ => (rpT (rpQ k)).Is m1 v_ p) (ox_load_box ty31 (Pc.here _) rfl rfl rb5 rfl) (mem1 (.head _)) rfl ?_
  intro v14 r14
  refine gl_call (vs := [_, _, _]) rfl rfl rfl rfl Try.call47 ⟨rfl, rfl, rfl, trivial⟩ (fun w hs => o_r5_turn hs r12 r13 r14 (by omega)) ?_
  intro v15 h1 hh1 r15
  obtain rfl : v15 = vI (orZ (pr (loT a b 0 1) 0 1) (pr (hiT a b 0 1) 0 1) (pr p 0 1)) := r15
  have hor15 := or_range (pr (loT a b 0 1) 0 1) (pr (hiT a b 0 1) 0 1) (pr p 0 1)
  refine gv (ov_eql_i (q := 0) rfl rfl) rfl ?_
  refine gl_cut (ι := Mem) 6 (fun m_ => MLe h1 m_) (fun _ => [(22, vB (((orZ (pr (loT a b 0 1) 0 1) (pr (hiT a b 0 1) 0 1) (pr p 0 1)) = (0 : Int)) ∧ (¬ (lx (pr p 0 1) (pr (loT a b 0 1) 0 1))))), (4, vP b4 0), (5, vP b5 0)]) (fun _ => [.var b5 31 cs5, .var b4 31 cs_26, .var b3 31 cs_24]) (fun m_ => m_) ?_ ?_
  ·
   refine gl_cases ((orZ (pr (loT a b 0 1) 0 1) (pr (hiT a b 0 1) 0 1) (pr p 0 1)) = (0 : Int)) (fun hg => ?_) (fun hg => ?_)
   ·
    refine gl_val (ov_move (v := .bool true) (congrArg some (vB_true hg))) rfl rfl rfl (gl_on rfl rfl rfl ?_)
    replace rb5 := rb5.mono hh1
    refine gl_x (F := fun v_ => (rpT (rpQ k)).Is h1 v_ p) (ox_load_box ty31 (Pc.here _) rfl rfl rb5 rfl) (mem1 (.head _)) rfl ?_
    intro v18 r18
    refine gl_on rfl rfl rfl ?_
    replace rb_25 := rb_25.mono hh1
    refine gl_x (F := fun v_ => (rpT (rpQ k)).Is h1 v_ (loT a b 0 1)) (ox_load_box ty31 (Pc.here _) rfl rfl rb_25 rfl) (mem1 (.tail _ (.tail _ (.head _)))) rfl ?_
    intro v19 r19
    refine gl_on rfl rfl rfl ?_
    refine gl_call (vs := [_, _]) rfl rfl rfl rfl Try.call46 ⟨rfl, rfl, trivial⟩ (fun w hs => o_r5_less hs r18 r19 (by omega)) ?_
    intro v20 h2 hh2 r20
    obtain rfl : v20 = vB (lx (pr p 0 1) (pr (loT a b 0 1) 0 1)) := r20
    refine gl_on rfl rfl rfl (gv (ov_not rfl) rfl (gv (ov_pick_t rfl rfl) rfl (gl_nil ?_)))
    refine gq_cut h2 hh2 ⟨?_, rfl, rfl, trivial⟩ rfl rfl
    exact congrArg some (vB_and_t hg)
   ·
    refine gl_val (ov_move (v := .bool false) (congrArg some (vB_false hg))) rfl rfl rfl (gl_off rfl rfl rfl rfl rfl rfl (gl_off rfl rfl rfl rfl rfl rfl (gl_off rfl rfl rfl rfl rfl rfl (gl_off rfl rfl rfl rfl rfl rfl (gv (ov_pick_f rfl rfl) rfl (gl_nil ?_))))))
    refine gq_cut h1 (MLe.refl _) ⟨?_, rfl, rfl, trivial⟩ rfl rfl
    exact congrArg some (vB_and_f hg)
  ·
   intro mg3_5 hmmg3_5
   show GL _ _ _ _ _ _ _ [(22, vB (((orZ (pr (loT a b 0 1) 0 1) (pr (hiT a b 0 1) 0 1) (pr p 0 1)) = (0 : Int)) ∧ (¬ (lx (pr p 0 1) (pr (loT a b 0 1) 0 1))))), (4, vP b4 0), (5, vP b5 0)] [.var b5 31 cs5, .var b4 31 cs_26, .var b3 31 cs_24] mg3_5
   refine gl_cut (ι := Mem) 6 (fun m_ => MLe mg3_5 m_) (fun _ => [(28, vB ((((orZ (pr (loT a b 0 1) 0 1) (pr (hiT a b 0 1) 0 1) (pr p 0 1)) = (0 : Int)) ∧ (¬ (lx (pr p 0 1) (pr (loT a b 0 1) 0 1)))) ∧ (¬ (lx (pr (hiT a b 0 1) 0 1) (pr p 0 1)))))]) (fun _ => [.var b5 31 cs5, .var b4 31 cs_26, .var b3 31 cs_24]) (fun m_ => m_) ?_ ?_
   ·
    refine gl_cases (((orZ (pr (loT a b 0 1) 0 1) (pr (hiT a b 0 1) 0 1) (pr p 0 1)) = (0 : Int)) ∧ (¬ (lx (pr p 0 1) (pr (loT a b 0 1) 0 1)))) (fun hg => ?_) (fun hg => ?_)
    ·
     refine gl_val (ov_move (v := .bool true) (congrArg some (vB_true hg))) rfl rfl rfl (gl_on rfl rfl rfl ?_)
     replace rb_27 := rb_27.mono (hh1.trans hmmg3_5)
     refine gl_x (F := fun v_ => (rpT (rpQ k)).Is mg3_5 v_ (hiT a b 0 1)) (ox_load_box ty31 (Pc.here _) rfl rfl rb_27 rfl) (mem1 (.tail _ (.head _))) rfl ?_
     intro v24 r24
     refine gl_on rfl rfl rfl ?_
     replace rb5 := rb5.mono (hh1.trans hmmg3_5)
     refine gl_x (F := fun v_ => (rpT (rpQ k)).Is mg3_5 v_ p) (ox_load_box ty31 (Pc.here _) rfl rfl rb5 rfl) (mem1 (.head _)) rfl ?_
     intro v25 r25
     refine gl_on rfl rfl rfl ?_
     refine gl_call (vs := [_, _]) rfl rfl rfl rfl Try.call46 ⟨rfl, rfl, trivial⟩ (fun w hs => o_r5_less hs r24 r25 (by omega)) ?_
     intro v26 h2 hh2 r26
     obtain rfl : v26 = vB (lx (pr (hiT a b 0 1) 0 1) (pr p 0 1)) := r26
     refine gl_on rfl rfl rfl (gv (ov_not rfl) rfl (gv (ov_pick_t rfl rfl) rfl (gl_nil ?_)))
     refine gq_cut h2 hh2 ⟨?_, trivial⟩ rfl rfl
     exact congrArg some (vB_and_t hg)
    ·
     refine gl_val (ov_move (v := .bool false) (congrArg some (vB_false hg))) rfl rfl rfl (gl_off rfl rfl rfl rfl rfl rfl (gl_off rfl rfl rfl rfl rfl rfl (gl_off rfl rfl rfl rfl rfl rfl (gl_off rfl rfl rfl rfl rfl rfl (gv (ov_pick_f rfl rfl) rfl (gl_nil ?_))))))
     refine gq_cut mg3_5 (MLe.refl _) ⟨?_, trivial⟩ rfl rfl
     exact congrArg some (vB_and_f hg)
   ·
    intro mg3_11 hmmg3_11
    show GL _ _ _ _ _ _ _ [(28, vB ((((orZ (pr (loT a b 0 1) 0 1) (pr (hiT a b 0 1) 0 1) (pr p 0 1)) = (0 : Int)) ∧ (¬ (lx (pr p 0 1) (pr (loT a b 0 1) 0 1)))) ∧ (¬ (lx (pr (hiT a b 0 1) 0 1) (pr p 0 1)))))] [.var b5 31 cs5, .var b4 31 cs_26, .var b3 31 cs_24] mg3_11
    refine asg rfl rfl (gl_nil (gq_then (gc_ret (gq_body1 rfl rfl ?_))))
    first | exact vB_iff (by rw [← on_T]; grind) | exact (vB_true (by rw [← on_T]; grind)).symm | exact (vB_false (by rw [← on_T]; grind)).symm

theorem o_r5_line {w0 : World} {h0 : Mem}  (hs : MLe h0 (mem w0)) {k : Nat} {va : Value} {a : (T3 Rat)} (ra : (rpT (rpQ k)).Is h0 va a) {vb : Value} {b : (T3 Rat)} (rb : (rpT (rpQ k)).Is h0 vb b) {vc : Value} {c : (T3 Rat)} (rc : (rpT (rpQ k)).Is h0 vc c) {vd : Value} {d : (T3 Rat)} (rd : (rpT (rpQ k)).Is h0 vd d) (hcd0 : k ≤ 9000)  :
    Calls Try.prog 48 #[va, vb, vc, vd] w0 (Ret w0 h0 (fun _ r => r = vI (lineR (pr a 0 1) (pr b 0 1) (pr c 0 1) (pr d 0 1)))) := by
 refine calls_begin (n := 72) (e := [(0, va), (1, vb), (2, vc), (3, vd)]) (vs := [va, vb, vc, vd]) Try.func48 rfl rfl (Nat.le_of_ble_eq_true rfl) hs ⟨rfl, rfl, rfl, rfl, trivial⟩ (gc_seq (gc_region (gl_newop (new_boxx (ρ := (rpT (rpQ k))) rfl ra) rfl rfl rfl ?_)))
 intro v4 q4 hq4
 obtain ⟨b4, cs4, rfl, rfl, rb4⟩ := hq4
 refine gl_newop (new_boxx (ρ := (rpT (rpQ k))) rfl rb) rfl rfl rfl ?_
 intro v5 q5 hq5
 obtain ⟨b5, cs5, rfl, rfl, rb5⟩ := hq5
 refine gl_newop (new_boxx (ρ := (rpT (rpQ k))) rfl rc) rfl rfl rfl ?_
 intro v6 q6 hq6
 obtain ⟨b6, cs6, rfl, rfl, rb6⟩ := hq6
 refine gl_newop (new_boxx (ρ := (rpT (rpQ k))) rfl rd) rfl rfl rfl ?_
 intro v7 q7 hq7
 obtain ⟨b7, cs7, rfl, rfl, rb7⟩ := hq7
 refine asg (v := vI (0)) rfl rfl (gl_nil (gq_then (gc_seq ?_)))
 refine gc_draw 6 _ [(2, (9, 31, [.bool false, .slice none 0 0, .slice none 0 0, .bool false, .slice none 0 0, .slice none 0 0, .bool false, .slice none 0 0, .slice none 0 0])), (3, (10, 31, [.bool false, .slice none 0 0, .slice none 0 0, .bool false, .slice none 0 0, .slice none 0 0, .bool false, .slice none 0 0, .slice none 0 0]))] [(0, .q), (1, .q), (2, .a), (3, .a), (4, .c), (5, .c)] mixed (AlOk.cons rfl (zero_run info31 rfl rfl) (AlOk.cons rfl (zero_run info31 rfl rfl) AlOk.nil)) (by kernel_rfl) (hae_cons rfl rfl (hae_cons rfl rfl hae_nil)) (fun r hr => hr) (w_qx (F := fun v_ => (rpT (rpQ k)).Is h0 v_ a) rfl (ox_load_box ty31 (Pc.here _) rfl rfl rb4 rfl) (mem1 (.tail _ (.tail _ (.tail _ (.head _))))) rfl ?_)
 intro v11 r11
 refine w_qx (F := fun v_ => (rpT (rpQ k)).Is h0 v_ b) rfl (ox_load_box ty31 (Pc.here _) rfl rfl rb5 rfl) (mem1 (.tail _ (.tail _ (.head _)))) rfl ?_
 intro v12 r12
 refine w_a rfl (fun b9 => ?_)
 have rb9 : (rpT (rpQ (k + 1))).R h0 [.bool false, .slice none 0 0, .slice none 0 0, .bool false, .slice none 0 0, .slice none 0 0, .bool false, .slice none 0 0, .slice none 0 0] (T3.mk (0 : Rat) (0 : Rat) (0 : Rat)) := (zr_t (zr_q (by omega)))
 refine w_a rfl (fun b10 => ?_)
 have rb10 : (rpT (rpQ (k + 1))).R h0 [.bool false, .slice none 0 0, .slice none 0 0, .bool false, .slice none 0 0, .slice none 0 0, .bool false, .slice none 0 0, .slice none 0 0] (T3.mk (0 : Rat) (0 : Rat) (0 : Rat)) := (zr_t (zr_q (by omega)))
 refine w_c rfl (s_updx (A := [_]) (F := fun c_ => (rpT (rpQ (k + 1))).R h0 c_ a) (upd_box Try.sizeOf31 (Pc.here _) rfl rfl rfl rb9 (r11.le (Le.t (Le.q (l := k + 1) (by omega)))) rfl) (mem_kept (by simp)) ?_)
 intro cs_32 rb_33
 refine w_c rfl (s_updx (A := []) (F := fun c_ => (rpT (rpQ (k + 1))).R h0 c_ b) (upd_box Try.sizeOf31 (Pc.here _) rfl rfl rfl rb10 (r12.le (Le.t (Le.q (l := k + 1) (by omega)))) rfl) (mem_kept (by simp)) ?_)
 intro cs_34 rb_35
 refine w_nil (gq_then ?_)
 refine gc_cut (ι := List Value × Mem) (fun (x_ : (List Value × Mem)) => match x_ with | (cs_36, m1) => MLe h0 m1 ∧ ((rpT (rpQ (k + 1))).R m1 cs_36 (mxT a c 0 1) ∧ True)) (fun (x_ : (List Value × Mem)) => match x_ with | (cs_36, m1) => [(4, vP b4 0), (5, vP b5 0), (6, vP b6 0), (7, vP b7 0), (9, vP b9 0), (10, vP b10 0)]) (fun (x_ : (List Value × Mem)) => match x_ with | (cs_36, m1) => [.var b10 31 cs_34, .var b9 31 cs_36, .var b7 31 cs7, .var b6 31 cs6, .var b5 31 cs5, .var b4 31 cs4]) (fun (x_ : (List Value × Mem)) => match x_ with | (cs_36, m1) => m1) ?_ ?_
 ·
  refine gc_seq (gc_region (gl_x (F := fun v_ => (rpT (rpQ (k + 1))).Is h0 v_ a) (ox_load_box ty31 (Pc.here _) rfl rfl rb_33 rfl) (mem1 (.tail _ (.head _))) rfl ?_))
  intro v13 r13
  refine gl_x (F := fun v_ => (rpT (rpQ k)).Is h0 v_ c) (ox_load_box ty31 (Pc.here _) rfl rfl rb6 rfl) (mem1 (.tail _ (.tail _ (.tail _ (.head _))))) rfl ?_
  intro v14 r14
  refine gl_call (vs := [_, _]) rfl rfl rfl rfl Try.call46 ⟨rfl, rfl, trivial⟩ (fun w hs => o_r5_less hs r13 (r14.le (Le.t (Le.q (l := k + 1) (by omega)))) (by omega)) ?_
  intro v15 h1 hh1 r15
  obtain rfl : v15 = vB (lx (pr a 0 1) (pr c 0 1)) := r15
  refine gl_nil (gq_then ?_)
  refine gc_cond rfl (fun hc15 => ?_) (fun hc15 => ?_)
  ·
   refine gc_keep (e' := [(4, _), (5, _), (6, _), (7, _), (9, _), (10, _)]) ⟨rfl, rfl, rfl, rfl, rfl, rfl, trivial⟩ (gc_region ?_)
   replace rb6 := rb6.mono hh1
   refine gl_x (F := fun v_ => (rpT (rpQ k)).Is h1 v_ c) (ox_load_box ty31 (Pc.here _) rfl rfl rb6 rfl) (mem1 (.tail _ (.tail _ (.tail _ (.head _))))) rfl ?_
   intro v16 r16
   replace rb_33 := rb_33.mono hh1
   refine gl_updx (A := [_]) (F := fun c_ => (rpT (rpQ (k + 1))).R h1 c_ c) (upd_box Try.sizeOf31 (Pc.here _) rfl rfl rfl rb_33 (r16.le (Le.t (Le.q (l := k + 1) (by omega)))) rfl) ?_
   intro cs_38 rb_39
   refine gl_nil ?_
   refine gq_cut (cs_38, h1) ?_ ⟨?_, ?_, ?_, ?_, ?_, ?_, trivial⟩ ?_ rfl
   ·
    refine ⟨hh1, ?_⟩
    refine ⟨(Rp.castR rb_39 (if_pos hc15).symm), ?_⟩
    trivial
   · exact rfl
   · exact rfl
   · exact rfl
   · exact rfl
   · exact rfl
   · exact rfl
   · exact rfl
  ·
   refine gc_keep (e' := [(4, _), (5, _), (6, _), (7, _), (9, _), (10, _)]) ⟨rfl, rfl, rfl, rfl, rfl, rfl, trivial⟩ (gc_skip ?_)
   refine gq_cut (cs_32, h1) ?_ ⟨?_, ?_, ?_, ?_, ?_, ?_, trivial⟩ ?_ rfl
   ·
    refine ⟨hh1, ?_⟩
    replace rb_33 := rb_33.mono hh1
    refine ⟨(Rp.castR rb_33 (if_neg hc15).symm), ?_⟩
    trivial
   · exact rfl
   · exact rfl
   · exact rfl
   · exact rfl
   · exact rfl
   · exact rfl
   · exact rfl
 ·
  intro x hx
  obtain ⟨cs_36, m1⟩ := x
  obtain ⟨hmm1, hcut⟩ := hx
  show GC _ _ _ _ _ _ [(4, vP b4 0), (5, vP b5 0), (6, vP b6 0), (7, vP b7 0), (9, vP b9 0), (10, vP b10 0)] [.var b10 31 cs_34, .var b9 31 cs_36, .var b7 31 cs7, .var b6 31 cs6, .var b5 31 cs5, .var b4 31 cs4] m1
  obtain ⟨rb_37, hcut⟩ := hcut
  refine gc_cut (ι := List Value × Mem) (fun (x_ : (List Value × Mem)) => match x_ with | (cs_40, m2) => MLe m1 m2 ∧ ((rpT (rpQ (k + 1))).R m2 cs_40 (mnT b d 0 1) ∧ True)) (fun (x_ : (List Value × Mem)) => match x_ with | (cs_40, m2) => [(4, vP b4 0), (5, vP b5 0), (6, vP b6 0), (7, vP b7 0), (9, vP b9 0), (10, vP b10 0)]) (fun (x_ : (List Value × Mem)) => match x_ with | (cs_40, m2) => [.var b10 31 cs_40, .var b9 31 cs_36, .var b7 31 cs7, .var b6 31 cs6, .var b5 31 cs5, .var b4 31 cs4]) (fun (x_ : (List Value × Mem)) => match x_ with | (cs_40, m2) => m2) ?_ ?_
  ·
   refine gc_seq (gc_region ?_)
   replace rb7 := rb7.mono hmm1
   refine gl_x (F := fun v_ => (rpT (rpQ k)).Is m1 v_ d) (ox_load_box ty31 (Pc.here _) rfl rfl rb7 rfl) (mem1 (.tail _ (.tail _ (.head _)))) rfl ?_
   intro v17 r17
   replace rb_35 := rb_35.mono hmm1
   refine gl_x (F := fun v_ => (rpT (rpQ (k + 1))).Is m1 v_ b) (ox_load_box ty31 (Pc.here _) rfl rfl rb_35 rfl) (mem1 (.head _)) rfl ?_
   intro v18 r18
   refine gl_call (vs := [_, _]) rfl rfl rfl rfl Try.call46 ⟨rfl, rfl, trivial⟩ (fun w hs => o_r5_less hs (r17.le (Le.t (Le.q (l := k + 1) (by omega)))) r18 (by omega)) ?_
   intro v19 h1 hh1 r19
   obtain rfl : v19 = vB (lx (pr d 0 1) (pr b 0 1)) := r19
   refine gl_nil (gq_then ?_)
   refine gc_cond rfl (fun hc19 => ?_) (fun hc19 => ?_)
   ·
    refine gc_region ?_
    replace rb7 := rb7.mono hh1
    refine gl_x (F := fun v_ => (rpT (rpQ k)).Is h1 v_ d) (ox_load_box ty31 (Pc.here _) rfl rfl rb7 rfl) (mem1 (.tail _ (.tail _ (.head _)))) rfl ?_
    intro v20 r20
    replace rb_35 := rb_35.mono hh1
    refine gl_updx (A := []) (F := fun c_ => (rpT (rpQ (k + 1))).R h1 c_ d) (upd_box Try.sizeOf31 (Pc.here _) rfl rfl rfl rb_35 (r20.le (Le.t (Le.q (l := k + 1) (by omega)))) rfl) ?_
    intro cs_42 rb_43
    refine gl_nil ?_
    refine gq_cut (cs_42, h1) ?_ ⟨?_, ?_, ?_, ?_, ?_, ?_, trivial⟩ ?_ rfl
    ·
     refine ⟨hh1, ?_⟩
     refine ⟨(Rp.castR rb_43 (if_pos hc19).symm), ?_⟩
     trivial
    · exact rfl
    · exact rfl
    · exact rfl
    · exact rfl
    · exact rfl
    · exact rfl
    · exact rfl
   ·
    refine gc_skip ?_
    refine gq_cut (cs_34, h1) ?_ ⟨?_, ?_, ?_, ?_, ?_, ?_, trivial⟩ ?_ rfl
    ·
     refine ⟨hh1, ?_⟩
     replace rb_35 := rb_35.mono hh1
     refine ⟨(Rp.castR rb_35 (if_neg hc19).symm), ?_⟩
     trivial
    · exact rfl
    · exact rfl
    · exact rfl
    · exact rfl
    · exact rfl
    · exact rfl
    · exact rfl
  ·
   intro x hx
   obtain ⟨cs_40, m2⟩ := x
   obtain ⟨hmm2, hcut⟩ := hx
   show GC _ _ _ _ _ _ [(4, vP b4 0), (5, vP b5 0), (6, vP b6 0), (7, vP b7 0), (9, vP b9 0), (10, vP b10 0)] [.var b10 31 cs_40, .var b9 31 cs_36, .var b7 31 cs7, .var b6 31 cs6, .var b5 31 cs5, .var b4 31 cs4] m2
   obtain ⟨rb_41, hcut⟩ := hcut
   refine gc_seq (gc_block (gc_seq (gc_region (gl_x (F := fun v_ => (rpT (rpQ (k + 1))).Is m2 v_ (mnT b d 0 1)) (ox_load_box ty31 (Pc.here _) rfl rfl rb_41 rfl) (mem1 (.head _)) rfl ?_))))
   intro v22 r22
   replace rb_37 := rb_37.mono hmm2
   refine gl_x (F := fun v_ => (rpT (rpQ (k + 1))).Is m2 v_ (mxT a c 0 1)) (ox_load_box ty31 (Pc.here _) rfl rfl rb_37 rfl) (mem1 (.tail _ (.head _))) rfl ?_
   intro v23 r23
   refine gl_call (vs := [_, _]) rfl rfl rfl rfl Try.call46 ⟨rfl, rfl, trivial⟩ (fun w hs => o_r5_less hs r22 r23 (by omega)) ?_
   intro v24 h1 hh1 r24
   obtain rfl : v24 = vB (lx (pr (mnT b d 0 1) 0 1) (pr (mxT a c 0 1) 0 1)) := r24
   refine asg rfl rfl (gl_nil (gq_then ?_))
   refine gc_cond rfl (fun hc21 => ?_) (fun hc21 => ?_)
   ·
    refine gc_keep (e' := []) trivial (gc_seq (gc_region (asg (v := vI (0)) rfl rfl (gl_nil (gq_then (gc_ret (gr_in (gr_then (gq_body1 rfl rfl ?_)))))))))
    refine congrArg vI ?_; rw [← line_T rfl rfl]; unfold lineT; grind
   ·
    refine gc_seq (gc_region ?_)
    replace rb_37 := rb_37.mono hh1
    refine gl_x (F := fun v_ => (rpT (rpQ (k + 1))).Is h1 v_ (mxT a c 0 1)) (ox_load_box ty31 (Pc.here _) rfl rfl rb_37 rfl) (mem1 (.tail _ (.head _))) rfl ?_
    intro v26 r26
    replace rb_41 := rb_41.mono hh1
    refine gl_x (F := fun v_ => (rpT (rpQ (k + 1))).Is h1 v_ (mnT b d 0 1)) (ox_load_box ty31 (Pc.here _) rfl rfl rb_41 rfl) (mem1 (.head _)) rfl ?_
    intro v27 r27
    refine gl_call (vs := [_, _]) rfl rfl rfl rfl Try.call49 ⟨rfl, rfl, trivial⟩ (fun w hs => o_r5_equal hs r26 r27 (by omega)) ?_
    intro v28 h2 hh2 r28
    obtain rfl : v28 = vB ((pr (mxT a c 0 1) 0 1) = (pr (mnT b d 0 1) 0 1)) := r28
    refine gv (ov_not rfl) rfl (asg rfl rfl (gl_nil (gq_then ?_)))
    refine gc_cond rfl (fun hc25 => ?_) (fun hc25 => ?_)
    ·
     refine gc_keep (e' := []) trivial (gc_seq (gc_region (asg (v := vI (3)) rfl rfl (gl_nil (gq_then (gc_ret (gr_in (gr_then (gq_body1 rfl rfl ?_)))))))))
     refine congrArg vI ?_; rw [← line_T rfl rfl]; unfold lineT; grind
    ·
     refine gc_keep (e' := [(4, _), (5, _), (6, _), (7, _), (9, _)]) ⟨rfl, rfl, rfl, rfl, rfl, trivial⟩ (gc_seq (gc_region ?_))
     replace rb_37 := rb_37.mono hh2
     refine gl_x (F := fun v_ => (rpT (rpQ (k + 1))).Is h2 v_ (mxT a c 0 1)) (ox_load_box ty31 (Pc.here _) rfl rfl rb_37 rfl) (mem1 (.tail _ (.head _))) rfl ?_
     intro v31 r31
     replace rb4 := rb4.mono (((hmm1.trans hmm2).trans hh1).trans hh2)
     refine gl_x (F := fun v_ => (rpT (rpQ k)).Is h2 v_ a) (ox_load_box ty31 (Pc.here _) rfl rfl rb4 rfl) (mem1 (.tail _ (.tail _ (.tail _ (.tail _ (.tail _ (.head _))))))) rfl ?_
     intro v32 r32
     refine gl_call (vs := [_, _]) rfl rfl rfl rfl Try.call49 ⟨rfl, rfl, trivial⟩ (fun w hs => o_r5_equal hs r31 (r32.le (Le.t (Le.q (l := k + 1) (by omega)))) (by omega)) ?_
     intro v33 h3 hh3 r33
     obtain rfl : v33 = vB ((pr (mxT a c 0 1) 0 1) = (pr a 0 1)) := r33
     refine gl_cut (ι := Mem) 5 (fun m_ => MLe h3 m_) (fun _ => [(38, vB (((pr (mxT a c 0 1) 0 1) = (pr a 0 1)) ∨ ((pr (mxT a c 0 1) 0 1) = (pr b 0 1)))), (4, vP b4 0), (5, vP b5 0), (6, vP b6 0), (7, vP b7 0), (9, vP b9 0)]) (fun _ => [.var b10 31 cs_40, .var b9 31 cs_36, .var b7 31 cs7, .var b6 31 cs6, .var b5 31 cs5, .var b4 31 cs4]) (fun m_ => m_) ?_ ?_
     ·
      refine gl_cases ((pr (mxT a c 0 1) 0 1) = (pr a 0 1)) (fun hg => ?_) (fun hg => ?_)
      ·
       refine gl_val (ov_move (v := .bool true) (congrArg some (vB_true hg))) rfl rfl rfl (gl_off rfl rfl rfl rfl rfl rfl (gl_off rfl rfl rfl rfl rfl rfl (gl_off rfl rfl rfl rfl rfl rfl (gv (ov_pick_t rfl rfl) rfl (gl_nil ?_)))))
       refine gq_cut h3 (MLe.refl _) ⟨?_, rfl, rfl, rfl, rfl, rfl, trivial⟩ rfl rfl
       exact congrArg some (vB_or_t hg)
      ·
       refine gl_val (ov_move (v := .bool false) (congrArg some (vB_false hg))) rfl rfl rfl (gl_on rfl rfl rfl ?_)
       replace rb_37 := rb_37.mono hh3
       refine gl_x (F := fun v_ => (rpT (rpQ (k + 1))).Is h3 v_ (mxT a c 0 1)) (ox_load_box ty31 (Pc.here _) rfl rfl rb_37 rfl) (mem1 (.tail _ (.head _))) rfl ?_
       intro v35 r35
       refine gl_on rfl rfl rfl ?_
       replace rb5 := rb5.mono ((((hmm1.trans hmm2).trans hh1).trans hh2).trans hh3)
       refine gl_x (F := fun v_ => (rpT (rpQ k)).Is h3 v_ b) (ox_load_box ty31 (Pc.here _) rfl rfl rb5 rfl) (mem1 (.tail _ (.tail _ (.tail _ (.tail _ (.head _)))))) rfl ?_
       intro v36 r36
       refine gl_on rfl rfl rfl ?_
       refine gl_call (vs := [_, _]) rfl rfl rfl rfl Try.call49 ⟨rfl, rfl, trivial⟩ (fun w hs => o_r5_equal hs r35 (r36.le (Le.t (Le.q (l := k + 1) (by omega)))) (by omega)) ?_
       intro v37 h4 hh4 r37
       obtain rfl : v37 = vB ((pr (mxT a c 0 1) 0 1) = (pr b 0 1)) := r37
       refine gv (ov_pick_f rfl rfl) rfl (gl_nil ?_)
       refine gq_cut h4 hh4 ⟨?_, rfl, rfl, rfl, rfl, rfl, trivial⟩ rfl rfl
       exact congrArg some (vB_or_f hg)
     ·
      intro mg10_3 hmmg10_3
      show GL _ _ _ _ _ _ _ [(38, vB (((pr (mxT a c 0 1) 0 1) = (pr a 0 1)) ∨ ((pr (mxT a c 0 1) 0 1) = (pr b 0 1)))), (4, vP b4 0), (5, vP b5 0), (6, vP b6 0), (7, vP b7 0), (9, vP b9 0)] [.var b10 31 cs_40, .var b9 31 cs_36, .var b7 31 cs7, .var b6 31 cs6, .var b5 31 cs5, .var b4 31 cs4] mg10_3
      refine gl_cut (ι := Mem) 10 (fun m_ => MLe mg10_3 m_) (fun _ => [(48, vB ((((pr (mxT a c 0 1) 0 1) = (pr a 0 1)) ∨ ((pr (mxT a c 0 1) 0 1) = (pr b 0 1))) ∧ (((pr (mxT a c 0 1) 0 1) = (pr c 0 1)) ∨ ((pr (mxT a c 0 1) 0 1) = (pr d 0 1))))), (4, vP b4 0), (5, vP b5 0), (6, vP b6 0), (7, vP b7 0), (9, vP b9 0)]) (fun _ => [.var b10 31 cs_40, .var b9 31 cs_36, .var b7 31 cs7, .var b6 31 cs6, .var b5 31 cs5, .var b4 31 cs4]) (fun m_ => m_) ?_ ?_
      ·
       refine gl_cases (((pr (mxT a c 0 1) 0 1) = (pr a 0 1)) ∨ ((pr (mxT a c 0 1) 0 1) = (pr b 0 1))) (fun hg => ?_) (fun hg => ?_)
       ·
        refine gl_val (ov_move (v := .bool true) (congrArg some (vB_true hg))) rfl rfl rfl (gl_on rfl rfl rfl ?_)
        replace rb_37 := rb_37.mono (hh3.trans hmmg10_3)
        refine gl_x (F := fun v_ => (rpT (rpQ (k + 1))).Is mg10_3 v_ (mxT a c 0 1)) (ox_load_box ty31 (Pc.here _) rfl rfl rb_37 rfl) (mem1 (.tail _ (.head _))) rfl ?_
        intro v40 r40
        refine gl_on rfl rfl rfl ?_
        replace rb6 := rb6.mono (((((hmm1.trans hmm2).trans hh1).trans hh2).trans hh3).trans hmmg10_3)
        refine gl_x (F := fun v_ => (rpT (rpQ k)).Is mg10_3 v_ c) (ox_load_box ty31 (Pc.here _) rfl rfl rb6 rfl) (mem1 (.tail _ (.tail _ (.tail _ (.head _))))) rfl ?_
        intro v41 r41
        refine gl_on rfl rfl rfl ?_
        refine gl_call (vs := [_, _]) rfl rfl rfl rfl Try.call49 ⟨rfl, rfl, trivial⟩ (fun w hs => o_r5_equal hs r40 (r41.le (Le.t (Le.q (l := k + 1) (by omega)))) (by omega)) ?_
        intro v42 h4 hh4 r42
        obtain rfl : v42 = vB ((pr (mxT a c 0 1) 0 1) = (pr c 0 1)) := r42
        refine gl_cut (ι := Mem) 5 (fun m_ => MLe h4 m_) (fun _ => [(47, vB (((pr (mxT a c 0 1) 0 1) = (pr c 0 1)) ∨ ((pr (mxT a c 0 1) 0 1) = (pr d 0 1)))), (4, vP b4 0), (5, vP b5 0), (6, vP b6 0), (7, vP b7 0), (9, vP b9 0), (39, .bool true)]) (fun _ => [.var b10 31 cs_40, .var b9 31 cs_36, .var b7 31 cs7, .var b6 31 cs6, .var b5 31 cs5, .var b4 31 cs4]) (fun m_ => m_) ?_ ?_
        ·
         refine gl_cases ((pr (mxT a c 0 1) 0 1) = (pr c 0 1)) (fun hg => ?_) (fun hg => ?_)
         ·
          refine gl_on rfl rfl rfl (gl_val (ov_move (v := .bool true) (congrArg some (vB_true hg))) rfl rfl rfl (gl_off rfl rfl rfl rfl rfl rfl (gl_off rfl rfl rfl rfl rfl rfl (gl_off rfl rfl rfl rfl rfl rfl (gl_on rfl rfl rfl (gv (ov_pick_t rfl rfl) rfl (gl_nil ?_)))))))
          refine gq_cut h4 (MLe.refl _) ⟨?_, rfl, rfl, rfl, rfl, rfl, rfl, trivial⟩ rfl rfl
          exact congrArg some (vB_or_t hg)
         ·
          refine gl_on rfl rfl rfl (gl_val (ov_move (v := .bool false) (congrArg some (vB_false hg))) rfl rfl rfl (gl_on rfl rfl rfl ?_))
          replace rb_37 := rb_37.mono hh4
          refine gl_x (F := fun v_ => (rpT (rpQ (k + 1))).Is h4 v_ (mxT a c 0 1)) (ox_load_box ty31 (Pc.here _) rfl rfl rb_37 rfl) (mem1 (.tail _ (.head _))) rfl ?_
          intro v44 r44
          refine gl_on rfl rfl rfl ?_
          replace rb7 := rb7.mono ((((((hmm1.trans hmm2).trans hh1).trans hh2).trans hh3).trans hmmg10_3).trans hh4)
          refine gl_x (F := fun v_ => (rpT (rpQ k)).Is h4 v_ d) (ox_load_box ty31 (Pc.here _) rfl rfl rb7 rfl) (mem1 (.tail _ (.tail _ (.head _)))) rfl ?_
          intro v45 r45
          refine gl_on rfl rfl rfl ?_
          refine gl_call (vs := [_, _]) rfl rfl rfl rfl Try.call49 ⟨rfl, rfl, trivial⟩ (fun w hs => o_r5_equal hs r44 (r45.le (Le.t (Le.q (l := k + 1) (by omega)))) (by omega)) ?_
          intro v46 h5 hh5 r46
          obtain rfl : v46 = vB ((pr (mxT a c 0 1) 0 1) = (pr d 0 1)) := r46
          refine gl_on rfl rfl rfl (gv (ov_pick_f rfl rfl) rfl (gl_nil ?_))
          refine gq_cut h5 hh5 ⟨?_, rfl, rfl, rfl, rfl, rfl, rfl, trivial⟩ rfl rfl
          exact congrArg some (vB_or_f hg)
        ·
         intro mg10_12 hmmg10_12
         show GL _ _ _ _ _ _ _ [(47, vB (((pr (mxT a c 0 1) 0 1) = (pr c 0 1)) ∨ ((pr (mxT a c 0 1) 0 1) = (pr d 0 1)))), (4, vP b4 0), (5, vP b5 0), (6, vP b6 0), (7, vP b7 0), (9, vP b9 0), (39, .bool true)] [.var b10 31 cs_40, .var b9 31 cs_36, .var b7 31 cs7, .var b6 31 cs6, .var b5 31 cs5, .var b4 31 cs4] mg10_12
         refine gv (ov_pick_t rfl rfl) rfl (gl_nil ?_)
         refine gq_cut mg10_12 (hh4.trans hmmg10_12) ⟨?_, rfl, rfl, rfl, rfl, rfl, trivial⟩ rfl rfl
         exact congrArg some (vB_and_t hg)
       ·
        refine gl_val (ov_move (v := .bool false) (congrArg some (vB_false hg))) rfl rfl rfl (gl_off rfl rfl rfl rfl rfl rfl (gl_off rfl rfl rfl rfl rfl rfl (gl_off rfl rfl rfl rfl rfl rfl (gl_off rfl rfl rfl rfl rfl rfl (gl_offu rfl rfl rfl rfl rfl (gl_offu rfl rfl rfl rfl rfl (gl_offu rfl rfl rfl rfl rfl (gl_off rfl rfl rfl rfl rfl rfl (gv (ov_pick_f rfl rfl) rfl (gl_nil ?_))))))))))
        refine gq_cut mg10_3 (MLe.refl _) ⟨?_, rfl, rfl, rfl, rfl, rfl, trivial⟩ rfl rfl
        exact congrArg some (vB_and_f hg)
      ·
       intro mg10_8 hmmg10_8
       show GL _ _ _ _ _ _ _ [(48, vB ((((pr (mxT a c 0 1) 0 1) = (pr a 0 1)) ∨ ((pr (mxT a c 0 1) 0 1) = (pr b 0 1))) ∧ (((pr (mxT a c 0 1) 0 1) = (pr c 0 1)) ∨ ((pr (mxT a c 0 1) 0 1) = (pr d 0 1))))), (4, vP b4 0), (5, vP b5 0), (6, vP b6 0), (7, vP b7 0), (9, vP b9 0)] [.var b10 31 cs_40, .var b9 31 cs_36, .var b7 31 cs7, .var b6 31 cs6, .var b5 31 cs5, .var b4 31 cs4] mg10_8
       refine gl_cut (ι := Mem) 6 (fun m_ => MLe mg10_8 m_) (fun _ => [(54, vB (((((pr (mxT a c 0 1) 0 1) = (pr a 0 1)) ∨ ((pr (mxT a c 0 1) 0 1) = (pr b 0 1))) ∧ (((pr (mxT a c 0 1) 0 1) = (pr c 0 1)) ∨ ((pr (mxT a c 0 1) 0 1) = (pr d 0 1)))) ∧ (onS (pr a 0 1) (pr b 0 1) (pr (mxT a c 0 1) 0 1)))), (4, vP b4 0), (5, vP b5 0), (6, vP b6 0), (7, vP b7 0), (9, vP b9 0)]) (fun _ => [.var b10 31 cs_40, .var b9 31 cs_36, .var b7 31 cs7, .var b6 31 cs6, .var b5 31 cs5, .var b4 31 cs4]) (fun m_ => m_) ?_ ?_
       ·
        refine gl_cases ((((pr (mxT a c 0 1) 0 1) = (pr a 0 1)) ∨ ((pr (mxT a c 0 1) 0 1) = (pr b 0 1))) ∧ (((pr (mxT a c 0 1) 0 1) = (pr c 0 1)) ∨ ((pr (mxT a c 0 1) 0 1) = (pr d 0 1)))) (fun hg => ?_) (fun hg => ?_)
        ·
         refine gl_val (ov_move (v := .bool true) (congrArg some (vB_true hg))) rfl rfl rfl (gl_on rfl rfl rfl ?_)
         replace rb4 := rb4.mono ((hh3.trans hmmg10_3).trans hmmg10_8)
         refine gl_x (F := fun v_ => (rpT (rpQ k)).Is mg10_8 v_ a) (ox_load_box ty31 (Pc.here _) rfl rfl rb4 rfl) (mem1 (.tail _ (.tail _ (.tail _ (.tail _ (.tail _ (.head _))))))) rfl ?_
         intro v50 r50
         refine gl_on rfl rfl rfl ?_
         replace rb5 := rb5.mono ((((((hmm1.trans hmm2).trans hh1).trans hh2).trans hh3).trans hmmg10_3).trans hmmg10_8)
         refine gl_x (F := fun v_ => (rpT (rpQ k)).Is mg10_8 v_ b) (ox_load_box ty31 (Pc.here _) rfl rfl rb5 rfl) (mem1 (.tail _ (.tail _ (.tail _ (.tail _ (.head _)))))) rfl ?_
         intro v51 r51
         refine gl_on rfl rfl rfl ?_
         replace rb_37 := rb_37.mono ((hh3.trans hmmg10_3).trans hmmg10_8)
         refine gl_x (F := fun v_ => (rpT (rpQ (k + 1))).Is mg10_8 v_ (mxT a c 0 1)) (ox_load_box ty31 (Pc.here _) rfl rfl rb_37 rfl) (mem1 (.tail _ (.head _))) rfl ?_
         intro v52 r52
         refine gl_on rfl rfl rfl ?_
         refine gl_call (vs := [_, _, _]) rfl rfl rfl rfl Try.call75 ⟨rfl, rfl, rfl, trivial⟩ (fun w hs => o_r5_on hs (r50.le (Le.t (Le.q (l := k + 1) (by omega)))) (r51.le (Le.t (Le.q (l := k + 1) (by omega)))) r52 (by omega)) ?_
         intro v53 h4 hh4 r53
         obtain rfl : v53 = vB (onS (pr a 0 1) (pr b 0 1) (pr (mxT a c 0 1) 0 1)) := r53
         refine gv (ov_pick_t rfl rfl) rfl (gl_nil ?_)
         refine gq_cut h4 hh4 ⟨?_, rfl, rfl, rfl, rfl, rfl, trivial⟩ rfl rfl
         exact congrArg some (vB_and_t hg)
        ·
         refine gl_val (ov_move (v := .bool false) (congrArg some (vB_false hg))) rfl rfl rfl (gl_off rfl rfl rfl rfl rfl rfl (gl_off rfl rfl rfl rfl rfl rfl (gl_off rfl rfl rfl rfl rfl rfl (gl_off rfl rfl rfl rfl rfl rfl (gv (ov_pick_f rfl rfl) rfl (gl_nil ?_))))))
         refine gq_cut mg10_8 (MLe.refl _) ⟨?_, rfl, rfl, rfl, rfl, rfl, trivial⟩ rfl rfl
         exact congrArg some (vB_and_f hg)
       ·
        intro mg10_18 hmmg10_18
        show GL _ _ _ _ _ _ _ [(54, vB (((((pr (mxT a c 0 1) 0 1) = (pr a 0 1)) ∨ ((pr (mxT a c 0 1) 0 1) = (pr b 0 1))) ∧ (((pr (mxT a c 0 1) 0 1) = (pr c 0 1)) ∨ ((pr (mxT a c 0 1) 0 1) = (pr d 0 1)))) ∧ (onS (pr a 0 1) (pr b 0 1) (pr (mxT a c 0 1) 0 1)))), (4, vP b4 0), (5, vP b5 0), (6, vP b6 0), (7, vP b7 0), (9, vP b9 0)] [.var b10 31 cs_40, .var b9 31 cs_36, .var b7 31 cs7, .var b6 31 cs6, .var b5 31 cs5, .var b4 31 cs4] mg10_18
        refine gl_cut (ι := Mem) 6 (fun m_ => MLe mg10_18 m_) (fun _ => [(60, vB ((((((pr (mxT a c 0 1) 0 1) = (pr a 0 1)) ∨ ((pr (mxT a c 0 1) 0 1) = (pr b 0 1))) ∧ (((pr (mxT a c 0 1) 0 1) = (pr c 0 1)) ∨ ((pr (mxT a c 0 1) 0 1) = (pr d 0 1)))) ∧ (onS (pr a 0 1) (pr b 0 1) (pr (mxT a c 0 1) 0 1))) ∧ (onS (pr c 0 1) (pr d 0 1) (pr (mxT a c 0 1) 0 1)))), (4, vP b4 0), (5, vP b5 0), (6, vP b6 0), (7, vP b7 0), (9, vP b9 0)]) (fun _ => [.var b10 31 cs_40, .var b9 31 cs_36, .var b7 31 cs7, .var b6 31 cs6, .var b5 31 cs5, .var b4 31 cs4]) (fun m_ => m_) ?_ ?_
        ·
         refine gl_cases (((((pr (mxT a c 0 1) 0 1) = (pr a 0 1)) ∨ ((pr (mxT a c 0 1) 0 1) = (pr b 0 1))) ∧ (((pr (mxT a c 0 1) 0 1) = (pr c 0 1)) ∨ ((pr (mxT a c 0 1) 0 1) = (pr d 0 1)))) ∧ (onS (pr a 0 1) (pr b 0 1) (pr (mxT a c 0 1) 0 1))) (fun hg => ?_) (fun hg => ?_)
         ·
          refine gl_val (ov_move (v := .bool true) (congrArg some (vB_true hg))) rfl rfl rfl (gl_on rfl rfl rfl ?_)
          replace rb6 := rb6.mono (((((((hmm1.trans hmm2).trans hh1).trans hh2).trans hh3).trans hmmg10_3).trans hmmg10_8).trans hmmg10_18)
          refine gl_x (F := fun v_ => (rpT (rpQ k)).Is mg10_18 v_ c) (ox_load_box ty31 (Pc.here _) rfl rfl rb6 rfl) (mem1 (.tail _ (.tail _ (.tail _ (.head _))))) rfl ?_
          intro v56 r56
          refine gl_on rfl rfl rfl ?_
          replace rb7 := rb7.mono (((((((hmm1.trans hmm2).trans hh1).trans hh2).trans hh3).trans hmmg10_3).trans hmmg10_8).trans hmmg10_18)
          refine gl_x (F := fun v_ => (rpT (rpQ k)).Is mg10_18 v_ d) (ox_load_box ty31 (Pc.here _) rfl rfl rb7 rfl) (mem1 (.tail _ (.tail _ (.head _)))) rfl ?_
          intro v57 r57
          refine gl_on rfl rfl rfl ?_
          replace rb_37 := rb_37.mono (((hh3.trans hmmg10_3).trans hmmg10_8).trans hmmg10_18)
          refine gl_x (F := fun v_ => (rpT (rpQ (k + 1))).Is mg10_18 v_ (mxT a c 0 1)) (ox_load_box ty31 (Pc.here _) rfl rfl rb_37 rfl) (mem1 (.tail _ (.head _))) rfl ?_
          intro v58 r58
          refine gl_on rfl rfl rfl ?_
          refine gl_call (vs := [_, _, _]) rfl rfl rfl rfl Try.call75 ⟨rfl, rfl, rfl, trivial⟩ (fun w hs => o_r5_on hs (r56.le (Le.t (Le.q (l := k + 1) (by omega)))) (r57.le (Le.t (Le.q (l := k + 1) (by omega)))) r58 (by omega)) ?_
          intro v59 h4 hh4 r59
          obtain rfl : v59 = vB (onS (pr c 0 1) (pr d 0 1) (pr (mxT a c 0 1) 0 1)) := r59
          refine gv (ov_pick_t rfl rfl) rfl (gl_nil ?_)
          refine gq_cut h4 hh4 ⟨?_, rfl, rfl, rfl, rfl, rfl, trivial⟩ rfl rfl
          exact congrArg some (vB_and_t hg)
         ·
          refine gl_val (ov_move (v := .bool false) (congrArg some (vB_false hg))) rfl rfl rfl (gl_off rfl rfl rfl rfl rfl rfl (gl_off rfl rfl rfl rfl rfl rfl (gl_off rfl rfl rfl rfl rfl rfl (gl_off rfl rfl rfl rfl rfl rfl (gv (ov_pick_f rfl rfl) rfl (gl_nil ?_))))))
          refine gq_cut mg10_18 (MLe.refl _) ⟨?_, rfl, rfl, rfl, rfl, rfl, trivial⟩ rfl rfl
          exact congrArg some (vB_and_f hg)
        ·
         intro mg10_24 hmmg10_24
         show GL _ _ _ _ _ _ _ [(60, vB ((((((pr (mxT a c 0 1) 0 1) = (pr a 0 1)) ∨ ((pr (mxT a c 0 1) 0 1) = (pr b 0 1))) ∧ (((pr (mxT a c 0 1) 0 1) = (pr c 0 1)) ∨ ((pr (mxT a c 0 1) 0 1) = (pr d 0 1)))) ∧ (onS (pr a 0 1) (pr b 0 1) (pr (mxT a c 0 1) 0 1))) ∧ (onS (pr c 0 1) (pr d 0 1) (pr (mxT a c 0 1) 0 1)))), (4, vP b4 0), (5, vP b5 0), (6, vP b6 0), (7, vP b7 0), (9, vP b9 0)] [.var b10 31 cs_40, .var b9 31 cs_36, .var b7 31 cs7, .var b6 31 cs6, .var b5 31 cs5, .var b4 31 cs4] mg10_24
         refine asg rfl rfl (gl_nil (gq_then ?_))
         refine gc_cond rfl (fun hc30 => ?_) (fun hc30 => ?_)
         ·
          refine gc_seq (gc_region (asg (v := vI (1)) rfl rfl (gl_nil (gq_then (gc_ret (gr_in (gr_then (gq_body1 rfl rfl ?_))))))))
          refine congrArg vI ?_; rw [← line_T rfl rfl]; unfold lineT; grind
         ·
          refine gc_seq (gc_region ?_)
          replace rb4 := rb4.mono ((((hh3.trans hmmg10_3).trans hmmg10_8).trans hmmg10_18).trans hmmg10_24)
          refine gl_x (F := fun v_ => (rpT (rpQ k)).Is mg10_24 v_ a) (ox_load_box ty31 (Pc.here _) rfl rfl rb4 rfl) (mem1 (.tail _ (.tail _ (.tail _ (.tail _ (.tail _ (.head _))))))) rfl ?_
          intro v62 r62
          replace rb5 := rb5.mono ((((((((hmm1.trans hmm2).trans hh1).trans hh2).trans hh3).trans hmmg10_3).trans hmmg10_8).trans hmmg10_18).trans hmmg10_24)
          refine gl_x (F := fun v_ => (rpT (rpQ k)).Is mg10_24 v_ b) (ox_load_box ty31 (Pc.here _) rfl rfl rb5 rfl) (mem1 (.tail _ (.tail _ (.tail _ (.tail _ (.head _)))))) rfl ?_
          intro v63 r63
          replace rb_37 := rb_37.mono ((((hh3.trans hmmg10_3).trans hmmg10_8).trans hmmg10_18).trans hmmg10_24)
          refine gl_x (F := fun v_ => (rpT (rpQ (k + 1))).Is mg10_24 v_ (mxT a c 0 1)) (ox_load_box ty31 (Pc.here _) rfl rfl rb_37 rfl) (mem1 (.tail _ (.head _))) rfl ?_
          intro v64 r64
          refine gl_call (vs := [_, _, _]) rfl rfl rfl rfl Try.call75 ⟨rfl, rfl, rfl, trivial⟩ (fun w hs => o_r5_on hs (r62.le (Le.t (Le.q (l := k + 1) (by omega)))) (r63.le (Le.t (Le.q (l := k + 1) (by omega)))) r64 (by omega)) ?_
          intro v65 h4 hh4 r65
          obtain rfl : v65 = vB (onS (pr a 0 1) (pr b 0 1) (pr (mxT a c 0 1) 0 1)) := r65
          refine gl_cut (ι := Mem) 6 (fun m_ => MLe h4 m_) (fun _ => [(71, vB ((onS (pr a 0 1) (pr b 0 1) (pr (mxT a c 0 1) 0 1)) ∧ (onS (pr c 0 1) (pr d 0 1) (pr (mxT a c 0 1) 0 1))))]) (fun _ => [.var b10 31 cs_40, .var b9 31 cs_36, .var b7 31 cs7, .var b6 31 cs6, .var b5 31 cs5, .var b4 31 cs4]) (fun m_ => m_) ?_ ?_
          ·
           refine gl_cases (onS (pr a 0 1) (pr b 0 1) (pr (mxT a c 0 1) 0 1)) (fun hg => ?_) (fun hg => ?_)
           ·
            refine gl_val (ov_move (v := .bool true) (congrArg some (vB_true hg))) rfl rfl rfl (gl_on rfl rfl rfl ?_)
            replace rb6 := rb6.mono (((((((((hmm1.trans hmm2).trans hh1).trans hh2).trans hh3).trans hmmg10_3).trans hmmg10_8).trans hmmg10_18).trans hmmg10_24).trans hh4)
            refine gl_x (F := fun v_ => (rpT (rpQ k)).Is h4 v_ c) (ox_load_box ty31 (Pc.here _) rfl rfl rb6 rfl) (mem1 (.tail _ (.tail _ (.tail _ (.head _))))) rfl ?_
            intro v67 r67
            refine gl_on rfl rfl rfl ?_
            replace rb7 := rb7.mono (((((((((hmm1.trans hmm2).trans hh1).trans hh2).trans hh3).trans hmmg10_3).trans hmmg10_8).trans hmmg10_18).trans hmmg10_24).trans hh4)
            refine gl_x (F := fun v_ => (rpT (rpQ k)).Is h4 v_ d) (ox_load_box ty31 (Pc.here _) rfl rfl rb7 rfl) (mem1 (.tail _ (.tail _ (.head _)))) rfl ?_
            intro v68 r68
            refine gl_on rfl rfl rfl ?_
            replace rb_37 := rb_37.mono hh4
            refine gl_x (F := fun v_ => (rpT (rpQ (k + 1))).Is h4 v_ (mxT a c 0 1)) (ox_load_box ty31 (Pc.here _) rfl rfl rb_37 rfl) (mem1 (.tail _ (.head _))) rfl ?_
            intro v69 r69
            refine gl_on rfl rfl rfl ?_
            refine gl_call (vs := [_, _, _]) rfl rfl rfl rfl Try.call75 ⟨rfl, rfl, rfl, trivial⟩ (fun w hs => o_r5_on hs (r67.le (Le.t (Le.q (l := k + 1) (by omega)))) (r68.le (Le.t (Le.q (l := k + 1) (by omega)))) r69 (by omega)) ?_
            intro v70 h5 hh5 r70
            obtain rfl : v70 = vB (onS (pr c 0 1) (pr d 0 1) (pr (mxT a c 0 1) 0 1)) := r70
            refine gv (ov_pick_t rfl rfl) rfl (gl_nil ?_)
            refine gq_cut h5 hh5 ⟨?_, trivial⟩ rfl rfl
            exact congrArg some (vB_and_t hg)
           ·
            refine gl_val (ov_move (v := .bool false) (congrArg some (vB_false hg))) rfl rfl rfl (gl_off rfl rfl rfl rfl rfl rfl (gl_off rfl rfl rfl rfl rfl rfl (gl_off rfl rfl rfl rfl rfl rfl (gl_off rfl rfl rfl rfl rfl rfl (gv (ov_pick_f rfl rfl) rfl (gl_nil ?_))))))
            refine gq_cut h4 (MLe.refl _) ⟨?_, trivial⟩ rfl rfl
            exact congrArg some (vB_and_f hg)
          ·
           intro mg12_4 hmmg12_4
           show GL _ _ _ _ _ _ _ [(71, vB ((onS (pr a 0 1) (pr b 0 1) (pr (mxT a c 0 1) 0 1)) ∧ (onS (pr c 0 1) (pr d 0 1) (pr (mxT a c 0 1) 0 1))))] [.var b10 31 cs_40, .var b9 31 cs_36, .var b7 31 cs7, .var b6 31 cs6, .var b5 31 cs5, .var b4 31 cs4] mg12_4
           refine asg rfl rfl (gl_nil (gq_then ?_))
           refine gc_cond rfl (fun hc61 => ?_) (fun hc61 => ?_)
           ·
            refine gc_seq (gc_region (asg (v := vI (2)) rfl rfl (gl_nil (gq_then (gc_ret (gr_in (gr_then (gq_body1 rfl rfl ?_))))))))
            refine congrArg vI ?_; rw [← line_T rfl rfl]; unfold lineT; grind
           ·
            refine gc_skip (gq_in (gq_then (gc_seq (gc_region (asg (v := vI (0)) rfl rfl (gl_nil (gq_then (gc_ret (gq_body1 rfl rfl ?_)))))))))
            refine congrArg vI ?_; rw [← line_T rfl rfl]; unfold lineT; grind

theorem o_r5_single {w0 : World} {h0 : Mem}  (hs : MLe h0 (mem w0)) {k : Nat} {va : Value} {a : (T3 Rat)} (ra : (rpT (rpQ k)).Is h0 va a) {vb : Value} {b : (T3 Rat)} (rb : (rpT (rpQ k)).Is h0 vb b) {vc : Value} {c : (T3 Rat)} (rc : (rpT (rpQ k)).Is h0 vc c) {vd : Value} {d : (T3 Rat)} (rd : (rpT (rpQ k)).Is h0 vd d) (hcd0 : k ≤ 10000)  :
    Calls Try.prog 50 #[va, vb, vc, vd] w0 (Ret w0 h0 (fun _ r => r = vI (singleR (pr a 0 1) (pr b 0 1) (pr c 0 1) (pr d 0 1)))) := by
 refine calls_begin (n := 29) (e := [(0, va), (1, vb), (2, vc), (3, vd)]) (vs := [va, vb, vc, vd]) Try.func50 rfl rfl (Nat.le_of_ble_eq_true rfl) hs ⟨rfl, rfl, rfl, rfl, trivial⟩ (gc_seq (gc_region (gl_newop (new_boxx (ρ := (rpT (rpQ k))) rfl ra) rfl rfl rfl ?_)))
 intro v4 q4 hq4
 obtain ⟨b4, cs4, rfl, rfl, rb4⟩ := hq4
 refine gl_newop (new_boxx (ρ := (rpT (rpQ k))) rfl rb) rfl rfl rfl ?_
 intro v5 q5 hq5
 obtain ⟨b5, cs5, rfl, rfl, rb5⟩ := hq5
 refine gl_newop (new_boxx (ρ := (rpT (rpQ k))) rfl rc) rfl rfl rfl ?_
 intro v6 q6 hq6
 obtain ⟨b6, cs6, rfl, rfl, rb6⟩ := hq6
 refine gl_newop (new_boxx (ρ := (rpT (rpQ k))) rfl rd) rfl rfl rfl ?_
 intro v7 q7 hq7
 obtain ⟨b7, cs7, rfl, rfl, rb7⟩ := hq7
 refine asg (v := vI (0)) rfl rfl (gl_nil (gq_then (gc_seq (gc_seq (gc_region (gl_x (F := fun v_ => (rpT (rpQ k)).Is h0 v_ a) (ox_load_box ty31 (Pc.here _) rfl rfl rb4 rfl) (mem1 (.tail _ (.tail _ (.tail _ (.head _))))) rfl ?_))))))
 intro v9 r9
 refine gl_x (F := fun v_ => (rpT (rpQ k)).Is h0 v_ b) (ox_load_box ty31 (Pc.here _) rfl rfl rb5 rfl) (mem1 (.tail _ (.tail _ (.head _)))) rfl ?_
 intro v10 r10
 refine gl_call (vs := [_, _]) rfl rfl rfl rfl Try.call49 ⟨rfl, rfl, trivial⟩ (fun w hs => o_r5_equal hs r9 r10 (by omega)) ?_
 intro v11 h1 hh1 r11
 obtain rfl : v11 = vB ((pr a 0 1) = (pr b 0 1)) := r11
 refine gl_cut (ι := Mem) 6 (fun m_ => MLe h1 m_) (fun _ => [(17, vB (((pr a 0 1) = (pr b 0 1)) ∧ (onS (pr c 0 1) (pr d 0 1) (pr a 0 1)))), (4, vP b4 0), (5, vP b5 0), (6, vP b6 0), (7, vP b7 0)]) (fun _ => [.var b7 31 cs7, .var b6 31 cs6, .var b5 31 cs5, .var b4 31 cs4]) (fun m_ => m_) ?_ ?_
 ·
  refine gl_cases ((pr a 0 1) = (pr b 0 1)) (fun hg => ?_) (fun hg => ?_)
  ·
   refine gl_val (ov_move (v := .bool true) (congrArg some (vB_true hg))) rfl rfl rfl (gl_on rfl rfl rfl ?_)
   replace rb6 := rb6.mono hh1
   refine gl_x (F := fun v_ => (rpT (rpQ k)).Is h1 v_ c) (ox_load_box ty31 (Pc.here _) rfl rfl rb6 rfl) (mem1 (.tail _ (.head _))) rfl ?_
   intro v13 r13
   refine gl_on rfl rfl rfl ?_
   replace rb7 := rb7.mono hh1
   refine gl_x (F := fun v_ => (rpT (rpQ k)).Is h1 v_ d) (ox_load_box ty31 (Pc.here _) rfl rfl rb7 rfl) (mem1 (.head _)) rfl ?_
   intro v14 r14
   refine gl_on rfl rfl rfl ?_
   replace rb4 := rb4.mono hh1
   refine gl_x (F := fun v_ => (rpT (rpQ k)).Is h1 v_ a) (ox_load_box ty31 (Pc.here _) rfl rfl rb4 rfl) (mem1 (.tail _ (.tail _ (.tail _ (.head _))))) rfl ?_
   intro v15 r15
   refine gl_on rfl rfl rfl ?_
   refine gl_call (vs := [_, _, _]) rfl rfl rfl rfl Try.call75 ⟨rfl, rfl, rfl, trivial⟩ (fun w hs => o_r5_on hs r13 r14 r15 (by omega)) ?_
   intro v16 h2 hh2 r16
   obtain rfl : v16 = vB (onS (pr c 0 1) (pr d 0 1) (pr a 0 1)) := r16
   refine gv (ov_pick_t rfl rfl) rfl (gl_nil ?_)
   refine gq_cut h2 hh2 ⟨?_, rfl, rfl, rfl, rfl, trivial⟩ rfl rfl
   exact congrArg some (vB_and_t hg)
  ·
   refine gl_val (ov_move (v := .bool false) (congrArg some (vB_false hg))) rfl rfl rfl (gl_off rfl rfl rfl rfl rfl rfl (gl_off rfl rfl rfl rfl rfl rfl (gl_off rfl rfl rfl rfl rfl rfl (gl_off rfl rfl rfl rfl rfl rfl (gv (ov_pick_f rfl rfl) rfl (gl_nil ?_))))))
   refine gq_cut h1 (MLe.refl _) ⟨?_, rfl, rfl, rfl, rfl, trivial⟩ rfl rfl
   exact congrArg some (vB_and_f hg)
 ·
  intro mg1_3 hmmg1_3
  show GL _ _ _ _ _ _ _ [(17, vB (((pr a 0 1) = (pr b 0 1)) ∧ (onS (pr c 0 1) (pr d 0 1) (pr a 0 1)))), (4, vP b4 0), (5, vP b5 0), (6, vP b6 0), (7, vP b7 0)] [.var b7 31 cs7, .var b6 31 cs6, .var b5 31 cs5, .var b4 31 cs4] mg1_3
  refine gl_cut (ι := Mem) 11 (fun m_ => MLe mg1_3 m_) (fun _ => [(28, vB ((((pr a 0 1) = (pr b 0 1)) ∧ (onS (pr c 0 1) (pr d 0 1) (pr a 0 1))) ∨ (((pr c 0 1) = (pr d 0 1)) ∧ (onS (pr a 0 1) (pr b 0 1) (pr c 0 1)))))]) (fun _ => [.var b7 31 cs7, .var b6 31 cs6, .var b5 31 cs5, .var b4 31 cs4]) (fun m_ => m_) ?_ ?_
  ·
   refine gl_cases (((pr a 0 1) = (pr b 0 1)) ∧ (onS (pr c 0 1) (pr d 0 1) (pr a 0 1))) (fun hg => ?_) (fun hg => ?_)
   ·
    refine gl_val (ov_move (v := .bool true) (congrArg some (vB_true hg))) rfl rfl rfl (gl_off rfl rfl rfl rfl rfl rfl (gl_off rfl rfl rfl rfl rfl rfl (gl_off rfl rfl rfl rfl rfl rfl (gl_off rfl rfl rfl rfl rfl rfl (gl_offu rfl rfl rfl rfl rfl (gl_offu rfl rfl rfl rfl rfl (gl_offu rfl rfl rfl rfl rfl (gl_offu rfl rfl rfl rfl rfl (gl_off rfl rfl rfl rfl rfl rfl (gv (ov_pick_t rfl rfl) rfl (gl_nil ?_)))))))))))
    refine gq_cut mg1_3 (MLe.refl _) ⟨?_, trivial⟩ rfl rfl
    exact congrArg some (vB_or_t hg)
   ·
    refine gl_val (ov_move (v := .bool false) (congrArg some (vB_false hg))) rfl rfl rfl (gl_on rfl rfl rfl ?_)
    replace rb6 := rb6.mono (hh1.trans hmmg1_3)
    refine gl_x (F := fun v_ => (rpT (rpQ k)).Is mg1_3 v_ c) (ox_load_box ty31 (Pc.here _) rfl rfl rb6 rfl) (mem1 (.tail _ (.head _))) rfl ?_
    intro v19 r19
    refine gl_on rfl rfl rfl ?_
    replace rb7 := rb7.mono (hh1.trans hmmg1_3)
    refine gl_x (F := fun v_ => (rpT (rpQ k)).Is mg1_3 v_ d) (ox_load_box ty31 (Pc.here _) rfl rfl rb7 rfl) (mem1 (.head _)) rfl ?_
    intro v20 r20
    refine gl_on rfl rfl rfl ?_
    refine gl_call (vs := [_, _]) rfl rfl rfl rfl Try.call49 ⟨rfl, rfl, trivial⟩ (fun w hs => o_r5_equal hs r19 r20 (by omega)) ?_
    intro v21 h2 hh2 r21
    obtain rfl : v21 = vB ((pr c 0 1) = (pr d 0 1)) := r21
    refine gl_cut (ι := Mem) 6 (fun m_ => MLe h2 m_) (fun _ => [(27, vB (((pr c 0 1) = (pr d 0 1)) ∧ (onS (pr a 0 1) (pr b 0 1) (pr c 0 1)))), (18, .bool false)]) (fun _ => [.var b7 31 cs7, .var b6 31 cs6, .var b5 31 cs5, .var b4 31 cs4]) (fun m_ => m_) ?_ ?_
    ·
     refine gl_cases ((pr c 0 1) = (pr d 0 1)) (fun hg => ?_) (fun hg => ?_)
     ·
      refine gl_on rfl rfl rfl (gl_val (ov_move (v := .bool true) (congrArg some (vB_true hg))) rfl rfl rfl (gl_on rfl rfl rfl ?_))
      replace rb4 := rb4.mono ((hh1.trans hmmg1_3).trans hh2)
      refine gl_x (F := fun v_ => (rpT (rpQ k)).Is h2 v_ a) (ox_load_box ty31 (Pc.here _) rfl rfl rb4 rfl) (mem1 (.tail _ (.tail _ (.tail _ (.head _))))) rfl ?_
      intro v23 r23
      refine gl_on rfl rfl rfl ?_
      replace rb5 := rb5.mono ((hh1.trans hmmg1_3).trans hh2)
      refine gl_x (F := fun v_ => (rpT (rpQ k)).Is h2 v_ b) (ox_load_box ty31 (Pc.here _) rfl rfl rb5 rfl) (mem1 (.tail _ (.tail _ (.head _)))) rfl ?_
      intro v24 r24
      refine gl_on rfl rfl rfl ?_
      replace rb6 := rb6.mono hh2
      refine gl_x (F := fun v_ => (rpT (rpQ k)).Is h2 v_ c) (ox_load_box ty31 (Pc.here _) rfl rfl rb6 rfl) (mem1 (.tail _ (.head _))) rfl ?_
      intro v25 r25
      refine gl_on rfl rfl rfl ?_
      refine gl_call (vs := [_, _, _]) rfl rfl rfl rfl Try.call75 ⟨rfl, rfl, rfl, trivial⟩ (fun w hs => o_r5_on hs r23 r24 r25 (by omega)) ?_
      intro v26 h3 hh3 r26
      obtain rfl : v26 = vB (onS (pr a 0 1) (pr b 0 1) (pr c 0 1)) := r26
      refine gl_on rfl rfl rfl (gv (ov_pick_t rfl rfl) rfl (gl_nil ?_))
      refine gq_cut h3 hh3 ⟨?_, rfl, trivial⟩ rfl rfl
      exact congrArg some (vB_and_t hg)
     ·
      refine gl_on rfl rfl rfl (gl_val (ov_move (v := .bool false) (congrArg some (vB_false hg))) rfl rfl rfl (gl_off rfl rfl rfl rfl rfl rfl (gl_off rfl rfl rfl rfl rfl rfl (gl_off rfl rfl rfl rfl rfl rfl (gl_off rfl rfl rfl rfl rfl rfl (gl_on rfl rfl rfl (gv (ov_pick_f rfl rfl) rfl (gl_nil ?_))))))))
      refine gq_cut h2 (MLe.refl _) ⟨?_, rfl, trivial⟩ rfl rfl
      exact congrArg some (vB_and_f hg)
    ·
     intro mg1_13 hmmg1_13
     show GL _ _ _ _ _ _ _ [(27, vB (((pr c 0 1) = (pr d 0 1)) ∧ (onS (pr a 0 1) (pr b 0 1) (pr c 0 1)))), (18, .bool false)] [.var b7 31 cs7, .var b6 31 cs6, .var b5 31 cs5, .var b4 31 cs4] mg1_13
     refine gv (ov_pick_f rfl rfl) rfl (gl_nil ?_)
     refine gq_cut mg1_13 (hh2.trans hmmg1_13) ⟨?_, trivial⟩ rfl rfl
     exact congrArg some (vB_or_f hg)
  ·
   intro mg1_9 hmmg1_9
   show GL _ _ _ _ _ _ _ [(28, vB ((((pr a 0 1) = (pr b 0 1)) ∧ (onS (pr c 0 1) (pr d 0 1) (pr a 0 1))) ∨ (((pr c 0 1) = (pr d 0 1)) ∧ (onS (pr a 0 1) (pr b 0 1) (pr c 0 1)))))] [.var b7 31 cs7, .var b6 31 cs6, .var b5 31 cs5, .var b4 31 cs4] mg1_9
   refine gl_nil (gq_then ?_)
   refine gc_cond rfl (fun hc28 => ?_) (fun hc28 => ?_)
   ·
    refine gc_seq (gc_region (asg (v := vI (2)) rfl rfl (gl_nil (gq_then (gc_ret (gr_then (gq_body1 rfl rfl ?_)))))))
    exact congrArg vI (if_pos hc28).symm
   ·
    refine gc_skip (gq_then (gc_seq (gc_region (asg (v := vI (0)) rfl rfl (gl_nil (gq_then (gc_ret (gq_body1 rfl rfl ?_))))))))
    exact congrArg vI (if_neg hc28).symm

theorem o_r5_touch {w0 : World} {h0 : Mem}  (hs : MLe h0 (mem w0)) {k : Nat} {va : Value} {a : (T3 Rat)} (ra : (rpT (rpQ k)).Is h0 va a) {vb : Value} {b : (T3 Rat)} (rb : (rpT (rpQ k)).Is h0 vb b) {vc : Value} {c : (T3 Rat)} (rc : (rpT (rpQ k)).Is h0 vc c) {vd : Value} {d : (T3 Rat)} (rd : (rpT (rpQ k)).Is h0 vd d) (hcd0 : k ≤ 5000)  :
    Calls Try.prog 17 #[va, vb, vc, vd] w0 (Ret w0 h0 (fun _ r => r = vI (touchR (pr a 0 1) (pr b 0 1) (pr c 0 1) (pr d 0 1)))) := by
 refine calls_begin (n := 117) (e := [(0, va), (1, vb), (2, vc), (3, vd)]) (vs := [va, vb, vc, vd]) Try.func17 rfl rfl (Nat.le_of_ble_eq_true rfl) hs ⟨rfl, rfl, rfl, rfl, trivial⟩ (gc_seq (gc_region (gl_newop (new_boxx (ρ := (rpT (rpQ k))) rfl ra) rfl rfl rfl ?_)))
 intro v4 q4 hq4
 obtain ⟨b4, cs4, rfl, rfl, rb4⟩ := hq4
 refine gl_newop (new_boxx (ρ := (rpT (rpQ k))) rfl rb) rfl rfl rfl ?_
 intro v5 q5 hq5
 obtain ⟨b5, cs5, rfl, rfl, rb5⟩ := hq5
 refine gl_newop (new_boxx (ρ := (rpT (rpQ k))) rfl rc) rfl rfl rfl ?_
 intro v6 q6 hq6
 obtain ⟨b6, cs6, rfl, rfl, rb6⟩ := hq6
 refine gl_newop (new_boxx (ρ := (rpT (rpQ k))) rfl rd) rfl rfl rfl ?_
 intro v7 q7 hq7
 obtain ⟨b7, cs7, rfl, rfl, rb7⟩ := hq7
 refine asg (v := vI (0)) rfl rfl (gl_nil (gq_then (gc_seq ?_)))
 refine gc_draw 8 _ [] [(0, .q), (2, .q), (4, .q), (6, .q), (1, .c), (3, .c), (5, .c), (7, .c), (8, .t), (9, .t), (10, .t), (11, .t)] mixed (fun x hx => by cases hx) (chk_of [0, 1, 0, 6, 0, 24, 0, 96, 131, 271, 831, 2047] [4095, 4094, 4095, 4091, 4095, 4079, 4095, 4031, 4093, 4087, 4063, 3967] (by kernel_rfl)) (fun x hx => by cases hx) (fun r hr => hr) (w_qx (F := fun v_ => (rpT (rpQ k)).Is h0 v_ a) rfl (ox_load_box ty31 (Pc.here _) rfl rfl rb4 rfl) (mem1 (.tail _ (.tail _ (.tail _ (.head _))))) rfl ?_)
 intro v11 r11
 refine w_qx (F := fun v_ => (rpT (rpQ k)).Is h0 v_ b) rfl (ox_load_box ty31 (Pc.here _) rfl rfl rb5 rfl) (mem1 (.tail _ (.tail _ (.head _)))) rfl ?_
 intro v13 r13
 refine w_qx (F := fun v_ => (rpT (rpQ k)).Is h0 v_ c) rfl (ox_load_box ty31 (Pc.here _) rfl rfl rb6 rfl) (mem1 (.tail _ (.head _))) rfl ?_
 intro v15 r15
 refine w_qx (F := fun v_ => (rpT (rpQ k)).Is h0 v_ d) rfl (ox_load_box ty31 (Pc.here _) rfl rfl rb7 rfl) (mem1 (.head _)) rfl ?_
 intro v17 r17
 refine w_c rfl ?_
 refine s_call (vs := [_]) Try.call45 ⟨rfl, trivial⟩ (fun w hs => o_r5_flat hs r11) rfl ?_
 intro v12 h1 hh1 r12
 change (rpT (rpQ (k + 1))).Is h1 v12 (T3.mk a.x a.y (0 : Rat)) at r12
 refine w_c rfl ?_
 replace r13 := r13.mono hh1
 refine s_call (vs := [_]) Try.call45 ⟨rfl, trivial⟩ (fun w hs => o_r5_flat hs r13) rfl ?_
 intro v14 h2 hh2 r14
 change (rpT (rpQ (k + 1))).Is h2 v14 (T3.mk b.x b.y (0 : Rat)) at r14
 refine w_c rfl ?_
 replace r15 := r15.mono (hh1.trans hh2)
 refine s_call (vs := [_]) Try.call45 ⟨rfl, trivial⟩ (fun w hs => o_r5_flat hs r15) rfl ?_
 intro v16 h3 hh3 r16
 change (rpT (rpQ (k + 1))).Is h3 v16 (T3.mk c.x c.y (0 : Rat)) at r16
 refine w_c rfl ?_
 replace r17 := r17.mono ((hh1.trans hh2).trans hh3)
 refine s_call (vs := [_]) Try.call45 ⟨rfl, trivial⟩ (fun w hs => o_r5_flat hs r17) rfl ?_
 intro v18 h4 hh4 r18
 change (rpT (rpQ (k + 1))).Is h4 v18 (T3.mk d.x d.y (0 : Rat)) at r18
 replace rb4 := rb4.mono (((hh1.trans hh2).trans hh3).trans hh4)
 have rw_44 := (Le.t (Le.q (l := k + 1) (by omega))).R rb4
 replace r12 := r12.mono ((hh2.trans hh3).trans hh4)
 refine w_tx_upd (A := [_, _, _]) (F := fun c_ => (rpT (rpQ (k + 1))).R h4 c_ (T3.mk a.x a.y (0 : Rat))) rfl (upd_box Try.sizeOf31 (Pc.here _) rfl rfl rfl rw_44 r12 rfl) ?_
 intro cs_45 rb_46
 replace rb5 := rb5.mono (((hh1.trans hh2).trans hh3).trans hh4)
 have rw_47 := (Le.t (Le.q (l := k + 1) (by omega))).R rb5
 replace r14 := r14.mono (hh3.trans hh4)
 refine w_tx_upd (A := [_, _]) (F := fun c_ => (rpT (rpQ (k + 1))).R h4 c_ (T3.mk b.x b.y (0 : Rat))) rfl (upd_box Try.sizeOf31 (Pc.here _) rfl rfl rfl rw_47 r14 rfl) ?_
 intro cs_48 rb_49
 replace rb6 := rb6.mono (((hh1.trans hh2).trans hh3).trans hh4)
 have rw_50 := (Le.t (Le.q (l := k + 1) (by omega))).R rb6
 replace r16 := r16.mono hh4
 refine w_tx_upd (A := [_]) (F := fun c_ => (rpT (rpQ (k + 1))).R h4 c_ (T3.mk c.x c.y (0 : Rat))) rfl (upd_box Try.sizeOf31 (Pc.here _) rfl rfl rfl rw_50 r16 rfl) ?_
 intro cs_51 rb_52
 replace rb7 := rb7.mono (((hh1.trans hh2).trans hh3).trans hh4)
 have rw_53 := (Le.t (Le.q (l := k + 1) (by omega))).R rb7
 refine w_tx_upd (A := []) (F := fun c_ => (rpT (rpQ (k + 1))).R h4 c_ (T3.mk d.x d.y (0 : Rat))) rfl (upd_box Try.sizeOf31 (Pc.here _) rfl rfl rfl rw_53 r18 rfl) ?_
 intro cs_54 rb_55
 refine w_nil (gq_keep (e' := [(4, _), (5, _), (6, _), (7, _)]) ⟨rfl, rfl, rfl, rfl, trivial⟩ (gq_then ?_))
 refine gc_cut (ι := List Value × List Value × Mem) (fun (x_ : (List Value × List Value × Mem)) => match x_ with | (cs_56, cs_58, m1) => MLe h4 m1 ∧ ((rpT (rpQ (k + 1))).R m1 cs_56 (loT (T3.mk a.x a.y (0 : Rat)) (T3.mk b.x b.y (0 : Rat)) 0 1) ∧ (rpT (rpQ (k + 1))).R m1 cs_58 (hiT (T3.mk a.x a.y (0 : Rat)) (T3.mk b.x b.y (0 : Rat)) 0 1) ∧ True)) (fun (x_ : (List Value × List Value × Mem)) => match x_ with | (cs_56, cs_58, m1) => [(4, vP b4 0), (5, vP b5 0), (6, vP b6 0), (7, vP b7 0)]) (fun (x_ : (List Value × List Value × Mem)) => match x_ with | (cs_56, cs_58, m1) => [.var b7 31 cs_54, .var b6 31 cs_51, .var b5 31 cs_58, .var b4 31 cs_56]) (fun (x_ : (List Value × List Value × Mem)) => match x_ with | (cs_56, cs_58, m1) => m1) ?_ ?_
 ·
  refine gc_seq (gc_region (gl_x (F := fun v_ => (rpT (rpQ (k + 1))).Is h4 v_ (T3.mk b.x b.y (0 : Rat))) (ox_load_box ty31 (Pc.here _) rfl rfl rb_49 rfl) (mem1 (.tail _ (.tail _ (.head _)))) rfl ?_))
  intro v19 r19
  refine gl_x (F := fun v_ => (rpT (rpQ (k + 1))).Is h4 v_ (T3.mk a.x a.y (0 : Rat))) (ox_load_box ty31 (Pc.here _) rfl rfl rb_46 rfl) (mem1 (.tail _ (.tail _ (.tail _ (.head _))))) rfl ?_
  intro v20 r20
  refine gl_call (vs := [_, _]) rfl rfl rfl rfl Try.call46 ⟨rfl, rfl, trivial⟩ (fun w hs => o_r5_less hs r19 r20 (by omega)) ?_
  intro v21 h5 hh5 r21
  obtain rfl : v21 = vB (lx (pr (T3.mk b.x b.y (0 : Rat)) 0 1) (pr (T3.mk a.x a.y (0 : Rat)) 0 1)) := r21
  refine gl_nil (gq_then ?_)
  refine gc_cond rfl (fun hc21 => ?_) (fun hc21 => ?_)
  ·
   refine gc_region ?_
   replace rb_49 := rb_49.mono hh5
   refine gl_x (F := fun v_ => (rpT (rpQ (k + 1))).Is h5 v_ (T3.mk b.x b.y (0 : Rat))) (ox_load_box ty31 (Pc.here _) rfl rfl rb_49 rfl) (mem1 (.tail _ (.tail _ (.head _)))) rfl ?_
   intro v22 r22
   replace rb_46 := rb_46.mono hh5
   refine gl_x (F := fun v_ => (rpT (rpQ (k + 1))).Is h5 v_ (T3.mk a.x a.y (0 : Rat))) (ox_load_box ty31 (Pc.here _) rfl rfl rb_46 rfl) (mem1 (.tail _ (.tail _ (.tail _ (.head _))))) rfl ?_
   intro v23 r23
   refine gl_updx (A := [_, _, _]) (F := fun c_ => (rpT (rpQ (k + 1))).R h5 c_ (T3.mk b.x b.y (0 : Rat))) (upd_box Try.sizeOf31 (Pc.here _) rfl rfl rfl rb_46 r22 rfl) ?_
   intro cs_60 rb_61
   refine gl_updx (A := [_, _]) (F := fun c_ => (rpT (rpQ (k + 1))).R h5 c_ (T3.mk a.x a.y (0 : Rat))) (upd_box Try.sizeOf31 (Pc.here _) rfl rfl rfl rb_49 r23 rfl) ?_
   intro cs_62 rb_63
   refine gl_nil ?_
   refine gq_cut (cs_60, cs_62, h5) ?_ ⟨?_, ?_, ?_, ?_, trivial⟩ ?_ rfl
   ·
    refine ⟨hh5, ?_⟩
    refine ⟨(Rp.castR rb_61 (if_pos hc21).symm), (Rp.castR rb_63 (if_pos hc21).symm), ?_⟩
    trivial
   · exact rfl
   · exact rfl
   · exact rfl
   · exact rfl
   · exact rfl
  ·
   refine gc_skip ?_
   refine gq_cut (cs_45, cs_48, h5) ?_ ⟨?_, ?_, ?_, ?_, trivial⟩ ?_ rfl
   ·
    refine ⟨hh5, ?_⟩
    replace rb_46 := rb_46.mono hh5
    replace rb_49 := rb_49.mono hh5
    refine ⟨(Rp.castR rb_46 (if_neg hc21).symm), (Rp.castR rb_49 (if_neg hc21).symm), ?_⟩
    trivial
   · exact rfl
   · exact rfl
   · exact rfl
   · exact rfl
   · exact rfl
 ·
  intro x hx
  obtain ⟨cs_56, cs_58, m1⟩ := x
  obtain ⟨hmm1, hcut⟩ := hx
  show GC _ _ _ _ _ _ [(4, vP b4 0), (5, vP b5 0), (6, vP b6 0), (7, vP b7 0)] [.var b7 31 cs_54, .var b6 31 cs_51, .var b5 31 cs_58, .var b4 31 cs_56] m1
  obtain ⟨rb_57, rb_59, hcut⟩ := hcut
  refine gc_cut (ι := List Value × List Value × Mem) (fun (x_ : (List Value × List Value × Mem)) => match x_ with | (cs_64, cs_66, m2) => MLe m1 m2 ∧ ((rpT (rpQ (k + 1))).R m2 cs_64 (loT (T3.mk c.x c.y (0 : Rat)) (T3.mk d.x d.y (0 : Rat)) 0 1) ∧ (rpT (rpQ (k + 1))).R m2 cs_66 (hiT (T3.mk c.x c.y (0 : Rat)) (T3.mk d.x d.y (0 : Rat)) 0 1) ∧ True)) (fun (x_ : (List Value × List Value × Mem)) => match x_ with | (cs_64, cs_66, m2) => [(4, vP b4 0), (5, vP b5 0), (6, vP b6 0), (7, vP b7 0)]) (fun (x_ : (List Value × List Value × Mem)) => match x_ with | (cs_64, cs_66, m2) => [.var b7 31 cs_66, .var b6 31 cs_64, .var b5 31 cs_58, .var b4 31 cs_56]) (fun (x_ : (List Value × List Value × Mem)) => match x_ with | (cs_64, cs_66, m2) => m2) ?_ ?_
  ·
   refine gc_seq (gc_region ?_)
   replace rb_55 := rb_55.mono hmm1
   refine gl_x (F := fun v_ => (rpT (rpQ (k + 1))).Is m1 v_ (T3.mk d.x d.y (0 : Rat))) (ox_load_box ty31 (Pc.here _) rfl rfl rb_55 rfl) (mem1 (.head _)) rfl ?_
   intro v24 r24
   replace rb_52 := rb_52.mono hmm1
   refine gl_x (F := fun v_ => (rpT (rpQ (k + 1))).Is m1 v_ (T3.mk c.x c.y (0 : Rat))) (ox_load_box ty31 (Pc.here _) rfl rfl rb_52 rfl) (mem1 (.tail _ (.head _))) rfl ?_
   intro v25 r25
   refine gl_call (vs := [_, _]) rfl rfl rfl rfl Try.call46 ⟨rfl, rfl, trivial⟩ (fun w hs => o_r5_less hs r24 r25 (by omega)) ?_
   intro v26 h5 hh5 r26
   obtain rfl : v26 = vB (lx (pr (T3.mk d.x d.y (0 : Rat)) 0 1) (pr (T3.mk c.x c.y (0 : Rat)) 0 1)) := r26
   refine gl_nil (gq_then ?_)
   refine gc_cond rfl (fun hc26 => ?_) (fun hc26 => ?_)
   ·
    refine gc_region ?_
    replace rb_55 := rb_55.mono hh5
    refine gl_x (F := fun v_ => (rpT (rpQ (k + 1))).Is h5 v_ (T3.mk d.x d.y (0 : Rat))) (ox_load_box ty31 (Pc.here _) rfl rfl rb_55 rfl) (mem1 (.head _)) rfl ?_
    intro v27 r27
    replace rb_52 := rb_52.mono hh5
    refine gl_x (F := fun v_ => (rpT (rpQ (k + 1))).Is h5 v_ (T3.mk c.x c.y (0 : Rat))) (ox_load_box ty31 (Pc.here _) rfl rfl rb_52 rfl) (mem1 (.tail _ (.head _))) rfl ?_
    intro v28 r28
    refine gl_updx (A := [_]) (F := fun c_ => (rpT (rpQ (k + 1))).R h5 c_ (T3.mk d.x d.y (0 : Rat))) (upd_box Try.sizeOf31 (Pc.here _) rfl rfl rfl rb_52 r27 rfl) ?_
    intro cs_68 rb_69
    refine gl_updx (A := []) (F := fun c_ => (rpT (rpQ (k + 1))).R h5 c_ (T3.mk c.x c.y (0 : Rat))) (upd_box Try.sizeOf31 (Pc.here _) rfl rfl rfl rb_55 r28 rfl) ?_
    intro cs_70 rb_71
    refine gl_nil ?_
    refine gq_cut (cs_68, cs_70, h5) ?_ ⟨?_, ?_, ?_, ?_, trivial⟩ ?_ rfl
    ·
     refine ⟨hh5, ?_⟩
     refine ⟨(Rp.castR rb_69 (if_pos hc26).symm), (Rp.castR rb_71 (if_pos hc26).symm), ?_⟩
     trivial
    · exact rfl
    · exact rfl
    · exact rfl
    · exact rfl
    · exact rfl
   ·
    refine gc_skip ?_
    refine gq_cut (cs_51, cs_54, h5) ?_ ⟨?_, ?_, ?_, ?_, trivial⟩ ?_ rfl
    ·
     refine ⟨hh5, ?_⟩
     replace rb_52 := rb_52.mono hh5
     replace rb_55 := rb_55.mono hh5
     refine ⟨(Rp.castR rb_52 (if_neg hc26).symm), (Rp.castR rb_55 (if_neg hc26).symm), ?_⟩
     trivial
    · exact rfl
    · exact rfl
    · exact rfl
    · exact rfl
    · exact rfl
  ·
   intro x hx
   obtain ⟨cs_64, cs_66, m2⟩ := x
   obtain ⟨hmm2, hcut⟩ := hx
   show GC _ _ _ _ _ _ [(4, vP b4 0), (5, vP b5 0), (6, vP b6 0), (7, vP b7 0)] [.var b7 31 cs_66, .var b6 31 cs_64, .var b5 31 cs_58, .var b4 31 cs_56] m2
   obtain ⟨rb_65, rb_67, hcut⟩ := hcut
   refine gc_seq (gc_seq (gc_region ?_))
   replace rb_57 := rb_57.mono hmm2
   refine gl_x (F := fun v_ => (rpT (rpQ (k + 1))).Is m2 v_ (loT (T3.mk a.x a.y (0 : Rat)) (T3.mk b.x b.y (0 : Rat)) 0 1)) (ox_load_box ty31 (Pc.here _) rfl rfl rb_57 rfl) (mem1 (.tail _ (.tail _ (.tail _ (.head _))))) rfl ?_
   intro v29 r29
   replace rb_59 := rb_59.mono hmm2
   refine gl_x (F := fun v_ => (rpT (rpQ (k + 1))).Is m2 v_ (hiT (T3.mk a.x a.y (0 : Rat)) (T3.mk b.x b.y (0 : Rat)) 0 1)) (ox_load_box ty31 (Pc.here _) rfl rfl rb_59 rfl) (mem1 (.tail _ (.tail _ (.head _)))) rfl ?_
   intro v30 r30
   refine gl_x (F := fun v_ => (rpT (rpQ (k + 1))).Is m2 v_ (loT (T3.mk c.x c.y (0 : Rat)) (T3.mk d.x d.y (0 : Rat)) 0 1)) (ox_load_box ty31 (Pc.here _) rfl rfl rb_65 rfl) (mem1 (.tail _ (.head _))) rfl ?_
   intro v31 r31
   refine gl_call (vs := [_, _, _]) rfl rfl rfl rfl Try.call47 ⟨rfl, rfl, rfl, trivial⟩ (fun w hs => o_r5_turn hs r29 r30 r31 (by omega)) ?_
   intro v32 h5 hh5 r32
   obtain rfl : v32 = vI (orZ (pr (loT (T3.mk a.x a.y (0 : Rat)) (T3.mk b.x b.y (0 : Rat)) 0 1) 0 1) (pr (hiT (T3.mk a.x a.y (0 : Rat)) (T3.mk b.x b.y (0 : Rat)) 0 1) 0 1) (pr (loT (T3.mk c.x c.y (0 : Rat)) (T3.mk d.x d.y (0 : Rat)) 0 1) 0 1)) := r32
   have hor32 := or_range (pr (loT (T3.mk a.x a.y (0 : Rat)) (T3.mk b.x b.y (0 : Rat)) 0 1) 0 1) (pr (hiT (T3.mk a.x a.y (0 : Rat)) (T3.mk b.x b.y (0 : Rat)) 0 1) 0 1) (pr (loT (T3.mk c.x c.y (0 : Rat)) (T3.mk d.x d.y (0 : Rat)) 0 1) 0 1)
   refine gv (ov_eql_i (q := 0) rfl rfl) rfl ?_
   refine gl_cut (ι := Mem) 7 (fun m_ => MLe h5 m_) (fun _ => [(40, vB (((orZ (pr (loT (T3.mk a.x a.y (0 : Rat)) (T3.mk b.x b.y (0 : Rat)) 0 1) 0 1) (pr (hiT (T3.mk a.x a.y (0 : Rat)) (T3.mk b.x b.y (0 : Rat)) 0 1) 0 1) (pr (loT (T3.mk c.x c.y (0 : Rat)) (T3.mk d.x d.y (0 : Rat)) 0 1) 0 1)) = (0 : Int)) ∧ ((orZ (pr (loT (T3.mk a.x a.y (0 : Rat)) (T3.mk b.x b.y (0 : Rat)) 0 1) 0 1) (pr (hiT (T3.mk a.x a.y (0 : Rat)) (T3.mk b.x b.y (0 : Rat)) 0 1) 0 1) (pr (hiT (T3.mk c.x c.y (0 : Rat)) (T3.mk d.x d.y (0 : Rat)) 0 1) 0 1)) = (0 : Int)))), (4, vP b4 0), (5, vP b5 0), (6, vP b6 0), (7, vP b7 0)]) (fun _ => [.var b7 31 cs_66, .var b6 31 cs_64, .var b5 31 cs_58, .var b4 31 cs_56]) (fun m_ => m_) ?_ ?_
   ·
    refine gl_cases ((orZ (pr (loT (T3.mk a.x a.y (0 : Rat)) (T3.mk b.x b.y (0 : Rat)) 0 1) 0 1) (pr (hiT (T3.mk a.x a.y (0 : Rat)) (T3.mk b.x b.y (0 : Rat)) 0 1) 0 1) (pr (loT (T3.mk c.x c.y (0 : Rat)) (T3.mk d.x d.y (0 : Rat)) 0 1) 0 1)) = (0 : Int)) (fun hg => ?_) (fun hg => ?_)
    ·
     refine gl_val (ov_move (v := .bool true) (congrArg some (vB_true hg))) rfl rfl rfl (gl_on rfl rfl rfl ?_)
     replace rb_57 := rb_57.mono hh5
     refine gl_x (F := fun v_ => (rpT (rpQ (k + 1))).Is h5 v_ (loT (T3.mk a.x a.y (0 : Rat)) (T3.mk b.x b.y (0 : Rat)) 0 1)) (ox_load_box ty31 (Pc.here _) rfl rfl rb_57 rfl) (mem1 (.tail _ (.tail _ (.tail _ (.head _))))) rfl ?_
     intro v35 r35
     refine gl_on rfl rfl rfl ?_
     replace rb_59 := rb_59.mono hh5
     refine gl_x (F := fun v_ => (rpT (rpQ (k + 1))).Is h5 v_ (hiT (T3.mk a.x a.y (0 : Rat)) (T3.mk b.x b.y (0 : Rat)) 0 1)) (ox_load_box ty31 (Pc.here _) rfl rfl rb_59 rfl) (mem1 (.tail _ (.tail _ (.head _)))) rfl ?_
     intro v36 r36
     refine gl_on rfl rfl rfl ?_
     replace rb_67 := rb_67.mono hh5
     refine gl_x (F := fun v_ => (rpT (rpQ (k + 1))).Is h5 v_ (hiT (T3.mk c.x c.y (0 : Rat)) (T3.mk d.x d.y (0 : Rat)) 0 1)) (ox_load_box ty31 (Pc.here _) rfl rfl rb_67 rfl) (mem1 (.head _)) rfl ?_
     intro v37 r37
     refine gl_on rfl rfl rfl ?_
     refine gl_call (vs := [_, _, _]) rfl rfl rfl rfl Try.call47 ⟨rfl, rfl, rfl, trivial⟩ (fun w hs => o_r5_turn hs r35 r36 r37 (by omega)) ?_
     intro v38 h6 hh6 r38
     obtain rfl : v38 = vI (orZ (pr (loT (T3.mk a.x a.y (0 : Rat)) (T3.mk b.x b.y (0 : Rat)) 0 1) 0 1) (pr (hiT (T3.mk a.x a.y (0 : Rat)) (T3.mk b.x b.y (0 : Rat)) 0 1) 0 1) (pr (hiT (T3.mk c.x c.y (0 : Rat)) (T3.mk d.x d.y (0 : Rat)) 0 1) 0 1)) := r38
     have hor38 := or_range (pr (loT (T3.mk a.x a.y (0 : Rat)) (T3.mk b.x b.y (0 : Rat)) 0 1) 0 1) (pr (hiT (T3.mk a.x a.y (0 : Rat)) (T3.mk b.x b.y (0 : Rat)) 0 1) 0 1) (pr (hiT (T3.mk c.x c.y (0 : Rat)) (T3.mk d.x d.y (0 : Rat)) 0 1) 0 1)
     refine gl_on rfl rfl rfl (gv (ov_eql_i (q := 0) rfl rfl) rfl (gv (ov_pick_t rfl rfl) rfl (gl_nil ?_)))
     refine gq_cut h6 hh6 ⟨?_, rfl, rfl, rfl, rfl, trivial⟩ rfl rfl
     exact congrArg some (vB_and_t hg)
    ·
     refine gl_val (ov_move (v := .bool false) (congrArg some (vB_false hg))) rfl rfl rfl (gl_off rfl rfl rfl rfl rfl rfl (gl_off rfl rfl rfl rfl rfl rfl (gl_off rfl rfl rfl rfl rfl rfl (gl_off rfl rfl rfl rfl rfl rfl (gl_off rfl rfl rfl rfl rfl rfl (gv (ov_pick_f rfl rfl) rfl (gl_nil ?_)))))))
     refine gq_cut h5 (MLe.refl _) ⟨?_, rfl, rfl, rfl, rfl, trivial⟩ rfl rfl
     exact congrArg some (vB_and_f hg)
   ·
    intro mg6_5 hmmg6_5
    show GL _ _ _ _ _ _ _ [(40, vB (((orZ (pr (loT (T3.mk a.x a.y (0 : Rat)) (T3.mk b.x b.y (0 : Rat)) 0 1) 0 1) (pr (hiT (T3.mk a.x a.y (0 : Rat)) (T3.mk b.x b.y (0 : Rat)) 0 1) 0 1) (pr (loT (T3.mk c.x c.y (0 : Rat)) (T3.mk d.x d.y (0 : Rat)) 0 1) 0 1)) = (0 : Int)) ∧ ((orZ (pr (loT (T3.mk a.x a.y (0 : Rat)) (T3.mk b.x b.y (0 : Rat)) 0 1) 0 1) (pr (hiT (T3.mk a.x a.y (0 : Rat)) (T3.mk b.x b.y (0 : Rat)) 0 1) 0 1) (pr (hiT (T3.mk c.x c.y (0 : Rat)) (T3.mk d.x d.y (0 : Rat)) 0 1) 0 1)) = (0 : Int)))), (4, vP b4 0), (5, vP b5 0), (6, vP b6 0), (7, vP b7 0)] [.var b7 31 cs_66, .var b6 31 cs_64, .var b5 31 cs_58, .var b4 31 cs_56] mg6_5
    refine gl_cut (ι := Mem) 7 (fun m_ => MLe mg6_5 m_) (fun _ => [(47, vB ((((orZ (pr (loT (T3.mk a.x a.y (0 : Rat)) (T3.mk b.x b.y (0 : Rat)) 0 1) 0 1) (pr (hiT (T3.mk a.x a.y (0 : Rat)) (T3.mk b.x b.y (0 : Rat)) 0 1) 0 1) (pr (loT (T3.mk c.x c.y (0 : Rat)) (T3.mk d.x d.y (0 : Rat)) 0 1) 0 1)) = (0 : Int)) ∧ ((orZ (pr (loT (T3.mk a.x a.y (0 : Rat)) (T3.mk b.x b.y (0 : Rat)) 0 1) 0 1) (pr (hiT (T3.mk a.x a.y (0 : Rat)) (T3.mk b.x b.y (0 : Rat)) 0 1) 0 1) (pr (hiT (T3.mk c.x c.y (0 : Rat)) (T3.mk d.x d.y (0 : Rat)) 0 1) 0 1)) = (0 : Int))) ∧ ((orZ (pr (loT (T3.mk c.x c.y (0 : Rat)) (T3.mk d.x d.y (0 : Rat)) 0 1) 0 1) (pr (hiT (T3.mk c.x c.y (0 : Rat)) (T3.mk d.x d.y (0 : Rat)) 0 1) 0 1) (pr (loT (T3.mk a.x a.y (0 : Rat)) (T3.mk b.x b.y (0 : Rat)) 0 1) 0 1)) = (0 : Int)))), (4, vP b4 0), (5, vP b5 0), (6, vP b6 0), (7, vP b7 0)]) (fun _ => [.var b7 31 cs_66, .var b6 31 cs_64, .var b5 31 cs_58, .var b4 31 cs_56]) (fun m_ => m_) ?_ ?_
    ·
     refine gl_cases (((orZ (pr (loT (T3.mk a.x a.y (0 : Rat)) (T3.mk b.x b.y (0 : Rat)) 0 1) 0 1) (pr (hiT (T3.mk a.x a.y (0 : Rat)) (T3.mk b.x b.y (0 : Rat)) 0 1) 0 1) (pr (loT (T3.mk c.x c.y (0 : Rat)) (T3.mk d.x d.y (0 : Rat)) 0 1) 0 1)) = (0 : Int)) ∧ ((orZ (pr (loT (T3.mk a.x a.y (0 : Rat)) (T3.mk b.x b.y (0 : Rat)) 0 1) 0 1) (pr (hiT (T3.mk a.x a.y (0 : Rat)) (T3.mk b.x b.y (0 : Rat)) 0 1) 0 1) (pr (hiT (T3.mk c.x c.y (0 : Rat)) (T3.mk d.x d.y (0 : Rat)) 0 1) 0 1)) = (0 : Int))) (fun hg => ?_) (fun hg => ?_)
     ·
      refine gl_val (ov_move (v := .bool true) (congrArg some (vB_true hg))) rfl rfl rfl (gl_on rfl rfl rfl ?_)
      replace rb_65 := rb_65.mono (hh5.trans hmmg6_5)
      refine gl_x (F := fun v_ => (rpT (rpQ (k + 1))).Is mg6_5 v_ (loT (T3.mk c.x c.y (0 : Rat)) (T3.mk d.x d.y (0 : Rat)) 0 1)) (ox_load_box ty31 (Pc.here _) rfl rfl rb_65 rfl) (mem1 (.tail _ (.head _))) rfl ?_
      intro v42 r42
      refine gl_on rfl rfl rfl ?_
      replace rb_67 := rb_67.mono (hh5.trans hmmg6_5)
      refine gl_x (F := fun v_ => (rpT (rpQ (k + 1))).Is mg6_5 v_ (hiT (T3.mk c.x c.y (0 : Rat)) (T3.mk d.x d.y (0 : Rat)) 0 1)) (ox_load_box ty31 (Pc.here _) rfl rfl rb_67 rfl) (mem1 (.head _)) rfl ?_
      intro v43 r43
      refine gl_on rfl rfl rfl ?_
      replace rb_57 := rb_57.mono (hh5.trans hmmg6_5)
      refine gl_x (F := fun v_ => (rpT (rpQ (k + 1))).Is mg6_5 v_ (loT (T3.mk a.x a.y (0 : Rat)) (T3.mk b.x b.y (0 : Rat)) 0 1)) (ox_load_box ty31 (Pc.here _) rfl rfl rb_57 rfl) (mem1 (.tail _ (.tail _ (.tail _ (.head _))))) rfl ?_
      intro v44 r44
      refine gl_on rfl rfl rfl ?_
      refine gl_call (vs := [_, _, _]) rfl rfl rfl rfl Try.call47 ⟨rfl, rfl, rfl, trivial⟩ (fun w hs => o_r5_turn hs r42 r43 r44 (by omega)) ?_
      intro v45 h6 hh6 r45
      obtain rfl : v45 = vI (orZ (pr (loT (T3.mk c.x c.y (0 : Rat)) (T3.mk d.x d.y (0 : Rat)) 0 1) 0 1) (pr (hiT (T3.mk c.x c.y (0 : Rat)) (T3.mk d.x d.y (0 : Rat)) 0 1) 0 1) (pr (loT (T3.mk a.x a.y (0 : Rat)) (T3.mk b.x b.y (0 : Rat)) 0 1) 0 1)) := r45
      have hor45 := or_range (pr (loT (T3.mk c.x c.y (0 : Rat)) (T3.mk d.x d.y (0 : Rat)) 0 1) 0 1) (pr (hiT (T3.mk c.x c.y (0 : Rat)) (T3.mk d.x d.y (0 : Rat)) 0 1) 0 1) (pr (loT (T3.mk a.x a.y (0 : Rat)) (T3.mk b.x b.y (0 : Rat)) 0 1) 0 1)
      refine gl_on rfl rfl rfl (gv (ov_eql_i (q := 0) rfl rfl) rfl (gv (ov_pick_t rfl rfl) rfl (gl_nil ?_)))
      refine gq_cut h6 hh6 ⟨?_, rfl, rfl, rfl, rfl, trivial⟩ rfl rfl
      exact congrArg some (vB_and_t hg)
     ·
      refine gl_val (ov_move (v := .bool false) (congrArg some (vB_false hg))) rfl rfl rfl (gl_off rfl rfl rfl rfl rfl rfl (gl_off rfl rfl rfl rfl rfl rfl (gl_off rfl rfl rfl rfl rfl rfl (gl_off rfl rfl rfl rfl rfl rfl (gl_off rfl rfl rfl rfl rfl rfl (gv (ov_pick_f rfl rfl) rfl (gl_nil ?_)))))))
      refine gq_cut mg6_5 (MLe.refl _) ⟨?_, rfl, rfl, rfl, rfl, trivial⟩ rfl rfl
      exact congrArg some (vB_and_f hg)
    ·
     intro mg6_12 hmmg6_12
     show GL _ _ _ _ _ _ _ [(47, vB ((((orZ (pr (loT (T3.mk a.x a.y (0 : Rat)) (T3.mk b.x b.y (0 : Rat)) 0 1) 0 1) (pr (hiT (T3.mk a.x a.y (0 : Rat)) (T3.mk b.x b.y (0 : Rat)) 0 1) 0 1) (pr (loT (T3.mk c.x c.y (0 : Rat)) (T3.mk d.x d.y (0 : Rat)) 0 1) 0 1)) = (0 : Int)) ∧ ((orZ (pr (loT (T3.mk a.x a.y (0 : Rat)) (T3.mk b.x b.y (0 : Rat)) 0 1) 0 1) (pr (hiT (T3.mk a.x a.y (0 : Rat)) (T3.mk b.x b.y (0 : Rat)) 0 1) 0 1) (pr (hiT (T3.mk c.x c.y (0 : Rat)) (T3.mk d.x d.y (0 : Rat)) 0 1) 0 1)) = (0 : Int))) ∧ ((orZ (pr (loT (T3.mk c.x c.y (0 : Rat)) (T3.mk d.x d.y (0 : Rat)) 0 1) 0 1) (pr (hiT (T3.mk c.x c.y (0 : Rat)) (T3.mk d.x d.y (0 : Rat)) 0 1) 0 1) (pr (loT (T3.mk a.x a.y (0 : Rat)) (T3.mk b.x b.y (0 : Rat)) 0 1) 0 1)) = (0 : Int)))), (4, vP b4 0), (5, vP b5 0), (6, vP b6 0), (7, vP b7 0)] [.var b7 31 cs_66, .var b6 31 cs_64, .var b5 31 cs_58, .var b4 31 cs_56] mg6_12
     refine gl_cut (ι := Mem) 7 (fun m_ => MLe mg6_12 m_) (fun _ => [(54, vB (((((orZ (pr (loT (T3.mk a.x a.y (0 : Rat)) (T3.mk b.x b.y (0 : Rat)) 0 1) 0 1) (pr (hiT (T3.mk a.x a.y (0 : Rat)) (T3.mk b.x b.y (0 : Rat)) 0 1) 0 1) (pr (loT (T3.mk c.x c.y (0 : Rat)) (T3.mk d.x d.y (0 : Rat)) 0 1) 0 1)) = (0 : Int)) ∧ ((orZ (pr (loT (T3.mk a.x a.y (0 : Rat)) (T3.mk b.x b.y (0 : Rat)) 0 1) 0 1) (pr (hiT (T3.mk a.x a.y (0 : Rat)) (T3.mk b.x b.y (0 : Rat)) 0 1) 0 1) (pr (hiT (T3.mk c.x c.y (0 : Rat)) (T3.mk d.x d.y (0 : Rat)) 0 1) 0 1)) = (0 : Int))) ∧ ((orZ (pr (loT (T3.mk c.x c.y (0 : Rat)) (T3.mk d.x d.y (0 : Rat)) 0 1) 0 1) (pr (hiT (T3.mk c.x c.y (0 : Rat)) (T3.mk d.x d.y (0 : Rat)) 0 1) 0 1) (pr (loT (T3.mk a.x a.y (0 : Rat)) (T3.mk b.x b.y (0 : Rat)) 0 1) 0 1)) = (0 : Int))) ∧ ((orZ (pr (loT (T3.mk c.x c.y (0 : Rat)) (T3.mk d.x d.y (0 : Rat)) 0 1) 0 1) (pr (hiT (T3.mk c.x c.y (0 : Rat)) (T3.mk d.x d.y (0 : Rat)) 0 1) 0 1) (pr (hiT (T3.mk a.x a.y (0 : Rat)) (T3.mk b.x b.y (0 : Rat)) 0 1) 0 1)) = (0 : Int)))), (4, vP b4 0), (5, vP b5 0), (6, vP b6 0), (7, vP b7 0)]) (fun _ => [.var b7 31 cs_66, .var b6 31 cs_64, .var b5 31 cs_58, .var b4 31 cs_56]) (fun m_ => m_) ?_ ?_
     ·
      refine gl_cases ((((orZ (pr (loT (T3.mk a.x a.y (0 : Rat)) (T3.mk b.x b.y (0 : Rat)) 0 1) 0 1) (pr (hiT (T3.mk a.x a.y (0 : Rat)) (T3.mk b.x b.y (0 : Rat)) 0 1) 0 1) (pr (loT (T3.mk c.x c.y (0 : Rat)) (T3.mk d.x d.y (0 : Rat)) 0 1) 0 1)) = (0 : Int)) ∧ ((orZ (pr (loT (T3.mk a.x a.y (0 : Rat)) (T3.mk b.x b.y (0 : Rat)) 0 1) 0 1) (pr (hiT (T3.mk a.x a.y (0 : Rat)) (T3.mk b.x b.y (0 : Rat)) 0 1) 0 1) (pr (hiT (T3.mk c.x c.y (0 : Rat)) (T3.mk d.x d.y (0 : Rat)) 0 1) 0 1)) = (0 : Int))) ∧ ((orZ (pr (loT (T3.mk c.x c.y (0 : Rat)) (T3.mk d.x d.y (0 : Rat)) 0 1) 0 1) (pr (hiT (T3.mk c.x c.y (0 : Rat)) (T3.mk d.x d.y (0 : Rat)) 0 1) 0 1) (pr (loT (T3.mk a.x a.y (0 : Rat)) (T3.mk b.x b.y (0 : Rat)) 0 1) 0 1)) = (0 : Int))) (fun hg => ?_) (fun hg => ?_)
      ·
       refine gl_val (ov_move (v := .bool true) (congrArg some (vB_true hg))) rfl rfl rfl (gl_on rfl rfl rfl ?_)
       replace rb_65 := rb_65.mono ((hh5.trans hmmg6_5).trans hmmg6_12)
       refine gl_x (F := fun v_ => (rpT (rpQ (k + 1))).Is mg6_12 v_ (loT (T3.mk c.x c.y (0 : Rat)) (T3.mk d.x d.y (0 : Rat)) 0 1)) (ox_load_box ty31 (Pc.here _) rfl rfl rb_65 rfl) (mem1 (.tail _ (.head _))) rfl ?_
       intro v49 r49
       refine gl_on rfl rfl rfl ?_
       replace rb_67 := rb_67.mono ((hh5.trans hmmg6_5).trans hmmg6_12)
       refine gl_x (F := fun v_ => (rpT (rpQ (k + 1))).Is mg6_12 v_ (hiT (T3.mk c.x c.y (0 : Rat)) (T3.mk d.x d.y (0 : Rat)) 0 1)) (ox_load_box ty31 (Pc.here _) rfl rfl rb_67 rfl) (mem1 (.head _)) rfl ?_
       intro v50 r50
       refine gl_on rfl rfl rfl ?_
       replace rb_59 := rb_59.mono ((hh5.trans hmmg6_5).trans hmmg6_12)
       refine gl_x (F := fun v_ => (rpT (rpQ (k + 1))).Is mg6_12 v_ (hiT (T3.mk a.x a.y (0 : Rat)) (T3.mk b.x b.y (0 : Rat)) 0 1)) (ox_load_box ty31 (Pc.here _) rfl rfl rb_59 rfl) (mem1 (.tail _ (.tail _ (.head _)))) rfl ?_
       intro v51 r51
       refine gl_on rfl rfl rfl ?_
       refine gl_call (vs := [_, _, _]) rfl rfl rfl rfl Try.call47 ⟨rfl, rfl, rfl, trivial⟩ (fun w hs => o_r5_turn hs r49 r50 r51 (by omega)) ?_
       intro v52 h6 hh6 r52
       obtain rfl : v52 = vI (orZ (pr (loT (T3.mk c.x c.y (0 : Rat)) (T3.mk d.x d.y (0 : Rat)) 0 1) 0 1) (pr (hiT (T3.mk c.x c.y (0 : Rat)) (T3.mk d.x d.y (0 : Rat)) 0 1) 0 1) (pr (hiT (T3.mk a.x a.y (0 : Rat)) (T3.mk b.x b.y (0 : Rat)) 0 1) 0 1)) := r52
       have hor52 := or_range (pr (loT (T3.mk c.x c.y (0 : Rat)) (T3.mk d.x d.y (0 : Rat)) 0 1) 0 1) (pr (hiT (T3.mk c.x c.y (0 : Rat)) (T3.mk d.x d.y (0 : Rat)) 0 1) 0 1) (pr (hiT (T3.mk a.x a.y (0 : Rat)) (T3.mk b.x b.y (0 : Rat)) 0 1) 0 1)
       refine gl_on rfl rfl rfl (gv (ov_eql_i (q := 0) rfl rfl) rfl (gv (ov_pick_t rfl rfl) rfl (gl_nil ?_)))
       refine gq_cut h6 hh6 ⟨?_, rfl, rfl, rfl, rfl, trivial⟩ rfl rfl
       exact congrArg some (vB_and_t hg)
      ·
       refine gl_val (ov_move (v := .bool false) (congrArg some (vB_false hg))) rfl rfl rfl (gl_off rfl rfl rfl rfl rfl rfl (gl_off rfl rfl rfl rfl rfl rfl (gl_off rfl rfl rfl rfl rfl rfl (gl_off rfl rfl rfl rfl rfl rfl (gl_off rfl rfl rfl rfl rfl rfl (gv (ov_pick_f rfl rfl) rfl (gl_nil ?_)))))))
       refine gq_cut mg6_12 (MLe.refl _) ⟨?_, rfl, rfl, rfl, rfl, trivial⟩ rfl rfl
       exact congrArg some (vB_and_f hg)
     ·
      intro mg6_19 hmmg6_19
      show GL _ _ _ _ _ _ _ [(54, vB (((((orZ (pr (loT (T3.mk a.x a.y (0 : Rat)) (T3.mk b.x b.y (0 : Rat)) 0 1) 0 1) (pr (hiT (T3.mk a.x a.y (0 : Rat)) (T3.mk b.x b.y (0 : Rat)) 0 1) 0 1) (pr (loT (T3.mk c.x c.y (0 : Rat)) (T3.mk d.x d.y (0 : Rat)) 0 1) 0 1)) = (0 : Int)) ∧ ((orZ (pr (loT (T3.mk a.x a.y (0 : Rat)) (T3.mk b.x b.y (0 : Rat)) 0 1) 0 1) (pr (hiT (T3.mk a.x a.y (0 : Rat)) (T3.mk b.x b.y (0 : Rat)) 0 1) 0 1) (pr (hiT (T3.mk c.x c.y (0 : Rat)) (T3.mk d.x d.y (0 : Rat)) 0 1) 0 1)) = (0 : Int))) ∧ ((orZ (pr (loT (T3.mk c.x c.y (0 : Rat)) (T3.mk d.x d.y (0 : Rat)) 0 1) 0 1) (pr (hiT (T3.mk c.x c.y (0 : Rat)) (T3.mk d.x d.y (0 : Rat)) 0 1) 0 1) (pr (loT (T3.mk a.x a.y (0 : Rat)) (T3.mk b.x b.y (0 : Rat)) 0 1) 0 1)) = (0 : Int))) ∧ ((orZ (pr (loT (T3.mk c.x c.y (0 : Rat)) (T3.mk d.x d.y (0 : Rat)) 0 1) 0 1) (pr (hiT (T3.mk c.x c.y (0 : Rat)) (T3.mk d.x d.y (0 : Rat)) 0 1) 0 1) (pr (hiT (T3.mk a.x a.y (0 : Rat)) (T3.mk b.x b.y (0 : Rat)) 0 1) 0 1)) = (0 : Int)))), (4, vP b4 0), (5, vP b5 0), (6, vP b6 0), (7, vP b7 0)] [.var b7 31 cs_66, .var b6 31 cs_64, .var b5 31 cs_58, .var b4 31 cs_56] mg6_19
      refine gl_nil (gq_then ?_)
      refine gc_cond rfl (fun hc54 => ?_) (fun hc54 => ?_)
      ·
       refine gc_seq (gc_region ?_)
       replace rb_57 := rb_57.mono (((hh5.trans hmmg6_5).trans hmmg6_12).trans hmmg6_19)
       refine gl_x (F := fun v_ => (rpT (rpQ (k + 1))).Is mg6_19 v_ (loT (T3.mk a.x a.y (0 : Rat)) (T3.mk b.x b.y (0 : Rat)) 0 1)) (ox_load_box ty31 (Pc.here _) rfl rfl rb_57 rfl) (mem1 (.tail _ (.tail _ (.tail _ (.head _))))) rfl ?_
       intro v55 r55
       replace rb_59 := rb_59.mono (((hh5.trans hmmg6_5).trans hmmg6_12).trans hmmg6_19)
       refine gl_x (F := fun v_ => (rpT (rpQ (k + 1))).Is mg6_19 v_ (hiT (T3.mk a.x a.y (0 : Rat)) (T3.mk b.x b.y (0 : Rat)) 0 1)) (ox_load_box ty31 (Pc.here _) rfl rfl rb_59 rfl) (mem1 (.tail _ (.tail _ (.head _)))) rfl ?_
       intro v56 r56
       replace rb_65 := rb_65.mono (((hh5.trans hmmg6_5).trans hmmg6_12).trans hmmg6_19)
       refine gl_x (F := fun v_ => (rpT (rpQ (k + 1))).Is mg6_19 v_ (loT (T3.mk c.x c.y (0 : Rat)) (T3.mk d.x d.y (0 : Rat)) 0 1)) (ox_load_box ty31 (Pc.here _) rfl rfl rb_65 rfl) (mem1 (.tail _ (.head _))) rfl ?_
       intro v57 r57
       replace rb_67 := rb_67.mono (((hh5.trans hmmg6_5).trans hmmg6_12).trans hmmg6_19)
       refine gl_x (F := fun v_ => (rpT (rpQ (k + 1))).Is mg6_19 v_ (hiT (T3.mk c.x c.y (0 : Rat)) (T3.mk d.x d.y (0 : Rat)) 0 1)) (ox_load_box ty31 (Pc.here _) rfl rfl rb_67 rfl) (mem1 (.head _)) rfl ?_
       intro v58 r58
       refine gl_call (vs := [_, _, _, _]) rfl rfl rfl rfl Try.call48 ⟨rfl, rfl, rfl, rfl, trivial⟩ (fun w hs => o_r5_line hs r55 r56 r57 r58 (by omega)) ?_
       intro v59 h6 hh6 r59
       obtain rfl : v59 = vI (lineR (pr (loT (T3.mk a.x a.y (0 : Rat)) (T3.mk b.x b.y (0 : Rat)) 0 1) 0 1) (pr (hiT (T3.mk a.x a.y (0 : Rat)) (T3.mk b.x b.y (0 : Rat)) 0 1) 0 1) (pr (loT (T3.mk c.x c.y (0 : Rat)) (T3.mk d.x d.y (0 : Rat)) 0 1) 0 1) (pr (hiT (T3.mk c.x c.y (0 : Rat)) (T3.mk d.x d.y (0 : Rat)) 0 1) 0 1)) := r59
       refine asg rfl rfl (gl_nil (gq_keep (e' := [(8, _)]) ⟨rfl, trivial⟩ (gq_then (gc_ret (gr_then (gq_body1 rfl rfl ?_))))))
       refine congrArg vI ?_; rw [← touch_T rfl rfl rfl rfl]; unfold touchT; grind
      ·
       refine gc_skip (gq_then (gc_seq (gc_seq (gc_region ?_))))
       replace rb_57 := rb_57.mono (((hh5.trans hmmg6_5).trans hmmg6_12).trans hmmg6_19)
       refine gl_x (F := fun v_ => (rpT (rpQ (k + 1))).Is mg6_19 v_ (loT (T3.mk a.x a.y (0 : Rat)) (T3.mk b.x b.y (0 : Rat)) 0 1)) (ox_load_box ty31 (Pc.here _) rfl rfl rb_57 rfl) (mem1 (.tail _ (.tail _ (.tail _ (.head _))))) rfl ?_
       intro v60 r60
       replace rb_59 := rb_59.mono (((hh5.trans hmmg6_5).trans hmmg6_12).trans hmmg6_19)
       refine gl_x (F := fun v_ => (rpT (rpQ (k + 1))).Is mg6_19 v_ (hiT (T3.mk a.x a.y (0 : Rat)) (T3.mk b.x b.y (0 : Rat)) 0 1)) (ox_load_box ty31 (Pc.here _) rfl rfl rb_59 rfl) (mem1 (.tail _ (.tail _ (.head _)))) rfl ?_
       intro v61 r61
       refine gl_call (vs := [_, _]) rfl rfl rfl rfl Try.call49 ⟨rfl, rfl, trivial⟩ (fun w hs => o_r5_equal hs r60 r61 (by omega)) ?_
       intro v62 h6 hh6 r62
       obtain rfl : v62 = vB ((pr (loT (T3.mk a.x a.y (0 : Rat)) (T3.mk b.x b.y (0 : Rat)) 0 1) 0 1) = (pr (hiT (T3.mk a.x a.y (0 : Rat)) (T3.mk b.x b.y (0 : Rat)) 0 1) 0 1)) := r62
       refine gl_cut (ι := Mem) 5 (fun m_ => MLe h6 m_) (fun _ => [(67, vB (((pr (loT (T3.mk a.x a.y (0 : Rat)) (T3.mk b.x b.y (0 : Rat)) 0 1) 0 1) = (pr (hiT (T3.mk a.x a.y (0 : Rat)) (T3.mk b.x b.y (0 : Rat)) 0 1) 0 1)) ∨ ((pr (loT (T3.mk c.x c.y (0 : Rat)) (T3.mk d.x d.y (0 : Rat)) 0 1) 0 1) = (pr (hiT (T3.mk c.x c.y (0 : Rat)) (T3.mk d.x d.y (0 : Rat)) 0 1) 0 1)))), (4, vP b4 0), (5, vP b5 0), (6, vP b6 0), (7, vP b7 0)]) (fun _ => [.var b7 31 cs_66, .var b6 31 cs_64, .var b5 31 cs_58, .var b4 31 cs_56]) (fun m_ => m_) ?_ ?_
       ·
        refine gl_cases ((pr (loT (T3.mk a.x a.y (0 : Rat)) (T3.mk b.x b.y (0 : Rat)) 0 1) 0 1) = (pr (hiT (T3.mk a.x a.y (0 : Rat)) (T3.mk b.x b.y (0 : Rat)) 0 1) 0 1)) (fun hg => ?_) (fun hg => ?_)
        ·
         refine gl_val (ov_move (v := .bool true) (congrArg some (vB_true hg))) rfl rfl rfl (gl_off rfl rfl rfl rfl rfl rfl (gl_off rfl rfl rfl rfl rfl rfl (gl_off rfl rfl rfl rfl rfl rfl (gv (ov_pick_t rfl rfl) rfl (gl_nil ?_)))))
         refine gq_cut h6 (MLe.refl _) ⟨?_, rfl, rfl, rfl, rfl, trivial⟩ rfl rfl
         exact congrArg some (vB_or_t hg)
        ·
         refine gl_val (ov_move (v := .bool false) (congrArg some (vB_false hg))) rfl rfl rfl (gl_on rfl rfl rfl ?_)
         replace rb_65 := rb_65.mono ((((hh5.trans hmmg6_5).trans hmmg6_12).trans hmmg6_19).trans hh6)
         refine gl_x (F := fun v_ => (rpT (rpQ (k + 1))).Is h6 v_ (loT (T3.mk c.x c.y (0 : Rat)) (T3.mk d.x d.y (0 : Rat)) 0 1)) (ox_load_box ty31 (Pc.here _) rfl rfl rb_65 rfl) (mem1 (.tail _ (.head _))) rfl ?_
         intro v64 r64
         refine gl_on rfl rfl rfl ?_
         replace rb_67 := rb_67.mono ((((hh5.trans hmmg6_5).trans hmmg6_12).trans hmmg6_19).trans hh6)
         refine gl_x (F := fun v_ => (rpT (rpQ (k + 1))).Is h6 v_ (hiT (T3.mk c.x c.y (0 : Rat)) (T3.mk d.x d.y (0 : Rat)) 0 1)) (ox_load_box ty31 (Pc.here _) rfl rfl rb_67 rfl) (mem1 (.head _)) rfl ?_
         intro v65 r65
         refine gl_on rfl rfl rfl ?_
         refine gl_call (vs := [_, _]) rfl rfl rfl rfl Try.call49 ⟨rfl, rfl, trivial⟩ (fun w hs => o_r5_equal hs r64 r65 (by omega)) ?_
         intro v66 h7 hh7 r66
         obtain rfl : v66 = vB ((pr (loT (T3.mk c.x c.y (0 : Rat)) (T3.mk d.x d.y (0 : Rat)) 0 1) 0 1) = (pr (hiT (T3.mk c.x c.y (0 : Rat)) (T3.mk d.x d.y (0 : Rat)) 0 1) 0 1)) := r66
         refine gv (ov_pick_f rfl rfl) rfl (gl_nil ?_)
         refine gq_cut h7 hh7 ⟨?_, rfl, rfl, rfl, rfl, trivial⟩ rfl rfl
         exact congrArg some (vB_or_f hg)
       ·
        intro mg8_3 hmmg8_3
        show GL _ _ _ _ _ _ _ [(67, vB (((pr (loT (T3.mk a.x a.y (0 : Rat)) (T3.mk b.x b.y (0 : Rat)) 0 1) 0 1) = (pr (hiT (T3.mk a.x a.y (0 : Rat)) (T3.mk b.x b.y (0 : Rat)) 0 1) 0 1)) ∨ ((pr (loT (T3.mk c.x c.y (0 : Rat)) (T3.mk d.x d.y (0 : Rat)) 0 1) 0 1) = (pr (hiT (T3.mk c.x c.y (0 : Rat)) (T3.mk d.x d.y (0 : Rat)) 0 1) 0 1)))), (4, vP b4 0), (5, vP b5 0), (6, vP b6 0), (7, vP b7 0)] [.var b7 31 cs_66, .var b6 31 cs_64, .var b5 31 cs_58, .var b4 31 cs_56] mg8_3
        refine gl_nil (gq_then ?_)
        refine gc_cond rfl (fun hc67 => ?_) (fun hc67 => ?_)
        ·
         refine gc_seq (gc_region ?_)
         replace rb_57 := rb_57.mono (hh6.trans hmmg8_3)
         refine gl_x (F := fun v_ => (rpT (rpQ (k + 1))).Is mg8_3 v_ (loT (T3.mk a.x a.y (0 : Rat)) (T3.mk b.x b.y (0 : Rat)) 0 1)) (ox_load_box ty31 (Pc.here _) rfl rfl rb_57 rfl) (mem1 (.tail _ (.tail _ (.tail _ (.head _))))) rfl ?_
         intro v68 r68
         replace rb_59 := rb_59.mono (hh6.trans hmmg8_3)
         refine gl_x (F := fun v_ => (rpT (rpQ (k + 1))).Is mg8_3 v_ (hiT (T3.mk a.x a.y (0 : Rat)) (T3.mk b.x b.y (0 : Rat)) 0 1)) (ox_load_box ty31 (Pc.here _) rfl rfl rb_59 rfl) (mem1 (.tail _ (.tail _ (.head _)))) rfl ?_
         intro v69 r69
         replace rb_65 := rb_65.mono (((((hh5.trans hmmg6_5).trans hmmg6_12).trans hmmg6_19).trans hh6).trans hmmg8_3)
         refine gl_x (F := fun v_ => (rpT (rpQ (k + 1))).Is mg8_3 v_ (loT (T3.mk c.x c.y (0 : Rat)) (T3.mk d.x d.y (0 : Rat)) 0 1)) (ox_load_box ty31 (Pc.here _) rfl rfl rb_65 rfl) (mem1 (.tail _ (.head _))) rfl ?_
         intro v70 r70
         replace rb_67 := rb_67.mono (((((hh5.trans hmmg6_5).trans hmmg6_12).trans hmmg6_19).trans hh6).trans hmmg8_3)
         refine gl_x (F := fun v_ => (rpT (rpQ (k + 1))).Is mg8_3 v_ (hiT (T3.mk c.x c.y (0 : Rat)) (T3.mk d.x d.y (0 : Rat)) 0 1)) (ox_load_box ty31 (Pc.here _) rfl rfl rb_67 rfl) (mem1 (.head _)) rfl ?_
         intro v71 r71
         refine gl_call (vs := [_, _, _, _]) rfl rfl rfl rfl Try.call50 ⟨rfl, rfl, rfl, rfl, trivial⟩ (fun w hs => o_r5_single hs r68 r69 r70 r71 (by omega)) ?_
         intro v72 h7 hh7 r72
         obtain rfl : v72 = vI (singleR (pr (loT (T3.mk a.x a.y (0 : Rat)) (T3.mk b.x b.y (0 : Rat)) 0 1) 0 1) (pr (hiT (T3.mk a.x a.y (0 : Rat)) (T3.mk b.x b.y (0 : Rat)) 0 1) 0 1) (pr (loT (T3.mk c.x c.y (0 : Rat)) (T3.mk d.x d.y (0 : Rat)) 0 1) 0 1) (pr (hiT (T3.mk c.x c.y (0 : Rat)) (T3.mk d.x d.y (0 : Rat)) 0 1) 0 1)) := r72
         refine asg rfl rfl (gl_nil (gq_keep (e' := [(8, _)]) ⟨rfl, trivial⟩ (gq_then (gc_ret (gr_then (gq_body1 rfl rfl ?_))))))
         refine congrArg vI ?_; rw [← touch_T rfl rfl rfl rfl]; unfold touchT; grind
        ·
         refine gc_skip (gq_then (gc_seq ?_))
         refine gc_draw 20 _ [] [(0, .q), (1, .q), (2, .q), (4, .q), (5, .q), (6, .q), (9, .q), (10, .q), (11, .q), (13, .q), (14, .q), (15, .q), (3, .c), (7, .c), (8, .q), (12, .c), (16, .c), (17, .q), (18, .q), (19, .q)] mixed (fun x hx => by cases hx) (chk_of [0, 0, 0, 7, 0, 0, 0, 120, 136, 0, 0, 0, 3712, 0, 0, 0, 61440, 69632, 66047, 524287] [1048575, 1048575, 1048575, 1048568, 1048575, 1048575, 1048575, 1048463, 1048439, 1048575, 1048575, 1048575, 1044991, 1048575, 1048575, 1048575, 991231, 978943, 1048319, 917503] (by kernel_rfl)) (fun x hx => by cases hx) (fun r hr => hr) ?_
         replace rb_57 := rb_57.mono (hh6.trans hmmg8_3)
         refine w_qx (F := fun v_ => (rpT (rpQ (k + 1))).Is mg8_3 v_ (loT (T3.mk a.x a.y (0 : Rat)) (T3.mk b.x b.y (0 : Rat)) 0 1)) rfl (ox_load_box ty31 (Pc.here _) rfl rfl rb_57 rfl) (mem1 (.tail _ (.tail _ (.tail _ (.head _))))) rfl ?_
         intro v73 r73
         replace rb_59 := rb_59.mono (hh6.trans hmmg8_3)
         refine w_qx (F := fun v_ => (rpT (rpQ (k + 1))).Is mg8_3 v_ (hiT (T3.mk a.x a.y (0 : Rat)) (T3.mk b.x b.y (0 : Rat)) 0 1)) rfl (ox_load_box ty31 (Pc.here _) rfl rfl rb_59 rfl) (mem1 (.tail _ (.tail _ (.head _)))) rfl ?_
         intro v74 r74
         replace rb_65 := rb_65.mono (((((hh5.trans hmmg6_5).trans hmmg6_12).trans hmmg6_19).trans hh6).trans hmmg8_3)
         refine w_qx (F := fun v_ => (rpT (rpQ (k + 1))).Is mg8_3 v_ (loT (T3.mk c.x c.y (0 : Rat)) (T3.mk d.x d.y (0 : Rat)) 0 1)) rfl (ox_load_box ty31 (Pc.here _) rfl rfl rb_65 rfl) (mem1 (.tail _ (.head _))) rfl ?_
         intro v75 r75
         refine w_qx (F := fun v_ => (rpT (rpQ (k + 1))).Is mg8_3 v_ (loT (T3.mk a.x a.y (0 : Rat)) (T3.mk b.x b.y (0 : Rat)) 0 1)) rfl (ox_load_box ty31 (Pc.here _) rfl rfl rb_57 rfl) (mem1 (.tail _ (.tail _ (.tail _ (.head _))))) rfl ?_
         intro v77 r77
         refine w_qx (F := fun v_ => (rpT (rpQ (k + 1))).Is mg8_3 v_ (hiT (T3.mk a.x a.y (0 : Rat)) (T3.mk b.x b.y (0 : Rat)) 0 1)) rfl (ox_load_box ty31 (Pc.here _) rfl rfl rb_59 rfl) (mem1 (.tail _ (.tail _ (.head _)))) rfl ?_
         intro v78 r78
         replace rb_67 := rb_67.mono (((((hh5.trans hmmg6_5).trans hmmg6_12).trans hmmg6_19).trans hh6).trans hmmg8_3)
         refine w_qx (F := fun v_ => (rpT (rpQ (k + 1))).Is mg8_3 v_ (hiT (T3.mk c.x c.y (0 : Rat)) (T3.mk d.x d.y (0 : Rat)) 0 1)) rfl (ox_load_box ty31 (Pc.here _) rfl rfl rb_67 rfl) (mem1 (.head _)) rfl ?_
         intro v79 r79
         refine w_qx (F := fun v_ => (rpT (rpQ (k + 1))).Is mg8_3 v_ (loT (T3.mk c.x c.y (0 : Rat)) (T3.mk d.x d.y (0 : Rat)) 0 1)) rfl (ox_load_box ty31 (Pc.here _) rfl rfl rb_65 rfl) (mem1 (.tail _ (.head _))) rfl ?_
         intro v82 r82
         refine w_qx (F := fun v_ => (rpT (rpQ (k + 1))).Is mg8_3 v_ (hiT (T3.mk c.x c.y (0 : Rat)) (T3.mk d.x d.y (0 : Rat)) 0 1)) rfl (ox_load_box ty31 (Pc.here _) rfl rfl rb_67 rfl) (mem1 (.head _)) rfl ?_
         intro v83 r83
         refine w_qx (F := fun v_ => (rpT (rpQ (k + 1))).Is mg8_3 v_ (loT (T3.mk a.x a.y (0 : Rat)) (T3.mk b.x b.y (0 : Rat)) 0 1)) rfl (ox_load_box ty31 (Pc.here _) rfl rfl rb_57 rfl) (mem1 (.tail _ (.tail _ (.tail _ (.head _))))) rfl ?_
         intro v84 r84
         refine w_qx (F := fun v_ => (rpT (rpQ (k + 1))).Is mg8_3 v_ (loT (T3.mk c.x c.y (0 : Rat)) (T3.mk d.x d.y (0 : Rat)) 0 1)) rfl (ox_load_box ty31 (Pc.here _) rfl rfl rb_65 rfl) (mem1 (.tail _ (.head _))) rfl ?_
         intro v86 r86
         refine w_qx (F := fun v_ => (rpT (rpQ (k + 1))).Is mg8_3 v_ (hiT (T3.mk c.x c.y (0 : Rat)) (T3.mk d.x d.y (0 : Rat)) 0 1)) rfl (ox_load_box ty31 (Pc.here _) rfl rfl rb_67 rfl) (mem1 (.head _)) rfl ?_
         intro v87 r87
         refine w_qx (F := fun v_ => (rpT (rpQ (k + 1))).Is mg8_3 v_ (hiT (T3.mk a.x a.y (0 : Rat)) (T3.mk b.x b.y (0 : Rat)) 0 1)) rfl (ox_load_box ty31 (Pc.here _) rfl rfl rb_59 rfl) (mem1 (.tail _ (.tail _ (.head _)))) rfl ?_
         intro v88 r88
         refine w_c rfl ?_
         refine s_call (vs := [_, _, _]) Try.call47 ⟨rfl, rfl, rfl, trivial⟩ (fun w hs => o_r5_turn hs r73 r74 r75 (by omega)) rfl ?_
         intro v76 h7 hh7 r76
         obtain rfl : v76 = vI (orZ (pr (loT (T3.mk a.x a.y (0 : Rat)) (T3.mk b.x b.y (0 : Rat)) 0 1) 0 1) (pr (hiT (T3.mk a.x a.y (0 : Rat)) (T3.mk b.x b.y (0 : Rat)) 0 1) 0 1) (pr (loT (T3.mk c.x c.y (0 : Rat)) (T3.mk d.x d.y (0 : Rat)) 0 1) 0 1)) := r76
         have hor76 := or_range (pr (loT (T3.mk a.x a.y (0 : Rat)) (T3.mk b.x b.y (0 : Rat)) 0 1) 0 1) (pr (hiT (T3.mk a.x a.y (0 : Rat)) (T3.mk b.x b.y (0 : Rat)) 0 1) 0 1) (pr (loT (T3.mk c.x c.y (0 : Rat)) (T3.mk d.x d.y (0 : Rat)) 0 1) 0 1)
         refine w_c rfl ?_
         replace r77 := r77.mono hh7
         replace r78 := r78.mono hh7
         replace r79 := r79.mono hh7
         refine s_call (vs := [_, _, _]) Try.call47 ⟨rfl, rfl, rfl, trivial⟩ (fun w hs => o_r5_turn hs r77 r78 r79 (by omega)) rfl ?_
         intro v80 h8 hh8 r80
         obtain rfl : v80 = vI (orZ (pr (loT (T3.mk a.x a.y (0 : Rat)) (T3.mk b.x b.y (0 : Rat)) 0 1) 0 1) (pr (hiT (T3.mk a.x a.y (0 : Rat)) (T3.mk b.x b.y (0 : Rat)) 0 1) 0 1) (pr (hiT (T3.mk c.x c.y (0 : Rat)) (T3.mk d.x d.y (0 : Rat)) 0 1) 0 1)) := r80
         have hor80 := or_range (pr (loT (T3.mk a.x a.y (0 : Rat)) (T3.mk b.x b.y (0 : Rat)) 0 1) 0 1) (pr (hiT (T3.mk a.x a.y (0 : Rat)) (T3.mk b.x b.y (0 : Rat)) 0 1) 0 1) (pr (hiT (T3.mk c.x c.y (0 : Rat)) (T3.mk d.x d.y (0 : Rat)) 0 1) 0 1)
         refine w_q rfl (fun h' L' hh hR => ov_mul_i rfl rfl (by have := mul_range hor76 hor80; omega) (by have := mul_range hor76 hor80; omega)) rfl ?_
         refine w_c rfl ?_
         replace r82 := r82.mono (hh7.trans hh8)
         replace r83 := r83.mono (hh7.trans hh8)
         replace r84 := r84.mono (hh7.trans hh8)
         refine s_call (vs := [_, _, _]) Try.call47 ⟨rfl, rfl, rfl, trivial⟩ (fun w hs => o_r5_turn hs r82 r83 r84 (by omega)) rfl ?_
         intro v85 h9 hh9 r85
         obtain rfl : v85 = vI (orZ (pr (loT (T3.mk c.x c.y (0 : Rat)) (T3.mk d.x d.y (0 : Rat)) 0 1) 0 1) (pr (hiT (T3.mk c.x c.y (0 : Rat)) (T3.mk d.x d.y (0 : Rat)) 0 1) 0 1) (pr (loT (T3.mk a.x a.y (0 : Rat)) (T3.mk b.x b.y (0 : Rat)) 0 1) 0 1)) := r85
         have hor85 := or_range (pr (loT (T3.mk c.x c.y (0 : Rat)) (T3.mk d.x d.y (0 : Rat)) 0 1) 0 1) (pr (hiT (T3.mk c.x c.y (0 : Rat)) (T3.mk d.x d.y (0 : Rat)) 0 1) 0 1) (pr (loT (T3.mk a.x a.y (0 : Rat)) (T3.mk b.x b.y (0 : Rat)) 0 1) 0 1)
         refine w_c rfl ?_
         replace r86 := r86.mono ((hh7.trans hh8).trans hh9)
         replace r87 := r87.mono ((hh7.trans hh8).trans hh9)
         replace r88 := r88.mono ((hh7.trans hh8).trans hh9)
         refine s_call (vs := [_, _, _]) Try.call47 ⟨rfl, rfl, rfl, trivial⟩ (fun w hs => o_r5_turn hs r86 r87 r88 (by omega)) rfl ?_
         intro v89 h10 hh10 r89
         obtain rfl : v89 = vI (orZ (pr (loT (T3.mk c.x c.y (0 : Rat)) (T3.mk d.x d.y (0 : Rat)) 0 1) 0 1) (pr (hiT (T3.mk c.x c.y (0 : Rat)) (T3.mk d.x d.y (0 : Rat)) 0 1) 0 1) (pr (hiT (T3.mk a.x a.y (0 : Rat)) (T3.mk b.x b.y (0 : Rat)) 0 1) 0 1)) := r89
         have hor89 := or_range (pr (loT (T3.mk c.x c.y (0 : Rat)) (T3.mk d.x d.y (0 : Rat)) 0 1) 0 1) (pr (hiT (T3.mk c.x c.y (0 : Rat)) (T3.mk d.x d.y (0 : Rat)) 0 1) 0 1) (pr (hiT (T3.mk a.x a.y (0 : Rat)) (T3.mk b.x b.y (0 : Rat)) 0 1) 0 1)
         refine w_q rfl (fun h' L' hh hR => ov_mul_i rfl rfl (by have := mul_range hor85 hor89; omega) (by have := mul_range hor85 hor89; omega)) rfl (w_q rfl (fun h' L' hh hR => ov_assign rfl) rfl (w_q rfl (fun h' L' hh hR => ov_assign rfl) rfl (w_nil (gq_keep (e' := [(4, _), (5, _), (6, _), (7, _), (9, _), (10, _)]) ⟨rfl, rfl, rfl, rfl, rfl, rfl, trivial⟩ (gq_then (gc_seq (gc_block (gc_seq (gc_region (mv rfl rfl (gv (ov_gtr_i (q := 0) rfl rfl) rfl ?_)))))))))))
         refine gl_cut (ι := Unit) 4 (fun _ => True) (fun _ => [(97, vB (((0 : Int) < ((orZ (pr (loT (T3.mk a.x a.y (0 : Rat)) (T3.mk b.x b.y (0 : Rat)) 0 1) 0 1) (pr (hiT (T3.mk a.x a.y (0 : Rat)) (T3.mk b.x b.y (0 : Rat)) 0 1) 0 1) (pr (loT (T3.mk c.x c.y (0 : Rat)) (T3.mk d.x d.y (0 : Rat)) 0 1) 0 1)) * (orZ (pr (loT (T3.mk a.x a.y (0 : Rat)) (T3.mk b.x b.y (0 : Rat)) 0 1) 0 1) (pr (hiT (T3.mk a.x a.y (0 : Rat)) (T3.mk b.x b.y (0 : Rat)) 0 1) 0 1) (pr (hiT (T3.mk c.x c.y (0 : Rat)) (T3.mk d.x d.y (0 : Rat)) 0 1) 0 1)))) ∨ ((0 : Int) < ((orZ (pr (loT (T3.mk c.x c.y (0 : Rat)) (T3.mk d.x d.y (0 : Rat)) 0 1) 0 1) (pr (hiT (T3.mk c.x c.y (0 : Rat)) (T3.mk d.x d.y (0 : Rat)) 0 1) 0 1) (pr (loT (T3.mk a.x a.y (0 : Rat)) (T3.mk b.x b.y (0 : Rat)) 0 1) 0 1)) * (orZ (pr (loT (T3.mk c.x c.y (0 : Rat)) (T3.mk d.x d.y (0 : Rat)) 0 1) 0 1) (pr (hiT (T3.mk c.x c.y (0 : Rat)) (T3.mk d.x d.y (0 : Rat)) 0 1) 0 1) (pr (hiT (T3.mk a.x a.y (0 : Rat)) (T3.mk b.x b.y (0 : Rat)) 0 1) 0 1)))))), (4, vP b4 0), (5, vP b5 0), (6, vP b6 0), (7, vP b7 0)]) (fun _ => [.var b7 31 cs_66, .var b6 31 cs_64, .var b5 31 cs_58, .var b4 31 cs_56]) (fun _ => h10) ?_ ?_
         ·
          refine gl_cases ((0 : Int) < ((orZ (pr (loT (T3.mk a.x a.y (0 : Rat)) (T3.mk b.x b.y (0 : Rat)) 0 1) 0 1) (pr (hiT (T3.mk a.x a.y (0 : Rat)) (T3.mk b.x b.y (0 : Rat)) 0 1) 0 1) (pr (loT (T3.mk c.x c.y (0 : Rat)) (T3.mk d.x d.y (0 : Rat)) 0 1) 0 1)) * (orZ (pr (loT (T3.mk a.x a.y (0 : Rat)) (T3.mk b.x b.y (0 : Rat)) 0 1) 0 1) (pr (hiT (T3.mk a.x a.y (0 : Rat)) (T3.mk b.x b.y (0 : Rat)) 0 1) 0 1) (pr (hiT (T3.mk c.x c.y (0 : Rat)) (T3.mk d.x d.y (0 : Rat)) 0 1) 0 1)))) (fun hg => ?_) (fun hg => ?_)
          ·
           refine gl_val (ov_move (v := .bool true) (congrArg some (vB_true hg))) rfl rfl rfl (gl_off rfl rfl rfl rfl rfl rfl (gl_off rfl rfl rfl rfl rfl rfl (gv (ov_pick_t rfl rfl) rfl (gl_nil ?_))))
           refine gq_cut () trivial ⟨?_, rfl, rfl, rfl, rfl, trivial⟩ rfl rfl
           exact congrArg some (vB_or_t hg)
          ·
           refine gl_val (ov_move (v := .bool false) (congrArg some (vB_false hg))) rfl rfl rfl (gl_on rfl rfl rfl (mv rfl rfl (gl_on rfl rfl rfl (gv (ov_gtr_i (q := 0) rfl rfl) rfl (gv (ov_pick_f rfl rfl) rfl (gl_nil ?_))))))
           refine gq_cut () trivial ⟨?_, rfl, rfl, rfl, rfl, trivial⟩ rfl rfl
           exact congrArg some (vB_or_f hg)
         ·
          intro _ _
          show GL _ _ _ _ _ _ _ [(97, vB (((0 : Int) < ((orZ (pr (loT (T3.mk a.x a.y (0 : Rat)) (T3.mk b.x b.y (0 : Rat)) 0 1) 0 1) (pr (hiT (T3.mk a.x a.y (0 : Rat)) (T3.mk b.x b.y (0 : Rat)) 0 1) 0 1) (pr (loT (T3.mk c.x c.y (0 : Rat)) (T3.mk d.x d.y (0 : Rat)) 0 1) 0 1)) * (orZ (pr (loT (T3.mk a.x a.y (0 : Rat)) (T3.mk b.x b.y (0 : Rat)) 0 1) 0 1) (pr (hiT (T3.mk a.x a.y (0 : Rat)) (T3.mk b.x b.y (0 : Rat)) 0 1) 0 1) (pr (hiT (T3.mk c.x c.y (0 : Rat)) (T3.mk d.x d.y (0 : Rat)) 0 1) 0 1)))) ∨ ((0 : Int) < ((orZ (pr (loT (T3.mk c.x c.y (0 : Rat)) (T3.mk d.x d.y (0 : Rat)) 0 1) 0 1) (pr (hiT (T3.mk c.x c.y (0 : Rat)) (T3.mk d.x d.y (0 : Rat)) 0 1) 0 1) (pr (loT (T3.mk a.x a.y (0 : Rat)) (T3.mk b.x b.y (0 : Rat)) 0 1) 0 1)) * (orZ (pr (loT (T3.mk c.x c.y (0 : Rat)) (T3.mk d.x d.y (0 : Rat)) 0 1) 0 1) (pr (hiT (T3.mk c.x c.y (0 : Rat)) (T3.mk d.x d.y (0 : Rat)) 0 1) 0 1) (pr (hiT (T3.mk a.x a.y (0 : Rat)) (T3.mk b.x b.y (0 : Rat)) 0 1) 0 1)))))), (4, vP b4 0), (5, vP b5 0), (6, vP b6 0), (7, vP b7 0)] [.var b7 31 cs_66, .var b6 31 cs_64, .var b5 31 cs_58, .var b4 31 cs_56] h10
          refine asg rfl rfl (gl_nil (gq_then ?_))
          refine gc_cond rfl (fun hc91 => ?_) (fun hc91 => ?_)
          ·
           refine gc_seq (gc_region (asg (v := vI (0)) rfl rfl (gl_nil (gq_then (gc_ret (gr_in (gr_then (gq_body1 rfl rfl ?_))))))))
           refine congrArg vI ?_; rw [← touch_T rfl rfl rfl rfl]; unfold touchT; grind
          ·
           refine gc_seq (gc_region ?_)
           replace rb_57 := rb_57.mono (((hh7.trans hh8).trans hh9).trans hh10)
           refine gl_x (F := fun v_ => (rpT (rpQ (k + 1))).Is h10 v_ (loT (T3.mk a.x a.y (0 : Rat)) (T3.mk b.x b.y (0 : Rat)) 0 1)) (ox_load_box ty31 (Pc.here _) rfl rfl rb_57 rfl) (mem1 (.tail _ (.tail _ (.tail _ (.head _))))) rfl ?_
           intro v99 r99
           replace rb_65 := rb_65.mono (((hh7.trans hh8).trans hh9).trans hh10)
           refine gl_x (F := fun v_ => (rpT (rpQ (k + 1))).Is h10 v_ (loT (T3.mk c.x c.y (0 : Rat)) (T3.mk d.x d.y (0 : Rat)) 0 1)) (ox_load_box ty31 (Pc.here _) rfl rfl rb_65 rfl) (mem1 (.tail _ (.head _))) rfl ?_
           intro v100 r100
           refine gl_call (vs := [_, _]) rfl rfl rfl rfl Try.call49 ⟨rfl, rfl, trivial⟩ (fun w hs => o_r5_equal hs r99 r100 (by omega)) ?_
           intro v101 h11 hh11 r101
           obtain rfl : v101 = vB ((pr (loT (T3.mk a.x a.y (0 : Rat)) (T3.mk b.x b.y (0 : Rat)) 0 1) 0 1) = (pr (loT (T3.mk c.x c.y (0 : Rat)) (T3.mk d.x d.y (0 : Rat)) 0 1) 0 1)) := r101
           refine gl_cut (ι := Mem) 5 (fun m_ => MLe h11 m_) (fun _ => [(106, vB (((pr (loT (T3.mk a.x a.y (0 : Rat)) (T3.mk b.x b.y (0 : Rat)) 0 1) 0 1) = (pr (loT (T3.mk c.x c.y (0 : Rat)) (T3.mk d.x d.y (0 : Rat)) 0 1) 0 1)) ∨ ((pr (loT (T3.mk a.x a.y (0 : Rat)) (T3.mk b.x b.y (0 : Rat)) 0 1) 0 1) = (pr (hiT (T3.mk c.x c.y (0 : Rat)) (T3.mk d.x d.y (0 : Rat)) 0 1) 0 1)))), (5, vP b5 0), (6, vP b6 0), (7, vP b7 0)]) (fun _ => [.var b7 31 cs_66, .var b6 31 cs_64, .var b5 31 cs_58, .var b4 31 cs_56]) (fun m_ => m_) ?_ ?_
           ·
            refine gl_cases ((pr (loT (T3.mk a.x a.y (0 : Rat)) (T3.mk b.x b.y (0 : Rat)) 0 1) 0 1) = (pr (loT (T3.mk c.x c.y (0 : Rat)) (T3.mk d.x d.y (0 : Rat)) 0 1) 0 1)) (fun hg => ?_) (fun hg => ?_)
            ·
             refine gl_val (ov_move (v := .bool true) (congrArg some (vB_true hg))) rfl rfl rfl (gl_off rfl rfl rfl rfl rfl rfl (gl_off rfl rfl rfl rfl rfl rfl (gl_off rfl rfl rfl rfl rfl rfl (gv (ov_pick_t rfl rfl) rfl (gl_nil ?_)))))
             refine gq_cut h11 (MLe.refl _) ⟨?_, rfl, rfl, rfl, trivial⟩ rfl rfl
             exact congrArg some (vB_or_t hg)
            ·
             refine gl_val (ov_move (v := .bool false) (congrArg some (vB_false hg))) rfl rfl rfl (gl_on rfl rfl rfl ?_)
             replace rb_57 := rb_57.mono hh11
             refine gl_x (F := fun v_ => (rpT (rpQ (k + 1))).Is h11 v_ (loT (T3.mk a.x a.y (0 : Rat)) (T3.mk b.x b.y (0 : Rat)) 0 1)) (ox_load_box ty31 (Pc.here _) rfl rfl rb_57 rfl) (mem1 (.tail _ (.tail _ (.tail _ (.head _))))) rfl ?_
             intro v103 r103
             refine gl_on rfl rfl rfl ?_
             replace rb_67 := rb_67.mono ((((hh7.trans hh8).trans hh9).trans hh10).trans hh11)
             refine gl_x (F := fun v_ => (rpT (rpQ (k + 1))).Is h11 v_ (hiT (T3.mk c.x c.y (0 : Rat)) (T3.mk d.x d.y (0 : Rat)) 0 1)) (ox_load_box ty31 (Pc.here _) rfl rfl rb_67 rfl) (mem1 (.head _)) rfl ?_
             intro v104 r104
             refine gl_on rfl rfl rfl ?_
             refine gl_call (vs := [_, _]) rfl rfl rfl rfl Try.call49 ⟨rfl, rfl, trivial⟩ (fun w hs => o_r5_equal hs r103 r104 (by omega)) ?_
             intro v105 h12 hh12 r105
             obtain rfl : v105 = vB ((pr (loT (T3.mk a.x a.y (0 : Rat)) (T3.mk b.x b.y (0 : Rat)) 0 1) 0 1) = (pr (hiT (T3.mk c.x c.y (0 : Rat)) (T3.mk d.x d.y (0 : Rat)) 0 1) 0 1)) := r105
             refine gv (ov_pick_f rfl rfl) rfl (gl_nil ?_)
             refine gq_cut h12 hh12 ⟨?_, rfl, rfl, rfl, trivial⟩ rfl rfl
             exact congrArg some (vB_or_f hg)
           ·
            intro mg13_3 hmmg13_3
            show GL _ _ _ _ _ _ _ [(106, vB (((pr (loT (T3.mk a.x a.y (0 : Rat)) (T3.mk b.x b.y (0 : Rat)) 0 1) 0 1) = (pr (loT (T3.mk c.x c.y (0 : Rat)) (T3.mk d.x d.y (0 : Rat)) 0 1) 0 1)) ∨ ((pr (loT (T3.mk a.x a.y (0 : Rat)) (T3.mk b.x b.y (0 : Rat)) 0 1) 0 1) = (pr (hiT (T3.mk c.x c.y (0 : Rat)) (T3.mk d.x d.y (0 : Rat)) 0 1) 0 1)))), (5, vP b5 0), (6, vP b6 0), (7, vP b7 0)] [.var b7 31 cs_66, .var b6 31 cs_64, .var b5 31 cs_58, .var b4 31 cs_56] mg13_3
            refine gl_cut (ι := Mem) 5 (fun m_ => MLe mg13_3 m_) (fun _ => [(111, vB ((((pr (loT (T3.mk a.x a.y (0 : Rat)) (T3.mk b.x b.y (0 : Rat)) 0 1) 0 1) = (pr (loT (T3.mk c.x c.y (0 : Rat)) (T3.mk d.x d.y (0 : Rat)) 0 1) 0 1)) ∨ ((pr (loT (T3.mk a.x a.y (0 : Rat)) (T3.mk b.x b.y (0 : Rat)) 0 1) 0 1) = (pr (hiT (T3.mk c.x c.y (0 : Rat)) (T3.mk d.x d.y (0 : Rat)) 0 1) 0 1))) ∨ ((pr (hiT (T3.mk a.x a.y (0 : Rat)) (T3.mk b.x b.y (0 : Rat)) 0 1) 0 1) = (pr (loT (T3.mk c.x c.y (0 : Rat)) (T3.mk d.x d.y (0 : Rat)) 0 1) 0 1)))), (5, vP b5 0), (7, vP b7 0)]) (fun _ => [.var b7 31 cs_66, .var b6 31 cs_64, .var b5 31 cs_58, .var b4 31 cs_56]) (fun m_ => m_) ?_ ?_
            ·
             refine gl_cases (((pr (loT (T3.mk a.x a.y (0 : Rat)) (T3.mk b.x b.y (0 : Rat)) 0 1) 0 1) = (pr (loT (T3.mk c.x c.y (0 : Rat)) (T3.mk d.x d.y (0 : Rat)) 0 1) 0 1)) ∨ ((pr (loT (T3.mk a.x a.y (0 : Rat)) (T3.mk b.x b.y (0 : Rat)) 0 1) 0 1) = (pr (hiT (T3.mk c.x c.y (0 : Rat)) (T3.mk d.x d.y (0 : Rat)) 0 1) 0 1))) (fun hg => ?_) (fun hg => ?_)
             ·
              refine gl_val (ov_move (v := .bool true) (congrArg some (vB_true hg))) rfl rfl rfl (gl_off rfl rfl rfl rfl rfl rfl (gl_off rfl rfl rfl rfl rfl rfl (gl_off rfl rfl rfl rfl rfl rfl (gv (ov_pick_t rfl rfl) rfl (gl_nil ?_)))))
              refine gq_cut mg13_3 (MLe.refl _) ⟨?_, rfl, rfl, trivial⟩ rfl rfl
              exact congrArg some (vB_or_t hg)
             ·
              refine gl_val (ov_move (v := .bool false) (congrArg some (vB_false hg))) rfl rfl rfl (gl_on rfl rfl rfl ?_)
              replace rb_59 := rb_59.mono (((((hh7.trans hh8).trans hh9).trans hh10).trans hh11).trans hmmg13_3)
              refine gl_x (F := fun v_ => (rpT (rpQ (k + 1))).Is mg13_3 v_ (hiT (T3.mk a.x a.y (0 : Rat)) (T3.mk b.x b.y (0 : Rat)) 0 1)) (ox_load_box ty31 (Pc.here _) rfl rfl rb_59 rfl) (mem1 (.tail _ (.tail _ (.head _)))) rfl ?_
              intro v108 r108
              refine gl_on rfl rfl rfl ?_
              replace rb_65 := rb_65.mono (hh11.trans hmmg13_3)
              refine gl_x (F := fun v_ => (rpT (rpQ (k + 1))).Is mg13_3 v_ (loT (T3.mk c.x c.y (0 : Rat)) (T3.mk d.x d.y (0 : Rat)) 0 1)) (ox_load_box ty31 (Pc.here _) rfl rfl rb_65 rfl) (mem1 (.tail _ (.head _))) rfl ?_
              intro v109 r109
              refine gl_on rfl rfl rfl ?_
              refine gl_call (vs := [_, _]) rfl rfl rfl rfl Try.call49 ⟨rfl, rfl, trivial⟩ (fun w hs => o_r5_equal hs r108 r109 (by omega)) ?_
              intro v110 h12 hh12 r110
              obtain rfl : v110 = vB ((pr (hiT (T3.mk a.x a.y (0 : Rat)) (T3.mk b.x b.y (0 : Rat)) 0 1) 0 1) = (pr (loT (T3.mk c.x c.y (0 : Rat)) (T3.mk d.x d.y (0 : Rat)) 0 1) 0 1)) := r110
              refine gv (ov_pick_f rfl rfl) rfl (gl_nil ?_)
              refine gq_cut h12 hh12 ⟨?_, rfl, rfl, trivial⟩ rfl rfl
              exact congrArg some (vB_or_f hg)
            ·
             intro mg13_8 hmmg13_8
             show GL _ _ _ _ _ _ _ [(111, vB ((((pr (loT (T3.mk a.x a.y (0 : Rat)) (T3.mk b.x b.y (0 : Rat)) 0 1) 0 1) = (pr (loT (T3.mk c.x c.y (0 : Rat)) (T3.mk d.x d.y (0 : Rat)) 0 1) 0 1)) ∨ ((pr (loT (T3.mk a.x a.y (0 : Rat)) (T3.mk b.x b.y (0 : Rat)) 0 1) 0 1) = (pr (hiT (T3.mk c.x c.y (0 : Rat)) (T3.mk d.x d.y (0 : Rat)) 0 1) 0 1))) ∨ ((pr (hiT (T3.mk a.x a.y (0 : Rat)) (T3.mk b.x b.y (0 : Rat)) 0 1) 0 1) = (pr (loT (T3.mk c.x c.y (0 : Rat)) (T3.mk d.x d.y (0 : Rat)) 0 1) 0 1)))), (5, vP b5 0), (7, vP b7 0)] [.var b7 31 cs_66, .var b6 31 cs_64, .var b5 31 cs_58, .var b4 31 cs_56] mg13_8
             refine gl_cut (ι := Mem) 5 (fun m_ => MLe mg13_8 m_) (fun _ => [(116, vB (((((pr (loT (T3.mk a.x a.y (0 : Rat)) (T3.mk b.x b.y (0 : Rat)) 0 1) 0 1) = (pr (loT (T3.mk c.x c.y (0 : Rat)) (T3.mk d.x d.y (0 : Rat)) 0 1) 0 1)) ∨ ((pr (loT (T3.mk a.x a.y (0 : Rat)) (T3.mk b.x b.y (0 : Rat)) 0 1) 0 1) = (pr (hiT (T3.mk c.x c.y (0 : Rat)) (T3.mk d.x d.y (0 : Rat)) 0 1) 0 1))) ∨ ((pr (hiT (T3.mk a.x a.y (0 : Rat)) (T3.mk b.x b.y (0 : Rat)) 0 1) 0 1) = (pr (loT (T3.mk c.x c.y (0 : Rat)) (T3.mk d.x d.y (0 : Rat)) 0 1) 0 1))) ∨ ((pr (hiT (T3.mk a.x a.y (0 : Rat)) (T3.mk b.x b.y (0 : Rat)) 0 1) 0 1) = (pr (hiT (T3.mk c.x c.y (0 : Rat)) (T3.mk d.x d.y (0 : Rat)) 0 1) 0 1))))]) (fun _ => [.var b7 31 cs_66, .var b6 31 cs_64, .var b5 31 cs_58, .var b4 31 cs_56]) (fun m_ => m_) ?_ ?_
             ·
              refine gl_cases ((((pr (loT (T3.mk a.x a.y (0 : Rat)) (T3.mk b.x b.y (0 : Rat)) 0 1) 0 1) = (pr (loT (T3.mk c.x c.y (0 : Rat)) (T3.mk d.x d.y (0 : Rat)) 0 1) 0 1)) ∨ ((pr (loT (T3.mk a.x a.y (0 : Rat)) (T3.mk b.x b.y (0 : Rat)) 0 1) 0 1) = (pr (hiT (T3.mk c.x c.y (0 : Rat)) (T3.mk d.x d.y (0 : Rat)) 0 1) 0 1))) ∨ ((pr (hiT (T3.mk a.x a.y (0 : Rat)) (T3.mk b.x b.y (0 : Rat)) 0 1) 0 1) = (pr (loT (T3.mk c.x c.y (0 : Rat)) (T3.mk d.x d.y (0 : Rat)) 0 1) 0 1))) (fun hg => ?_) (fun hg => ?_)
              ·
               refine gl_val (ov_move (v := .bool true) (congrArg some (vB_true hg))) rfl rfl rfl (gl_off rfl rfl rfl rfl rfl rfl (gl_off rfl rfl rfl rfl rfl rfl (gl_off rfl rfl rfl rfl rfl rfl (gv (ov_pick_t rfl rfl) rfl (gl_nil ?_)))))
               refine gq_cut mg13_8 (MLe.refl _) ⟨?_, trivial⟩ rfl rfl
               exact congrArg some (vB_or_t hg)
              ·
               refine gl_val (ov_move (v := .bool false) (congrArg some (vB_false hg))) rfl rfl rfl (gl_on rfl rfl rfl ?_)
               replace rb_59 := rb_59.mono ((((((hh7.trans hh8).trans hh9).trans hh10).trans hh11).trans hmmg13_3).trans hmmg13_8)
               refine gl_x (F := fun v_ => (rpT (rpQ (k + 1))).Is mg13_8 v_ (hiT (T3.mk a.x a.y (0 : Rat)) (T3.mk b.x b.y (0 : Rat)) 0 1)) (ox_load_box ty31 (Pc.here _) rfl rfl rb_59 rfl) (mem1 (.tail _ (.tail _ (.head _)))) rfl ?_
               intro v113 r113
               refine gl_on rfl rfl rfl ?_
               replace rb_67 := rb_67.mono ((((((hh7.trans hh8).trans hh9).trans hh10).trans hh11).trans hmmg13_3).trans hmmg13_8)
               refine gl_x (F := fun v_ => (rpT (rpQ (k + 1))).Is mg13_8 v_ (hiT (T3.mk c.x c.y (0 : Rat)) (T3.mk d.x d.y (0 : Rat)) 0 1)) (ox_load_box ty31 (Pc.here _) rfl rfl rb_67 rfl) (mem1 (.head _)) rfl ?_
               intro v114 r114
               refine gl_on rfl rfl rfl ?_
               refine gl_call (vs := [_, _]) rfl rfl rfl rfl Try.call49 ⟨rfl, rfl, trivial⟩ (fun w hs => o_r5_equal hs r113 r114 (by omega)) ?_
               intro v115 h12 hh12 r115
               obtain rfl : v115 = vB ((pr (hiT (T3.mk a.x a.y (0 : Rat)) (T3.mk b.x b.y (0 : Rat)) 0 1) 0 1) = (pr (hiT (T3.mk c.x c.y (0 : Rat)) (T3.mk d.x d.y (0 : Rat)) 0 1) 0 1)) := r115
               refine gv (ov_pick_f rfl rfl) rfl (gl_nil ?_)
               refine gq_cut h12 hh12 ⟨?_, trivial⟩ rfl rfl
               exact congrArg some (vB_or_f hg)
             ·
              intro mg13_13 hmmg13_13
              show GL _ _ _ _ _ _ _ [(116, vB (((((pr (loT (T3.mk a.x a.y (0 : Rat)) (T3.mk b.x b.y (0 : Rat)) 0 1) 0 1) = (pr (loT (T3.mk c.x c.y (0 : Rat)) (T3.mk d.x d.y (0 : Rat)) 0 1) 0 1)) ∨ ((pr (loT (T3.mk a.x a.y (0 : Rat)) (T3.mk b.x b.y (0 : Rat)) 0 1) 0 1) = (pr (hiT (T3.mk c.x c.y (0 : Rat)) (T3.mk d.x d.y (0 : Rat)) 0 1) 0 1))) ∨ ((pr (hiT (T3.mk a.x a.y (0 : Rat)) (T3.mk b.x b.y (0 : Rat)) 0 1) 0 1) = (pr (loT (T3.mk c.x c.y (0 : Rat)) (T3.mk d.x d.y (0 : Rat)) 0 1) 0 1))) ∨ ((pr (hiT (T3.mk a.x a.y (0 : Rat)) (T3.mk b.x b.y (0 : Rat)) 0 1) 0 1) = (pr (hiT (T3.mk c.x c.y (0 : Rat)) (T3.mk d.x d.y (0 : Rat)) 0 1) 0 1))))] [.var b7 31 cs_66, .var b6 31 cs_64, .var b5 31 cs_58, .var b4 31 cs_56] mg13_13
              refine asg rfl rfl (gl_nil (gq_then ?_))
              refine gc_cond rfl (fun hc98 => ?_) (fun hc98 => ?_)
              ·
               refine gc_seq (gc_region (asg (v := vI (1)) rfl rfl (gl_nil (gq_then (gc_ret (gr_in (gr_then (gq_body1 rfl rfl ?_))))))))
               refine congrArg vI ?_; rw [← touch_T rfl rfl rfl rfl]; unfold touchT; grind
              ·
               refine gc_skip (gq_in (gq_then (gc_seq (gc_region (asg (v := vI (2)) rfl rfl (gl_nil (gq_then (gc_ret (gq_body1 rfl rfl ?_)))))))))
               refine congrArg vI ?_; rw [← touch_T rfl rfl rfl rfl]; unfold touchT; grind

end Go.Proofs.Ytfpjclgbieppeaa

namespace Go.Proofs.Ytfpjclgbieppeaa
open Bk Go
set_option linter.unusedVariables false
set_option linter.unusedSimpArgs false
set_option maxRecDepth 10000

theorem o_r4_add {w0 : World} {h0 : Mem}  (hs : MLe h0 (mem w0)) {k l : Nat} {va : Value} {a : (T3 Rat)} (ra : (rpT (rpQ k)).Is h0 va a) {vb : Value} {b : (T3 Rat)} (rb : (rpT (rpQ l)).Is h0 vb b) (hcd0 : k + l ≤ 100000000)  :
    Calls Try.prog 12 #[va, vb] w0 (Ret w0 h0 (fun h r => (rpT (rpQ (k + 3 * l + 3))).Is h r (T3.mk (a.x + b.x) (a.y + b.y) (a.z + b.z)))) := by
 refine calls_begin (n := 20) (e := [(0, va), (1, vb)]) (vs := [va, vb]) Try.func12 rfl rfl (Nat.le_of_ble_eq_true rfl) hs ⟨rfl, rfl, trivial⟩ (gc_seq (gc_region (gl_newop (new_boxx (ρ := (rpT (rpQ k))) rfl ra) rfl rfl rfl ?_)))
 intro v2 q2 hq2
 obtain ⟨b2, cs2, rfl, rfl, rb2⟩ := hq2
 refine gl_newop (new_boxx (ρ := (rpT (rpQ l))) rfl rb) rfl rfl rfl ?_
 intro v3 q3 hq3
 obtain ⟨b3, cs3, rfl, rfl, rb3⟩ := hq3
 refine gl_newop (new_allocx (ρ := (rpT (rpQ (k + 3 * l + 3)))) (X := (T3.mk (0 : Rat) (0 : Rat) (0 : Rat))) info31 rfl rfl (zr_t (zr_q (by omega)))) rfl rfl rfl ?_
 intro v4 q4 hq4
 obtain ⟨b4, cs4, rfl, rfl, rb4⟩ := hq4
 refine gl_nil (gq_then (gc_seq (gc_seq (gc_region (asg (v := vI (0)) rfl rfl (gl_nil (gq_then (gc_block (gc_loop1 (gc_seq (gc_seq (gc_region (mv rfl rfl ?_)))))))))))))
 refine gv (OpV.tr (by decide) (ov_lss_i (q := 3) rfl rfl)) rfl (gl_nil (gq_then (gc_cond_t rfl (gc_skip (gq_then (gc_seq (gc_block ?_)))))))
 refine gc_draw 9 _ [] [(0, .q), (1, .q), (2, .q), (3, .q), (4, .q), (5, .q), (6, .q), (7, .c), (8, .q), (9, .t)] mixed (fun x hx => by cases hx) (by kernel_rfl) (fun x hx => by cases hx) (fun r hr => hr) (w_q rfl (fun h' L' hh hR => ov_move rfl) rfl (w_q rfl (fun h' L' hh hR => ov_move rfl) rfl (w_q rfl (fun h' L' hh hR => (ov_index_arr (sz := 3) 0 Try.underlying31 Try.sizeOf29 rfl rfl rfl (by decide)).cv (show _ = vP b2 0 from congrArg (vP b2) (by rfl))) rfl (w_qx (F := fun v_ => (rpQ k).Is h0 v_ a.x) rfl (ox_load_box ty29 (Pc.tx (Pc.here _)) rfl rfl rb2 rfl) (mem1 (.tail _ (.tail _ (.head _)))) rfl ?_))))
 intro v13u1 r13u1
 refine w_q rfl (fun h' L' hh hR => ov_move rfl) rfl (w_q rfl (fun h' L' hh hR => (ov_index_arr (sz := 3) 0 Try.underlying31 Try.sizeOf29 rfl rfl rfl (by decide)).cv (show _ = vP b3 0 from congrArg (vP b3) (by rfl))) rfl (w_qx (F := fun v_ => (rpQ l).Is h0 v_ b.x) rfl (ox_load_box ty29 (Pc.tx (Pc.here _)) rfl rfl rb3 rfl) (mem1 (.tail _ (.head _))) rfl ?_))
 intro v16u1 r16u1
 refine w_c rfl ?_
 refine s_call (vs := [_, _]) Try.call40 ⟨rfl, rfl, trivial⟩ (fun w hs => o_rref_add hs r13u1 r16u1 (by omega)) rfl ?_
 intro v17u1 h1 hh1 r17u1
 change (rpQ (k + l + 1)).Is h1 v17u1 (a.x + b.x) at r17u1
 refine w_q rfl (fun h' L' hh hR => (ov_index_arr (sz := 3) 0 Try.underlying31 Try.sizeOf29 rfl rfl rfl (by decide)).cv (show _ = vP b2 0 from congrArg (vP b2) (by rfl))) rfl ?_
 replace rb2 := rb2.mono hh1
 have rw_1 := (Le.t (Le.q (l := k + l + 1) (by omega))).R rb2
 refine w_tx_upd (A := [_, _]) (F := fun c_ => (rpT (rpQ (k + l + 1))).R h1 c_ (T3.mk (a.x + b.x) a.y a.z)) rfl (upd_box Try.sizeOf29 (Pc.tx (Pc.here _)) rfl rfl rfl rw_1 r17u1 rfl) ?_
 intro cs_2 rb_3
 refine w_nil (gq_in (gq_keep (e' := [(2, _), (3, _), (4, _), (5, _)]) ⟨rfl, rfl, rfl, rfl, trivial⟩ (gq_then (gc_region (mv rfl rfl (gv ((ov_add_i (q := 1) rfl rfl (by omega) (by omega)).cv (show _ = vI (1) from rfl)) rfl (asg rfl rfl (gl_nil (gq_loop1 (gc_seq (gc_seq (gc_region (mv rfl rfl ?_)))))))))))))
 refine gv (OpV.tr (by decide) (ov_lss_i (q := 3) rfl rfl)) rfl (gl_nil (gq_then (gc_cond_t rfl (gc_skip (gq_then (gc_seq (gc_block ?_)))))))
 refine gc_draw 9 _ [] [(0, .q), (1, .q), (2, .q), (3, .q), (4, .q), (5, .q), (6, .q), (7, .c), (8, .q), (9, .t)] mixed (fun x hx => by cases hx) (by kernel_rfl) (fun x hx => by cases hx) (fun r hr => hr) (w_q rfl (fun h' L' hh hR => ov_move rfl) rfl (w_q rfl (fun h' L' hh hR => ov_move rfl) rfl (w_q rfl (fun h' L' hh hR => (ov_index_arr (sz := 3) 1 Try.underlying31 Try.sizeOf29 rfl rfl rfl (by decide)).cv (show _ = vP b2 3 from congrArg (vP b2) (by rfl))) rfl (w_qx (F := fun v_ => (rpQ (k + l + 1)).Is h1 v_ a.y) rfl (ox_load_box ty29 (Pc.ty (Pc.here _)) rfl rfl rb_3 rfl) (mem1 (.tail _ (.tail _ (.head _)))) rfl ?_))))
 intro v13u2 r13u2
 refine w_q rfl (fun h' L' hh hR => ov_move rfl) rfl (w_q rfl (fun h' L' hh hR => (ov_index_arr (sz := 3) 1 Try.underlying31 Try.sizeOf29 rfl rfl rfl (by decide)).cv (show _ = vP b3 3 from congrArg (vP b3) (by rfl))) rfl ?_)
 replace rb3 := rb3.mono hh1
 refine w_qx (F := fun v_ => (rpQ l).Is h1 v_ b.y) rfl (ox_load_box ty29 (Pc.ty (Pc.here _)) rfl rfl rb3 rfl) (mem1 (.tail _ (.head _))) rfl ?_
 intro v16u2 r16u2
 refine w_c rfl ?_
 refine s_call (vs := [_, _]) Try.call40 ⟨rfl, rfl, trivial⟩ (fun w hs => o_rref_add hs r13u2 r16u2 (by omega)) rfl ?_
 intro v17u2 h2 hh2 r17u2
 change (rpQ ((k + l + 1) + l + 1)).Is h2 v17u2 (a.y + b.y) at r17u2
 replace r17u2 := Rp.Is.le r17u2 (Le.q (l := k + 2 * l + 2) (by omega))
 refine w_q rfl (fun h' L' hh hR => (ov_index_arr (sz := 3) 1 Try.underlying31 Try.sizeOf29 rfl rfl rfl (by decide)).cv (show _ = vP b2 3 from congrArg (vP b2) (by rfl))) rfl ?_
 replace rb_3 := rb_3.mono hh2
 have rw_4 := (Le.t (Le.q (l := k + 2 * l + 2) (by omega))).R rb_3
 refine w_tx_upd (A := [_, _]) (F := fun c_ => (rpT (rpQ (k + 2 * l + 2))).R h2 c_ (T3.mk (a.x + b.x) (a.y + b.y) a.z)) rfl (upd_box Try.sizeOf29 (Pc.ty (Pc.here _)) rfl rfl rfl rw_4 r17u2 rfl) ?_
 intro cs_5 rb_6
 refine w_nil (gq_in (gq_keep (e' := [(2, _), (3, _), (4, _), (5, _)]) ⟨rfl, rfl, rfl, rfl, trivial⟩ (gq_then (gc_region (mv rfl rfl (gv ((ov_add_i (q := 1) rfl rfl (by omega) (by omega)).cv (show _ = vI (2) from rfl)) rfl (asg rfl rfl (gl_nil (gq_loop1 (gc_seq (gc_seq (gc_region (mv rfl rfl ?_)))))))))))))
 refine gv (OpV.tr (by decide) (ov_lss_i (q := 3) rfl rfl)) rfl (gl_nil (gq_then (gc_cond_t rfl (gc_skip (gq_then (gc_seq (gc_block ?_)))))))
 refine gc_draw 9 _ [] [(0, .q), (1, .q), (2, .q), (3, .q), (4, .q), (5, .q), (6, .q), (7, .c), (8, .q), (9, .t)] mixed (fun x hx => by cases hx) (by kernel_rfl) (fun x hx => by cases hx) (fun r hr => hr) (w_q rfl (fun h' L' hh hR => ov_move rfl) rfl (w_q rfl (fun h' L' hh hR => ov_move rfl) rfl (w_q rfl (fun h' L' hh hR => (ov_index_arr (sz := 3) 2 Try.underlying31 Try.sizeOf29 rfl rfl rfl (by decide)).cv (show _ = vP b2 6 from congrArg (vP b2) (by rfl))) rfl (w_qx (F := fun v_ => (rpQ (k + 2 * l + 2)).Is h2 v_ a.z) rfl (ox_load_box ty29 (Pc.tz (Pc.here _)) rfl rfl rb_6 rfl) (mem1 (.tail _ (.tail _ (.head _)))) rfl ?_))))
 intro v13u3 r13u3
 refine w_q rfl (fun h' L' hh hR => ov_move rfl) rfl (w_q rfl (fun h' L' hh hR => (ov_index_arr (sz := 3) 2 Try.underlying31 Try.sizeOf29 rfl rfl rfl (by decide)).cv (show _ = vP b3 6 from congrArg (vP b3) (by rfl))) rfl ?_)
 replace rb3 := rb3.mono hh2
 refine w_qx (F := fun v_ => (rpQ l).Is h2 v_ b.z) rfl (ox_load_box ty29 (Pc.tz (Pc.here _)) rfl rfl rb3 rfl) (mem1 (.tail _ (.head _))) rfl ?_
 intro v16u3 r16u3
 refine w_c rfl ?_
 refine s_call (vs := [_, _]) Try.call40 ⟨rfl, rfl, trivial⟩ (fun w hs => o_rref_add hs r13u3 r16u3 (by omega)) rfl ?_
 intro v17u3 h3 hh3 r17u3
 change (rpQ ((k + 2 * l + 2) + l + 1)).Is h3 v17u3 (a.z + b.z) at r17u3
 replace r17u3 := Rp.Is.le r17u3 (Le.q (l := k + 3 * l + 3) (by omega))
 refine w_q rfl (fun h' L' hh hR => (ov_index_arr (sz := 3) 2 Try.underlying31 Try.sizeOf29 rfl rfl rfl (by decide)).cv (show _ = vP b2 6 from congrArg (vP b2) (by rfl))) rfl ?_
 replace rb_6 := rb_6.mono hh3
 have rw_7 := (Le.t (Le.q (l := k + 3 * l + 3) (by omega))).R rb_6
 refine w_tx_upd (A := [_, _]) (F := fun c_ => (rpT (rpQ (k + 3 * l + 3))).R h3 c_ (T3.mk (a.x + b.x) (a.y + b.y) (a.z + b.z))) rfl (upd_box Try.sizeOf29 (Pc.tz (Pc.here _)) rfl rfl rfl rw_7 r17u3 rfl) ?_
 intro cs_8 rb_9
 refine w_nil (gq_in (gq_keep (e' := [(2, _), (3, _), (4, _), (5, _)]) ⟨rfl, rfl, rfl, rfl, trivial⟩ (gq_then (gc_region (mv rfl rfl (gv ((ov_add_i (q := 1) rfl rfl (by omega) (by omega)).cv (show _ = vI (3) from rfl)) rfl (asg rfl rfl (gl_nil (gq_loop1 (gc_seq (gc_seq (gc_region (mv rfl rfl ?_)))))))))))))
 refine gv (OpV.fa (by decide) (ov_lss_i (q := 3) rfl rfl)) rfl (gl_nil (gq_then (gc_cond_f rfl (gc_exit (gx_then (gx_then (gx_here (gq_then (gc_seq (gc_region (gl_x (F := fun v_ => (rpT (rpQ (k + 3 * l + 3))).Is h3 v_ (T3.mk (a.x + b.x) (a.y + b.y) (a.z + b.z))) (ox_load_box ty31 (Pc.here _) rfl rfl rb_9 rfl) (mem1 (.tail _ (.tail _ (.head _)))) rfl ?_)))))))))))
 intro v19u4 r19u4
 replace rb4 := rb4.mono ((hh1.trans hh2).trans hh3)
 refine gl_updx (A := []) (F := fun c_ => (rpT (rpQ (k + 3 * l + 3))).R h3 c_ (T3.mk (a.x + b.x) (a.y + b.y) (a.z + b.z))) (upd_box Try.sizeOf31 (Pc.here _) rfl rfl rfl rb4 r19u4 rfl) ?_
 intro cs_10 rb_11
 refine gl_nil (gq_then (gc_ret (gq_exv (rv_o (t := 4) ty31 (.head _) rfl rb_11) ?_)))
 intro w_12 hvw_12 rr_13
 refine gq_res (fun E S => run_res1 rfl hvw_12 E S) ?_
 exact rr_13

theorem o_r4_sub {w0 : World} {h0 : Mem}  (hs : MLe h0 (mem w0)) {k l : Nat} {va : Value} {a : (T3 Rat)} (ra : (rpT (rpQ k)).Is h0 va a) {vb : Value} {b : (T3 Rat)} (rb : (rpT (rpQ l)).Is h0 vb b) (hcd0 : k + l ≤ 100000000)  :
    Calls Try.prog 15 #[va, vb] w0 (Ret w0 h0 (fun h r => (rpT (rpQ (k + 3 * l + 3))).Is h r (T3.mk (a.x - b.x) (a.y - b.y) (a.z - b.z)))) := by
 refine calls_begin (n := 20) (e := [(0, va), (1, vb)]) (vs := [va, vb]) Try.func15 rfl rfl (Nat.le_of_ble_eq_true rfl) hs ⟨rfl, rfl, trivial⟩ (gc_seq (gc_region (gl_newop (new_boxx (ρ := (rpT (rpQ k))) rfl ra) rfl rfl rfl ?_)))
 intro v2 q2 hq2
 obtain ⟨b2, cs2, rfl, rfl, rb2⟩ := hq2
 refine gl_newop (new_boxx (ρ := (rpT (rpQ l))) rfl rb) rfl rfl rfl ?_
 intro v3 q3 hq3
 obtain ⟨b3, cs3, rfl, rfl, rb3⟩ := hq3
 refine gl_newop (new_allocx (ρ := (rpT (rpQ (k + 3 * l + 3)))) (X := (T3.mk (0 : Rat) (0 : Rat) (0 : Rat))) info31 rfl rfl (zr_t (zr_q (by omega)))) rfl rfl rfl ?_
 intro v4 q4 hq4
 obtain ⟨b4, cs4, rfl, rfl, rb4⟩ := hq4
 refine gl_nil (gq_then (gc_seq (gc_seq (gc_region (asg (v := vI (0)) rfl rfl (gl_nil (gq_then (gc_block (gc_loop1 (gc_seq (gc_seq (gc_region (mv rfl rfl ?_)))))))))))))
 refine gv (OpV.tr (by decide) (ov_lss_i (q := 3) rfl rfl)) rfl (gl_nil (gq_then (gc_cond_t rfl (gc_skip (gq_then (gc_seq (gc_block ?_)))))))
 refine gc_draw 9 _ [] [(0, .q), (1, .q), (2, .q), (3, .q), (4, .q), (5, .q), (6, .q), (7, .c), (8, .q), (9, .t)] mixed (fun x hx => by cases hx) (by kernel_rfl) (fun x hx => by cases hx) (fun r hr => hr) (w_q rfl (fun h' L' hh hR => ov_move rfl) rfl (w_q rfl (fun h' L' hh hR => ov_move rfl) rfl (w_q rfl (fun h' L' hh hR => (ov_index_arr (sz := 3) 0 Try.underlying31 Try.sizeOf29 rfl rfl rfl (by decide)).cv (show _ = vP b2 0 from congrArg (vP b2) (by rfl))) rfl (w_qx (F := fun v_ => (rpQ k).Is h0 v_ a.x) rfl (ox_load_box ty29 (Pc.tx (Pc.here _)) rfl rfl rb2 rfl) (mem1 (.tail _ (.tail _ (.head _)))) rfl ?_))))
 intro v13u5 r13u5
 refine w_q rfl (fun h' L' hh hR => ov_move rfl) rfl (w_q rfl (fun h' L' hh hR => (ov_index_arr (sz := 3) 0 Try.underlying31 Try.sizeOf29 rfl rfl rfl (by decide)).cv (show _ = vP b3 0 from congrArg (vP b3) (by rfl))) rfl (w_qx (F := fun v_ => (rpQ l).Is h0 v_ b.x) rfl (ox_load_box ty29 (Pc.tx (Pc.here _)) rfl rfl rb3 rfl) (mem1 (.tail _ (.head _))) rfl ?_))
 intro v16u5 r16u5
 refine w_c rfl ?_
 refine s_call (vs := [_, _]) Try.call43 ⟨rfl, rfl, trivial⟩ (fun w hs => o_rref_sub hs r13u5 r16u5 (by omega)) rfl ?_
 intro v17u5 h1 hh1 r17u5
 change (rpQ (k + l + 1)).Is h1 v17u5 (a.x - b.x) at r17u5
 refine w_q rfl (fun h' L' hh hR => (ov_index_arr (sz := 3) 0 Try.underlying31 Try.sizeOf29 rfl rfl rfl (by decide)).cv (show _ = vP b2 0 from congrArg (vP b2) (by rfl))) rfl ?_
 replace rb2 := rb2.mono hh1
 have rw_14 := (Le.t (Le.q (l := k + l + 1) (by omega))).R rb2
 refine w_tx_upd (A := [_, _]) (F := fun c_ => (rpT (rpQ (k + l + 1))).R h1 c_ (T3.mk (a.x - b.x) a.y a.z)) rfl (upd_box Try.sizeOf29 (Pc.tx (Pc.here _)) rfl rfl rfl rw_14 r17u5 rfl) ?_
 intro cs_15 rb_16
 refine w_nil (gq_in (gq_keep (e' := [(2, _), (3, _), (4, _), (5, _)]) ⟨rfl, rfl, rfl, rfl, trivial⟩ (gq_then (gc_region (mv rfl rfl (gv ((ov_add_i (q := 1) rfl rfl (by omega) (by omega)).cv (show _ = vI (1) from rfl)) rfl (asg rfl rfl (gl_nil (gq_loop1 (gc_seq (gc_seq (gc_region (mv rfl rfl ?_)))))))))))))
 refine gv (OpV.tr (by decide) (ov_lss_i (q := 3) rfl rfl)) rfl (gl_nil (gq_then (gc_cond_t rfl (gc_skip (gq_then (gc_seq (gc_block ?_)))))))
 refine gc_draw 9 _ [] [(0, .q), (1, .q), (2, .q), (3, .q), (4, .q), (5, .q), (6, .q), (7, .c), (8, .q), (9, .t)] mixed (fun x hx => by cases hx) (by kernel_rfl) (fun x hx => by cases hx) (fun r hr => hr) (w_q rfl (fun h' L' hh hR => ov_move rfl) rfl (w_q rfl (fun h' L' hh hR => ov_move rfl) rfl (w_q rfl (fun h' L' hh hR => (ov_index_arr (sz := 3) 1 Try.underlying31 Try.sizeOf29 rfl rfl rfl (by decide)).cv (show _ = vP b2 3 from congrArg (vP b2) (by rfl))) rfl (w_qx (F := fun v_ => (rpQ (k + l + 1)).Is h1 v_ a.y) rfl (ox_load_box ty29 (Pc.ty (Pc.here _)) rfl rfl rb_16 rfl) (mem1 (.tail _ (.tail _ (.head _)))) rfl ?_))))
 intro v13u6 r13u6
 refine w_q rfl (fun h' L' hh hR => ov_move rfl) rfl (w_q rfl (fun h' L' hh hR => (ov_index_arr (sz := 3) 1 Try.underlying31 Try.sizeOf29 rfl rfl rfl (by decide)).cv (show _ = vP b3 3 from congrArg (vP b3) (by rfl))) rfl ?_)
 replace rb3 := rb3.mono hh1
 refine w_qx (F := fun v_ => (rpQ l).Is h1 v_ b.y) rfl (ox_load_box ty29 (Pc.ty (Pc.here _)) rfl rfl rb3 rfl) (mem1 (.tail _ (.head _))) rfl ?_
 intro v16u6 r16u6
 refine w_c rfl ?_
 refine s_call (vs := [_, _]) Try.call43 ⟨rfl, rfl, trivial⟩ (fun w hs => o_rref_sub hs r13u6 r16u6 (by omega)) rfl ?_
 intro v17u6 h2 hh2 r17u6
 change (rpQ ((k + l + 1) + l + 1)).Is h2 v17u6 (a.y - b.y) at r17u6
 replace r17u6 := Rp.Is.le r17u6 (Le.q (l := k + 2 * l + 2) (by omega))
 refine w_q rfl (fun h' L' hh hR => (ov_index_arr (sz := 3) 1 Try.underlying31 Try.sizeOf29 rfl rfl rfl (by decide)).cv (show _ = vP b2 3 from congrArg (vP b2) (by rfl))) rfl ?_
 replace rb_16 := rb_16.mono hh2
 have rw_17 := (Le.t (Le.q (l := k + 2 * l + 2) (by omega))).R rb_16
 refine w_tx_upd (A := [_, _]) (F := fun c_ => (rpT (rpQ (k + 2 * l + 2))).R h2 c_ (T3.mk (a.x - b.x) (a.y - b.y) a.z)) rfl (upd_box Try.sizeOf29 (Pc.ty (Pc.here _)) rfl rfl rfl rw_17 r17u6 rfl) ?_
 intro cs_18 rb_19
 refine w_nil (gq_in (gq_keep (e' := [(2, _), (3, _), (4, _), (5, _)]) ⟨rfl, rfl, rfl, rfl, trivial⟩ (gq_then (gc_region (mv rfl rfl (gv ((ov_add_i (q := 1) rfl rfl (by omega) (by omega)).cv (show _ = vI (2) from rfl)) rfl (asg rfl rfl (gl_nil (gq_loop1 (gc_seq (gc_seq (gc_region (mv rfl rfl ?_)))))))))))))
 refine gv (OpV.tr (by decide) (ov_lss_i (q := 3) rfl rfl)) rfl (gl_nil (gq_then (gc_cond_t rfl (gc_skip (gq_then (gc_seq (gc_block ?_)))))))
 refine gc_draw 9 _ [] [(0, .q), (1, .q), (2, .q), (3, .q), (4, .q), (5, .q), (6, .q), (7, .c), (8, .q), (9, .t)] mixed (fun x hx => by cases hx) (by kernel_rfl) (fun x hx => by cases hx) (fun r hr => hr) (w_q rfl (fun h' L' hh hR => ov_move rfl) rfl (w_q rfl (fun h' L' hh hR => ov_move rfl) rfl (w_q rfl (fun h' L' hh hR => (ov_index_arr (sz := 3) 2 Try.underlying31 Try.sizeOf29 rfl rfl rfl (by decide)).cv (show _ = vP b2 6 from congrArg (vP b2) (by rfl))) rfl (w_qx (F := fun v_ => (rpQ (k + 2 * l + 2)).Is h2 v_ a.z) rfl (ox_load_box ty29 (Pc.tz (Pc.here _)) rfl rfl rb_19 rfl) (mem1 (.tail _ (.tail _ (.head _)))) rfl ?_))))
 intro v13u7 r13u7
 refine w_q rfl (fun h' L' hh hR => ov_move rfl) rfl (w_q rfl (fun h' L' hh hR => (ov_index_arr (sz := 3) 2 Try.underlying31 Try.sizeOf29 rfl rfl rfl (by decide)).cv (show _ = vP b3 6 from congrArg (vP b3) (by rfl))) rfl ?_)
 replace rb3 := rb3.mono hh2
 refine w_qx (F := fun v_ => (rpQ l).Is h2 v_ b.z) rfl (ox_load_box ty29 (Pc.tz (Pc.here _)) rfl rfl rb3 rfl) (mem1 (.tail _ (.head _))) rfl ?_
 intro v16u7 r16u7
 refine w_c rfl ?_
 refine s_call (vs := [_, _]) Try.call43 ⟨rfl, rfl, trivial⟩ (fun w hs => o_rref_sub hs r13u7 r16u7 (by omega)) rfl ?_
 intro v17u7 h3 hh3 r17u7
 change (rpQ ((k + 2 * l + 2) + l + 1)).Is h3 v17u7 (a.z - b.z) at r17u7
 replace r17u7 := Rp.Is.le r17u7 (Le.q (l := k + 3 * l + 3) (by omega))
 refine w_q rfl (fun h' L' hh hR => (ov_index_arr (sz := 3) 2 Try.underlying31 Try.sizeOf29 rfl rfl rfl (by decide)).cv (show _ = vP b2 6 from congrArg (vP b2) (by rfl))) rfl ?_
 replace rb_19 := rb_19.mono hh3
 have rw_20 := (Le.t (Le.q (l := k + 3 * l + 3) (by omega))).R rb_19
 refine w_tx_upd (A := [_, _]) (F := fun c_ => (rpT (rpQ (k + 3 * l + 3))).R h3 c_ (T3.mk (a.x - b.x) (a.y - b.y) (a.z - b.z))) rfl (upd_box Try.sizeOf29 (Pc.tz (Pc.here _)) rfl rfl rfl rw_20 r17u7 rfl) ?_
 intro cs_21 rb_22
 refine w_nil (gq_in (gq_keep (e' := [(2, _), (3, _), (4, _), (5, _)]) ⟨rfl, rfl, rfl, rfl, trivial⟩ (gq_then (gc_region (mv rfl rfl (gv ((ov_add_i (q := 1) rfl rfl (by omega) (by omega)).cv (show _ = vI (3) from rfl)) rfl (asg rfl rfl (gl_nil (gq_loop1 (gc_seq (gc_seq (gc_region (mv rfl rfl ?_)))))))))))))
 refine gv (OpV.fa (by decide) (ov_lss_i (q := 3) rfl rfl)) rfl (gl_nil (gq_then (gc_cond_f rfl (gc_exit (gx_then (gx_then (gx_here (gq_then (gc_seq (gc_region (gl_x (F := fun v_ => (rpT (rpQ (k + 3 * l + 3))).Is h3 v_ (T3.mk (a.x - b.x) (a.y - b.y) (a.z - b.z))) (ox_load_box ty31 (Pc.here _) rfl rfl rb_22 rfl) (mem1 (.tail _ (.tail _ (.head _)))) rfl ?_)))))))))))
 intro v19u8 r19u8
 replace rb4 := rb4.mono ((hh1.trans hh2).trans hh3)
 refine gl_updx (A := []) (F := fun c_ => (rpT (rpQ (k + 3 * l + 3))).R h3 c_ (T3.mk (a.x - b.x) (a.y - b.y) (a.z - b.z))) (upd_box Try.sizeOf31 (Pc.here _) rfl rfl rfl rb4 r19u8 rfl) ?_
 intro cs_23 rb_24
 refine gl_nil (gq_then (gc_ret (gq_exv (rv_o (t := 4) ty31 (.head _) rfl rb_24) ?_)))
 intro w_25 hvw_25 rr_26
 refine gq_res (fun E S => run_res1 rfl hvw_25 E S) ?_
 exact rr_26

theorem o_r4_scale {w0 : World} {h0 : Mem}  (hs : MLe h0 (mem w0)) {l k : Nat} {vq : Value} {q : Rat} (rq : (rpQ l).Is h0 vq q) {va : Value} {a : (T3 Rat)} (ra : (rpT (rpQ k)).Is h0 va a) (hcd0 : k + l ≤ 100000000)  :
    Calls Try.prog 13 #[vq, va] w0 (Ret w0 h0 (fun h r => (rpT (rpQ (k + 3 * l + 1))).Is h r (T3.mk (q * a.x) (q * a.y) (q * a.z)))) := by
 refine calls_begin (n := 18) (e := [(0, vq), (1, va)]) (vs := [vq, va]) Try.func13 rfl rfl (Nat.le_of_ble_eq_true rfl) hs ⟨rfl, rfl, trivial⟩ (gc_seq (gc_region (gl_newop (new_boxx (ρ := (rpQ l)) rfl rq) rfl rfl rfl ?_)))
 intro v2 q2 hq2
 obtain ⟨b2, cs2, rfl, rfl, rb2⟩ := hq2
 refine gl_newop (new_boxx (ρ := (rpT (rpQ k))) rfl ra) rfl rfl rfl ?_
 intro v3 q3 hq3
 obtain ⟨b3, cs3, rfl, rfl, rb3⟩ := hq3
 refine gl_newop (new_allocx (ρ := (rpT (rpQ (k + 3 * l + 1)))) (X := (T3.mk (0 : Rat) (0 : Rat) (0 : Rat))) info31 rfl rfl (zr_t (zr_q (by omega)))) rfl rfl rfl ?_
 intro v4 q4 hq4
 obtain ⟨b4, cs4, rfl, rfl, rb4⟩ := hq4
 refine gl_nil (gq_then (gc_seq (gc_seq (gc_region (asg (v := vI (0)) rfl rfl (gl_nil (gq_then (gc_block (gc_loop1 (gc_seq (gc_seq (gc_region (mv rfl rfl ?_)))))))))))))
 refine gv (OpV.tr (by decide) (ov_lss_i (q := 3) rfl rfl)) rfl (gl_nil (gq_then (gc_cond_t rfl (gc_skip (gq_then (gc_seq (gc_block ?_)))))))
 refine gc_draw 7 _ [] [(0, .q), (1, .q), (2, .q), (3, .q), (4, .q), (5, .c), (6, .q), (7, .t)] mixed (fun x hx => by cases hx) (by kernel_rfl) (fun x hx => by cases hx) (fun r hr => hr) (w_q rfl (fun h' L' hh hR => ov_move rfl) rfl (w_qx (F := fun v_ => (rpQ l).Is h0 v_ q) rfl (ox_load_box ty29 (Pc.here _) rfl rfl rb2 rfl) (mem1 (.tail _ (.tail _ (.head _)))) rfl ?_))
 intro v11u9 r11u9
 refine w_q rfl (fun h' L' hh hR => ov_move rfl) rfl (w_q rfl (fun h' L' hh hR => (ov_index_arr (sz := 3) 0 Try.underlying31 Try.sizeOf29 rfl rfl rfl (by decide)).cv (show _ = vP b3 0 from congrArg (vP b3) (by rfl))) rfl (w_qx (F := fun v_ => (rpQ k).Is h0 v_ a.x) rfl (ox_load_box ty29 (Pc.tx (Pc.here _)) rfl rfl rb3 rfl) (mem1 (.tail _ (.head _))) rfl ?_))
 intro v14u9 r14u9
 refine w_c rfl ?_
 refine s_call (vs := [_, _]) Try.call41 ⟨rfl, rfl, trivial⟩ (fun w hs => o_rref_mul hs r11u9 r14u9 (by omega)) rfl ?_
 intro v15u9 h1 hh1 r15u9
 change (rpQ (l + k)).Is h1 v15u9 (q * a.x) at r15u9
 replace r15u9 := Rp.Is.le r15u9 (Le.q (l := k + l) (by omega))
 refine w_q rfl (fun h' L' hh hR => (ov_index_arr (sz := 3) 0 Try.underlying31 Try.sizeOf29 rfl rfl rfl (by decide)).cv (show _ = vP b3 0 from congrArg (vP b3) (by rfl))) rfl ?_
 replace rb3 := rb3.mono hh1
 have rw_27 := (Le.t (Le.q (l := k + l) (by omega))).R rb3
 refine w_tx_upd (A := [_]) (F := fun c_ => (rpT (rpQ (k + l))).R h1 c_ (T3.mk (q * a.x) a.y a.z)) rfl (upd_box Try.sizeOf29 (Pc.tx (Pc.here _)) rfl rfl rfl rw_27 r15u9 rfl) ?_
 intro cs_28 rb_29
 refine w_nil (gq_in (gq_keep (e' := [(2, _), (3, _), (4, _), (5, _)]) ⟨rfl, rfl, rfl, rfl, trivial⟩ (gq_then (gc_region (mv rfl rfl (gv ((ov_add_i (q := 1) rfl rfl (by omega) (by omega)).cv (show _ = vI (1) from rfl)) rfl (asg rfl rfl (gl_nil (gq_loop1 (gc_seq (gc_seq (gc_region (mv rfl rfl ?_)))))))))))))
 refine gv (OpV.tr (by decide) (ov_lss_i (q := 3) rfl rfl)) rfl (gl_nil (gq_then (gc_cond_t rfl (gc_skip (gq_then (gc_seq (gc_block ?_)))))))
 refine gc_draw 7 _ [] [(0, .q), (1, .q), (2, .q), (3, .q), (4, .q), (5, .c), (6, .q), (7, .t)] mixed (fun x hx => by cases hx) (by kernel_rfl) (fun x hx => by cases hx) (fun r hr => hr) (w_q rfl (fun h' L' hh hR => ov_move rfl) rfl ?_)
 replace rb2 := rb2.mono hh1
 refine w_qx (F := fun v_ => (rpQ l).Is h1 v_ q) rfl (ox_load_box ty29 (Pc.here _) rfl rfl rb2 rfl) (mem1 (.tail _ (.tail _ (.head _)))) rfl ?_
 intro v11u10 r11u10
 refine w_q rfl (fun h' L' hh hR => ov_move rfl) rfl (w_q rfl (fun h' L' hh hR => (ov_index_arr (sz := 3) 1 Try.underlying31 Try.sizeOf29 rfl rfl rfl (by decide)).cv (show _ = vP b3 3 from congrArg (vP b3) (by rfl))) rfl (w_qx (F := fun v_ => (rpQ (k + l)).Is h1 v_ a.y) rfl (ox_load_box ty29 (Pc.ty (Pc.here _)) rfl rfl rb_29 rfl) (mem1 (.tail _ (.head _))) rfl ?_))
 intro v14u10 r14u10
 refine w_c rfl ?_
 refine s_call (vs := [_, _]) Try.call41 ⟨rfl, rfl, trivial⟩ (fun w hs => o_rref_mul hs r11u10 r14u10 (by omega)) rfl ?_
 intro v15u10 h2 hh2 r15u10
 change (rpQ (l + (k + l))).Is h2 v15u10 (q * a.y) at r15u10
 replace r15u10 := Rp.Is.le r15u10 (Le.q (l := k + 2 * l) (by omega))
 refine w_q rfl (fun h' L' hh hR => (ov_index_arr (sz := 3) 1 Try.underlying31 Try.sizeOf29 rfl rfl rfl (by decide)).cv (show _ = vP b3 3 from congrArg (vP b3) (by rfl))) rfl ?_
 replace rb_29 := rb_29.mono hh2
 have rw_30 := (Le.t (Le.q (l := k + 2 * l) (by omega))).R rb_29
 refine w_tx_upd (A := [_]) (F := fun c_ => (rpT (rpQ (k + 2 * l))).R h2 c_ (T3.mk (q * a.x) (q * a.y) a.z)) rfl (upd_box Try.sizeOf29 (Pc.ty (Pc.here _)) rfl rfl rfl rw_30 r15u10 rfl) ?_
 intro cs_31 rb_32
 refine w_nil (gq_in (gq_keep (e' := [(2, _), (3, _), (4, _), (5, _)]) ⟨rfl, rfl, rfl, rfl, trivial⟩ (gq_then (gc_region (mv rfl rfl (gv ((ov_add_i (q := 1) rfl rfl (by omega) (by omega)).cv (show _ = vI (2) from rfl)) rfl (asg rfl rfl (gl_nil (gq_loop1 (gc_seq (gc_seq (gc_region (mv rfl rfl ?_)))))))))))))
 refine gv (OpV.tr (by decide) (ov_lss_i (q := 3) rfl rfl)) rfl (gl_nil (gq_then (gc_cond_t rfl (gc_skip (gq_then (gc_seq (gc_block ?_)))))))
 refine gc_draw 7 _ [] [(0, .q), (1, .q), (2, .q), (3, .q), (4, .q), (5, .c), (6, .q), (7, .t)] mixed (fun x hx => by cases hx) (by kernel_rfl) (fun x hx => by cases hx) (fun r hr => hr) (w_q rfl (fun h' L' hh hR => ov_move rfl) rfl ?_)
 replace rb2 := rb2.mono hh2
 refine w_qx (F := fun v_ => (rpQ l).Is h2 v_ q) rfl (ox_load_box ty29 (Pc.here _) rfl rfl rb2 rfl) (mem1 (.tail _ (.tail _ (.head _)))) rfl ?_
 intro v11u11 r11u11
 refine w_q rfl (fun h' L' hh hR => ov_move rfl) rfl (w_q rfl (fun h' L' hh hR => (ov_index_arr (sz := 3) 2 Try.underlying31 Try.sizeOf29 rfl rfl rfl (by decide)).cv (show _ = vP b3 6 from congrArg (vP b3) (by rfl))) rfl (w_qx (F := fun v_ => (rpQ (k + 2 * l)).Is h2 v_ a.z) rfl (ox_load_box ty29 (Pc.tz (Pc.here _)) rfl rfl rb_32 rfl) (mem1 (.tail _ (.head _))) rfl ?_))
 intro v14u11 r14u11
 refine w_c rfl ?_
 refine s_call (vs := [_, _]) Try.call41 ⟨rfl, rfl, trivial⟩ (fun w hs => o_rref_mul hs r11u11 r14u11 (by omega)) rfl ?_
 intro v15u11 h3 hh3 r15u11
 change (rpQ (l + (k + 2 * l))).Is h3 v15u11 (q * a.z) at r15u11
 replace r15u11 := Rp.Is.le r15u11 (Le.q (l := k + 3 * l) (by omega))
 refine w_q rfl (fun h' L' hh hR => (ov_index_arr (sz := 3) 2 Try.underlying31 Try.sizeOf29 rfl rfl rfl (by decide)).cv (show _ = vP b3 6 from congrArg (vP b3) (by rfl))) rfl ?_
 replace rb_32 := rb_32.mono hh3
 have rw_33 := (Le.t (Le.q (l := k + 3 * l) (by omega))).R rb_32
 refine w_tx_upd (A := [_]) (F := fun c_ => (rpT (rpQ (k + 3 * l))).R h3 c_ (T3.mk (q * a.x) (q * a.y) (q * a.z))) rfl (upd_box Try.sizeOf29 (Pc.tz (Pc.here _)) rfl rfl rfl rw_33 r15u11 rfl) ?_
 intro cs_34 rb_35
 refine w_nil (gq_in (gq_keep (e' := [(2, _), (3, _), (4, _), (5, _)]) ⟨rfl, rfl, rfl, rfl, trivial⟩ (gq_then (gc_region (mv rfl rfl (gv ((ov_add_i (q := 1) rfl rfl (by omega) (by omega)).cv (show _ = vI (3) from rfl)) rfl (asg rfl rfl (gl_nil (gq_loop1 (gc_seq (gc_seq (gc_region (mv rfl rfl ?_)))))))))))))
 refine gv (OpV.fa (by decide) (ov_lss_i (q := 3) rfl rfl)) rfl (gl_nil (gq_then (gc_cond_f rfl (gc_exit (gx_then (gx_then (gx_here (gq_then (gc_seq (gc_region (gl_x (F := fun v_ => (rpT (rpQ (k + 3 * l))).Is h3 v_ (T3.mk (q * a.x) (q * a.y) (q * a.z))) (ox_load_box ty31 (Pc.here _) rfl rfl rb_35 rfl) (mem1 (.tail _ (.head _))) rfl ?_)))))))))))
 intro v17u12 r17u12
 replace rb4 := rb4.mono ((hh1.trans hh2).trans hh3)
 refine gl_updx (A := []) (F := fun c_ => (rpT (rpQ (k + 3 * l + 1))).R h3 c_ (T3.mk (q * a.x) (q * a.y) (q * a.z))) (upd_box Try.sizeOf31 (Pc.here _) rfl rfl rfl rb4 (r17u12.le (Le.t (Le.q (l := k + 3 * l + 1) (by omega)))) rfl) ?_
 intro cs_36 rb_37
 refine gl_nil (gq_then (gc_ret (gq_exv (rv_o (t := 4) ty31 (.head _) rfl rb_37) ?_)))
 intro w_38 hvw_38 rr_39
 refine gq_res (fun E S => run_res1 rfl hvw_38 E S) ?_
 exact rr_39

theorem o_made_at3 {w0 : World} {h0 : Mem}  (hs : MLe h0 (mem w0)) {x : Int} (hx1 : -9223372036854775808 ≤ x) (hx2 : x < 9223372036854775808) {y : Int} (hy1 : -9223372036854775808 ≤ y) (hy2 : y < 9223372036854775808) {z : Int} (hz1 : -9223372036854775808 ≤ z) (hz2 : z < 9223372036854775808)  :
    Calls Try.prog 36 #[vI x, vI y, vI z] w0 (Ret w0 h0 (fun h r => (rpT (rpQ 2)).Is h r (T3.mk ((x : Int) : Rat) ((y : Int) : Rat) ((z : Int) : Rat)))) := by
 refine calls_begin (n := 14) (e := [(0, vI x), (1, vI y), (2, vI z)]) (vs := [vI x, vI y, vI z]) Try.func36 rfl rfl (Nat.le_of_ble_eq_true rfl) hs ⟨rfl, rfl, rfl, trivial⟩ (gc_seq (gc_region (gl_newop (new_allocx (ρ := (rpT (rpQ 1))) (X := (T3.mk (0 : Rat) (0 : Rat) (0 : Rat))) info31 rfl rfl (zr_t (zr_q (by decide)))) rfl rfl rfl ?_)))
 intro v6 q6 hq6
 obtain ⟨b6, cs6, rfl, rfl, rb6⟩ := hq6
 refine gl_nil (gq_then (gc_seq (gc_region (mv rfl rfl ?_))))
 refine gl_call (vs := [_]) rfl rfl rfl rfl Try.call37 ⟨rfl, trivial⟩ (fun w hs => o_rref_int hs (by omega) (by omega)) ?_
 intro v8 h1 hh1 r8
 change (rpQ 2).Is h1 v8 (x : Rat) at r8
 refine mv rfl rfl ?_
 refine gl_call (vs := [_]) rfl rfl rfl rfl Try.call37 ⟨rfl, trivial⟩ (fun w hs => o_rref_int hs (by omega) (by omega)) ?_
 intro v10 h2 hh2 r10
 change (rpQ 2).Is h2 v10 (y : Rat) at r10
 refine mv rfl rfl ?_
 refine gl_call (vs := [_]) rfl rfl rfl rfl Try.call37 ⟨rfl, trivial⟩ (fun w hs => o_rref_int hs (by omega) (by omega)) ?_
 intro v12 h3 hh3 r12
 change (rpQ 2).Is h3 v12 (z : Rat) at r12
 replace r8 := r8.mono (hh2.trans hh3)
 replace r10 := r10.mono hh3
 refine gl_x (F := fun v_ => (rpT (rpQ 2)).Is h3 v_ (T3.mk (x : Rat) (y : Rat) (z : Rat))) (ox_build_arr (ps' := [(0, _), (1, _), (2, _)]) Try.underlying31 info31 rfl rfl Try.sizeOf29 ⟨rfl, rfl, rfl, rfl, rfl, rfl, trivial⟩ rfl (zr_t (zr_q (by decide))) (fx_one rfl (Pc.tx (Pc.here _)) r8 (fx_one rfl (Pc.ty (Pc.here _)) r10 (fx_one rfl (Pc.tz (Pc.here _)) r12 fx_nil)))) mem0 rfl ?_
 intro v13 r13
 replace rb6 := rb6.mono ((hh1.trans hh2).trans hh3)
 have rw_40 := (Le.t (Le.q (l := 2) (by decide))).R rb6
 refine gl_updx (A := []) (F := fun c_ => (rpT (rpQ 2)).R h3 c_ (T3.mk (x : Rat) (y : Rat) (z : Rat))) (upd_box Try.sizeOf31 (Pc.here _) rfl rfl rfl rw_40 r13 rfl) ?_
 intro cs_41 rb_42
 refine gl_nil (gq_keep (e' := [(6, _)]) ⟨rfl, trivial⟩ (gq_then (gc_ret (gq_exv (rv_o (t := 6) ty31 (.head _) rfl rb_42) ?_))))
 intro w_43 hvw_43 rr_44
 refine gq_res (fun E S => run_res1 rfl hvw_43 E S) ?_
 exact rr_44

theorem o_dice_flat {w0 w : World} {h0 h : Mem} {b k : Nat} {vl : Value} {xs : List Int} (hl : Is h vl xs) (hk : k ≤ xs.length) {L : List Res} (hs : St w0 h0 (.var b 59 [vl, vI ↑k] :: L) h w) :
    Calls Try.prog 10 #[vP b 0] w (RetMut w0 h0 h L (fun g r q' => ∃ k' : Nat, ∃ m : T3 Rat, q' = .var b 59 [vl, vI ↑k'] ∧ k' ≤ xs.length ∧ (rpT (rpQ 2)).Is g r m)) := by
 have hlen := hl.lt63
 refine calls_begin_st (n := 8) (e := [(0, vP b 0)]) (vs := [vP b 0]) Try.func10 rfl rfl (Nat.le_of_ble_eq_true rfl) hs ⟨rfl, trivial⟩ (gc_seq (gc_region (gl_newop (new_allocx (ρ := (rpT (rpQ 1))) (X := (T3.mk (0 : Rat) (0 : Rat) (0 : Rat))) info31 rfl rfl (zr_t (zr_q (by decide)))) rfl rfl rfl ?_)))
 intro v2 q2 hq2
 obtain ⟨b2, cs2, rfl, rfl, rb2⟩ := hq2
 refine gl_nil (gq_then (gc_seq (gc_region (mv rfl rfl ?_))))
 refine gl_call_mut2 (A := [_]) (vs := [_]) Try.call38 ⟨rfl, trivial⟩ (fun X w hs => o_dice_number hl (by first | omega | exact Nat.zero_le _) hs) rfl ?_
 intro v4 g4 q4 hg4 hr4
 obtain ⟨k4, p4, rfl, hk4, hr4⟩ := hr4
 refine mv rfl rfl ?_
 replace hl := hl.mono hg4
 refine gl_call_mut2 (A := [_]) (vs := [_]) Try.call38 ⟨rfl, trivial⟩ (fun X w hs => o_dice_number hl (by first | omega | exact Nat.zero_le _) hs) rfl ?_
 intro v6 g6 q6 hg6 hr6
 obtain ⟨k6, p6, rfl, hk6, hr6⟩ := hr6
 replace hr4 := hr4.mono hg6
 refine gl_x (F := fun v_ => (rpT (rpQ 2)).Is g6 v_ (T3.mk p4 p6 (0 : Rat))) (ox_build_arr (ps' := [(0, _), (1, _)]) Try.underlying31 info31 rfl rfl Try.sizeOf29 ⟨rfl, rfl, rfl, rfl, trivial⟩ rfl (zr_t (zr_q (by decide))) (fx_one rfl (Pc.tx (Pc.here _)) hr4 (fx_one rfl (Pc.ty (Pc.here _)) hr6 fx_nil))) mem0 rfl ?_
 intro v7 r7
 replace rb2 := rb2.mono (hg4.trans hg6)
 have rw_45 := (Le.t (Le.q (l := 2) (by decide))).R rb2
 refine gl_updx (A := []) (F := fun c_ => (rpT (rpQ 2)).R g6 c_ (T3.mk p4 p6 (0 : Rat))) (upd_box Try.sizeOf31 (Pc.here _) rfl rfl rfl rw_45 r7 rfl) ?_
 intro cs_46 rb_47
 refine gl_nil (gq_then (gc_ret (gq_exv (rv_o (t := 2) ty31 (.head _) rfl rb_47) ?_)))
 intro w_48 hvw_48 rr_49
 refine gq_res_own (fun E S => run_res1 rfl hvw_48 E S) ?_
 exact ⟨_, (.cons _ (List.Sublist.refl _)), (hg4.trans hg6), _, _, rfl, by omega, rr_49⟩

theorem law25_sane {w0 : World} {h0 : Mem}  (hs : MLe h0 (mem w0))  :
    Calls Try.prog 8 #[] w0 (Ret w0 h0 (fun _ r => r = .bool true)) := by
 refine calls_begin (n := 28) (e := []) (vs := []) Try.func8 rfl rfl (Nat.le_of_ble_eq_true rfl) hs trivial (gc_seq (gc_region (asg rfl rfl (gl_nil (gq_then (gc_seq (gc_region ?_)))))))
 refine gl_call (vs := [vI (0), vI (0), vI (0)]) rfl rfl rfl rfl Try.call36 ⟨rfl, rfl, rfl, trivial⟩ (fun w hs => o_made_at3 hs (by decide) (by decide) (by decide) (by decide) (by decide) (by decide)) ?_
 intro v2 h1 hh1 r2
 change (rpT (rpQ 2)).Is h1 v2 (T3.mk (((0 : Int) : Int) : Rat) (((0 : Int) : Int) : Rat) (((0 : Int) : Int) : Rat)) at r2
 refine gl_call (vs := [vI (2), vI (0), vI (0)]) rfl rfl rfl rfl Try.call36 ⟨rfl, rfl, rfl, trivial⟩ (fun w hs => o_made_at3 hs (by decide) (by decide) (by decide) (by decide) (by decide) (by decide)) ?_
 intro v3 h2 hh2 r3
 change (rpT (rpQ 2)).Is h2 v3 (T3.mk (((2 : Int) : Int) : Rat) (((0 : Int) : Int) : Rat) (((0 : Int) : Int) : Rat)) at r3
 refine gl_call (vs := [vI (0), vI (2), vI (0)]) rfl rfl rfl rfl Try.call36 ⟨rfl, rfl, rfl, trivial⟩ (fun w hs => o_made_at3 hs (by decide) (by decide) (by decide) (by decide) (by decide) (by decide)) ?_
 intro v4 h3 hh3 r4
 change (rpT (rpQ 2)).Is h3 v4 (T3.mk (((0 : Int) : Int) : Rat) (((2 : Int) : Int) : Rat) (((0 : Int) : Int) : Rat)) at r4
 replace r2 := r2.mono (hh2.trans hh3)
 replace r3 := r3.mono hh3
 refine gl_newop (new_buildx (ρ := (rpT (rpQ 2))) (m := 3) (xs := [(T3.mk (((0 : Int) : Int) : Rat) (((0 : Int) : Int) : Rat) (((0 : Int) : Int) : Rat)), (T3.mk (((2 : Int) : Int) : Rat) (((0 : Int) : Int) : Rat) (((0 : Int) : Int) : Rat)), (T3.mk (((0 : Int) : Int) : Rat) (((2 : Int) : Int) : Rat) (((0 : Int) : Int) : Rat))]) (ps' := [(0, _), (1, _), (2, _)]) Try.underlying38 info31 rfl rfl rfl (zr_t (zr_q (by decide))) ⟨rfl, rfl, rfl, rfl, rfl, rfl, trivial⟩ (fx_one rfl (Pc.arr (Pc.here _) (T3.mk (0 : Rat) (0 : Rat) (0 : Rat)) 0 (by decide)) r2 (fx_one rfl (Pc.arr (Pc.here _) (T3.mk (0 : Rat) (0 : Rat) (0 : Rat)) 1 (by decide)) r3 (fx_one rfl (Pc.arr (Pc.here _) (T3.mk (0 : Rat) (0 : Rat) (0 : Rat)) 2 (by decide)) r4 fx_nil))) (show 3 * 9 ≤ 16777216 from by decide) (show 0 < 9 from by decide)) rfl rfl rfl ?_
 intro v5 q5 hq5
 obtain ⟨cs5, rfl, rl5⟩ := hq5
 refine asg rfl rfl (gl_nil (gq_then (gc_seq (gc_freezex (A := []) (ρ := (rpT (rpQ 2))) rl5 ?_))))
 intro h4 hh4 rs_50
 refine gc_draw 23 _ [] [(0, .q), (1, .c), (2, .c), (3, .c), (4, .q), (5, .q), (6, .c), (7, .c), (8, .q), (9, .q), (10, .q), (11, .q), (12, .q), (13, .q), (14, .q), (15, .q), (16, .q), (17, .c), (18, .c), (19, .c), (20, .q), (21, .q), (22, .q)] mixed (fun x hx => by cases hx) (chk_of [0, 1, 2, 6, 8, 16, 16, 112, 144, 272, 640, 1024, 3072, 5120, 1024, 17408, 33792, 1024, 132096, 467968, 525312, 1049600, 4194303] [8388607, 8388606, 8388607, 8388601, 8388599, 8388591, 8388591, 8388495, 8388463, 8388335, 8388095, 8387583, 8385535, 8383487, 8387583, 8371199, 8354815, 8387583, 8387583, 7920639, 7863295, 7339007, 6291455] (by kernel_rfl)) (fun x hx => by cases hx) (fun r hr => hr) (w_q rfl (fun h' L' hh hR => ov_move rfl) rfl ?_)
 refine w_c rfl ?_
 refine s_call (vs := [_]) Try.call20 ⟨rfl, trivial⟩ (fun w hs => o_pg_area hs rs_50 (by decide) (by first | omega | exact (by decide : 3 ≤ 1000))) rfl ?_
 intro v7 h5 hh5 r7
 change (rpQ 1000000000).Is h5 v7 (areaTo [(T3.mk (((0 : Int) : Int) : Rat) (((0 : Int) : Int) : Rat) (((0 : Int) : Int) : Rat)), (T3.mk (((2 : Int) : Int) : Rat) (((0 : Int) : Int) : Rat) (((0 : Int) : Int) : Rat)), (T3.mk (((0 : Int) : Int) : Rat) (((2 : Int) : Int) : Rat) (((0 : Int) : Int) : Rat))] 0 1 [(T3.mk (((0 : Int) : Int) : Rat) (((0 : Int) : Int) : Rat) (((0 : Int) : Int) : Rat)), (T3.mk (((2 : Int) : Int) : Rat) (((0 : Int) : Int) : Rat) (((0 : Int) : Int) : Rat)), (T3.mk (((0 : Int) : Int) : Rat) (((2 : Int) : Int) : Rat) (((0 : Int) : Int) : Rat))].length) at r7
 refine w_c rfl ?_
 refine s_call (vs := [vI (4)]) Try.call37 ⟨rfl, trivial⟩ (fun w hs => o_rref_int hs (by decide) (by decide)) rfl ?_
 intro v8 h6 hh6 r8
 change (rpQ 2).Is h6 v8 ((4 : Int) : Rat) at r8
 refine w_c rfl ?_
 replace r7 := r7.mono hh6
 refine s_call (vs := [_, _]) Try.call19 ⟨rfl, rfl, trivial⟩ (fun w hs => o_rref_same hs r7 r8 (by decide)) rfl ?_
 intro v9 h7 hh7 r9
 obtain rfl : v9 = .bool true := by rw [show v9 = vB ((areaTo [(T3.mk (((0 : Int) : Int) : Rat) (((0 : Int) : Int) : Rat) (((0 : Int) : Int) : Rat)), (T3.mk (((2 : Int) : Int) : Rat) (((0 : Int) : Int) : Rat) (((0 : Int) : Int) : Rat)), (T3.mk (((0 : Int) : Int) : Rat) (((2 : Int) : Int) : Rat) (((0 : Int) : Int) : Rat))] 0 1 [(T3.mk (((0 : Int) : Int) : Rat) (((0 : Int) : Int) : Rat) (((0 : Int) : Int) : Rat)), (T3.mk (((2 : Int) : Int) : Rat) (((0 : Int) : Int) : Rat) (((0 : Int) : Int) : Rat)), (T3.mk (((0 : Int) : Int) : Rat) (((2 : Int) : Int) : Rat) (((0 : Int) : Int) : Rat))].length) = ((4 : Int) : Rat)) from r9, vB_true (by exact sane_area)]
 refine w_q rfl (fun h' L' hh hR => ov_move rfl) rfl (w_q_on rfl rfl rfl (fun h' L' hh hR => ov_move rfl) rfl ?_)
 refine w_c rfl (s_on rfl rfl ?_)
 refine s_call (vs := [vI (1), vI (1), vI (0)]) Try.call36 ⟨rfl, rfl, rfl, trivial⟩ (fun w hs => o_made_at3 hs (by decide) (by decide) (by decide) (by decide) (by decide) (by decide)) rfl ?_
 intro v12 h8 hh8 r12
 change (rpT (rpQ 2)).Is h8 v12 (T3.mk (((1 : Int) : Int) : Rat) (((1 : Int) : Int) : Rat) (((0 : Int) : Int) : Rat)) at r12
 refine w_c rfl (s_on rfl rfl ?_)
 replace rs_50 := rs_50.mono (((hh5.trans hh6).trans hh7).trans hh8)
 refine s_call (vs := [_, _]) Try.call22 ⟨rfl, rfl, trivial⟩ (fun w hs => o_pg_inside hs rs_50 r12 (by decide) (by first | omega | exact (by decide : 3 ≤ 1000))) rfl ?_
 intro v13 h9 hh9 r13
 obtain rfl : v13 = vI (insZ [(T3.mk (((0 : Int) : Int) : Rat) (((0 : Int) : Int) : Rat) (((0 : Int) : Int) : Rat)), (T3.mk (((2 : Int) : Int) : Rat) (((0 : Int) : Int) : Rat) (((0 : Int) : Int) : Rat)), (T3.mk (((0 : Int) : Int) : Rat) (((2 : Int) : Int) : Rat) (((0 : Int) : Int) : Rat))] (pr (T3.mk (((1 : Int) : Int) : Rat) (((1 : Int) : Int) : Rat) (((0 : Int) : Int) : Rat)) 0 1) 0 1) := r13
 refine w_q_on rfl rfl rfl (fun h' L' hh hR => OpV.tr (by exact sane_in) (ov_eql_i (q := 0) rfl rfl)) rfl (w_q rfl (fun h' L' hh hR => ov_pick_t rfl rfl) rfl (w_q rfl (fun h' L' hh hR => ov_move rfl) rfl (w_q_on rfl rfl rfl (fun h' L' hh hR => ov_move rfl) rfl ?_)))
 replace rs_50 := rs_50.mono hh9
 refine w_qx_on (F := fun v_ => AtP (rpT (rpQ 2)) h9 v_ ([(T3.mk (((0 : Int) : Int) : Rat) (((0 : Int) : Int) : Rat) (((0 : Int) : Int) : Rat)), (T3.mk (((2 : Int) : Int) : Rat) (((0 : Int) : Int) : Rat) (((0 : Int) : Int) : Rat)), (T3.mk (((0 : Int) : Int) : Rat) (((2 : Int) : Int) : Rat) (((0 : Int) : Int) : Rat))].getD 0 (T3.mk (0 : Rat) (0 : Rat) (0 : Rat)))) rfl rfl rfl (ox_idx_s (q := 0) (T3.mk (0 : Rat) (0 : Rat) (0 : Rat)) 0 Try.underlying38 ty31 rfl rfl rs_50 rfl (by exact (by decide : 0 < 3)) (show 0 < 9 from by decide)) mem0 rfl ?_
 intro v18 r18
 refine w_qx_on (F := fun v_ => (rpT (rpQ 2)).Is h9 v_ ([(T3.mk (((0 : Int) : Int) : Rat) (((0 : Int) : Int) : Rat) (((0 : Int) : Int) : Rat)), (T3.mk (((2 : Int) : Int) : Rat) (((0 : Int) : Int) : Rat) (((0 : Int) : Int) : Rat)), (T3.mk (((0 : Int) : Int) : Rat) (((2 : Int) : Int) : Rat) (((0 : Int) : Int) : Rat))].getD 0 (T3.mk (0 : Rat) (0 : Rat) (0 : Rat)))) rfl rfl rfl (ox_load_at ty31 rfl r18) mem0 rfl ?_
 intro v19 r19
 refine w_q_on rfl rfl rfl (fun h' L' hh hR => ov_move rfl) rfl (w_qx_on (F := fun v_ => AtP (rpT (rpQ 2)) h9 v_ ([(T3.mk (((0 : Int) : Int) : Rat) (((0 : Int) : Int) : Rat) (((0 : Int) : Int) : Rat)), (T3.mk (((2 : Int) : Int) : Rat) (((0 : Int) : Int) : Rat) (((0 : Int) : Int) : Rat)), (T3.mk (((0 : Int) : Int) : Rat) (((2 : Int) : Int) : Rat) (((0 : Int) : Int) : Rat))].getD 1 (T3.mk (0 : Rat) (0 : Rat) (0 : Rat)))) rfl rfl rfl (ox_idx_s (q := 1) (T3.mk (0 : Rat) (0 : Rat) (0 : Rat)) 1 Try.underlying38 ty31 rfl rfl rs_50 rfl (by exact (by decide : 1 < 3)) (show 0 < 9 from by decide)) mem0 rfl ?_)
 intro v21 r21
 refine w_qx_on (F := fun v_ => (rpT (rpQ 2)).Is h9 v_ ([(T3.mk (((0 : Int) : Int) : Rat) (((0 : Int) : Int) : Rat) (((0 : Int) : Int) : Rat)), (T3.mk (((2 : Int) : Int) : Rat) (((0 : Int) : Int) : Rat) (((0 : Int) : Int) : Rat)), (T3.mk (((0 : Int) : Int) : Rat) (((2 : Int) : Int) : Rat) (((0 : Int) : Int) : Rat))].getD 1 (T3.mk (0 : Rat) (0 : Rat) (0 : Rat)))) rfl rfl rfl (ox_load_at ty31 rfl r21) mem0 rfl ?_
 intro v22 r22
 refine w_c rfl (s_on rfl rfl ?_)
 refine s_call (vs := [vI (1), vI (0), vI (0)]) Try.call36 ⟨rfl, rfl, rfl, trivial⟩ (fun w hs => o_made_at3 hs (by decide) (by decide) (by decide) (by decide) (by decide) (by decide)) rfl ?_
 intro v23 h10 hh10 r23
 change (rpT (rpQ 2)).Is h10 v23 (T3.mk (((1 : Int) : Int) : Rat) (((0 : Int) : Int) : Rat) (((0 : Int) : Int) : Rat)) at r23
 refine w_c rfl (s_on rfl rfl ?_)
 refine s_call (vs := [vI (1), vI (5), vI (0)]) Try.call36 ⟨rfl, rfl, rfl, trivial⟩ (fun w hs => o_made_at3 hs (by decide) (by decide) (by decide) (by decide) (by decide) (by decide)) rfl ?_
 intro v24 h11 hh11 r24
 change (rpT (rpQ 2)).Is h11 v24 (T3.mk (((1 : Int) : Int) : Rat) (((5 : Int) : Int) : Rat) (((0 : Int) : Int) : Rat)) at r24
 refine w_c rfl (s_on rfl rfl ?_)
 replace r19 := r19.mono (hh10.trans hh11)
 replace r22 := r22.mono (hh10.trans hh11)
 replace r23 := r23.mono hh11
 refine s_call (vs := [_, _, _, _]) Try.call16 ⟨rfl, rfl, rfl, rfl, trivial⟩ (fun w hs => o_pg_touch hs r19 r22 r23 r24 (by decide)) rfl ?_
 intro v25 h12 hh12 r25
 obtain rfl : v25 = vI (touch2 (pr ([(T3.mk (((0 : Int) : Int) : Rat) (((0 : Int) : Int) : Rat) (((0 : Int) : Int) : Rat)), (T3.mk (((2 : Int) : Int) : Rat) (((0 : Int) : Int) : Rat) (((0 : Int) : Int) : Rat)), (T3.mk (((0 : Int) : Int) : Rat) (((2 : Int) : Int) : Rat) (((0 : Int) : Int) : Rat))].getD 0 (T3.mk (0 : Rat) (0 : Rat) (0 : Rat))) 0 1) (pr ([(T3.mk (((0 : Int) : Int) : Rat) (((0 : Int) : Int) : Rat) (((0 : Int) : Int) : Rat)), (T3.mk (((2 : Int) : Int) : Rat) (((0 : Int) : Int) : Rat) (((0 : Int) : Int) : Rat)), (T3.mk (((0 : Int) : Int) : Rat) (((2 : Int) : Int) : Rat) (((0 : Int) : Int) : Rat))].getD 1 (T3.mk (0 : Rat) (0 : Rat) (0 : Rat))) 0 1) (pr (T3.mk (((1 : Int) : Int) : Rat) (((0 : Int) : Int) : Rat) (((0 : Int) : Int) : Rat)) 0 1) (pr (T3.mk (((1 : Int) : Int) : Rat) (((5 : Int) : Int) : Rat) (((0 : Int) : Int) : Rat)) 0 1)) := r25
 refine w_q_on rfl rfl rfl (fun h' L' hh hR => OpV.tr (by exact sane_touch) (ov_eql_i (q := 2) rfl rfl)) rfl (w_q rfl (fun h' L' hh hR => ov_pick_t rfl rfl) rfl (w_q rfl (fun h' L' hh hR => ov_assign rfl) rfl (w_nil (gq_keep (e' := [(0, _)]) ⟨rfl, trivial⟩ (gq_then (gc_ret (gq_body1 rfl rfl ?_)))))))
 rfl

theorem law25_polygontouches {w0 : World} {h0 : Mem}  (hs : MLe h0 (mem w0)) {vl : Value} {xsl : List Int} (hl : Is h0 vl xsl)  :
    Calls Try.prog 3 #[vl] w0 (Ret w0 h0 (fun _ r => r = .bool true)) := by
 have hlenl := hl.lt63
 refine calls_begin (n := 107) (e := [(0, vl)]) (vs := [vl]) Try.func3 rfl rfl (Nat.le_of_ble_eq_true rfl) hs ⟨rfl, trivial⟩ (gc_seq (gc_region (asg rfl rfl (gl_nil (gq_then (gc_seq (gc_seq (gc_region (mv rfl rfl ?_)))))))))
 refine gl_call (vs := [_]) rfl rfl rfl rfl Try.call7 ⟨rfl, trivial⟩ (fun w hs => made_light hs hl) ?_
 intro v11 h1 hh1 hr11
 subst hr11
 refine gv (ov_not rfl) rfl (gl_nil (gq_then ?_))
 refine gc_cond rfl (fun hc12 => ?_) (fun hc12 => ?_)
 ·
  refine gc_seq (gc_region ?_)
  refine gl_call (vs := []) rfl rfl rfl rfl Try.call8 trivial (fun w hs => law25_sane hs) ?_
  intro v13 h2 hh2 hr13
  subst hr13
  refine asg rfl rfl (gl_nil (gq_then (gc_ret (gr_then (gq_body1 rfl rfl ?_)))))
  rfl
 ·
  refine gc_skip (gq_then (gc_seq (gc_region (mv rfl rfl ?_))))
  replace hl := hl.mono hh1
  refine gl_call_own (vs := [_]) rfl rfl rfl rfl Try.call9 ⟨rfl, trivial⟩ (fun w hs => made_roll hs hl) ?_
  intro v15 h2 L15 hh2 hr15
  obtain ⟨b15, rfl, rfl⟩ := hr15
  refine asg rfl rfl (gl_nil (gq_then (gc_seq (gc_seq (gc_region (asg (v := vI (0)) rfl rfl (gl_nil (gq_then (gc_block ?_)))))))))
  refine gc_loop (ι := Nat × Nat × Mem) (fun (x_ : (Nat × Nat × Mem)) => match x_ with | (i, kd_51, ma) => MLe h2 ma ∧ (kd_51 ≤ xsl.length ∧ i ≤ 4)) (fun (x_ : (Nat × Nat × Mem)) => match x_ with | (i, kd_51, ma) => [(3, vP b15 0), (4, vI ↑i)]) (fun (x_ : (Nat × Nat × Mem)) => match x_ with | (i, kd_51, ma) => [.var b15 59 [vl, vI ↑kd_51]]) (fun (x_ : (Nat × Nat × Mem)) => match x_ with | (i, kd_51, ma) => ma) (fun (x_ : (Nat × Nat × Mem)) => match x_ with | (i, kd_51, ma) => 4 - i) (0, (0 : Nat), h2) ?_ ⟨rfl, rfl, trivial⟩ rfl rfl ?_
  ·
   refine ⟨MLe.refl _, ?_⟩
   refine ⟨(by omega), ?_⟩
   exact (by omega)
  ·
   intro x hx
   obtain ⟨i, kd_51, ma⟩ := x
   obtain ⟨hmma, hinv⟩ := hx
   show GC _ _ _ _ _ _ [(3, vP b15 0), (4, vI ↑i)] [.var b15 59 [vl, vI ↑kd_51]] ma
   obtain ⟨hkd_52, hinv⟩ := hinv
   have hi4 := hinv
   refine gc_seq (gc_seq (gc_region (mv rfl rfl (gv (ov_lss_i (q := 4) rfl rfl) rfl (gl_nil (gq_then ?_))))))
   refine gc_cond rfl (fun hc17 => ?_) (fun hc17 => ?_)
   ·
    refine gc_skip (gq_then (gc_seq (gc_block (gc_seq (gc_region (mv rfl rfl ?_))))))
    replace hl := hl.mono (hh2.trans hmma)
    refine gl_call_mut2 (A := []) (vs := [_]) Try.call10 ⟨rfl, trivial⟩ (fun X w hs => o_dice_flat hl (by first | omega | exact Nat.zero_le _) hs) rfl ?_
    intro v21 g21 q21 hg21 hr21
    obtain ⟨k21, p21, rfl, hk21, hr21⟩ := hr21
    refine mv rfl rfl ?_
    replace hl := hl.mono hg21
    refine gl_call_mut2 (A := []) (vs := [_]) Try.call10 ⟨rfl, trivial⟩ (fun X w hs => o_dice_flat hl (by first | omega | exact Nat.zero_le _) hs) rfl ?_
    intro v23 g23 q23 hg23 hr23
    obtain ⟨k23, p23, rfl, hk23, hr23⟩ := hr23
    refine mv rfl rfl ?_
    replace hl := hl.mono hg23
    refine gl_call_mut2 (A := []) (vs := [_]) Try.call10 ⟨rfl, trivial⟩ (fun X w hs => o_dice_flat hl (by first | omega | exact Nat.zero_le _) hs) rfl ?_
    intro v25 g25 q25 hg25 hr25
    obtain ⟨k25, p25, rfl, hk25, hr25⟩ := hr25
    refine gl_newop (new_allocx (ρ := (rpT (rpQ 1))) (X := (T3.mk (0 : Rat) (0 : Rat) (0 : Rat))) info31 rfl rfl (zr_t (zr_q (by decide)))) rfl rfl rfl ?_
    intro v5 q5 hq5
    obtain ⟨b5, cs5, rfl, rfl, rb5⟩ := hq5
    refine gl_newop (new_allocx (ρ := (rpT (rpQ 1))) (X := (T3.mk (0 : Rat) (0 : Rat) (0 : Rat))) info31 rfl rfl (zr_t (zr_q (by decide)))) rfl rfl rfl ?_
    intro v6 q6 hq6
    obtain ⟨b6, cs6, rfl, rfl, rb6⟩ := hq6
    refine gl_newop (new_allocx (ρ := (rpT (rpQ 1))) (X := (T3.mk (0 : Rat) (0 : Rat) (0 : Rat))) info31 rfl rfl (zr_t (zr_q (by decide)))) rfl rfl rfl ?_
    intro v7 q7 hq7
    obtain ⟨b7, cs7, rfl, rfl, rb7⟩ := hq7
    have rw_53 := (Le.t (Le.q (l := 2) (by decide))).R rb5
    replace hr21 := hr21.mono (hg23.trans hg25)
    refine gl_updx (A := [_, _]) (F := fun c_ => (rpT (rpQ 2)).R g25 c_ p21) (upd_box Try.sizeOf31 (Pc.here _) rfl rfl rfl rw_53 hr21 rfl) ?_
    intro cs_54 rb_55
    have rw_56 := (Le.t (Le.q (l := 2) (by decide))).R rb6
    replace hr23 := hr23.mono hg25
    refine gl_updx (A := [_]) (F := fun c_ => (rpT (rpQ 2)).R g25 c_ p23) (upd_box Try.sizeOf31 (Pc.here _) rfl rfl rfl rw_56 hr23 rfl) ?_
    intro cs_57 rb_58
    have rw_59 := (Le.t (Le.q (l := 2) (by decide))).R rb7
    refine gl_updx (A := []) (F := fun c_ => (rpT (rpQ 2)).R g25 c_ p25) (upd_box Try.sizeOf31 (Pc.here _) rfl rfl rfl rw_59 hr25 rfl) ?_
    intro cs_60 rb_61
    refine gl_nil (gq_then (gc_seq (gc_region (mv rfl rfl ?_))))
    replace hl := hl.mono hg25
    refine gl_call_mut2 (A := [_, _, _]) (vs := [_]) Try.call10 ⟨rfl, trivial⟩ (fun X w hs => o_dice_flat hl (by first | omega | exact Nat.zero_le _) hs) rfl ?_
    intro v27 g27 q27 hg27 hr27
    obtain ⟨k27, p27, rfl, hk27, hr27⟩ := hr27
    refine gl_newop (new_allocx (ρ := (rpT (rpQ 1))) (X := (T3.mk (0 : Rat) (0 : Rat) (0 : Rat))) info31 rfl rfl (zr_t (zr_q (by decide)))) rfl rfl rfl ?_
    intro v8 q8 hq8
    obtain ⟨b8, cs8, rfl, rfl, rb8⟩ := hq8
    have rw_62 := (Le.t (Le.q (l := 2) (by decide))).R rb8
    refine gl_updx (A := []) (F := fun c_ => (rpT (rpQ 2)).R g27 c_ p27) (upd_box Try.sizeOf31 (Pc.here _) rfl rfl rfl rw_62 hr27 rfl) ?_
    intro cs_63 rb_64
    refine gl_nil (gq_keep (e' := [(3, _), (4, _), (5, _), (6, _), (7, _), (8, _)]) ⟨rfl, rfl, rfl, rfl, rfl, rfl, trivial⟩ (gq_then (gc_seq (gc_seq (gc_region (mv rfl rfl ?_))))))
    replace hl := hl.mono hg27
    refine gl_call_mut2 (A := [_, _, _, _]) (vs := [_, vI (5)]) Try.call11 ⟨rfl, rfl, trivial⟩ (fun X w hs => dice_next hl (by first | omega | exact Nat.zero_le _) (by omega) (by omega) hs) rfl ?_
    intro v29 g29 q29 hg29 hr29
    obtain ⟨k29, z29, rfl, hk29, rfl, hz29, hy29⟩ := hr29
    refine gl_nil (gq_then (gc_block (gc_seq (gc_region (gv (ov_eql_i (q := 0) rfl rfl) rfl (asg rfl rfl (gl_nil (gq_then ?_))))))))
    refine gc_cond rfl (fun hc30 => ?_) (fun hc30 => ?_)
    ·
     refine gc_region ?_
     replace rb_55 := rb_55.mono (hg27.trans hg29)
     refine gl_x (F := fun v_ => (rpT (rpQ 2)).Is g29 v_ p21) (ox_load_box ty31 (Pc.here _) rfl rfl rb_55 rfl) (mem1 (.tail _ (.tail _ (.tail _ (.head _))))) rfl ?_
     intro v32 r32
     replace rb_61 := rb_61.mono (hg27.trans hg29)
     refine gl_updx (A := [_]) (F := fun c_ => (rpT (rpQ 2)).R g29 c_ p21) (upd_box Try.sizeOf31 (Pc.here _) rfl rfl rfl rb_61 r32 rfl) ?_
     intro cs_65 rb_66
     refine gl_nil (gq_in (gq_then (gc_seq (gc_region (gl_x (F := fun v_ => (rpT (rpQ 2)).Is g29 v_ p21) (ox_load_box ty31 (Pc.here _) rfl rfl rb_55 rfl) (mem1 (.tail _ (.tail _ (.tail _ (.head _))))) rfl ?_)))))
     intro v67 r67
     replace rb_58 := rb_58.mono (hg27.trans hg29)
     refine gl_x (F := fun v_ => (rpT (rpQ 2)).Is g29 v_ p23) (ox_load_box ty31 (Pc.here _) rfl rfl rb_58 rfl) (mem1 (.tail _ (.tail _ (.head _)))) rfl ?_
     intro v68 r68
     refine gl_x (F := fun v_ => (rpT (rpQ 2)).Is g29 v_ p21) (ox_load_box ty31 (Pc.here _) rfl rfl rb_66 rfl) (mem1 (.tail _ (.head _))) rfl ?_
     intro v69 r69
     replace rb_64 := rb_64.mono hg29
     refine gl_x (F := fun v_ => (rpT (rpQ 2)).Is g29 v_ p27) (ox_load_box ty31 (Pc.here _) rfl rfl rb_64 rfl) (mem1 (.head _)) rfl ?_
     intro v70 r70
     refine gl_call (vs := [_, _, _, _]) rfl rfl rfl rfl Try.call16 ⟨rfl, rfl, rfl, rfl, trivial⟩ (fun w hs => o_pg_touch hs r67 r68 r69 r70 (by decide)) ?_
     intro v71 h3 hh3 r71
     obtain rfl : v71 = vI (touch2 (pr p21 0 1) (pr p23 0 1) (pr p21 0 1) (pr p27 0 1)) := r71
     refine asg rfl rfl (gl_nil (gq_keep (e' := [(3, _), (4, _), (5, _), (6, _), (7, _), (8, _), (9, _)]) ⟨rfl, rfl, rfl, rfl, rfl, rfl, rfl, trivial⟩ (gq_then (gc_seq (gc_region (mv rfl rfl ?_))))))
     replace rb_55 := rb_55.mono hh3
     refine gl_x (F := fun v_ => (rpT (rpQ 2)).Is h3 v_ p21) (ox_load_box ty31 (Pc.here _) rfl rfl rb_55 rfl) (mem1 (.tail _ (.tail _ (.tail _ (.head _))))) rfl ?_
     intro v73 r73
     replace rb_58 := rb_58.mono hh3
     refine gl_x (F := fun v_ => (rpT (rpQ 2)).Is h3 v_ p23) (ox_load_box ty31 (Pc.here _) rfl rfl rb_58 rfl) (mem1 (.tail _ (.tail _ (.head _)))) rfl ?_
     intro v74 r74
     replace rb_66 := rb_66.mono hh3
     refine gl_x (F := fun v_ => (rpT (rpQ 2)).Is h3 v_ p21) (ox_load_box ty31 (Pc.here _) rfl rfl rb_66 rfl) (mem1 (.tail _ (.head _))) rfl ?_
     intro v75 r75
     replace rb_64 := rb_64.mono hh3
     refine gl_x (F := fun v_ => (rpT (rpQ 2)).Is h3 v_ p27) (ox_load_box ty31 (Pc.here _) rfl rfl rb_64 rfl) (mem1 (.head _)) rfl ?_
     intro v76 r76
     refine gl_call (vs := [_, _, _, _]) rfl rfl rfl rfl Try.call17 ⟨rfl, rfl, rfl, rfl, trivial⟩ (fun w hs => o_r5_touch hs r73 r74 r75 r76 (by decide)) ?_
     intro v77 h4 hh4 r77
     obtain rfl : v77 = vI (touchR (pr p21 0 1) (pr p23 0 1) (pr p21 0 1) (pr p27 0 1)) := r77
     refine gv (OpV.fa (by exact fun e => e (by first | rfl | exact touch_eq _ _ _ _ | exact (touch_comm _ _ _ _).symm | exact (touch_swap1 _ _ _ _).symm | exact (touch_swap2 _ _ _ _).symm | assumption)) (ov_neq_i rfl rfl)) rfl (mv rfl rfl (gl_on rfl rfl rfl (mv rfl rfl (gl_on rfl rfl rfl ?_))))
     replace rb_66 := rb_66.mono hh4
     refine gl_x (F := fun v_ => (rpT (rpQ 2)).Is h4 v_ p21) (ox_load_box ty31 (Pc.here _) rfl rfl rb_66 rfl) (mem1 (.tail _ (.head _))) rfl ?_
     intro v81 r81
     refine gl_on rfl rfl rfl ?_
     replace rb_64 := rb_64.mono hh4
     refine gl_x (F := fun v_ => (rpT (rpQ 2)).Is h4 v_ p27) (ox_load_box ty31 (Pc.here _) rfl rfl rb_64 rfl) (mem1 (.head _)) rfl ?_
     intro v82 r82
     refine gl_on rfl rfl rfl ?_
     replace rb_55 := rb_55.mono hh4
     refine gl_x (F := fun v_ => (rpT (rpQ 2)).Is h4 v_ p21) (ox_load_box ty31 (Pc.here _) rfl rfl rb_55 rfl) (mem1 (.tail _ (.tail _ (.tail _ (.head _))))) rfl ?_
     intro v83 r83
     refine gl_on rfl rfl rfl ?_
     replace rb_58 := rb_58.mono hh4
     refine gl_x (F := fun v_ => (rpT (rpQ 2)).Is h4 v_ p23) (ox_load_box ty31 (Pc.here _) rfl rfl rb_58 rfl) (mem1 (.tail _ (.tail _ (.head _)))) rfl ?_
     intro v84 r84
     refine gl_on rfl rfl rfl ?_
     refine gl_call (vs := [_, _, _, _]) rfl rfl rfl rfl Try.call16 ⟨rfl, rfl, rfl, rfl, trivial⟩ (fun w hs => o_pg_touch hs r81 r82 r83 r84 (by decide)) ?_
     intro v85 h5 hh5 r85
     obtain rfl : v85 = vI (touch2 (pr p21 0 1) (pr p27 0 1) (pr p21 0 1) (pr p23 0 1)) := r85
     refine gl_on rfl rfl rfl (gv (OpV.fa (by exact fun e => e (by first | rfl | exact touch_eq _ _ _ _ | exact (touch_comm _ _ _ _).symm | exact (touch_swap1 _ _ _ _).symm | exact (touch_swap2 _ _ _ _).symm | assumption)) (ov_neq_i rfl rfl)) rfl (gv (ov_pick_f rfl rfl) rfl (mv rfl rfl (gl_on rfl rfl rfl (mv rfl rfl (gl_on rfl rfl rfl ?_))))))
     replace rb_58 := rb_58.mono hh5
     refine gl_x (F := fun v_ => (rpT (rpQ 2)).Is h5 v_ p23) (ox_load_box ty31 (Pc.here _) rfl rfl rb_58 rfl) (mem1 (.tail _ (.tail _ (.head _)))) rfl ?_
     intro v90 r90
     refine gl_on rfl rfl rfl ?_
     replace rb_55 := rb_55.mono hh5
     refine gl_x (F := fun v_ => (rpT (rpQ 2)).Is h5 v_ p21) (ox_load_box ty31 (Pc.here _) rfl rfl rb_55 rfl) (mem1 (.tail _ (.tail _ (.tail _ (.head _))))) rfl ?_
     intro v91 r91
     refine gl_on rfl rfl rfl ?_
     replace rb_66 := rb_66.mono hh5
     refine gl_x (F := fun v_ => (rpT (rpQ 2)).Is h5 v_ p21) (ox_load_box ty31 (Pc.here _) rfl rfl rb_66 rfl) (mem1 (.tail _ (.head _))) rfl ?_
     intro v92 r92
     refine gl_on rfl rfl rfl ?_
     replace rb_64 := rb_64.mono hh5
     refine gl_x (F := fun v_ => (rpT (rpQ 2)).Is h5 v_ p27) (ox_load_box ty31 (Pc.here _) rfl rfl rb_64 rfl) (mem1 (.head _)) rfl ?_
     intro v93 r93
     refine gl_on rfl rfl rfl ?_
     refine gl_call (vs := [_, _, _, _]) rfl rfl rfl rfl Try.call16 ⟨rfl, rfl, rfl, rfl, trivial⟩ (fun w hs => o_pg_touch hs r90 r91 r92 r93 (by decide)) ?_
     intro v94 h6 hh6 r94
     obtain rfl : v94 = vI (touch2 (pr p23 0 1) (pr p21 0 1) (pr p21 0 1) (pr p27 0 1)) := r94
     refine gl_on rfl rfl rfl (gv (OpV.fa (by exact fun e => e (by first | rfl | exact touch_eq _ _ _ _ | exact (touch_comm _ _ _ _).symm | exact (touch_swap1 _ _ _ _).symm | exact (touch_swap2 _ _ _ _).symm | assumption)) (ov_neq_i rfl rfl)) rfl (gv (ov_pick_f rfl rfl) rfl (mv rfl rfl (gl_on rfl rfl rfl (mv rfl rfl (gl_on rfl rfl rfl ?_))))))
     replace rb_55 := rb_55.mono hh6
     refine gl_x (F := fun v_ => (rpT (rpQ 2)).Is h6 v_ p21) (ox_load_box ty31 (Pc.here _) rfl rfl rb_55 rfl) (mem1 (.tail _ (.tail _ (.tail _ (.head _))))) rfl ?_
     intro v99 r99
     refine gl_on rfl rfl rfl ?_
     replace rb_58 := rb_58.mono hh6
     refine gl_x (F := fun v_ => (rpT (rpQ 2)).Is h6 v_ p23) (ox_load_box ty31 (Pc.here _) rfl rfl rb_58 rfl) (mem1 (.tail _ (.tail _ (.head _)))) rfl ?_
     intro v100 r100
     refine gl_on rfl rfl rfl ?_
     replace rb_64 := rb_64.mono hh6
     refine gl_x (F := fun v_ => (rpT (rpQ 2)).Is h6 v_ p27) (ox_load_box ty31 (Pc.here _) rfl rfl rb_64 rfl) (mem1 (.head _)) rfl ?_
     intro v101 r101
     refine gl_on rfl rfl rfl ?_
     replace rb_66 := rb_66.mono hh6
     refine gl_x (F := fun v_ => (rpT (rpQ 2)).Is h6 v_ p21) (ox_load_box ty31 (Pc.here _) rfl rfl rb_66 rfl) (mem1 (.tail _ (.head _))) rfl ?_
     intro v102 r102
     refine gl_on rfl rfl rfl ?_
     refine gl_call (vs := [_, _, _, _]) rfl rfl rfl rfl Try.call16 ⟨rfl, rfl, rfl, rfl, trivial⟩ (fun w hs => o_pg_touch hs r99 r100 r101 r102 (by decide)) ?_
     intro v103 h7 hh7 r103
     obtain rfl : v103 = vI (touch2 (pr p21 0 1) (pr p23 0 1) (pr p27 0 1) (pr p21 0 1)) := r103
     refine gl_on rfl rfl rfl (gv (OpV.fa (by exact fun e => e (by first | rfl | exact touch_eq _ _ _ _ | exact (touch_comm _ _ _ _).symm | exact (touch_swap1 _ _ _ _).symm | exact (touch_swap2 _ _ _ _).symm | assumption)) (ov_neq_i rfl rfl)) rfl (gv (ov_pick_f rfl rfl) rfl (gl_nil (gq_keep (e' := [(3, _), (4, _), (105, _)]) ⟨rfl, rfl, rfl, trivial⟩ (gq_then (gc_cond_f rfl (gc_skip (gq_in (gq_then (gc_region (mv rfl rfl (gv (ov_add_i (q := 1) rfl rfl (by omega) (by omega)) rfl (asg rfl rfl ?_)))))))))))))
     refine gl_nil (gq_drop (A := []) (gq_drop (A := []) (gq_drop (A := []) (gq_drop (A := []) ?_))))
     refine gq_round ((i + 1), k29, h7) ?_ ?_ ⟨?_, ?_, trivial⟩ ?_ rfl
     ·
      refine ⟨((((((((((hmma.trans hg21).trans hg23).trans hg25).trans hg27).trans hg29).trans hh3).trans hh4).trans hh5).trans hh6).trans hh7), ?_⟩
      refine ⟨(by omega), ?_⟩
      exact (by omega)
     ·
      dsimp only
      omega
     · exact rfl
     · exact rfl
     · exact rfl
    ·
     refine gc_seq (gc_region (gv (ov_eql_i (q := 1) rfl rfl) rfl (asg rfl rfl (gl_nil (gq_then ?_)))))
     refine gc_cond rfl (fun hc33 => ?_) (fun hc33 => ?_)
     ·
      refine gc_draw1 (A := [_, _, _, _]) 10 [] [(0, .q), (1, .q), (5, .q), (6, .q), (2, .c), (3, .q), (4, .c), (7, .c), (8, .c), (9, .c), (10, .t)] mixed (fun x hx => by cases hx) (by kernel_rfl) (fun x hx => by cases hx) ?_
      replace rb_55 := rb_55.mono (hg27.trans hg29)
      refine w_qx (F := fun v_ => (rpT (rpQ 2)).Is g29 v_ p21) rfl (ox_load_box ty31 (Pc.here _) rfl rfl rb_55 rfl) (mem1 (.tail _ (.tail _ (.tail _ (.head _))))) rfl ?_
      intro v35 r35
      refine w_q rfl (fun h' L' hh hR => ov_move rfl) rfl ?_
      replace rb_58 := rb_58.mono (hg27.trans hg29)
      refine w_qx (F := fun v_ => (rpT (rpQ 2)).Is g29 v_ p23) rfl (ox_load_box ty31 (Pc.here _) rfl rfl rb_58 rfl) (mem1 (.tail _ (.tail _ (.head _)))) rfl ?_
      intro v40 r40
      refine w_qx (F := fun v_ => (rpT (rpQ 2)).Is g29 v_ p21) rfl (ox_load_box ty31 (Pc.here _) rfl rfl rb_55 rfl) (mem1 (.tail _ (.tail _ (.tail _ (.head _))))) rfl ?_
      intro v41 r41
      refine w_c rfl ?_
      replace hl := hl.mono hg29
      refine s_call_mut (A := [_, _, _, _]) (vs := [_, vI (7)]) Try.call11 ⟨rfl, rfl, trivial⟩ (fun X w hs => dice_next hl (by first | omega | exact Nat.zero_le _) (by omega) (by omega) hs) rfl (mem_kept (by simp)) ?_
      intro v37 g37 q37 hg37 hr37
      obtain ⟨k37, z37, rfl, hk37, rfl, hz37, hy37⟩ := hr37
      refine w_q rfl (fun h' L' hh hR => ov_sub_i (q := 2) rfl rfl (by omega) (by omega)) rfl ?_
      refine w_c rfl ?_
      refine s_call (vs := [_, vI (2)]) Try.call14 ⟨rfl, rfl, trivial⟩ (fun w hs => o_rref_frac hs (by omega) (by omega) (by decide) (by decide)) rfl ?_
      intro v39 h3 hh3 r39
      change (rpQ 2).Is h3 v39 (makeQ (z37 - (2 : Int)) (2 : Int)) at r39
      refine w_c rfl ?_
      replace r40 := r40.mono (hg37.trans hh3)
      replace r41 := r41.mono (hg37.trans hh3)
      refine s_call (vs := [_, _]) Try.call15 ⟨rfl, rfl, trivial⟩ (fun w hs => o_r4_sub hs r40 r41 (by decide)) rfl ?_
      intro v42 h4 hh4 r42
      change (rpT (rpQ (2 + 3 * 2 + 3))).Is h4 v42 (T3.mk (p23.x - p21.x) (p23.y - p21.y) (p23.z - p21.z)) at r42
      replace r42 := Rp.Is.le r42 (Le.t (Le.q (l := 11) (by omega)))
      refine w_c rfl ?_
      replace r39 := r39.mono hh4
      refine s_call (vs := [_, _]) Try.call13 ⟨rfl, rfl, trivial⟩ (fun w hs => o_r4_scale hs r39 r42 (by decide)) rfl ?_
      intro v43 h5 hh5 r43
      change (rpT (rpQ (11 + 3 * 2 + 1))).Is h5 v43 (T3.mk ((makeQ (z37 - (2 : Int)) (2 : Int)) * (p23.x - p21.x)) ((makeQ (z37 - (2 : Int)) (2 : Int)) * (p23.y - p21.y)) ((makeQ (z37 - (2 : Int)) (2 : Int)) * (p23.z - p21.z))) at r43
      replace r43 := Rp.Is.le r43 (Le.t (Le.q (l := 18) (by omega)))
      refine w_c rfl ?_
      replace r35 := r35.mono (((hg37.trans hh3).trans hh4).trans hh5)
      refine s_call (vs := [_, _]) Try.call12 ⟨rfl, rfl, trivial⟩ (fun w hs => o_r4_add hs r35 r43 (by decide)) rfl ?_
      intro v44 h6 hh6 r44
      change (rpT (rpQ (2 + 3 * 18 + 3))).Is h6 v44 (T3.mk (p21.x + ((makeQ (z37 - (2 : Int)) (2 : Int)) * (p23.x - p21.x))) (p21.y + ((makeQ (z37 - (2 : Int)) (2 : Int)) * (p23.y - p21.y))) (p21.z + ((makeQ (z37 - (2 : Int)) (2 : Int)) * (p23.z - p21.z)))) at r44
      replace r44 := Rp.Is.le r44 (Le.t (Le.q (l := 59) (by omega)))
      replace rb_61 := rb_61.mono ((((((hg27.trans hg29).trans hg37).trans hh3).trans hh4).trans hh5).trans hh6)
      have rw_67 := (Le.t (Le.q (l := 59) (by decide))).R rb_61
      refine w_tx_upd (A := [_]) (F := fun c_ => (rpT (rpQ 59)).R h6 c_ (T3.mk (p21.x + ((makeQ (z37 - (2 : Int)) (2 : Int)) * (p23.x - p21.x))) (p21.y + ((makeQ (z37 - (2 : Int)) (2 : Int)) * (p23.y - p21.y))) (p21.z + ((makeQ (z37 - (2 : Int)) (2 : Int)) * (p23.z - p21.z))))) rfl (upd_box Try.sizeOf31 (Pc.here _) rfl rfl rfl rw_67 r44 rfl) ?_
      intro cs_68 rb_69
      refine w_nil (gq_in (gq_keep (e' := [(3, _), (4, _), (5, _), (6, _), (7, _), (8, _)]) ⟨rfl, rfl, rfl, rfl, rfl, rfl, trivial⟩ (gq_then (gc_seq (gc_region ?_)))))
      replace rb_55 := rb_55.mono ((((hg37.trans hh3).trans hh4).trans hh5).trans hh6)
      refine gl_x (F := fun v_ => (rpT (rpQ 2)).Is h6 v_ p21) (ox_load_box ty31 (Pc.here _) rfl rfl rb_55 rfl) (mem1 (.tail _ (.tail _ (.tail _ (.head _))))) rfl ?_
      intro v67 r67
      replace rb_58 := rb_58.mono ((((hg37.trans hh3).trans hh4).trans hh5).trans hh6)
      refine gl_x (F := fun v_ => (rpT (rpQ 2)).Is h6 v_ p23) (ox_load_box ty31 (Pc.here _) rfl rfl rb_58 rfl) (mem1 (.tail _ (.tail _ (.head _)))) rfl ?_
      intro v68 r68
      refine gl_x (F := fun v_ => (rpT (rpQ 59)).Is h6 v_ (T3.mk (p21.x + ((makeQ (z37 - (2 : Int)) (2 : Int)) * (p23.x - p21.x))) (p21.y + ((makeQ (z37 - (2 : Int)) (2 : Int)) * (p23.y - p21.y))) (p21.z + ((makeQ (z37 - (2 : Int)) (2 : Int)) * (p23.z - p21.z))))) (ox_load_box ty31 (Pc.here _) rfl rfl rb_69 rfl) (mem1 (.tail _ (.head _))) rfl ?_
      intro v69 r69
      replace rb_64 := rb_64.mono (((((hg29.trans hg37).trans hh3).trans hh4).trans hh5).trans hh6)
      refine gl_x (F := fun v_ => (rpT (rpQ 2)).Is h6 v_ p27) (ox_load_box ty31 (Pc.here _) rfl rfl rb_64 rfl) (mem1 (.head _)) rfl ?_
      intro v70 r70
      refine gl_call (vs := [_, _, _, _]) rfl rfl rfl rfl Try.call16 ⟨rfl, rfl, rfl, rfl, trivial⟩ (fun w hs => o_pg_touch hs (r67.le (Le.t (Le.q (l := 59) (by decide)))) (r68.le (Le.t (Le.q (l := 59) (by decide)))) r69 (r70.le (Le.t (Le.q (l := 59) (by decide)))) (by decide)) ?_
      intro v71 h7 hh7 r71
      obtain rfl : v71 = vI (touch2 (pr p21 0 1) (pr p23 0 1) (pr (T3.mk (p21.x + ((makeQ (z37 - (2 : Int)) (2 : Int)) * (p23.x - p21.x))) (p21.y + ((makeQ (z37 - (2 : Int)) (2 : Int)) * (p23.y - p21.y))) (p21.z + ((makeQ (z37 - (2 : Int)) (2 : Int)) * (p23.z - p21.z)))) 0 1) (pr p27 0 1)) := r71
      refine asg rfl rfl (gl_nil (gq_then (gc_seq (gc_region (mv rfl rfl ?_)))))
      replace rb_55 := rb_55.mono hh7
      refine gl_x (F := fun v_ => (rpT (rpQ 2)).Is h7 v_ p21) (ox_load_box ty31 (Pc.here _) rfl rfl rb_55 rfl) (mem1 (.tail _ (.tail _ (.tail _ (.head _))))) rfl ?_
      intro v73 r73
      replace rb_58 := rb_58.mono hh7
      refine gl_x (F := fun v_ => (rpT (rpQ 2)).Is h7 v_ p23) (ox_load_box ty31 (Pc.here _) rfl rfl rb_58 rfl) (mem1 (.tail _ (.tail _ (.head _)))) rfl ?_
      intro v74 r74
      replace rb_69 := rb_69.mono hh7
      refine gl_x (F := fun v_ => (rpT (rpQ 59)).Is h7 v_ (T3.mk (p21.x + ((makeQ (z37 - (2 : Int)) (2 : Int)) * (p23.x - p21.x))) (p21.y + ((makeQ (z37 - (2 : Int)) (2 : Int)) * (p23.y - p21.y))) (p21.z + ((makeQ (z37 - (2 : Int)) (2 : Int)) * (p23.z - p21.z))))) (ox_load_box ty31 (Pc.here _) rfl rfl rb_69 rfl) (mem1 (.tail _ (.head _))) rfl ?_
      intro v75 r75
      replace rb_64 := rb_64.mono hh7
      refine gl_x (F := fun v_ => (rpT (rpQ 2)).Is h7 v_ p27) (ox_load_box ty31 (Pc.here _) rfl rfl rb_64 rfl) (mem1 (.head _)) rfl ?_
      intro v76 r76
      refine gl_call (vs := [_, _, _, _]) rfl rfl rfl rfl Try.call17 ⟨rfl, rfl, rfl, rfl, trivial⟩ (fun w hs => o_r5_touch hs (r73.le (Le.t (Le.q (l := 59) (by decide)))) (r74.le (Le.t (Le.q (l := 59) (by decide)))) r75 (r76.le (Le.t (Le.q (l := 59) (by decide)))) (by decide)) ?_
      intro v77 h8 hh8 r77
      obtain rfl : v77 = vI (touchR (pr p21 0 1) (pr p23 0 1) (pr (T3.mk (p21.x + ((makeQ (z37 - (2 : Int)) (2 : Int)) * (p23.x - p21.x))) (p21.y + ((makeQ (z37 - (2 : Int)) (2 : Int)) * (p23.y - p21.y))) (p21.z + ((makeQ (z37 - (2 : Int)) (2 : Int)) * (p23.z - p21.z)))) 0 1) (pr p27 0 1)) := r77
      refine gv (OpV.fa (by exact fun e => e (by first | rfl | exact touch_eq _ _ _ _ | exact (touch_comm _ _ _ _).symm | exact (touch_swap1 _ _ _ _).symm | exact (touch_swap2 _ _ _ _).symm | assumption)) (ov_neq_i rfl rfl)) rfl (mv rfl rfl (gl_on rfl rfl rfl (mv rfl rfl (gl_on rfl rfl rfl ?_))))
      replace rb_69 := rb_69.mono hh8
      refine gl_x (F := fun v_ => (rpT (rpQ 59)).Is h8 v_ (T3.mk (p21.x + ((makeQ (z37 - (2 : Int)) (2 : Int)) * (p23.x - p21.x))) (p21.y + ((makeQ (z37 - (2 : Int)) (2 : Int)) * (p23.y - p21.y))) (p21.z + ((makeQ (z37 - (2 : Int)) (2 : Int)) * (p23.z - p21.z))))) (ox_load_box ty31 (Pc.here _) rfl rfl rb_69 rfl) (mem1 (.tail _ (.head _))) rfl ?_
      intro v81 r81
      refine gl_on rfl rfl rfl ?_
      replace rb_64 := rb_64.mono hh8
      refine gl_x (F := fun v_ => (rpT (rpQ 2)).Is h8 v_ p27) (ox_load_box ty31 (Pc.here _) rfl rfl rb_64 rfl) (mem1 (.head _)) rfl ?_
      intro v82 r82
      refine gl_on rfl rfl rfl ?_
      replace rb_55 := rb_55.mono hh8
      refine gl_x (F := fun v_ => (rpT (rpQ 2)).Is h8 v_ p21) (ox_load_box ty31 (Pc.here _) rfl rfl rb_55 rfl) (mem1 (.tail _ (.tail _ (.tail _ (.head _))))) rfl ?_
      intro v83 r83
      refine gl_on rfl rfl rfl ?_
      replace rb_58 := rb_58.mono hh8
      refine gl_x (F := fun v_ => (rpT (rpQ 2)).Is h8 v_ p23) (ox_load_box ty31 (Pc.here _) rfl rfl rb_58 rfl) (mem1 (.tail _ (.tail _ (.head _)))) rfl ?_
      intro v84 r84
      refine gl_on rfl rfl rfl ?_
      refine gl_call (vs := [_, _, _, _]) rfl rfl rfl rfl Try.call16 ⟨rfl, rfl, rfl, rfl, trivial⟩ (fun w hs => o_pg_touch hs r81 (r82.le (Le.t (Le.q (l := 59) (by decide)))) (r83.le (Le.t (Le.q (l := 59) (by decide)))) (r84.le (Le.t (Le.q (l := 59) (by decide)))) (by decide)) ?_
      intro v85 h9 hh9 r85
      obtain rfl : v85 = vI (touch2 (pr (T3.mk (p21.x + ((makeQ (z37 - (2 : Int)) (2 : Int)) * (p23.x - p21.x))) (p21.y + ((makeQ (z37 - (2 : Int)) (2 : Int)) * (p23.y - p21.y))) (p21.z + ((makeQ (z37 - (2 : Int)) (2 : Int)) * (p23.z - p21.z)))) 0 1) (pr p27 0 1) (pr p21 0 1) (pr p23 0 1)) := r85
      refine gl_on rfl rfl rfl (gv (OpV.fa (by exact fun e => e (by first | rfl | exact touch_eq _ _ _ _ | exact (touch_comm _ _ _ _).symm | exact (touch_swap1 _ _ _ _).symm | exact (touch_swap2 _ _ _ _).symm | assumption)) (ov_neq_i rfl rfl)) rfl (gv (ov_pick_f rfl rfl) rfl (mv rfl rfl (gl_on rfl rfl rfl (mv rfl rfl (gl_on rfl rfl rfl ?_))))))
      replace rb_58 := rb_58.mono hh9
      refine gl_x (F := fun v_ => (rpT (rpQ 2)).Is h9 v_ p23) (ox_load_box ty31 (Pc.here _) rfl rfl rb_58 rfl) (mem1 (.tail _ (.tail _ (.head _)))) rfl ?_
      intro v90 r90
      refine gl_on rfl rfl rfl ?_
      replace rb_55 := rb_55.mono hh9
      refine gl_x (F := fun v_ => (rpT (rpQ 2)).Is h9 v_ p21) (ox_load_box ty31 (Pc.here _) rfl rfl rb_55 rfl) (mem1 (.tail _ (.tail _ (.tail _ (.head _))))) rfl ?_
      intro v91 r91
      refine gl_on rfl rfl rfl ?_
      replace rb_69 := rb_69.mono hh9
      refine gl_x (F := fun v_ => (rpT (rpQ 59)).Is h9 v_ (T3.mk (p21.x + ((makeQ (z37 - (2 : Int)) (2 : Int)) * (p23.x - p21.x))) (p21.y + ((makeQ (z37 - (2 : Int)) (2 : Int)) * (p23.y - p21.y))) (p21.z + ((makeQ (z37 - (2 : Int)) (2 : Int)) * (p23.z - p21.z))))) (ox_load_box ty31 (Pc.here _) rfl rfl rb_69 rfl) (mem1 (.tail _ (.head _))) rfl ?_
      intro v92 r92
      refine gl_on rfl rfl rfl ?_
      replace rb_64 := rb_64.mono hh9
      refine gl_x (F := fun v_ => (rpT (rpQ 2)).Is h9 v_ p27) (ox_load_box ty31 (Pc.here _) rfl rfl rb_64 rfl) (mem1 (.head _)) rfl ?_
      intro v93 r93
      refine gl_on rfl rfl rfl ?_
      refine gl_call (vs := [_, _, _, _]) rfl rfl rfl rfl Try.call16 ⟨rfl, rfl, rfl, rfl, trivial⟩ (fun w hs => o_pg_touch hs (r90.le (Le.t (Le.q (l := 59) (by decide)))) (r91.le (Le.t (Le.q (l := 59) (by decide)))) r92 (r93.le (Le.t (Le.q (l := 59) (by decide)))) (by decide)) ?_
      intro v94 h10 hh10 r94
      obtain rfl : v94 = vI (touch2 (pr p23 0 1) (pr p21 0 1) (pr (T3.mk (p21.x + ((makeQ (z37 - (2 : Int)) (2 : Int)) * (p23.x - p21.x))) (p21.y + ((makeQ (z37 - (2 : Int)) (2 : Int)) * (p23.y - p21.y))) (p21.z + ((makeQ (z37 - (2 : Int)) (2 : Int)) * (p23.z - p21.z)))) 0 1) (pr p27 0 1)) := r94
      refine gl_on rfl rfl rfl (gv (OpV.fa (by exact fun e => e (by first | rfl | exact touch_eq _ _ _ _ | exact (touch_comm _ _ _ _).symm | exact (touch_swap1 _ _ _ _).symm | exact (touch_swap2 _ _ _ _).symm | assumption)) (ov_neq_i rfl rfl)) rfl (gv (ov_pick_f rfl rfl) rfl (mv rfl rfl (gl_on rfl rfl rfl (mv rfl rfl (gl_on rfl rfl rfl ?_))))))
      replace rb_55 := rb_55.mono hh10
      refine gl_x (F := fun v_ => (rpT (rpQ 2)).Is h10 v_ p21) (ox_load_box ty31 (Pc.here _) rfl rfl rb_55 rfl) (mem1 (.tail _ (.tail _ (.tail _ (.head _))))) rfl ?_
      intro v99 r99
      refine gl_on rfl rfl rfl ?_
      replace rb_58 := rb_58.mono hh10
      refine gl_x (F := fun v_ => (rpT (rpQ 2)).Is h10 v_ p23) (ox_load_box ty31 (Pc.here _) rfl rfl rb_58 rfl) (mem1 (.tail _ (.tail _ (.head _)))) rfl ?_
      intro v100 r100
      refine gl_on rfl rfl rfl ?_
      replace rb_64 := rb_64.mono hh10
      refine gl_x (F := fun v_ => (rpT (rpQ 2)).Is h10 v_ p27) (ox_load_box ty31 (Pc.here _) rfl rfl rb_64 rfl) (mem1 (.head _)) rfl ?_
      intro v101 r101
      refine gl_on rfl rfl rfl ?_
      replace rb_69 := rb_69.mono hh10
      refine gl_x (F := fun v_ => (rpT (rpQ 59)).Is h10 v_ (T3.mk (p21.x + ((makeQ (z37 - (2 : Int)) (2 : Int)) * (p23.x - p21.x))) (p21.y + ((makeQ (z37 - (2 : Int)) (2 : Int)) * (p23.y - p21.y))) (p21.z + ((makeQ (z37 - (2 : Int)) (2 : Int)) * (p23.z - p21.z))))) (ox_load_box ty31 (Pc.here _) rfl rfl rb_69 rfl) (mem1 (.tail _ (.head _))) rfl ?_
      intro v102 r102
      refine gl_on rfl rfl rfl ?_
      refine gl_call (vs := [_, _, _, _]) rfl rfl rfl rfl Try.call16 ⟨rfl, rfl, rfl, rfl, trivial⟩ (fun w hs => o_pg_touch hs (r99.le (Le.t (Le.q (l := 59) (by decide)))) (r100.le (Le.t (Le.q (l := 59) (by decide)))) (r101.le (Le.t (Le.q (l := 59) (by decide)))) r102 (by decide)) ?_
      intro v103 h11 hh11 r103
      obtain rfl : v103 = vI (touch2 (pr p21 0 1) (pr p23 0 1) (pr p27 0 1) (pr (T3.mk (p21.x + ((makeQ (z37 - (2 : Int)) (2 : Int)) * (p23.x - p21.x))) (p21.y + ((makeQ (z37 - (2 : Int)) (2 : Int)) * (p23.y - p21.y))) (p21.z + ((makeQ (z37 - (2 : Int)) (2 : Int)) * (p23.z - p21.z)))) 0 1)) := r103
      refine gl_on rfl rfl rfl (gv (OpV.fa (by exact fun e => e (by first | rfl | exact touch_eq _ _ _ _ | exact (touch_comm _ _ _ _).symm | exact (touch_swap1 _ _ _ _).symm | exact (touch_swap2 _ _ _ _).symm | assumption)) (ov_neq_i rfl rfl)) rfl (gv (ov_pick_f rfl rfl) rfl (gl_nil (gq_keep (e' := [(3, _), (4, _), (105, _)]) ⟨rfl, rfl, rfl, trivial⟩ (gq_then (gc_cond_f rfl (gc_skip (gq_in (gq_then (gc_region (mv rfl rfl (gv (ov_add_i (q := 1) rfl rfl (by omega) (by omega)) rfl (asg rfl rfl ?_)))))))))))))
      refine gl_nil (gq_drop (A := []) (gq_drop (A := []) (gq_drop (A := []) (gq_drop (A := []) ?_))))
      refine gq_round ((i + 1), k37, h11) ?_ ?_ ⟨?_, ?_, trivial⟩ ?_ rfl
      ·
       refine ⟨(((((((((((((((hmma.trans hg21).trans hg23).trans hg25).trans hg27).trans hg29).trans hg37).trans hh3).trans hh4).trans hh5).trans hh6).trans hh7).trans hh8).trans hh9).trans hh10).trans hh11), ?_⟩
       refine ⟨(by omega), ?_⟩
       exact (by omega)
      ·
       dsimp only
       omega
      · exact rfl
      · exact rfl
      · exact rfl
     ·
      refine gc_seq (gc_region (gv (ov_eql_i (q := 2) rfl rfl) rfl (asg rfl rfl (gl_nil (gq_then ?_)))))
      refine gc_cond rfl (fun hc45 => ?_) (fun hc45 => ?_)
      ·
       refine gc_seq ?_
       refine gc_draw1 (A := [_, _, _, _]) 10 [] [(0, .q), (1, .q), (5, .q), (6, .q), (2, .c), (3, .q), (4, .c), (7, .c), (8, .c), (9, .c), (10, .t)] mixed (fun x hx => by cases hx) (by kernel_rfl) (fun x hx => by cases hx) ?_
       replace rb_55 := rb_55.mono (hg27.trans hg29)
       refine w_qx (F := fun v_ => (rpT (rpQ 2)).Is g29 v_ p21) rfl (ox_load_box ty31 (Pc.here _) rfl rfl rb_55 rfl) (mem1 (.tail _ (.tail _ (.tail _ (.head _))))) rfl ?_
       intro v47 r47
       refine w_q rfl (fun h' L' hh hR => ov_move rfl) rfl ?_
       replace rb_58 := rb_58.mono (hg27.trans hg29)
       refine w_qx (F := fun v_ => (rpT (rpQ 2)).Is g29 v_ p23) rfl (ox_load_box ty31 (Pc.here _) rfl rfl rb_58 rfl) (mem1 (.tail _ (.tail _ (.head _)))) rfl ?_
       intro v52 r52
       refine w_qx (F := fun v_ => (rpT (rpQ 2)).Is g29 v_ p21) rfl (ox_load_box ty31 (Pc.here _) rfl rfl rb_55 rfl) (mem1 (.tail _ (.tail _ (.tail _ (.head _))))) rfl ?_
       intro v53 r53
       refine w_c rfl ?_
       replace hl := hl.mono hg29
       refine s_call_mut (A := [_, _, _, _]) (vs := [_, vI (7)]) Try.call11 ⟨rfl, rfl, trivial⟩ (fun X w hs => dice_next hl (by first | omega | exact Nat.zero_le _) (by omega) (by omega) hs) rfl (mem_kept (by simp)) ?_
       intro v49 g49 q49 hg49 hr49
       obtain ⟨k49, z49, rfl, hk49, rfl, hz49, hy49⟩ := hr49
       refine w_q rfl (fun h' L' hh hR => ov_sub_i (q := 2) rfl rfl (by omega) (by omega)) rfl ?_
       refine w_c rfl ?_
       refine s_call (vs := [_, vI (2)]) Try.call14 ⟨rfl, rfl, trivial⟩ (fun w hs => o_rref_frac hs (by omega) (by omega) (by decide) (by decide)) rfl ?_
       intro v51 h3 hh3 r51
       change (rpQ 2).Is h3 v51 (makeQ (z49 - (2 : Int)) (2 : Int)) at r51
       refine w_c rfl ?_
       replace r52 := r52.mono (hg49.trans hh3)
       replace r53 := r53.mono (hg49.trans hh3)
       refine s_call (vs := [_, _]) Try.call15 ⟨rfl, rfl, trivial⟩ (fun w hs => o_r4_sub hs r52 r53 (by decide)) rfl ?_
       intro v54 h4 hh4 r54
       change (rpT (rpQ (2 + 3 * 2 + 3))).Is h4 v54 (T3.mk (p23.x - p21.x) (p23.y - p21.y) (p23.z - p21.z)) at r54
       replace r54 := Rp.Is.le r54 (Le.t (Le.q (l := 11) (by omega)))
       refine w_c rfl ?_
       replace r51 := r51.mono hh4
       refine s_call (vs := [_, _]) Try.call13 ⟨rfl, rfl, trivial⟩ (fun w hs => o_r4_scale hs r51 r54 (by decide)) rfl ?_
       intro v55 h5 hh5 r55
       change (rpT (rpQ (11 + 3 * 2 + 1))).Is h5 v55 (T3.mk ((makeQ (z49 - (2 : Int)) (2 : Int)) * (p23.x - p21.x)) ((makeQ (z49 - (2 : Int)) (2 : Int)) * (p23.y - p21.y)) ((makeQ (z49 - (2 : Int)) (2 : Int)) * (p23.z - p21.z))) at r55
       replace r55 := Rp.Is.le r55 (Le.t (Le.q (l := 18) (by omega)))
       refine w_c rfl ?_
       replace r47 := r47.mono (((hg49.trans hh3).trans hh4).trans hh5)
       refine s_call (vs := [_, _]) Try.call12 ⟨rfl, rfl, trivial⟩ (fun w hs => o_r4_add hs r47 r55 (by decide)) rfl ?_
       intro v56 h6 hh6 r56
       change (rpT (rpQ (2 + 3 * 18 + 3))).Is h6 v56 (T3.mk (p21.x + ((makeQ (z49 - (2 : Int)) (2 : Int)) * (p23.x - p21.x))) (p21.y + ((makeQ (z49 - (2 : Int)) (2 : Int)) * (p23.y - p21.y))) (p21.z + ((makeQ (z49 - (2 : Int)) (2 : Int)) * (p23.z - p21.z)))) at r56
       replace r56 := Rp.Is.le r56 (Le.t (Le.q (l := 59) (by omega)))
       replace rb_61 := rb_61.mono ((((((hg27.trans hg29).trans hg49).trans hh3).trans hh4).trans hh5).trans hh6)
       have rw_70 := (Le.t (Le.q (l := 59) (by decide))).R rb_61
       refine w_tx_upd (A := [_]) (F := fun c_ => (rpT (rpQ 59)).R h6 c_ (T3.mk (p21.x + ((makeQ (z49 - (2 : Int)) (2 : Int)) * (p23.x - p21.x))) (p21.y + ((makeQ (z49 - (2 : Int)) (2 : Int)) * (p23.y - p21.y))) (p21.z + ((makeQ (z49 - (2 : Int)) (2 : Int)) * (p23.z - p21.z))))) rfl (upd_box Try.sizeOf31 (Pc.here _) rfl rfl rfl rw_70 r56 rfl) ?_
       intro cs_71 rb_72
       refine w_nil (gq_keep (e' := [(3, _), (4, _), (5, _), (6, _), (7, _), (8, _)]) ⟨rfl, rfl, rfl, rfl, rfl, rfl, trivial⟩ (gq_then ?_))
       refine gc_draw1 (A := [_, _, _, _]) 10 [] [(0, .q), (1, .q), (5, .q), (6, .q), (2, .c), (3, .q), (4, .c), (7, .c), (8, .c), (9, .c), (10, .t)] mixed (fun x hx => by cases hx) (by kernel_rfl) (fun x hx => by cases hx) ?_
       replace rb_55 := rb_55.mono ((((hg49.trans hh3).trans hh4).trans hh5).trans hh6)
       refine w_qx (F := fun v_ => (rpT (rpQ 2)).Is h6 v_ p21) rfl (ox_load_box ty31 (Pc.here _) rfl rfl rb_55 rfl) (mem1 (.tail _ (.tail _ (.tail _ (.head _))))) rfl ?_
       intro v57 r57
       refine w_q rfl (fun h' L' hh hR => ov_move rfl) rfl ?_
       replace rb_58 := rb_58.mono ((((hg49.trans hh3).trans hh4).trans hh5).trans hh6)
       refine w_qx (F := fun v_ => (rpT (rpQ 2)).Is h6 v_ p23) rfl (ox_load_box ty31 (Pc.here _) rfl rfl rb_58 rfl) (mem1 (.tail _ (.tail _ (.head _)))) rfl ?_
       intro v62 r62
       refine w_qx (F := fun v_ => (rpT (rpQ 2)).Is h6 v_ p21) rfl (ox_load_box ty31 (Pc.here _) rfl rfl rb_55 rfl) (mem1 (.tail _ (.tail _ (.tail _ (.head _))))) rfl ?_
       intro v63 r63
       refine w_c rfl ?_
       replace hl := hl.mono ((((hg49.trans hh3).trans hh4).trans hh5).trans hh6)
       refine s_call_mut (A := [_, _, _, _]) (vs := [_, vI (7)]) Try.call11 ⟨rfl, rfl, trivial⟩ (fun X w hs => dice_next hl (by first | omega | exact Nat.zero_le _) (by omega) (by omega) hs) rfl (mem_kept (by simp)) ?_
       intro v59 g59 q59 hg59 hr59
       obtain ⟨k59, z59, rfl, hk59, rfl, hz59, hy59⟩ := hr59
       refine w_q rfl (fun h' L' hh hR => ov_sub_i (q := 2) rfl rfl (by omega) (by omega)) rfl ?_
       refine w_c rfl ?_
       refine s_call (vs := [_, vI (2)]) Try.call14 ⟨rfl, rfl, trivial⟩ (fun w hs => o_rref_frac hs (by omega) (by omega) (by decide) (by decide)) rfl ?_
       intro v61 h7 hh7 r61
       change (rpQ 2).Is h7 v61 (makeQ (z59 - (2 : Int)) (2 : Int)) at r61
       refine w_c rfl ?_
       replace r62 := r62.mono (hg59.trans hh7)
       replace r63 := r63.mono (hg59.trans hh7)
       refine s_call (vs := [_, _]) Try.call15 ⟨rfl, rfl, trivial⟩ (fun w hs => o_r4_sub hs r62 r63 (by decide)) rfl ?_
       intro v64 h8 hh8 r64
       change (rpT (rpQ (2 + 3 * 2 + 3))).Is h8 v64 (T3.mk (p23.x - p21.x) (p23.y - p21.y) (p23.z - p21.z)) at r64
       replace r64 := Rp.Is.le r64 (Le.t (Le.q (l := 11) (by omega)))
       refine w_c rfl ?_
       replace r61 := r61.mono hh8
       refine s_call (vs := [_, _]) Try.call13 ⟨rfl, rfl, trivial⟩ (fun w hs => o_r4_scale hs r61 r64 (by decide)) rfl ?_
       intro v65 h9 hh9 r65
       change (rpT (rpQ (11 + 3 * 2 + 1))).Is h9 v65 (T3.mk ((makeQ (z59 - (2 : Int)) (2 : Int)) * (p23.x - p21.x)) ((makeQ (z59 - (2 : Int)) (2 : Int)) * (p23.y - p21.y)) ((makeQ (z59 - (2 : Int)) (2 : Int)) * (p23.z - p21.z))) at r65
       replace r65 := Rp.Is.le r65 (Le.t (Le.q (l := 18) (by omega)))
       refine w_c rfl ?_
       replace r57 := r57.mono (((hg59.trans hh7).trans hh8).trans hh9)
       refine s_call (vs := [_, _]) Try.call12 ⟨rfl, rfl, trivial⟩ (fun w hs => o_r4_add hs r57 r65 (by decide)) rfl ?_
       intro v66 h10 hh10 r66
       change (rpT (rpQ (2 + 3 * 18 + 3))).Is h10 v66 (T3.mk (p21.x + ((makeQ (z59 - (2 : Int)) (2 : Int)) * (p23.x - p21.x))) (p21.y + ((makeQ (z59 - (2 : Int)) (2 : Int)) * (p23.y - p21.y))) (p21.z + ((makeQ (z59 - (2 : Int)) (2 : Int)) * (p23.z - p21.z)))) at r66
       replace r66 := Rp.Is.le r66 (Le.t (Le.q (l := 59) (by omega)))
       replace rb_64 := rb_64.mono ((((((((((hg29.trans hg49).trans hh3).trans hh4).trans hh5).trans hh6).trans hg59).trans hh7).trans hh8).trans hh9).trans hh10)
       have rw_73 := (Le.t (Le.q (l := 59) (by decide))).R rb_64
       refine w_tx_upd (A := []) (F := fun c_ => (rpT (rpQ 59)).R h10 c_ (T3.mk (p21.x + ((makeQ (z59 - (2 : Int)) (2 : Int)) * (p23.x - p21.x))) (p21.y + ((makeQ (z59 - (2 : Int)) (2 : Int)) * (p23.y - p21.y))) (p21.z + ((makeQ (z59 - (2 : Int)) (2 : Int)) * (p23.z - p21.z))))) rfl (upd_box Try.sizeOf31 (Pc.here _) rfl rfl rfl rw_73 r66 rfl) ?_
       intro cs_74 rb_75
       refine w_nil (gq_in (gq_keep (e' := [(3, _), (4, _), (5, _), (6, _), (7, _), (8, _)]) ⟨rfl, rfl, rfl, rfl, rfl, rfl, trivial⟩ (gq_then (gc_seq (gc_region ?_)))))
       replace rb_55 := rb_55.mono ((((hg59.trans hh7).trans hh8).trans hh9).trans hh10)
       refine gl_x (F := fun v_ => (rpT (rpQ 2)).Is h10 v_ p21) (ox_load_box ty31 (Pc.here _) rfl rfl rb_55 rfl) (mem1 (.tail _ (.tail _ (.tail _ (.head _))))) rfl ?_
       intro v67 r67
       replace rb_58 := rb_58.mono ((((hg59.trans hh7).trans hh8).trans hh9).trans hh10)
       refine gl_x (F := fun v_ => (rpT (rpQ 2)).Is h10 v_ p23) (ox_load_box ty31 (Pc.here _) rfl rfl rb_58 rfl) (mem1 (.tail _ (.tail _ (.head _)))) rfl ?_
       intro v68 r68
       replace rb_72 := rb_72.mono ((((hg59.trans hh7).trans hh8).trans hh9).trans hh10)
       refine gl_x (F := fun v_ => (rpT (rpQ 59)).Is h10 v_ (T3.mk (p21.x + ((makeQ (z49 - (2 : Int)) (2 : Int)) * (p23.x - p21.x))) (p21.y + ((makeQ (z49 - (2 : Int)) (2 : Int)) * (p23.y - p21.y))) (p21.z + ((makeQ (z49 - (2 : Int)) (2 : Int)) * (p23.z - p21.z))))) (ox_load_box ty31 (Pc.here _) rfl rfl rb_72 rfl) (mem1 (.tail _ (.head _))) rfl ?_
       intro v69 r69
       refine gl_x (F := fun v_ => (rpT (rpQ 59)).Is h10 v_ (T3.mk (p21.x + ((makeQ (z59 - (2 : Int)) (2 : Int)) * (p23.x - p21.x))) (p21.y + ((makeQ (z59 - (2 : Int)) (2 : Int)) * (p23.y - p21.y))) (p21.z + ((makeQ (z59 - (2 : Int)) (2 : Int)) * (p23.z - p21.z))))) (ox_load_box ty31 (Pc.here _) rfl rfl rb_75 rfl) (mem1 (.head _)) rfl ?_
       intro v70 r70
       refine gl_call (vs := [_, _, _, _]) rfl rfl rfl rfl Try.call16 ⟨rfl, rfl, rfl, rfl, trivial⟩ (fun w hs => o_pg_touch hs (r67.le (Le.t (Le.q (l := 59) (by decide)))) (r68.le (Le.t (Le.q (l := 59) (by decide)))) r69 r70 (by decide)) ?_
       intro v71 h11 hh11 r71
       obtain rfl : v71 = vI (touch2 (pr p21 0 1) (pr p23 0 1) (pr (T3.mk (p21.x + ((makeQ (z49 - (2 : Int)) (2 : Int)) * (p23.x - p21.x))) (p21.y + ((makeQ (z49 - (2 : Int)) (2 : Int)) * (p23.y - p21.y))) (p21.z + ((makeQ (z49 - (2 : Int)) (2 : Int)) * (p23.z - p21.z)))) 0 1) (pr (T3.mk (p21.x + ((makeQ (z59 - (2 : Int)) (2 : Int)) * (p23.x - p21.x))) (p21.y + ((makeQ (z59 - (2 : Int)) (2 : Int)) * (p23.y - p21.y))) (p21.z + ((makeQ (z59 - (2 : Int)) (2 : Int)) * (p23.z - p21.z)))) 0 1)) := r71
       refine asg rfl rfl (gl_nil (gq_then (gc_seq (gc_region (mv rfl rfl ?_)))))
       replace rb_55 := rb_55.mono hh11
       refine gl_x (F := fun v_ => (rpT (rpQ 2)).Is h11 v_ p21) (ox_load_box ty31 (Pc.here _) rfl rfl rb_55 rfl) (mem1 (.tail _ (.tail _ (.tail _ (.head _))))) rfl ?_
       intro v73 r73
       replace rb_58 := rb_58.mono hh11
       refine gl_x (F := fun v_ => (rpT (rpQ 2)).Is h11 v_ p23) (ox_load_box ty31 (Pc.here _) rfl rfl rb_58 rfl) (mem1 (.tail _ (.tail _ (.head _)))) rfl ?_
       intro v74 r74
       replace rb_72 := rb_72.mono hh11
       refine gl_x (F := fun v_ => (rpT (rpQ 59)).Is h11 v_ (T3.mk (p21.x + ((makeQ (z49 - (2 : Int)) (2 : Int)) * (p23.x - p21.x))) (p21.y + ((makeQ (z49 - (2 : Int)) (2 : Int)) * (p23.y - p21.y))) (p21.z + ((makeQ (z49 - (2 : Int)) (2 : Int)) * (p23.z - p21.z))))) (ox_load_box ty31 (Pc.here _) rfl rfl rb_72 rfl) (mem1 (.tail _ (.head _))) rfl ?_
       intro v75 r75
       replace rb_75 := rb_75.mono hh11
       refine gl_x (F := fun v_ => (rpT (rpQ 59)).Is h11 v_ (T3.mk (p21.x + ((makeQ (z59 - (2 : Int)) (2 : Int)) * (p23.x - p21.x))) (p21.y + ((makeQ (z59 - (2 : Int)) (2 : Int)) * (p23.y - p21.y))) (p21.z + ((makeQ (z59 - (2 : Int)) (2 : Int)) * (p23.z - p21.z))))) (ox_load_box ty31 (Pc.here _) rfl rfl rb_75 rfl) (mem1 (.head _)) rfl ?_
       intro v76 r76
       refine gl_call (vs := [_, _, _, _]) rfl rfl rfl rfl Try.call17 ⟨rfl, rfl, rfl, rfl, trivial⟩ (fun w hs => o_r5_touch hs (r73.le (Le.t (Le.q (l := 59) (by decide)))) (r74.le (Le.t (Le.q (l := 59) (by decide)))) r75 r76 (by decide)) ?_
       intro v77 h12 hh12 r77
       obtain rfl : v77 = vI (touchR (pr p21 0 1) (pr p23 0 1) (pr (T3.mk (p21.x + ((makeQ (z49 - (2 : Int)) (2 : Int)) * (p23.x - p21.x))) (p21.y + ((makeQ (z49 - (2 : Int)) (2 : Int)) * (p23.y - p21.y))) (p21.z + ((makeQ (z49 - (2 : Int)) (2 : Int)) * (p23.z - p21.z)))) 0 1) (pr (T3.mk (p21.x + ((makeQ (z59 - (2 : Int)) (2 : Int)) * (p23.x - p21.x))) (p21.y + ((makeQ (z59 - (2 : Int)) (2 : Int)) * (p23.y - p21.y))) (p21.z + ((makeQ (z59 - (2 : Int)) (2 : Int)) * (p23.z - p21.z)))) 0 1)) := r77
       refine gv (OpV.fa (by exact fun e => e (by first | rfl | exact touch_eq _ _ _ _ | exact (touch_comm _ _ _ _).symm | exact (touch_swap1 _ _ _ _).symm | exact (touch_swap2 _ _ _ _).symm | assumption)) (ov_neq_i rfl rfl)) rfl (mv rfl rfl (gl_on rfl rfl rfl (mv rfl rfl (gl_on rfl rfl rfl ?_))))
       replace rb_72 := rb_72.mono hh12
       refine gl_x (F := fun v_ => (rpT (rpQ 59)).Is h12 v_ (T3.mk (p21.x + ((makeQ (z49 - (2 : Int)) (2 : Int)) * (p23.x - p21.x))) (p21.y + ((makeQ (z49 - (2 : Int)) (2 : Int)) * (p23.y - p21.y))) (p21.z + ((makeQ (z49 - (2 : Int)) (2 : Int)) * (p23.z - p21.z))))) (ox_load_box ty31 (Pc.here _) rfl rfl rb_72 rfl) (mem1 (.tail _ (.head _))) rfl ?_
       intro v81 r81
       refine gl_on rfl rfl rfl ?_
       replace rb_75 := rb_75.mono hh12
       refine gl_x (F := fun v_ => (rpT (rpQ 59)).Is h12 v_ (T3.mk (p21.x + ((makeQ (z59 - (2 : Int)) (2 : Int)) * (p23.x - p21.x))) (p21.y + ((makeQ (z59 - (2 : Int)) (2 : Int)) * (p23.y - p21.y))) (p21.z + ((makeQ (z59 - (2 : Int)) (2 : Int)) * (p23.z - p21.z))))) (ox_load_box ty31 (Pc.here _) rfl rfl rb_75 rfl) (mem1 (.head _)) rfl ?_
       intro v82 r82
       refine gl_on rfl rfl rfl ?_
       replace rb_55 := rb_55.mono hh12
       refine gl_x (F := fun v_ => (rpT (rpQ 2)).Is h12 v_ p21) (ox_load_box ty31 (Pc.here _) rfl rfl rb_55 rfl) (mem1 (.tail _ (.tail _ (.tail _ (.head _))))) rfl ?_
       intro v83 r83
       refine gl_on rfl rfl rfl ?_
       replace rb_58 := rb_58.mono hh12
       refine gl_x (F := fun v_ => (rpT (rpQ 2)).Is h12 v_ p23) (ox_load_box ty31 (Pc.here _) rfl rfl rb_58 rfl) (mem1 (.tail _ (.tail _ (.head _)))) rfl ?_
       intro v84 r84
       refine gl_on rfl rfl rfl ?_
       refine gl_call (vs := [_, _, _, _]) rfl rfl rfl rfl Try.call16 ⟨rfl, rfl, rfl, rfl, trivial⟩ (fun w hs => o_pg_touch hs r81 r82 (r83.le (Le.t (Le.q (l := 59) (by decide)))) (r84.le (Le.t (Le.q (l := 59) (by decide)))) (by decide)) ?_
       intro v85 h13 hh13 r85
       obtain rfl : v85 = vI (touch2 (pr (T3.mk (p21.x + ((makeQ (z49 - (2 : Int)) (2 : Int)) * (p23.x - p21.x))) (p21.y + ((makeQ (z49 - (2 : Int)) (2 : Int)) * (p23.y - p21.y))) (p21.z + ((makeQ (z49 - (2 : Int)) (2 : Int)) * (p23.z - p21.z)))) 0 1) (pr (T3.mk (p21.x + ((makeQ (z59 - (2 : Int)) (2 : Int)) * (p23.x - p21.x))) (p21.y + ((makeQ (z59 - (2 : Int)) (2 : Int)) * (p23.y - p21.y))) (p21.z + ((makeQ (z59 - (2 : Int)) (2 : Int)) * (p23.z - p21.z)))) 0 1) (pr p21 0 1) (pr p23 0 1)) := r85
       refine gl_on rfl rfl rfl (gv (OpV.fa (by exact fun e => e (by first | rfl | exact touch_eq _ _ _ _ | exact (touch_comm _ _ _ _).symm | exact (touch_swap1 _ _ _ _).symm | exact (touch_swap2 _ _ _ _).symm | assumption)) (ov_neq_i rfl rfl)) rfl (gv (ov_pick_f rfl rfl) rfl (mv rfl rfl (gl_on rfl rfl rfl (mv rfl rfl (gl_on rfl rfl rfl ?_))))))
       replace rb_58 := rb_58.mono hh13
       refine gl_x (F := fun v_ => (rpT (rpQ 2)).Is h13 v_ p23) (ox_load_box ty31 (Pc.here _) rfl rfl rb_58 rfl) (mem1 (.tail _ (.tail _ (.head _)))) rfl ?_
       intro v90 r90
       refine gl_on rfl rfl rfl ?_
       replace rb_55 := rb_55.mono hh13
       refine gl_x (F := fun v_ => (rpT (rpQ 2)).Is h13 v_ p21) (ox_load_box ty31 (Pc.here _) rfl rfl rb_55 rfl) (mem1 (.tail _ (.tail _ (.tail _ (.head _))))) rfl ?_
       intro v91 r91
       refine gl_on rfl rfl rfl ?_
       replace rb_72 := rb_72.mono hh13
       refine gl_x (F := fun v_ => (rpT (rpQ 59)).Is h13 v_ (T3.mk (p21.x + ((makeQ (z49 - (2 : Int)) (2 : Int)) * (p23.x - p21.x))) (p21.y + ((makeQ (z49 - (2 : Int)) (2 : Int)) * (p23.y - p21.y))) (p21.z + ((makeQ (z49 - (2 : Int)) (2 : Int)) * (p23.z - p21.z))))) (ox_load_box ty31 (Pc.here _) rfl rfl rb_72 rfl) (mem1 (.tail _ (.head _))) rfl ?_
       intro v92 r92
       refine gl_on rfl rfl rfl ?_
       replace rb_75 := rb_75.mono hh13
       refine gl_x (F := fun v_ => (rpT (rpQ 59)).Is h13 v_ (T3.mk (p21.x + ((makeQ (z59 - (2 : Int)) (2 : Int)) * (p23.x - p21.x))) (p21.y + ((makeQ (z59 - (2 : Int)) (2 : Int)) * (p23.y - p21.y))) (p21.z + ((makeQ (z59 - (2 : Int)) (2 : Int)) * (p23.z - p21.z))))) (ox_load_box ty31 (Pc.here _) rfl rfl rb_75 rfl) (mem1 (.head _)) rfl ?_
       intro v93 r93
       refine gl_on rfl rfl rfl ?_
       refine gl_call (vs := [_, _, _, _]) rfl rfl rfl rfl Try.call16 ⟨rfl, rfl, rfl, rfl, trivial⟩ (fun w hs => o_pg_touch hs (r90.le (Le.t (Le.q (l := 59) (by decide)))) (r91.le (Le.t (Le.q (l := 59) (by decide)))) r92 r93 (by decide)) ?_
       intro v94 h14 hh14 r94
       obtain rfl : v94 = vI (touch2 (pr p23 0 1) (pr p21 0 1) (pr (T3.mk (p21.x + ((makeQ (z49 - (2 : Int)) (2 : Int)) * (p23.x - p21.x))) (p21.y + ((makeQ (z49 - (2 : Int)) (2 : Int)) * (p23.y - p21.y))) (p21.z + ((makeQ (z49 - (2 : Int)) (2 : Int)) * (p23.z - p21.z)))) 0 1) (pr (T3.mk (p21.x + ((makeQ (z59 - (2 : Int)) (2 : Int)) * (p23.x - p21.x))) (p21.y + ((makeQ (z59 - (2 : Int)) (2 : Int)) * (p23.y - p21.y))) (p21.z + ((makeQ (z59 - (2 : Int)) (2 : Int)) * (p23.z - p21.z)))) 0 1)) := r94
       refine gl_on rfl rfl rfl (gv (OpV.fa (by exact fun e => e (by first | rfl | exact touch_eq _ _ _ _ | exact (touch_comm _ _ _ _).symm | exact (touch_swap1 _ _ _ _).symm | exact (touch_swap2 _ _ _ _).symm | assumption)) (ov_neq_i rfl rfl)) rfl (gv (ov_pick_f rfl rfl) rfl (mv rfl rfl (gl_on rfl rfl rfl (mv rfl rfl (gl_on rfl rfl rfl ?_))))))
       replace rb_55 := rb_55.mono hh14
       refine gl_x (F := fun v_ => (rpT (rpQ 2)).Is h14 v_ p21) (ox_load_box ty31 (Pc.here _) rfl rfl rb_55 rfl) (mem1 (.tail _ (.tail _ (.tail _ (.head _))))) rfl ?_
       intro v99 r99
       refine gl_on rfl rfl rfl ?_
       replace rb_58 := rb_58.mono hh14
       refine gl_x (F := fun v_ => (rpT (rpQ 2)).Is h14 v_ p23) (ox_load_box ty31 (Pc.here _) rfl rfl rb_58 rfl) (mem1 (.tail _ (.tail _ (.head _)))) rfl ?_
       intro v100 r100
       refine gl_on rfl rfl rfl ?_
       replace rb_75 := rb_75.mono hh14
       refine gl_x (F := fun v_ => (rpT (rpQ 59)).Is h14 v_ (T3.mk (p21.x + ((makeQ (z59 - (2 : Int)) (2 : Int)) * (p23.x - p21.x))) (p21.y + ((makeQ (z59 - (2 : Int)) (2 : Int)) * (p23.y - p21.y))) (p21.z + ((makeQ (z59 - (2 : Int)) (2 : Int)) * (p23.z - p21.z))))) (ox_load_box ty31 (Pc.here _) rfl rfl rb_75 rfl) (mem1 (.head _)) rfl ?_
       intro v101 r101
       refine gl_on rfl rfl rfl ?_
       replace rb_72 := rb_72.mono hh14
       refine gl_x (F := fun v_ => (rpT (rpQ 59)).Is h14 v_ (T3.mk (p21.x + ((makeQ (z49 - (2 : Int)) (2 : Int)) * (p23.x - p21.x))) (p21.y + ((makeQ (z49 - (2 : Int)) (2 : Int)) * (p23.y - p21.y))) (p21.z + ((makeQ (z49 - (2 : Int)) (2 : Int)) * (p23.z - p21.z))))) (ox_load_box ty31 (Pc.here _) rfl rfl rb_72 rfl) (mem1 (.tail _ (.head _))) rfl ?_
       intro v102 r102
       refine gl_on rfl rfl rfl ?_
       refine gl_call (vs := [_, _, _, _]) rfl rfl rfl rfl Try.call16 ⟨rfl, rfl, rfl, rfl, trivial⟩ (fun w hs => o_pg_touch hs (r99.le (Le.t (Le.q (l := 59) (by decide)))) (r100.le (Le.t (Le.q (l := 59) (by decide)))) r101 r102 (by decide)) ?_
       intro v103 h15 hh15 r103
       obtain rfl : v103 = vI (touch2 (pr p21 0 1) (pr p23 0 1) (pr (T3.mk (p21.x + ((makeQ (z59 - (2 : Int)) (2 : Int)) * (p23.x - p21.x))) (p21.y + ((makeQ (z59 - (2 : Int)) (2 : Int)) * (p23.y - p21.y))) (p21.z + ((makeQ (z59 - (2 : Int)) (2 : Int)) * (p23.z - p21.z)))) 0 1) (pr (T3.mk (p21.x + ((makeQ (z49 - (2 : Int)) (2 : Int)) * (p23.x - p21.x))) (p21.y + ((makeQ (z49 - (2 : Int)) (2 : Int)) * (p23.y - p21.y))) (p21.z + ((makeQ (z49 - (2 : Int)) (2 : Int)) * (p23.z - p21.z)))) 0 1)) := r103
       refine gl_on rfl rfl rfl (gv (OpV.fa (by exact fun e => e (by first | rfl | exact touch_eq _ _ _ _ | exact (touch_comm _ _ _ _).symm | exact (touch_swap1 _ _ _ _).symm | exact (touch_swap2 _ _ _ _).symm | assumption)) (ov_neq_i rfl rfl)) rfl (gv (ov_pick_f rfl rfl) rfl (gl_nil (gq_keep (e' := [(3, _), (4, _), (105, _)]) ⟨rfl, rfl, rfl, trivial⟩ (gq_then (gc_cond_f rfl (gc_skip (gq_in (gq_then (gc_region (mv rfl rfl (gv (ov_add_i (q := 1) rfl rfl (by omega) (by omega)) rfl (asg rfl rfl ?_)))))))))))))
       refine gl_nil (gq_drop (A := []) (gq_drop (A := []) (gq_drop (A := []) (gq_drop (A := []) ?_))))
       refine gq_round ((i + 1), k59, h15) ?_ ?_ ⟨?_, ?_, trivial⟩ ?_ rfl
       ·
        refine ⟨((((((((((((((((((((hmma.trans hg21).trans hg23).trans hg25).trans hg27).trans hg29).trans hg49).trans hh3).trans hh4).trans hh5).trans hh6).trans hg59).trans hh7).trans hh8).trans hh9).trans hh10).trans hh11).trans hh12).trans hh13).trans hh14).trans hh15), ?_⟩
        refine ⟨(by omega), ?_⟩
        exact (by omega)
       ·
        dsimp only
        omega
       · exact rfl
       · exact rfl
       · exact rfl
      ·
       refine gc_skip (gq_in (gq_then (gc_seq (gc_region ?_))))
       replace rb_55 := rb_55.mono (hg27.trans hg29)
       refine gl_x (F := fun v_ => (rpT (rpQ 2)).Is g29 v_ p21) (ox_load_box ty31 (Pc.here _) rfl rfl rb_55 rfl) (mem1 (.tail _ (.tail _ (.tail _ (.head _))))) rfl ?_
       intro v67 r67
       replace rb_58 := rb_58.mono (hg27.trans hg29)
       refine gl_x (F := fun v_ => (rpT (rpQ 2)).Is g29 v_ p23) (ox_load_box ty31 (Pc.here _) rfl rfl rb_58 rfl) (mem1 (.tail _ (.tail _ (.head _)))) rfl ?_
       intro v68 r68
       replace rb_61 := rb_61.mono (hg27.trans hg29)
       refine gl_x (F := fun v_ => (rpT (rpQ 2)).Is g29 v_ p25) (ox_load_box ty31 (Pc.here _) rfl rfl rb_61 rfl) (mem1 (.tail _ (.head _))) rfl ?_
       intro v69 r69
       replace rb_64 := rb_64.mono hg29
       refine gl_x (F := fun v_ => (rpT (rpQ 2)).Is g29 v_ p27) (ox_load_box ty31 (Pc.here _) rfl rfl rb_64 rfl) (mem1 (.head _)) rfl ?_
       intro v70 r70
       refine gl_call (vs := [_, _, _, _]) rfl rfl rfl rfl Try.call16 ⟨rfl, rfl, rfl, rfl, trivial⟩ (fun w hs => o_pg_touch hs r67 r68 r69 r70 (by decide)) ?_
       intro v71 h3 hh3 r71
       obtain rfl : v71 = vI (touch2 (pr p21 0 1) (pr p23 0 1) (pr p25 0 1) (pr p27 0 1)) := r71
       refine asg rfl rfl (gl_nil (gq_keep (e' := [(3, _), (4, _), (5, _), (6, _), (7, _), (8, _), (9, _)]) ⟨rfl, rfl, rfl, rfl, rfl, rfl, rfl, trivial⟩ (gq_then (gc_seq (gc_region (mv rfl rfl ?_))))))
       replace rb_55 := rb_55.mono hh3
       refine gl_x (F := fun v_ => (rpT (rpQ 2)).Is h3 v_ p21) (ox_load_box ty31 (Pc.here _) rfl rfl rb_55 rfl) (mem1 (.tail _ (.tail _ (.tail _ (.head _))))) rfl ?_
       intro v73 r73
       replace rb_58 := rb_58.mono hh3
       refine gl_x (F := fun v_ => (rpT (rpQ 2)).Is h3 v_ p23) (ox_load_box ty31 (Pc.here _) rfl rfl rb_58 rfl) (mem1 (.tail _ (.tail _ (.head _)))) rfl ?_
       intro v74 r74
       replace rb_61 := rb_61.mono hh3
       refine gl_x (F := fun v_ => (rpT (rpQ 2)).Is h3 v_ p25) (ox_load_box ty31 (Pc.here _) rfl rfl rb_61 rfl) (mem1 (.tail _ (.head _))) rfl ?_
       intro v75 r75
       replace rb_64 := rb_64.mono hh3
       refine gl_x (F := fun v_ => (rpT (rpQ 2)).Is h3 v_ p27) (ox_load_box ty31 (Pc.here _) rfl rfl rb_64 rfl) (mem1 (.head _)) rfl ?_
       intro v76 r76
       refine gl_call (vs := [_, _, _, _]) rfl rfl rfl rfl Try.call17 ⟨rfl, rfl, rfl, rfl, trivial⟩ (fun w hs => o_r5_touch hs r73 r74 r75 r76 (by decide)) ?_
       intro v77 h4 hh4 r77
       obtain rfl : v77 = vI (touchR (pr p21 0 1) (pr p23 0 1) (pr p25 0 1) (pr p27 0 1)) := r77
       refine gv (OpV.fa (by exact fun e => e (by first | rfl | exact touch_eq _ _ _ _ | exact (touch_comm _ _ _ _).symm | exact (touch_swap1 _ _ _ _).symm | exact (touch_swap2 _ _ _ _).symm | assumption)) (ov_neq_i rfl rfl)) rfl (mv rfl rfl (gl_on rfl rfl rfl (mv rfl rfl (gl_on rfl rfl rfl ?_))))
       replace rb_61 := rb_61.mono hh4
       refine gl_x (F := fun v_ => (rpT (rpQ 2)).Is h4 v_ p25) (ox_load_box ty31 (Pc.here _) rfl rfl rb_61 rfl) (mem1 (.tail _ (.head _))) rfl ?_
       intro v81 r81
       refine gl_on rfl rfl rfl ?_
       replace rb_64 := rb_64.mono hh4
       refine gl_x (F := fun v_ => (rpT (rpQ 2)).Is h4 v_ p27) (ox_load_box ty31 (Pc.here _) rfl rfl rb_64 rfl) (mem1 (.head _)) rfl ?_
       intro v82 r82
       refine gl_on rfl rfl rfl ?_
       replace rb_55 := rb_55.mono hh4
       refine gl_x (F := fun v_ => (rpT (rpQ 2)).Is h4 v_ p21) (ox_load_box ty31 (Pc.here _) rfl rfl rb_55 rfl) (mem1 (.tail _ (.tail _ (.tail _ (.head _))))) rfl ?_
       intro v83 r83
       refine gl_on rfl rfl rfl ?_
       replace rb_58 := rb_58.mono hh4
       refine gl_x (F := fun v_ => (rpT (rpQ 2)).Is h4 v_ p23) (ox_load_box ty31 (Pc.here _) rfl rfl rb_58 rfl) (mem1 (.tail _ (.tail _ (.head _)))) rfl ?_
       intro v84 r84
       refine gl_on rfl rfl rfl ?_
       refine gl_call (vs := [_, _, _, _]) rfl rfl rfl rfl Try.call16 ⟨rfl, rfl, rfl, rfl, trivial⟩ (fun w hs => o_pg_touch hs r81 r82 r83 r84 (by decide)) ?_
       intro v85 h5 hh5 r85
       obtain rfl : v85 = vI (touch2 (pr p25 0 1) (pr p27 0 1) (pr p21 0 1) (pr p23 0 1)) := r85
       refine gl_on rfl rfl rfl (gv (OpV.fa (by exact fun e => e (by first | rfl | exact touch_eq _ _ _ _ | exact (touch_comm _ _ _ _).symm | exact (touch_swap1 _ _ _ _).symm | exact (touch_swap2 _ _ _ _).symm | assumption)) (ov_neq_i rfl rfl)) rfl (gv (ov_pick_f rfl rfl) rfl (mv rfl rfl (gl_on rfl rfl rfl (mv rfl rfl (gl_on rfl rfl rfl ?_))))))
       replace rb_58 := rb_58.mono hh5
       refine gl_x (F := fun v_ => (rpT (rpQ 2)).Is h5 v_ p23) (ox_load_box ty31 (Pc.here _) rfl rfl rb_58 rfl) (mem1 (.tail _ (.tail _ (.head _)))) rfl ?_
       intro v90 r90
       refine gl_on rfl rfl rfl ?_
       replace rb_55 := rb_55.mono hh5
       refine gl_x (F := fun v_ => (rpT (rpQ 2)).Is h5 v_ p21) (ox_load_box ty31 (Pc.here _) rfl rfl rb_55 rfl) (mem1 (.tail _ (.tail _ (.tail _ (.head _))))) rfl ?_
       intro v91 r91
       refine gl_on rfl rfl rfl ?_
       replace rb_61 := rb_61.mono hh5
       refine gl_x (F := fun v_ => (rpT (rpQ 2)).Is h5 v_ p25) (ox_load_box ty31 (Pc.here _) rfl rfl rb_61 rfl) (mem1 (.tail _ (.head _))) rfl ?_
       intro v92 r92
       refine gl_on rfl rfl rfl ?_
       replace rb_64 := rb_64.mono hh5
       refine gl_x (F := fun v_ => (rpT (rpQ 2)).Is h5 v_ p27) (ox_load_box ty31 (Pc.here _) rfl rfl rb_64 rfl) (mem1 (.head _)) rfl ?_
       intro v93 r93
       refine gl_on rfl rfl rfl ?_
       refine gl_call (vs := [_, _, _, _]) rfl rfl rfl rfl Try.call16 ⟨rfl, rfl, rfl, rfl, trivial⟩ (fun w hs => o_pg_touch hs r90 r91 r92 r93 (by decide)) ?_
       intro v94 h6 hh6 r94
       obtain rfl : v94 = vI (touch2 (pr p23 0 1) (pr p21 0 1) (pr p25 0 1) (pr p27 0 1)) := r94
       refine gl_on rfl rfl rfl (gv (OpV.fa (by exact fun e => e (by first | rfl | exact touch_eq _ _ _ _ | exact (touch_comm _ _ _ _).symm | exact (touch_swap1 _ _ _ _).symm | exact (touch_swap2 _ _ _ _).symm | assumption)) (ov_neq_i rfl rfl)) rfl (gv (ov_pick_f rfl rfl) rfl (mv rfl rfl (gl_on rfl rfl rfl (mv rfl rfl (gl_on rfl rfl rfl ?_))))))
       replace rb_55 := rb_55.mono hh6
       refine gl_x (F := fun v_ => (rpT (rpQ 2)).Is h6 v_ p21) (ox_load_box ty31 (Pc.here _) rfl rfl rb_55 rfl) (mem1 (.tail _ (.tail _ (.tail _ (.head _))))) rfl ?_
       intro v99 r99
       refine gl_on rfl rfl rfl ?_
       replace rb_58 := rb_58.mono hh6
       refine gl_x (F := fun v_ => (rpT (rpQ 2)).Is h6 v_ p23) (ox_load_box ty31 (Pc.here _) rfl rfl rb_58 rfl) (mem1 (.tail _ (.tail _ (.head _)))) rfl ?_
       intro v100 r100
       refine gl_on rfl rfl rfl ?_
       replace rb_64 := rb_64.mono hh6
       refine gl_x (F := fun v_ => (rpT (rpQ 2)).Is h6 v_ p27) (ox_load_box ty31 (Pc.here _) rfl rfl rb_64 rfl) (mem1 (.head _)) rfl ?_
       intro v101 r101
       refine gl_on rfl rfl rfl ?_
       replace rb_61 := rb_61.mono hh6
       refine gl_x (F := fun v_ => (rpT (rpQ 2)).Is h6 v_ p25) (ox_load_box ty31 (Pc.here _) rfl rfl rb_61 rfl) (mem1 (.tail _ (.head _))) rfl ?_
       intro v102 r102
       refine gl_on rfl rfl rfl ?_
       refine gl_call (vs := [_, _, _, _]) rfl rfl rfl rfl Try.call16 ⟨rfl, rfl, rfl, rfl, trivial⟩ (fun w hs => o_pg_touch hs r99 r100 r101 r102 (by decide)) ?_
       intro v103 h7 hh7 r103
       obtain rfl : v103 = vI (touch2 (pr p21 0 1) (pr p23 0 1) (pr p27 0 1) (pr p25 0 1)) := r103
       refine gl_on rfl rfl rfl (gv (OpV.fa (by exact fun e => e (by first | rfl | exact touch_eq _ _ _ _ | exact (touch_comm _ _ _ _).symm | exact (touch_swap1 _ _ _ _).symm | exact (touch_swap2 _ _ _ _).symm | assumption)) (ov_neq_i rfl rfl)) rfl (gv (ov_pick_f rfl rfl) rfl (gl_nil (gq_keep (e' := [(3, _), (4, _), (105, _)]) ⟨rfl, rfl, rfl, trivial⟩ (gq_then (gc_cond_f rfl (gc_skip (gq_in (gq_then (gc_region (mv rfl rfl (gv (ov_add_i (q := 1) rfl rfl (by omega) (by omega)) rfl (asg rfl rfl ?_)))))))))))))
       refine gl_nil (gq_drop (A := []) (gq_drop (A := []) (gq_drop (A := []) (gq_drop (A := []) ?_))))
       refine gq_round ((i + 1), k29, h7) ?_ ?_ ⟨?_, ?_, trivial⟩ ?_ rfl
       ·
        refine ⟨((((((((((hmma.trans hg21).trans hg23).trans hg25).trans hg27).trans hg29).trans hh3).trans hh4).trans hh5).trans hh6).trans hh7), ?_⟩
        refine ⟨(by omega), ?_⟩
        exact (by omega)
       ·
        dsimp only
        omega
       · exact rfl
       · exact rfl
       · exact rfl
   ·
    refine gc_exit (gx_then (gx_then (gx_here (gq_then (gc_seq (gc_region ?_))))))
    refine gl_call (vs := []) rfl rfl rfl rfl Try.call8 trivial (fun w hs => law25_sane hs) ?_
    intro v106 h3 hh3 hr106
    subst hr106
    refine asg rfl rfl (gl_nil (gq_then (gc_ret (gq_body1 rfl rfl ?_))))
    rfl

end Go.Proofs.Ytfpjclgbieppeaa
