/- Texts that the proof needs, part 6. -/
import Derived.Test.YtghhjjmjpeehdaaGreatK5


namespace Go.Proofs.YtghhjjmjpeehdaaGreat
open Bk Go
set_option linter.unusedVariables false
set_option linter.unusedSimpArgs false
set_option maxRecDepth 10000

theorem o_r4_samelist {w0 : World} {h0 : Mem}  (hs : MLe h0 (mem w0)) {k l : Nat} {va : Value} {a : (List (T3 Rat))} (ra : (rpS (rpT (rpQ k))).Is h0 va a) {vb : Value} {b : (List (T3 Rat))} (rb : (rpS (rpT (rpQ l))).Is h0 vb b) (hcd0 : k + l ≤ 1000000000)  :
    Calls Tryz.prog 16 #[va, vb] w0 (Ret w0 h0 (fun _ r => r = vB (a = b))) := by
 have hla := s_lt ra
 refine calls_begin (n := 27) (e := [(0, va), (1, vb)]) (vs := [va, vb]) Tryz.func16 rfl rfl (Nat.le_of_ble_eq_true rfl) hs ⟨rfl, rfl, trivial⟩ (gc_seq (gc_region (asg rfl rfl (gl_nil (gq_then (gc_seq (gc_seq (gc_region (mv rfl rfl (gv (ov_len_sr Tryz.underlying27 rfl ra) rfl (mv rfl rfl (gv (ov_len_sr Tryz.underlying27 rfl rb) rfl (gv (ov_neq_i rfl rfl) rfl ?_)))))))))))))
 refine gl_nil (gq_then ?_)
 refine gc_cond rfl (fun hc10 => ?_) (fun hc10 => ?_)
 ·
  refine gc_seq (gc_region (asg rfl rfl (gl_nil (gq_then (gc_ret (gr_then (gq_body1 rfl rfl ?_)))))))
  exact (vB_false (fun e => hc10 (by rw [e]))).symm
 have hlen : a.length = b.length := by omega
 refine gc_skip (gq_then (gc_seq (gc_seq (gc_region (asg (v := vI (0)) rfl rfl (gl_nil (gq_then (gc_block ?_))))))))
 refine gc_loop (ι := Nat × Mem) (fun (i, ma) => MLe h0 ma ∧ (i ≤ a.length ∧ ∀ u, u < i → a.getD u (T3.mk (0 : Rat) (0 : Rat) (0 : Rat)) = b.getD u (T3.mk (0 : Rat) (0 : Rat) (0 : Rat)))) (fun (i, ma) => [(0, va), (1, vb), (5, vI ↑i)]) (fun (i, ma) => []) (fun (i, ma) => ma) (fun (i, ma) => a.length - i) (0, h0) ?_ ⟨rfl, rfl, rfl, trivial⟩ rfl rfl ?_
 ·
  refine ⟨MLe.refl _, ?_⟩
  exact ⟨by omega, fun u h => by omega⟩
 intro x hx
 obtain ⟨i, ma⟩ := x
 obtain ⟨hmma, hinv⟩ := hx
 show GC _ _ _ _ _ _ [(0, va), (1, vb), (5, vI ↑i)] [] ma
 obtain ⟨hi1, hi2⟩ := hinv
 refine gc_seq (gc_seq (gc_region (mv rfl rfl (mv rfl rfl ?_))))
 replace ra := ra.mono hmma
 refine gv (ov_len_sr Tryz.underlying27 rfl ra) rfl (gv (ov_lss_i rfl rfl) rfl (gl_nil (gq_then ?_)))
 refine gc_cond rfl (fun hc14 => ?_) (fun hc14 => ?_)
 ·
  refine gc_skip (gq_then (gc_seq (gc_block (gc_seq ?_))))
  refine gc_draw 10 _ [] [(0, .q), (1, .q), (2, .q), (3, .q), (4, .q), (5, .q), (6, .q), (7, .q), (8, .c), (9, .q)] mixed (fun x hx => by cases hx) (by kernel_rfl) (fun x hx => by cases hx) (fun r hr => hr) (w_q rfl (fun h' L' hh hR => ov_move rfl) rfl (w_q rfl (fun h' L' hh hR => ov_move rfl) rfl (w_qx (F := fun v_ => AtP (rpT (rpQ k)) ma v_ (a.getD i (T3.mk (0 : Rat) (0 : Rat) (0 : Rat)))) rfl (ox_idx_s (T3.mk (0 : Rat) (0 : Rat) (0 : Rat)) i Tryz.underlying27 ty32 rfl rfl ra rfl (by omega) (show 0 < 9 from by decide)) mem0 rfl ?_)))
  intro v19 r19
  refine w_qx (F := fun v_ => (rpT (rpQ k)).Is ma v_ (a.getD i (T3.mk (0 : Rat) (0 : Rat) (0 : Rat)))) rfl (ox_load_at ty32 rfl r19) mem0 rfl ?_
  intro v20 r20
  refine w_q rfl (fun h' L' hh hR => ov_move rfl) rfl (w_q rfl (fun h' L' hh hR => ov_move rfl) rfl ?_)
  replace rb := rb.mono hmma
  refine w_qx (F := fun v_ => AtP (rpT (rpQ l)) ma v_ (b.getD i (T3.mk (0 : Rat) (0 : Rat) (0 : Rat)))) rfl (ox_idx_s (T3.mk (0 : Rat) (0 : Rat) (0 : Rat)) i Tryz.underlying27 ty32 rfl rfl rb rfl (by omega) (show 0 < 9 from by decide)) mem0 rfl ?_
  intro v23 r23
  refine w_qx (F := fun v_ => (rpT (rpQ l)).Is ma v_ (b.getD i (T3.mk (0 : Rat) (0 : Rat) (0 : Rat)))) rfl (ox_load_at ty32 rfl r23) mem0 rfl ?_
  intro v24 r24
  refine w_c rfl ?_
  refine s_call (vs := [_, _]) Tryz.call29 ⟨rfl, rfl, trivial⟩ (fun w hs => o_r4_same hs r20 r24 (by omega)) rfl ?_
  intro v25 h1 hh1 r25
  obtain rfl : v25 = vB ((a.getD i (T3.mk (0 : Rat) (0 : Rat) (0 : Rat))) = (b.getD i (T3.mk (0 : Rat) (0 : Rat) (0 : Rat)))) := r25
  refine w_q rfl (fun h' L' hh hR => ov_not rfl) rfl (w_nil (gq_keep (e' := [(0, _), (1, _), (5, _), (26, _)]) ⟨rfl, rfl, rfl, rfl, trivial⟩ (gq_then ?_)))
  refine gc_cond rfl (fun hc26 => ?_) (fun hc26 => ?_)
  ·
   refine gc_seq (gc_region (asg rfl rfl (gl_nil (gq_then (gc_ret (gr_in (gr_then (gr_then (gr_in (gr_then (gq_body1 rfl rfl ?_)))))))))))
   exact (vB_false (fun e => hc26 (by rw [e]))).symm
  refine gc_skip (gq_in (gq_then (gc_region (mv rfl rfl (gv (ov_add_i (q := 1) rfl rfl (by omega) (by omega)) rfl (asg rfl rfl (gl_nil ?_)))))))
  refine gq_round ((i + 1), h1) ?_ ?_ ⟨rfl, rfl, rfl, trivial⟩ rfl rfl
  ·
   refine ⟨(hmma.trans hh1), ?_⟩
   exact ⟨by omega, one_step (Q := fun u => a.getD u (T3.mk (0 : Rat) (0 : Rat) (0 : Rat)) = b.getD u (T3.mk (0 : Rat) (0 : Rat) (0 : Rat))) hi2 (Classical.not_not.1 hc26)⟩
  dsimp only
  omega
 refine gc_exit (gx_then (gx_then (gx_here (gq_then (gc_seq (gc_region (asg rfl rfl (gl_nil (gq_then (gc_ret (gq_body1 rfl rfl ?_)))))))))))
 exact (vB_true (list_same hlen (fun u hu => hi2 u (by omega)))).symm

theorem o_r6_square {w0 : World} {h0 : Mem}  (hs : MLe h0 (mem w0)) {m l k : Nat} {vs : Value} {s : ((T3 Rat) × Rat)} (rs : (rpP (rpT (rpQ m)) (rpQ l)).Is h0 vs s) {vx : Value} {x : Rat} (rx : (rpQ k).Is h0 vx x) {vy : Value} {y : Rat} (ry : (rpQ k).Is h0 vy y) {vu : Value} {u : Rat} (ru : (rpQ k).Is h0 vu u) {vv : Value} {v : Rat} (rv : (rpQ k).Is h0 vv v) (hcd0 : k ≤ 100000) (hcd1 : l ≤ 100000) (hcd2 : m ≤ 100000)  :
    Calls Tryz.prog 76 #[vs, vx, vy, vu, vv] w0 (Ret w0 h0 (fun h r => (rpS (rpT (rpQ (3 * k + l + 4 * m + 33)))).Is h r (sqrL s x y u v))) := by
 refine calls_begin (n := 46) (e := [(0, vs), (1, vx), (2, vy), (3, vu), (4, vv)]) (vs := [vs, vx, vy, vu, vv]) Tryz.func76 rfl rfl (Nat.le_of_ble_eq_true rfl) hs ⟨rfl, rfl, rfl, rfl, rfl, trivial⟩ (gc_seq (gc_region (gl_newop (new_boxx (ρ := (rpP (rpT (rpQ m)) (rpQ l))) rfl rs) rfl rfl rfl ?_)))
 intro v5 q5 hq5
 obtain ⟨b5, cs5, rfl, rfl, rb5⟩ := hq5
 refine gl_newop (new_boxx (ρ := (rpQ k)) rfl rx) rfl rfl rfl ?_
 intro v6 q6 hq6
 obtain ⟨b6, cs6, rfl, rfl, rb6⟩ := hq6
 refine gl_newop (new_boxx (ρ := (rpQ k)) rfl ry) rfl rfl rfl ?_
 intro v7 q7 hq7
 obtain ⟨b7, cs7, rfl, rfl, rb7⟩ := hq7
 refine gl_newop (new_boxx (ρ := (rpQ k)) rfl ru) rfl rfl rfl ?_
 intro v8 q8 hq8
 obtain ⟨b8, cs8, rfl, rfl, rb8⟩ := hq8
 refine gl_newop (new_boxx (ρ := (rpQ k)) rfl rv) rfl rfl rfl ?_
 intro v9 q9 hq9
 obtain ⟨b9, cs9, rfl, rfl, rb9⟩ := hq9
 refine asg rfl rfl (gl_nil (gq_then (gc_seq (gc_region (asg rfl rfl (gl_nil (gq_then (gc_seq (gc_region (gl_x (F := fun v_ => (rpQ k).Is h0 v_ x) (ox_load_box ty30 (Pc.here _) rfl rfl rb6 rfl) (mem1 (.tail _ (.tail _ (.tail _ (.head _))))) rfl ?_))))))))))
 intro v16 r16
 refine gl_x (F := fun v_ => (rpQ k).Is h0 v_ y) (ox_load_box ty30 (Pc.here _) rfl rfl rb7 rfl) (mem1 (.tail _ (.tail _ (.head _)))) rfl ?_
 intro v17 r17
 refine gl_x (F := fun v_ => (rpT (rpQ (k + 1))).Is h0 v_ (T3.mk x y (0 : Rat))) (ox_build_arr (ps' := [(0, _), (1, _)]) Tryz.underlying32 info32 rfl rfl Tryz.sizeOf30 ⟨rfl, rfl, rfl, rfl, trivial⟩ rfl (zr_t (zr_q (by omega))) (fx_one rfl (Pc.tx (Pc.here _)) (r16.le (Le.q (l := k + 1) (by omega))) (fx_one rfl (Pc.ty (Pc.here _)) (r17.le (Le.q (l := k + 1) (by omega))) fx_nil))) mem0 rfl ?_
 intro v18 r18
 refine gl_x (F := fun v_ => (rpQ k).Is h0 v_ u) (ox_load_box ty30 (Pc.here _) rfl rfl rb8 rfl) (mem1 (.tail _ (.head _))) rfl ?_
 intro v19 r19
 refine gl_x (F := fun v_ => (rpQ k).Is h0 v_ y) (ox_load_box ty30 (Pc.here _) rfl rfl rb7 rfl) (mem1 (.tail _ (.tail _ (.head _)))) rfl ?_
 intro v20 r20
 refine gl_x (F := fun v_ => (rpT (rpQ (k + 1))).Is h0 v_ (T3.mk u y (0 : Rat))) (ox_build_arr (ps' := [(0, _), (1, _)]) Tryz.underlying32 info32 rfl rfl Tryz.sizeOf30 ⟨rfl, rfl, rfl, rfl, trivial⟩ rfl (zr_t (zr_q (by omega))) (fx_one rfl (Pc.tx (Pc.here _)) (r19.le (Le.q (l := k + 1) (by omega))) (fx_one rfl (Pc.ty (Pc.here _)) (r20.le (Le.q (l := k + 1) (by omega))) fx_nil))) mem0 rfl ?_
 intro v21 r21
 refine gl_x (F := fun v_ => (rpQ k).Is h0 v_ u) (ox_load_box ty30 (Pc.here _) rfl rfl rb8 rfl) (mem1 (.tail _ (.head _))) rfl ?_
 intro v22 r22
 refine gl_x (F := fun v_ => (rpQ k).Is h0 v_ v) (ox_load_box ty30 (Pc.here _) rfl rfl rb9 rfl) (mem1 (.head _)) rfl ?_
 intro v23 r23
 refine gl_x (F := fun v_ => (rpT (rpQ (k + 1))).Is h0 v_ (T3.mk u v (0 : Rat))) (ox_build_arr (ps' := [(0, _), (1, _)]) Tryz.underlying32 info32 rfl rfl Tryz.sizeOf30 ⟨rfl, rfl, rfl, rfl, trivial⟩ rfl (zr_t (zr_q (by omega))) (fx_one rfl (Pc.tx (Pc.here _)) (r22.le (Le.q (l := k + 1) (by omega))) (fx_one rfl (Pc.ty (Pc.here _)) (r23.le (Le.q (l := k + 1) (by omega))) fx_nil))) mem0 rfl ?_
 intro v24 r24
 refine gl_x (F := fun v_ => (rpQ k).Is h0 v_ x) (ox_load_box ty30 (Pc.here _) rfl rfl rb6 rfl) (mem1 (.tail _ (.tail _ (.tail _ (.head _))))) rfl ?_
 intro v25 r25
 refine gl_x (F := fun v_ => (rpQ k).Is h0 v_ v) (ox_load_box ty30 (Pc.here _) rfl rfl rb9 rfl) (mem1 (.head _)) rfl ?_
 intro v26 r26
 refine gl_x (F := fun v_ => (rpT (rpQ (k + 1))).Is h0 v_ (T3.mk x v (0 : Rat))) (ox_build_arr (ps' := [(0, _), (1, _)]) Tryz.underlying32 info32 rfl rfl Tryz.sizeOf30 ⟨rfl, rfl, rfl, rfl, trivial⟩ rfl (zr_t (zr_q (by omega))) (fx_one rfl (Pc.tx (Pc.here _)) (r25.le (Le.q (l := k + 1) (by omega))) (fx_one rfl (Pc.ty (Pc.here _)) (r26.le (Le.q (l := k + 1) (by omega))) fx_nil))) mem0 rfl ?_
 intro v27 r27
 refine gl_x (F := fun v_ => (rpA 4 (rpT (rpQ (k + 1)))).Is h0 v_ [(T3.mk x y (0 : Rat)), (T3.mk u y (0 : Rat)), (T3.mk u v (0 : Rat)), (T3.mk x v (0 : Rat))]) (ox_build_arr (ps' := [(0, _), (1, _), (2, _), (3, _)]) Tryz.underlying119 info119 rfl rfl Tryz.sizeOf32 ⟨rfl, rfl, rfl, rfl, rfl, rfl, rfl, rfl, trivial⟩ rfl (zr_a 4 (zr_t (zr_q (by omega)))) (fx_one rfl (Pc.arr (Pc.here _) (T3.mk (0 : Rat) (0 : Rat) (0 : Rat)) 0 (by decide)) r18 (fx_one rfl (Pc.arr (Pc.here _) (T3.mk (0 : Rat) (0 : Rat) (0 : Rat)) 1 (by decide)) r21 (fx_one rfl (Pc.arr (Pc.here _) (T3.mk (0 : Rat) (0 : Rat) (0 : Rat)) 2 (by decide)) r24 (fx_one rfl (Pc.arr (Pc.here _) (T3.mk (0 : Rat) (0 : Rat) (0 : Rat)) 3 (by decide)) r27 fx_nil))))) mem0 rfl ?_
 intro v28 r28
 refine gl_newop (new_allocx (ρ := (rpA 4 (rpT (rpQ 1)))) (X := (List.replicate 4 (T3.mk (0 : Rat) (0 : Rat) (0 : Rat)))) info119 rfl rfl (zr_a 4 (zr_t (zr_q (by decide))))) rfl rfl rfl ?_
 intro v12 q12 hq12
 obtain ⟨b12, cs12, rfl, rfl, rb12⟩ := hq12
 have rw_1 := (Le.a (Le.t (Le.q (l := k + 1) (by omega)))).R rb12
 refine gl_updx (A := []) (F := fun c_ => (rpA 4 (rpT (rpQ (k + 1)))).R h0 c_ [(T3.mk x y (0 : Rat)), (T3.mk u y (0 : Rat)), (T3.mk u v (0 : Rat)), (T3.mk x v (0 : Rat))]) (upd_box Tryz.sizeOf119 (Pc.here _) rfl rfl rfl rw_1 r28 rfl) ?_
 intro cs_2 rb_3
 refine gl_nil (gq_keep (e' := [(5, _), (11, _), (12, _)]) ⟨rfl, rfl, rfl, trivial⟩ (gq_then (gc_seq (gc_seq (gc_region (asg (v := vI (0)) rfl rfl (gl_nil (gq_then (gc_block (gc_loop1 (gc_seq (gc_seq (gc_region ?_)))))))))))))
 refine mv rfl rfl (gv (OpV.tr (by decide) (ov_lss_i (q := 4) rfl rfl)) rfl (gl_nil (gq_then (gc_cond_t rfl (gc_skip (gq_then (gc_seq (gc_block (gc_seq ?_)))))))))
 refine gc_draw 11 _ [(8, (14, 32, [.bool false, .slice none 0 0, .slice none 0 0, .bool false, .slice none 0 0, .slice none 0 0, .bool false, .slice none 0 0, .slice none 0 0]))] [(0, .q), (1, .q), (2, .q), (3, .q), (4, .c), (5, .q), (6, .q), (7, .q), (8, .a), (9, .c), (10, .q)] mixed (AlOk.cons rfl (zero_run info32 rfl rfl) AlOk.nil) (by kernel_rfl) (hae_cons rfl rfl hae_nil) (fun r hr => hr) (w_qx (F := fun v_ => (rpP (rpT (rpQ m)) (rpQ l)).Is h0 v_ s) rfl (ox_load_box ty34 (Pc.here _) rfl rfl rb5 rfl) (mem1 (.tail _ (.tail _ (.tail _ (.tail _ (.tail _ (.head _))))))) rfl ?_)
 intro v34u1 r34u1
 refine w_q rfl (fun h' L' hh hR => ov_move rfl) rfl (w_q rfl (fun h' L' hh hR => (ov_index_arr (sz := 9) 0 Tryz.underlying119 Tryz.sizeOf32 rfl rfl rfl (by decide)).cv (show _ = vP b12 0 from congrArg (vP b12) (by rfl))) rfl (w_qx (F := fun v_ => (rpT (rpQ (k + 1))).Is h0 v_ ([(T3.mk x y (0 : Rat)), (T3.mk u y (0 : Rat)), (T3.mk u v (0 : Rat)), (T3.mk x v (0 : Rat))].getD 0 (T3.mk (0 : Rat) (0 : Rat) (0 : Rat)))) rfl (ox_load_box ty32 (Pc.arr (Pc.here _) (T3.mk (0 : Rat) (0 : Rat) (0 : Rat)) 0 (by decide)) rfl rfl rb_3 rfl) (mem1 (.head _)) rfl ?_))
 intro v37u1 r37u1
 refine w_c rfl ?_
 refine s_call (vs := [_, _]) Tryz.call114 ⟨rfl, rfl, trivial⟩ (fun w hs => o_r5_lift hs r34u1 r37u1 (by omega) (by omega) (by omega)) rfl ?_
 intro v38u1 h1 hh1 r38u1
 obtain ⟨v38u1_0, rfl, r38u1_0⟩ := r38u1
 change (rpT (rpQ (3 * (k + 1) + l + 4 * m + 30))).Is h1 v38u1_0 (liftZ s ([(T3.mk x y (0 : Rat)), (T3.mk u y (0 : Rat)), (T3.mk u v (0 : Rat)), (T3.mk x v (0 : Rat))].getD 0 (T3.mk (0 : Rat) (0 : Rat) (0 : Rat)))) at r38u1_0
 replace r38u1_0 := Rp.Is.le r38u1_0 (Le.t (Le.q (l := 3 * k + l + 4 * m + 33) (by omega)))
 refine w_q rfl (fun h' L' hh hR => ov_move rfl) rfl (w_q rfl (fun h' L' hh hR => ov_extract (vs := [_, _]) rfl rfl) rfl (w_q rfl (fun h' L' hh hR => ov_extract (vs := [_, _]) rfl rfl) rfl ?_))
 refine w_a rfl (fun b14u1 => ?_)
 have rb14u1 : (rpT (rpQ (3 * k + l + 4 * m + 33))).R h1 [.bool false, .slice none 0 0, .slice none 0 0, .bool false, .slice none 0 0, .slice none 0 0, .bool false, .slice none 0 0, .slice none 0 0] (T3.mk (0 : Rat) (0 : Rat) (0 : Rat)) := (zr_t (zr_q (by omega)))
 refine w_c rfl (s_updx (A := []) (F := fun c_ => (rpT (rpQ (3 * k + l + 4 * m + 33))).R h1 c_ (liftZ s ([(T3.mk x y (0 : Rat)), (T3.mk u y (0 : Rat)), (T3.mk u v (0 : Rat)), (T3.mk x v (0 : Rat))].getD 0 (T3.mk (0 : Rat) (0 : Rat) (0 : Rat))))) (upd_box Tryz.sizeOf32 (Pc.here _) rfl rfl rfl rb14u1 r38u1_0 rfl) (mem_kept (by first | (simp; done) | grind)) ?_)
 intro cs_4 rb_5
 refine w_q rfl (fun h' L' hh hR => ov_assign rfl) rfl (w_nil (gq_keep (e' := [(5, _), (11, _), (12, _), (13, _), (14, _)]) ⟨rfl, rfl, rfl, rfl, rfl, trivial⟩ (gq_then (gc_region (mv rfl rfl (gl_x (F := fun v_ => (rpT (rpQ (3 * k + l + 4 * m + 33))).Is h1 v_ (liftZ s ([(T3.mk x y (0 : Rat)), (T3.mk u y (0 : Rat)), (T3.mk u v (0 : Rat)), (T3.mk x v (0 : Rat))].getD 0 (T3.mk (0 : Rat) (0 : Rat) (0 : Rat))))) (ox_load_box ty32 (Pc.here _) rfl rfl rb_5 rfl) (mem1 (.head _)) rfl ?_))))))
 intro v42u1 r42u1
 refine gl_newop (new_buildx (ρ := (rpT (rpQ (3 * k + l + 4 * m + 33)))) (m := 1) (xs := [liftZ s ([(T3.mk x y (0 : Rat)), (T3.mk u y (0 : Rat)), (T3.mk u v (0 : Rat)), (T3.mk x v (0 : Rat))].getD 0 (T3.mk (0 : Rat) (0 : Rat) (0 : Rat)))]) (ps' := [(0, _)]) Tryz.underlying27 info32 rfl rfl rfl (zr_t (zr_q (by omega))) ⟨rfl, rfl, trivial⟩ (fx_one rfl (Pc.arr (Pc.here _) (T3.mk (0 : Rat) (0 : Rat) (0 : Rat)) 0 (by decide)) r42u1 fx_nil) (show 1 * 9 ≤ 16777216 from by decide) (show 0 < 9 from by decide)) rfl rfl rfl ?_
 intro v43u1 q43u1 hq43u1
 obtain ⟨cs43u1, rfl, rl43u1⟩ := hq43u1
 refine gl_freezex (A := []) (ρ := (rpT (rpQ (3 * k + l + 4 * m + 33)))) rl43u1 ?_
 intro h2 hh2 rs_6
 refine gl_nilown 32 9 ?_
 have rl_7 : RL (rpT (rpQ (3 * k + l + 4 * m + 33))) h2 [] ([] : List (T3 Rat)) := RL.nil
 refine gl_repop (A := []) (rep_appendx (ρ := (rpT (rpQ (3 * k + l + 4 * m + 33)))) (bytes := 168) Tryz.underlying27 info32 rfl rfl rfl rfl (show 0 < 9 from by decide) rfl rfl rl_7 rs_6 (by first | omega | (simp only [List.length_append, List.length_cons, List.length_nil, List.length_replicate, List.length_set]; omega)) (by first | omega | (simp only [List.length_append, List.length_cons, List.length_nil, List.length_replicate, List.length_set]; omega))) rfl rfl rfl ?_
 intro v44u1 q44u1 hq44u1
 obtain ⟨cs44u1, rfl, rl44u1⟩ := hq44u1
 refine asg rfl rfl (gl_nil (gq_in (gq_then (gc_region (mv rfl rfl (gv ((ov_add_i (q := 1) rfl rfl (by omega) (by omega)).cv (show _ = vI (1) from rfl)) rfl (asg rfl rfl (gl_nil (gq_loop1 (gc_seq (gc_seq (gc_region (mv rfl rfl ?_)))))))))))))
 refine gv (OpV.tr (by decide) (ov_lss_i (q := 4) rfl rfl)) rfl (gl_nil (gq_then (gc_cond_t rfl (gc_skip (gq_then (gc_seq (gc_block (gc_seq (gc_keep (e' := [(5, _), (12, _), (11, _), (13, _)]) ⟨rfl, rfl, rfl, rfl, trivial⟩ ?_)))))))))
 refine gc_draw 11 _ [(8, (14, 32, [.bool false, .slice none 0 0, .slice none 0 0, .bool false, .slice none 0 0, .slice none 0 0, .bool false, .slice none 0 0, .slice none 0 0]))] [(0, .q), (1, .q), (2, .q), (3, .q), (4, .c), (5, .q), (6, .q), (7, .q), (8, .a), (9, .c), (10, .q)] mixed (AlOk.cons rfl (zero_run info32 rfl rfl) AlOk.nil) (by kernel_rfl) (hae_cons rfl rfl hae_nil) (fun r hr => hr) ?_
 replace rb5 := rb5.mono (hh1.trans hh2)
 refine w_qx (F := fun v_ => (rpP (rpT (rpQ m)) (rpQ l)).Is h2 v_ s) rfl (ox_load_box ty34 (Pc.here _) rfl rfl rb5 rfl) (mem1 (.tail _ (.tail _ (.tail _ (.tail _ (.tail _ (.tail _ (.tail _ (.head _))))))))) rfl ?_
 intro v34u2 r34u2
 refine w_q rfl (fun h' L' hh hR => ov_move rfl) rfl (w_q rfl (fun h' L' hh hR => (ov_index_arr (sz := 9) 1 Tryz.underlying119 Tryz.sizeOf32 rfl rfl rfl (by decide)).cv (show _ = vP b12 9 from congrArg (vP b12) (by rfl))) rfl ?_)
 replace rb_3 := rb_3.mono (hh1.trans hh2)
 refine w_qx (F := fun v_ => (rpT (rpQ (k + 1))).Is h2 v_ ([(T3.mk x y (0 : Rat)), (T3.mk u y (0 : Rat)), (T3.mk u v (0 : Rat)), (T3.mk x v (0 : Rat))].getD 1 (T3.mk (0 : Rat) (0 : Rat) (0 : Rat)))) rfl (ox_load_box ty32 (Pc.arr (Pc.here _) (T3.mk (0 : Rat) (0 : Rat) (0 : Rat)) 1 (by decide)) rfl rfl rb_3 rfl) (mem1 (.tail _ (.tail _ (.head _)))) rfl ?_
 intro v37u2 r37u2
 refine w_c rfl ?_
 refine s_call (vs := [_, _]) Tryz.call114 ⟨rfl, rfl, trivial⟩ (fun w hs => o_r5_lift hs r34u2 r37u2 (by omega) (by omega) (by omega)) rfl ?_
 intro v38u2 h3 hh3 r38u2
 obtain ⟨v38u2_0, rfl, r38u2_0⟩ := r38u2
 change (rpT (rpQ (3 * (k + 1) + l + 4 * m + 30))).Is h3 v38u2_0 (liftZ s ([(T3.mk x y (0 : Rat)), (T3.mk u y (0 : Rat)), (T3.mk u v (0 : Rat)), (T3.mk x v (0 : Rat))].getD 1 (T3.mk (0 : Rat) (0 : Rat) (0 : Rat)))) at r38u2_0
 replace r38u2_0 := Rp.Is.le r38u2_0 (Le.t (Le.q (l := 3 * k + l + 4 * m + 33) (by omega)))
 refine w_q rfl (fun h' L' hh hR => ov_move rfl) rfl (w_q rfl (fun h' L' hh hR => ov_extract (vs := [_, _]) rfl rfl) rfl (w_q rfl (fun h' L' hh hR => ov_extract (vs := [_, _]) rfl rfl) rfl ?_))
 refine w_a rfl (fun b14u2 => ?_)
 have rb14u2 : (rpT (rpQ (3 * k + l + 4 * m + 33))).R h3 [.bool false, .slice none 0 0, .slice none 0 0, .bool false, .slice none 0 0, .slice none 0 0, .bool false, .slice none 0 0, .slice none 0 0] (T3.mk (0 : Rat) (0 : Rat) (0 : Rat)) := (zr_t (zr_q (by omega)))
 refine w_c rfl (s_updx (A := []) (F := fun c_ => (rpT (rpQ (3 * k + l + 4 * m + 33))).R h3 c_ (liftZ s ([(T3.mk x y (0 : Rat)), (T3.mk u y (0 : Rat)), (T3.mk u v (0 : Rat)), (T3.mk x v (0 : Rat))].getD 1 (T3.mk (0 : Rat) (0 : Rat) (0 : Rat))))) (upd_box Tryz.sizeOf32 (Pc.here _) rfl rfl rfl rb14u2 r38u2_0 rfl) (mem_kept (by first | (simp; done) | grind)) ?_)
 intro cs_8 rb_9
 refine w_q rfl (fun h' L' hh hR => ov_assign rfl) rfl (w_nil (gq_then (gc_region (mv rfl rfl (gl_x (F := fun v_ => (rpT (rpQ (3 * k + l + 4 * m + 33))).Is h3 v_ (liftZ s ([(T3.mk x y (0 : Rat)), (T3.mk u y (0 : Rat)), (T3.mk u v (0 : Rat)), (T3.mk x v (0 : Rat))].getD 1 (T3.mk (0 : Rat) (0 : Rat) (0 : Rat))))) (ox_load_box ty32 (Pc.here _) rfl rfl rb_9 rfl) (mem1 (.head _)) rfl ?_)))))
 intro v42u2 r42u2
 refine gl_newop (new_buildx (ρ := (rpT (rpQ (3 * k + l + 4 * m + 33)))) (m := 1) (xs := [liftZ s ([(T3.mk x y (0 : Rat)), (T3.mk u y (0 : Rat)), (T3.mk u v (0 : Rat)), (T3.mk x v (0 : Rat))].getD 1 (T3.mk (0 : Rat) (0 : Rat) (0 : Rat)))]) (ps' := [(0, _)]) Tryz.underlying27 info32 rfl rfl rfl (zr_t (zr_q (by omega))) ⟨rfl, rfl, trivial⟩ (fx_one rfl (Pc.arr (Pc.here _) (T3.mk (0 : Rat) (0 : Rat) (0 : Rat)) 0 (by decide)) r42u2 fx_nil) (show 1 * 9 ≤ 16777216 from by decide) (show 0 < 9 from by decide)) rfl rfl rfl ?_
 intro v43u2 q43u2 hq43u2
 obtain ⟨cs43u2, rfl, rl43u2⟩ := hq43u2
 refine gl_freezex (A := []) (ρ := (rpT (rpQ (3 * k + l + 4 * m + 33)))) rl43u2 ?_
 intro h4 hh4 rs_10
 replace rl44u1 := rl44u1.mono (hh3.trans hh4)
 refine gl_repop (A := [_]) (rep_appendx (ρ := (rpT (rpQ (3 * k + l + 4 * m + 33)))) (bytes := 168) Tryz.underlying27 info32 rfl rfl rfl rfl (show 0 < 9 from by decide) rfl rfl rl44u1 rs_10 (by first | omega | (simp only [List.length_append, List.length_cons, List.length_nil, List.length_replicate, List.length_set]; omega)) (by first | omega | (simp only [List.length_append, List.length_cons, List.length_nil, List.length_replicate, List.length_set]; omega))) rfl rfl rfl ?_
 intro v44u2 q44u2 hq44u2
 obtain ⟨cs44u2, rfl, rl44u2⟩ := hq44u2
 refine asg rfl rfl (gl_nil (gq_in (gq_keep (e' := [(5, _), (12, _), (13, _), (11, _)]) ⟨rfl, rfl, rfl, rfl, trivial⟩ (gq_then (gc_region (mv rfl rfl (gv ((ov_add_i (q := 1) rfl rfl (by omega) (by omega)).cv (show _ = vI (2) from rfl)) rfl (asg rfl rfl (gl_nil (gq_loop1 (gc_seq (gc_seq (gc_region ?_)))))))))))))
 refine mv rfl rfl (gv (OpV.tr (by decide) (ov_lss_i (q := 4) rfl rfl)) rfl (gl_nil (gq_then (gc_cond_t rfl (gc_skip (gq_then (gc_seq (gc_block (gc_seq ?_)))))))))
 refine gc_draw 11 _ [(8, (14, 32, [.bool false, .slice none 0 0, .slice none 0 0, .bool false, .slice none 0 0, .slice none 0 0, .bool false, .slice none 0 0, .slice none 0 0]))] [(0, .q), (1, .q), (2, .q), (3, .q), (4, .c), (5, .q), (6, .q), (7, .q), (8, .a), (9, .c), (10, .q)] mixed (AlOk.cons rfl (zero_run info32 rfl rfl) AlOk.nil) (by kernel_rfl) (hae_cons rfl rfl hae_nil) (fun r hr => hr) ?_
 replace rb5 := rb5.mono (hh3.trans hh4)
 refine w_qx (F := fun v_ => (rpP (rpT (rpQ m)) (rpQ l)).Is h4 v_ s) rfl (ox_load_box ty34 (Pc.here _) rfl rfl rb5 rfl) (mem1 (.tail _ (.tail _ (.tail _ (.tail _ (.tail _ (.tail _ (.tail _ (.tail _ (.head _)))))))))) rfl ?_
 intro v34u3 r34u3
 refine w_q rfl (fun h' L' hh hR => ov_move rfl) rfl (w_q rfl (fun h' L' hh hR => (ov_index_arr (sz := 9) 2 Tryz.underlying119 Tryz.sizeOf32 rfl rfl rfl (by decide)).cv (show _ = vP b12 18 from congrArg (vP b12) (by rfl))) rfl ?_)
 replace rb_3 := rb_3.mono (hh3.trans hh4)
 refine w_qx (F := fun v_ => (rpT (rpQ (k + 1))).Is h4 v_ ([(T3.mk x y (0 : Rat)), (T3.mk u y (0 : Rat)), (T3.mk u v (0 : Rat)), (T3.mk x v (0 : Rat))].getD 2 (T3.mk (0 : Rat) (0 : Rat) (0 : Rat)))) rfl (ox_load_box ty32 (Pc.arr (Pc.here _) (T3.mk (0 : Rat) (0 : Rat) (0 : Rat)) 2 (by decide)) rfl rfl rb_3 rfl) (mem1 (.tail _ (.tail _ (.tail _ (.head _))))) rfl ?_
 intro v37u3 r37u3
 refine w_c rfl ?_
 refine s_call (vs := [_, _]) Tryz.call114 ⟨rfl, rfl, trivial⟩ (fun w hs => o_r5_lift hs r34u3 r37u3 (by omega) (by omega) (by omega)) rfl ?_
 intro v38u3 h5 hh5 r38u3
 obtain ⟨v38u3_0, rfl, r38u3_0⟩ := r38u3
 change (rpT (rpQ (3 * (k + 1) + l + 4 * m + 30))).Is h5 v38u3_0 (liftZ s ([(T3.mk x y (0 : Rat)), (T3.mk u y (0 : Rat)), (T3.mk u v (0 : Rat)), (T3.mk x v (0 : Rat))].getD 2 (T3.mk (0 : Rat) (0 : Rat) (0 : Rat)))) at r38u3_0
 replace r38u3_0 := Rp.Is.le r38u3_0 (Le.t (Le.q (l := 3 * k + l + 4 * m + 33) (by omega)))
 refine w_q rfl (fun h' L' hh hR => ov_move rfl) rfl (w_q rfl (fun h' L' hh hR => ov_extract (vs := [_, _]) rfl rfl) rfl (w_q rfl (fun h' L' hh hR => ov_extract (vs := [_, _]) rfl rfl) rfl ?_))
 refine w_a rfl (fun b14u3 => ?_)
 have rb14u3 : (rpT (rpQ (3 * k + l + 4 * m + 33))).R h5 [.bool false, .slice none 0 0, .slice none 0 0, .bool false, .slice none 0 0, .slice none 0 0, .bool false, .slice none 0 0, .slice none 0 0] (T3.mk (0 : Rat) (0 : Rat) (0 : Rat)) := (zr_t (zr_q (by omega)))
 refine w_c rfl (s_updx (A := []) (F := fun c_ => (rpT (rpQ (3 * k + l + 4 * m + 33))).R h5 c_ (liftZ s ([(T3.mk x y (0 : Rat)), (T3.mk u y (0 : Rat)), (T3.mk u v (0 : Rat)), (T3.mk x v (0 : Rat))].getD 2 (T3.mk (0 : Rat) (0 : Rat) (0 : Rat))))) (upd_box Tryz.sizeOf32 (Pc.here _) rfl rfl rfl rb14u3 r38u3_0 rfl) (mem_kept (by first | (simp; done) | grind)) ?_)
 intro cs_11 rb_12
 refine w_q rfl (fun h' L' hh hR => ov_assign rfl) rfl (w_nil (gq_keep (e' := [(5, _), (12, _), (11, _), (13, _), (14, _)]) ⟨rfl, rfl, rfl, rfl, rfl, trivial⟩ (gq_then (gc_region (mv rfl rfl (gl_x (F := fun v_ => (rpT (rpQ (3 * k + l + 4 * m + 33))).Is h5 v_ (liftZ s ([(T3.mk x y (0 : Rat)), (T3.mk u y (0 : Rat)), (T3.mk u v (0 : Rat)), (T3.mk x v (0 : Rat))].getD 2 (T3.mk (0 : Rat) (0 : Rat) (0 : Rat))))) (ox_load_box ty32 (Pc.here _) rfl rfl rb_12 rfl) (mem1 (.head _)) rfl ?_))))))
 intro v42u3 r42u3
 refine gl_newop (new_buildx (ρ := (rpT (rpQ (3 * k + l + 4 * m + 33)))) (m := 1) (xs := [liftZ s ([(T3.mk x y (0 : Rat)), (T3.mk u y (0 : Rat)), (T3.mk u v (0 : Rat)), (T3.mk x v (0 : Rat))].getD 2 (T3.mk (0 : Rat) (0 : Rat) (0 : Rat)))]) (ps' := [(0, _)]) Tryz.underlying27 info32 rfl rfl rfl (zr_t (zr_q (by omega))) ⟨rfl, rfl, trivial⟩ (fx_one rfl (Pc.arr (Pc.here _) (T3.mk (0 : Rat) (0 : Rat) (0 : Rat)) 0 (by decide)) r42u3 fx_nil) (show 1 * 9 ≤ 16777216 from by decide) (show 0 < 9 from by decide)) rfl rfl rfl ?_
 intro v43u3 q43u3 hq43u3
 obtain ⟨cs43u3, rfl, rl43u3⟩ := hq43u3
 refine gl_freezex (A := []) (ρ := (rpT (rpQ (3 * k + l + 4 * m + 33)))) rl43u3 ?_
 intro h6 hh6 rs_13
 replace rl44u2 := rl44u2.mono (hh5.trans hh6)
 refine gl_repop (A := [_, _]) (rep_appendx (ρ := (rpT (rpQ (3 * k + l + 4 * m + 33)))) (bytes := 168) Tryz.underlying27 info32 rfl rfl rfl rfl (show 0 < 9 from by decide) rfl rfl rl44u2 rs_13 (by first | omega | (simp only [List.length_append, List.length_cons, List.length_nil, List.length_replicate, List.length_set]; omega)) (by first | omega | (simp only [List.length_append, List.length_cons, List.length_nil, List.length_replicate, List.length_set]; omega))) rfl rfl rfl ?_
 intro v44u3 q44u3 hq44u3
 obtain ⟨cs44u3, rfl, rl44u3⟩ := hq44u3
 refine asg rfl rfl (gl_nil (gq_in (gq_then (gc_region (mv rfl rfl (gv ((ov_add_i (q := 1) rfl rfl (by omega) (by omega)).cv (show _ = vI (3) from rfl)) rfl (asg rfl rfl (gl_nil (gq_loop1 (gc_seq (gc_seq (gc_region (mv rfl rfl ?_)))))))))))))
 refine gv (OpV.tr (by decide) (ov_lss_i (q := 4) rfl rfl)) rfl (gl_nil (gq_then (gc_cond_t rfl (gc_skip (gq_then (gc_seq (gc_block (gc_seq (gc_keep (e' := [(5, _), (12, _), (11, _), (13, _)]) ⟨rfl, rfl, rfl, rfl, trivial⟩ ?_)))))))))
 refine gc_draw 11 _ [(8, (14, 32, [.bool false, .slice none 0 0, .slice none 0 0, .bool false, .slice none 0 0, .slice none 0 0, .bool false, .slice none 0 0, .slice none 0 0]))] [(0, .q), (1, .q), (2, .q), (3, .q), (4, .c), (5, .q), (6, .q), (7, .q), (8, .a), (9, .c), (10, .q)] mixed (AlOk.cons rfl (zero_run info32 rfl rfl) AlOk.nil) (by kernel_rfl) (hae_cons rfl rfl hae_nil) (fun r hr => hr) ?_
 replace rb5 := rb5.mono (hh5.trans hh6)
 refine w_qx (F := fun v_ => (rpP (rpT (rpQ m)) (rpQ l)).Is h6 v_ s) rfl (ox_load_box ty34 (Pc.here _) rfl rfl rb5 rfl) (mem1 (.tail _ (.tail _ (.tail _ (.tail _ (.tail _ (.tail _ (.tail _ (.tail _ (.tail _ (.head _))))))))))) rfl ?_
 intro v34u4 r34u4
 refine w_q rfl (fun h' L' hh hR => ov_move rfl) rfl (w_q rfl (fun h' L' hh hR => (ov_index_arr (sz := 9) 3 Tryz.underlying119 Tryz.sizeOf32 rfl rfl rfl (by decide)).cv (show _ = vP b12 27 from congrArg (vP b12) (by rfl))) rfl ?_)
 replace rb_3 := rb_3.mono (hh5.trans hh6)
 refine w_qx (F := fun v_ => (rpT (rpQ (k + 1))).Is h6 v_ ([(T3.mk x y (0 : Rat)), (T3.mk u y (0 : Rat)), (T3.mk u v (0 : Rat)), (T3.mk x v (0 : Rat))].getD 3 (T3.mk (0 : Rat) (0 : Rat) (0 : Rat)))) rfl (ox_load_box ty32 (Pc.arr (Pc.here _) (T3.mk (0 : Rat) (0 : Rat) (0 : Rat)) 3 (by decide)) rfl rfl rb_3 rfl) (mem1 (.tail _ (.tail _ (.tail _ (.tail _ (.head _)))))) rfl ?_
 intro v37u4 r37u4
 refine w_c rfl ?_
 refine s_call (vs := [_, _]) Tryz.call114 ⟨rfl, rfl, trivial⟩ (fun w hs => o_r5_lift hs r34u4 r37u4 (by omega) (by omega) (by omega)) rfl ?_
 intro v38u4 h7 hh7 r38u4
 obtain ⟨v38u4_0, rfl, r38u4_0⟩ := r38u4
 change (rpT (rpQ (3 * (k + 1) + l + 4 * m + 30))).Is h7 v38u4_0 (liftZ s ([(T3.mk x y (0 : Rat)), (T3.mk u y (0 : Rat)), (T3.mk u v (0 : Rat)), (T3.mk x v (0 : Rat))].getD 3 (T3.mk (0 : Rat) (0 : Rat) (0 : Rat)))) at r38u4_0
 replace r38u4_0 := Rp.Is.le r38u4_0 (Le.t (Le.q (l := 3 * k + l + 4 * m + 33) (by omega)))
 refine w_q rfl (fun h' L' hh hR => ov_move rfl) rfl (w_q rfl (fun h' L' hh hR => ov_extract (vs := [_, _]) rfl rfl) rfl (w_q rfl (fun h' L' hh hR => ov_extract (vs := [_, _]) rfl rfl) rfl ?_))
 refine w_a rfl (fun b14u4 => ?_)
 have rb14u4 : (rpT (rpQ (3 * k + l + 4 * m + 33))).R h7 [.bool false, .slice none 0 0, .slice none 0 0, .bool false, .slice none 0 0, .slice none 0 0, .bool false, .slice none 0 0, .slice none 0 0] (T3.mk (0 : Rat) (0 : Rat) (0 : Rat)) := (zr_t (zr_q (by omega)))
 refine w_c rfl (s_updx (A := []) (F := fun c_ => (rpT (rpQ (3 * k + l + 4 * m + 33))).R h7 c_ (liftZ s ([(T3.mk x y (0 : Rat)), (T3.mk u y (0 : Rat)), (T3.mk u v (0 : Rat)), (T3.mk x v (0 : Rat))].getD 3 (T3.mk (0 : Rat) (0 : Rat) (0 : Rat))))) (upd_box Tryz.sizeOf32 (Pc.here _) rfl rfl rfl rb14u4 r38u4_0 rfl) (mem_kept (by first | (simp; done) | grind)) ?_)
 intro cs_14 rb_15
 refine w_q rfl (fun h' L' hh hR => ov_assign rfl) rfl (w_nil (gq_then (gc_region (mv rfl rfl (gl_x (F := fun v_ => (rpT (rpQ (3 * k + l + 4 * m + 33))).Is h7 v_ (liftZ s ([(T3.mk x y (0 : Rat)), (T3.mk u y (0 : Rat)), (T3.mk u v (0 : Rat)), (T3.mk x v (0 : Rat))].getD 3 (T3.mk (0 : Rat) (0 : Rat) (0 : Rat))))) (ox_load_box ty32 (Pc.here _) rfl rfl rb_15 rfl) (mem1 (.head _)) rfl ?_)))))
 intro v42u4 r42u4
 refine gl_newop (new_buildx (ρ := (rpT (rpQ (3 * k + l + 4 * m + 33)))) (m := 1) (xs := [liftZ s ([(T3.mk x y (0 : Rat)), (T3.mk u y (0 : Rat)), (T3.mk u v (0 : Rat)), (T3.mk x v (0 : Rat))].getD 3 (T3.mk (0 : Rat) (0 : Rat) (0 : Rat)))]) (ps' := [(0, _)]) Tryz.underlying27 info32 rfl rfl rfl (zr_t (zr_q (by omega))) ⟨rfl, rfl, trivial⟩ (fx_one rfl (Pc.arr (Pc.here _) (T3.mk (0 : Rat) (0 : Rat) (0 : Rat)) 0 (by decide)) r42u4 fx_nil) (show 1 * 9 ≤ 16777216 from by decide) (show 0 < 9 from by decide)) rfl rfl rfl ?_
 intro v43u4 q43u4 hq43u4
 obtain ⟨cs43u4, rfl, rl43u4⟩ := hq43u4
 refine gl_freezex (A := []) (ρ := (rpT (rpQ (3 * k + l + 4 * m + 33)))) rl43u4 ?_
 intro h8 hh8 rs_16
 replace rl44u3 := rl44u3.mono (hh7.trans hh8)
 refine gl_repop (A := [_, _, _]) (rep_appendx (ρ := (rpT (rpQ (3 * k + l + 4 * m + 33)))) (bytes := 168) Tryz.underlying27 info32 rfl rfl rfl rfl (show 0 < 9 from by decide) rfl rfl rl44u3 rs_16 (by first | omega | (simp only [List.length_append, List.length_cons, List.length_nil, List.length_replicate, List.length_set]; omega)) (by first | omega | (simp only [List.length_append, List.length_cons, List.length_nil, List.length_replicate, List.length_set]; omega))) rfl rfl rfl ?_
 intro v44u4 q44u4 hq44u4
 obtain ⟨cs44u4, rfl, rl44u4⟩ := hq44u4
 refine asg rfl rfl (gl_nil (gq_in (gq_keep (e' := [(5, _), (12, _), (13, _), (11, _)]) ⟨rfl, rfl, rfl, rfl, trivial⟩ (gq_then (gc_region (mv rfl rfl (gv ((ov_add_i (q := 1) rfl rfl (by omega) (by omega)).cv (show _ = vI (4) from rfl)) rfl (asg rfl rfl (gl_nil (gq_loop1 (gc_seq (gc_seq (gc_region ?_)))))))))))))
 refine mv rfl rfl (gv (OpV.fa (by decide) (ov_lss_i (q := 4) rfl rfl)) rfl (gl_nil (gq_then (gc_cond_f rfl (gc_exit (gx_then (gx_then (gx_here (gq_then (gc_seq (gc_region (mv rfl rfl (asg rfl rfl ?_)))))))))))))
 refine gl_nil (gq_then (gc_ret (gq_freezex (A := [_, _, _]) (ρ := (rpT (rpQ (3 * k + l + 4 * m + 33)))) rl44u4 ?_)))
 intro h9 hh9 rs_17
 refine gq_body1 rfl rfl ?_
 exact rs_17

theorem o_r6_around {w0 : World} {h0 : Mem}  (hs : MLe h0 (mem w0)) {m l k : Nat} {vs : Value} {s : ((T3 Rat) × Rat)} (rs : (rpP (rpT (rpQ m)) (rpQ l)).Is h0 vs s) {vps : Value} {ps : (List (T3 Rat))} (rps : (rpS (rpT (rpQ k))).Is h0 vps ps) (hcd0 : k ≤ 10000) (hcd1 : l ≤ 10000) (hcd2 : m ≤ 10000)  :
    Calls Tryz.prog 37 #[vs, vps] w0 (Ret w0 h0 (fun h r => ∃ u0, r = .tuple #[u0, vB (¬ (ps.length = 0 ∨ s.1 = zT))] ∧ (rpS (rpT (rpQ (3 * k + l + 4 * m + 45)))).Is h u0 (aroZ s ps))) := by
 have hlp := s_lt rps
 refine calls_begin (n := 79) (e := [(0, vs), (1, vps)]) (vs := [vs, vps]) Tryz.func37 rfl rfl (Nat.le_of_ble_eq_true rfl) hs ⟨rfl, rfl, trivial⟩ (gc_seq (gc_region (gl_newop (new_boxx (ρ := (rpP (rpT (rpQ m)) (rpQ l))) rfl rs) rfl rfl rfl ?_)))
 intro v2 q2 hq2
 obtain ⟨b2, cs2, rfl, rfl, rb2⟩ := hq2
 refine asg rfl rfl (asg rfl rfl (gl_nil (gq_then (gc_seq (gc_seq (gc_region (mv rfl rfl (gv (ov_len_sr Tryz.underlying27 rfl rps) rfl (gv (ov_eql_i (q := 0) rfl rfl) rfl ?_)))))))))
 refine gl_cut (ι := Mem) 5 (fun m_ => MLe h0 m_) (fun _ => [(19, vB (((↑(ps).length : Int) = (0 : Int)) ∨ (s.1 = (T3.mk (0 : Rat) (0 : Rat) (0 : Rat))))), (1, vps), (2, vP b2 0)]) (fun _ => [.var b2 34 cs2]) (fun m_ => m_) ?_ ?_
 ·
  refine gl_cases ((↑(ps).length : Int) = (0 : Int)) (fun hg => ?_) (fun hg => ?_)
  ·
   refine gl_val (ov_move (v := .bool true) (congrArg some (vB_true hg))) rfl rfl rfl (gl_off rfl rfl rfl rfl rfl rfl (gl_off rfl rfl rfl rfl rfl rfl (gl_off rfl rfl rfl rfl rfl rfl (gv (ov_pick_t rfl rfl) rfl (gl_nil ?_)))))
   refine gq_cut h0 (MLe.refl _) ⟨?_, rfl, rfl, trivial⟩ rfl rfl
   exact congrArg some (vB_or_t hg)
  refine gl_val (ov_move (v := .bool false) (congrArg some (vB_false hg))) rfl rfl rfl (gl_on rfl rfl rfl (gv ((ov_field_addr Tryz.underlying34 rfl Tryz.sizeOf32 rfl).cv (show _ = vP b2 0 from congrArg (vP b2) (by rfl))) rfl (gl_on rfl rfl rfl (gl_x (F := fun v_ => (rpT (rpQ m)).Is h0 v_ s.1) (ox_load_box ty32 (Pc.fst (Pc.here _)) rfl rfl rb2 rfl) (mem1 (.head _)) rfl ?_))))
  intro v17 r17
  refine gl_on rfl rfl rfl ?_
  refine gl_call (vs := [_]) rfl rfl rfl rfl Tryz.call41 ⟨rfl, trivial⟩ (fun w hs => o_r4_zero hs r17 (by omega)) ?_
  intro v18 h1 hh1 r18
  obtain rfl : v18 = vB (s.1 = (T3.mk (0 : Rat) (0 : Rat) (0 : Rat))) := r18
  refine gv (ov_pick_f rfl rfl) rfl (gl_nil ?_)
  refine gq_cut h1 hh1 ⟨?_, rfl, rfl, trivial⟩ rfl rfl
  exact congrArg some (vB_or_f hg)
 intro mg1_3 hmmg1_3
 show GL _ _ _ _ _ _ _ [(19, vB (((↑(ps).length : Int) = (0 : Int)) ∨ (s.1 = (T3.mk (0 : Rat) (0 : Rat) (0 : Rat))))), (1, vps), (2, vP b2 0)] [.var b2 34 cs2] mg1_3
 refine gl_nil (gq_then ?_)
 refine gc_cond rfl (fun hc19 => ?_) (fun hc19 => ?_)
 ·
  have hz : ps.length = 0 ∨ s.1 = zT := hc19.imp (fun e => by omega) id
  refine gc_seq (gc_region (asg rfl rfl (asg rfl rfl (gl_nil (gq_then (gc_ret (gr_then (gq_body2 rfl rfl rfl ?_))))))))
  refine ⟨_, ?_, (Rp.Is.cast (is_nil _) (by exact (if_pos hz).symm))⟩
  rw [vB_false (fun e => e hz)]
 have hz : ¬ (ps.length = 0 ∨ s.1 = zT) := fun e => hc19 (e.imp (fun e => by omega) id)
 refine gc_skip (gq_then (gc_seq ?_))
 refine gc_draw 6 _ [(5, (6, 32, [.bool false, .slice none 0 0, .slice none 0 0, .bool false, .slice none 0 0, .slice none 0 0, .bool false, .slice none 0 0, .slice none 0 0]))] [(0, .q), (1, .q), (2, .q), (3, .q), (4, .c), (5, .a), (6, .t)] mixed (AlOk.cons rfl (zero_run info32 rfl rfl) AlOk.nil) (by kernel_rfl) (hae_cons rfl rfl hae_nil) (fun r hr => hr) ?_
 replace rb2 := rb2.mono hmmg1_3
 refine w_qx (F := fun v_ => (rpP (rpT (rpQ m)) (rpQ l)).Is mg1_3 v_ s) rfl (ox_load_box ty34 (Pc.here _) rfl rfl rb2 rfl) (mem1 (.head _)) rfl ?_
 intro v20 r20
 refine w_q rfl (fun h' L' hh hR => ov_move rfl) rfl ?_
 replace rps := rps.mono hmmg1_3
 refine w_qx (F := fun v_ => AtP (rpT (rpQ k)) mg1_3 v_ (ps.getD 0 (T3.mk (0 : Rat) (0 : Rat) (0 : Rat)))) rfl (ox_idx_s (q := 0) (T3.mk (0 : Rat) (0 : Rat) (0 : Rat)) 0 Tryz.underlying27 ty32 rfl rfl rps rfl (by omega) (show 0 < 9 from by decide)) mem0 rfl ?_
 intro v22 r22
 refine w_qx (F := fun v_ => (rpT (rpQ k)).Is mg1_3 v_ (ps.getD 0 (T3.mk (0 : Rat) (0 : Rat) (0 : Rat)))) rfl (ox_load_at ty32 rfl r22) mem0 rfl ?_
 intro v23 r23
 refine w_c rfl ?_
 refine s_call (vs := [_, _]) Tryz.call73 ⟨rfl, rfl, trivial⟩ (fun w hs => o_r5_flatten hs r20 r23 (by omega) (by omega)) rfl ?_
 intro v24 h1 hh1 r24
 change (rpT (rpQ (k + 1))).Is h1 v24 (flatZ s (ps.getD 0 (T3.mk (0 : Rat) (0 : Rat) (0 : Rat)))) at r24
 refine w_a rfl (fun b6 => ?_)
 have rb6 : (rpT (rpQ (k + 1))).R h1 [.bool false, .slice none 0 0, .slice none 0 0, .bool false, .slice none 0 0, .slice none 0 0, .bool false, .slice none 0 0, .slice none 0 0] (T3.mk (0 : Rat) (0 : Rat) (0 : Rat)) := (zr_t (zr_q (by omega)))
 refine w_tx_upd (A := []) (F := fun c_ => (rpT (rpQ (k + 1))).R h1 c_ (flatZ s (ps.getD 0 (T3.mk (0 : Rat) (0 : Rat) (0 : Rat))))) rfl (upd_box Tryz.sizeOf32 (Pc.here _) rfl rfl rfl rb6 r24 rfl) ?_
 intro cs_18 rb_19
 refine w_nil (gq_then (gc_seq (gc_region (gl_x (F := fun v_ => (rpT (rpQ (k + 1))).Is h1 v_ (flatZ s (ps.getD 0 (T3.mk (0 : Rat) (0 : Rat) (0 : Rat))))) (ox_load_box ty32 (Pc.here _) rfl rfl rb_19 rfl) (mem1 (.head _)) rfl ?_))))
 intro v25 r25
 refine gl_newop (new_allocx (ρ := (rpT (rpQ (k + 1)))) (X := (T3.mk (0 : Rat) (0 : Rat) (0 : Rat))) info32 rfl rfl (zr_t (zr_q (by omega)))) rfl rfl rfl ?_
 intro v7 q7 hq7
 obtain ⟨b7, cs7, rfl, rfl, rb7⟩ := hq7
 refine gl_updx (A := []) (F := fun c_ => (rpT (rpQ (k + 1))).R h1 c_ (flatZ s (ps.getD 0 (T3.mk (0 : Rat) (0 : Rat) (0 : Rat))))) (upd_box Tryz.sizeOf32 (Pc.here _) rfl rfl rfl rb7 r25 rfl) ?_
 intro cs_20 rb_21
 refine gl_nil (gq_then (gc_seq (gc_seq (gc_region (asg (v := vI (0)) rfl rfl (gl_nil (gq_then (gc_block ?_))))))))
 refine gc_loop (ι := Nat × List Value × List Value × Mem) (fun (i, cs_22, cs_24, ma) => MLe h1 ma ∧ ((rpT (rpQ (k + 1))).R ma cs_22 (loT2 s ps i) ∧ (rpT (rpQ (k + 1))).R ma cs_24 (hiT2 s ps i) ∧ i ≤ ps.length)) (fun (i, cs_22, cs_24, ma) => [(1, vps), (2, vP b2 0), (6, vP b6 0), (7, vP b7 0), (8, vI ↑i)]) (fun (i, cs_22, cs_24, ma) => [.var b7 32 cs_24, .var b6 32 cs_22, .var b2 34 cs2]) (fun (i, cs_22, cs_24, ma) => ma) (fun (i, cs_22, cs_24, ma) => ps.length - i) (0, cs_18, cs_20, h1) ?_ ⟨rfl, rfl, rfl, rfl, rfl, trivial⟩ rfl rfl ?_
 ·
  refine ⟨MLe.refl _, ?_⟩
  refine ⟨rb_19, rb_21, ?_⟩
  exact (by omega)
 intro x hx
 obtain ⟨i, cs_22, cs_24, ma⟩ := x
 obtain ⟨hmma, hinv⟩ := hx
 show GC _ _ _ _ _ _ [(1, vps), (2, vP b2 0), (6, vP b6 0), (7, vP b7 0), (8, vI ↑i)] [.var b7 32 cs_24, .var b6 32 cs_22, .var b2 34 cs2] ma
 obtain ⟨rb_23, rb_25, hinv⟩ := hinv
 have hi1 := hinv
 refine gc_seq (gc_seq (gc_region (mv rfl rfl (mv rfl rfl ?_))))
 replace rps := rps.mono (hh1.trans hmma)
 refine gv (ov_len_sr Tryz.underlying27 rfl rps) rfl (gv (ov_lss_i rfl rfl) rfl (gl_nil (gq_then ?_)))
 refine gc_cond rfl (fun hc29 => ?_) (fun hc29 => ?_)
 ·
  refine gc_skip (gq_then (gc_seq (gc_block (gc_seq ?_))))
  refine gc_draw 7 _ [(6, (9, 32, [.bool false, .slice none 0 0, .slice none 0 0, .bool false, .slice none 0 0, .slice none 0 0, .bool false, .slice none 0 0, .slice none 0 0]))] [(0, .q), (1, .q), (2, .q), (3, .q), (4, .q), (5, .c), (6, .a), (7, .t)] mixed (AlOk.cons rfl (zero_run info32 rfl rfl) AlOk.nil) (by kernel_rfl) (hae_cons rfl rfl hae_nil) (fun r hr => hr) ?_
  replace rb2 := rb2.mono (hh1.trans hmma)
  refine w_qx (F := fun v_ => (rpP (rpT (rpQ m)) (rpQ l)).Is ma v_ s) rfl (ox_load_box ty34 (Pc.here _) rfl rfl rb2 rfl) (mem1 (.tail _ (.tail _ (.head _)))) rfl ?_
  intro v32 r32
  refine w_q rfl (fun h' L' hh hR => ov_move rfl) rfl (w_q rfl (fun h' L' hh hR => ov_move rfl) rfl (w_qx (F := fun v_ => AtP (rpT (rpQ k)) ma v_ (ps.getD i (T3.mk (0 : Rat) (0 : Rat) (0 : Rat)))) rfl (ox_idx_s (T3.mk (0 : Rat) (0 : Rat) (0 : Rat)) i Tryz.underlying27 ty32 rfl rfl rps rfl (by omega) (show 0 < 9 from by decide)) mem0 rfl ?_))
  intro v35 r35
  refine w_qx (F := fun v_ => (rpT (rpQ k)).Is ma v_ (ps.getD i (T3.mk (0 : Rat) (0 : Rat) (0 : Rat)))) rfl (ox_load_at ty32 rfl r35) mem0 rfl ?_
  intro v36 r36
  refine w_c rfl ?_
  refine s_call (vs := [_, _]) Tryz.call73 ⟨rfl, rfl, trivial⟩ (fun w hs => o_r5_flatten hs r32 r36 (by omega) (by omega)) rfl ?_
  intro v37 h2 hh2 r37
  change (rpT (rpQ (k + 1))).Is h2 v37 (flatZ s (ps.getD i (T3.mk (0 : Rat) (0 : Rat) (0 : Rat)))) at r37
  refine w_a rfl (fun b9 => ?_)
  have rb9 : (rpT (rpQ (k + 1))).R h2 [.bool false, .slice none 0 0, .slice none 0 0, .bool false, .slice none 0 0, .slice none 0 0, .bool false, .slice none 0 0, .slice none 0 0] (T3.mk (0 : Rat) (0 : Rat) (0 : Rat)) := (zr_t (zr_q (by omega)))
  refine w_tx_upd (A := []) (F := fun c_ => (rpT (rpQ (k + 1))).R h2 c_ (flatZ s (ps.getD i (T3.mk (0 : Rat) (0 : Rat) (0 : Rat))))) rfl (upd_box Tryz.sizeOf32 (Pc.here _) rfl rfl rfl rb9 r37 rfl) ?_
  intro cs_26 rb_27
  refine w_nil (gq_keep (e' := [(1, _), (2, _), (6, _), (7, _), (8, _), (9, _)]) ⟨rfl, rfl, rfl, rfl, rfl, rfl, trivial⟩ (gq_then (gc_seq (gc_region (asg (v := vI (0)) rfl rfl (gl_nil (gq_then (gc_block (gc_loop1 (gc_seq (gc_seq (gc_region (mv rfl rfl ?_)))))))))))))
  refine gv (OpV.tr (by decide) (ov_lss_i (q := 2) rfl rfl)) rfl (gl_nil (gq_then (gc_cond_t rfl (gc_skip (gq_then (gc_seq (gc_block ?_)))))))
  refine gc_draw 17 _ [] [(0, .q), (1, .p), (2, .q), (3, .q), (4, .q), (5, .q), (6, .q), (7, .q), (9, .q), (10, .q), (11, .q), (12, .q), (13, .q), (14, .q), (8, .c), (16, .q), (15, .c), (17, .t), (18, .t), (19, .t)] mixed (fun x hx => by cases hx) (chk_of [0, 0, 0, 4, 8, 0, 32, 64, 144, 0, 512, 1024, 0, 4096, 8192, 18688, 509, 98813, 262143, 524287] [1048575, 1048575, 1048575, 1048571, 1048567, 1048575, 1048543, 1048511, 1048431, 1048575, 1048063, 1047551, 1048575, 1044479, 1040383, 1030143, 1048574, 982783, 1048573, 753663] (by kernel_rfl)) (fun x hx => by cases hx) (fun r hr => hr) (w_q rfl (fun h' L' hh hR => ov_move rfl) rfl (w_p (⟨.inl rfl,  rfl⟩) rfl rfl (w_q rfl (fun h' L' hh hR => ov_move rfl) rfl (w_q rfl (fun h' L' hh hR => (ov_index_arr (sz := 3) 0 Tryz.underlying32 Tryz.sizeOf30 rfl rfl rfl (by decide)).cv (show _ = vP b6 0 from congrArg (vP b6) (by rfl))) rfl ?_))))
  replace rb_23 := rb_23.mono hh2
  refine w_qx (F := fun v_ => (rpQ (k + 1)).Is h2 v_ ((loT2 s ps i).x)) rfl (ox_load_box ty30 (Pc.tx (Pc.here _)) rfl rfl rb_23 rfl) (mem1 (.tail _ (.tail _ (.head _)))) rfl ?_
  intro v46u6 r46u6
  refine w_q rfl (fun h' L' hh hR => ov_move rfl) rfl (w_q rfl (fun h' L' hh hR => (ov_index_arr (sz := 3) 0 Tryz.underlying32 Tryz.sizeOf30 rfl rfl rfl (by decide)).cv (show _ = vP b9 0 from congrArg (vP b9) (by rfl))) rfl (w_qx (F := fun v_ => (rpQ (k + 1)).Is h2 v_ ((flatZ s (ps.getD i (T3.mk (0 : Rat) (0 : Rat) (0 : Rat)))).x)) rfl (ox_load_box ty30 (Pc.tx (Pc.here _)) rfl rfl rb_27 rfl) (mem1 (.head _)) rfl ?_))
  intro v49u6 r49u6
  refine w_q rfl (fun h' L' hh hR => ov_move rfl) rfl (w_q rfl (fun h' L' hh hR => (ov_index_arr (sz := 3) 0 Tryz.underlying32 Tryz.sizeOf30 rfl rfl rfl (by decide)).cv (show _ = vP b7 0 from congrArg (vP b7) (by rfl))) rfl ?_)
  replace rb_25 := rb_25.mono hh2
  refine w_qx (F := fun v_ => (rpQ (k + 1)).Is h2 v_ ((hiT2 s ps i).x)) rfl (ox_load_box ty30 (Pc.tx (Pc.here _)) rfl rfl rb_25 rfl) (mem1 (.tail _ (.head _))) rfl ?_
  intro v53u6 r53u6
  refine w_q rfl (fun h' L' hh hR => ov_move rfl) rfl (w_q rfl (fun h' L' hh hR => (ov_index_arr (sz := 3) 0 Tryz.underlying32 Tryz.sizeOf30 rfl rfl rfl (by decide)).cv (show _ = vP b9 0 from congrArg (vP b9) (by rfl))) rfl (w_qx (F := fun v_ => (rpQ (k + 1)).Is h2 v_ ((flatZ s (ps.getD i (T3.mk (0 : Rat) (0 : Rat) (0 : Rat)))).x)) rfl (ox_load_box ty30 (Pc.tx (Pc.here _)) rfl rfl rb_27 rfl) (mem1 (.head _)) rfl ?_))
  intro v56u6 r56u6
  refine w_c rfl ?_
  refine s_call (vs := [_, _]) Tryz.call74 ⟨rfl, rfl, trivial⟩ (fun w hs => o_rref_min hs r46u6 r49u6 (by omega)) rfl ?_
  intro v50u6 h3 hh3 r50u6
  change (rpQ (k + 1)).Is h3 v50u6 (minQ ((loT2 s ps i).x) ((flatZ s (ps.getD i (T3.mk (0 : Rat) (0 : Rat) (0 : Rat)))).x)) at r50u6
  refine w_q rfl (fun h' L' hh hR => (ov_index_arr (sz := 3) 0 Tryz.underlying32 Tryz.sizeOf30 rfl rfl rfl (by decide)).cv (show _ = vP b6 0 from congrArg (vP b6) (by rfl))) rfl ?_
  refine w_c rfl ?_
  replace r53u6 := r53u6.mono hh3
  replace r56u6 := r56u6.mono hh3
  refine s_call (vs := [_, _]) Tryz.call75 ⟨rfl, rfl, trivial⟩ (fun w hs => o_rref_max hs r53u6 r56u6 (by omega)) rfl ?_
  intro v57u6 h4 hh4 r57u6
  change (rpQ (k + 1)).Is h4 v57u6 (maxQ ((hiT2 s ps i).x) ((flatZ s (ps.getD i (T3.mk (0 : Rat) (0 : Rat) (0 : Rat)))).x)) at r57u6
  replace rb_23 := rb_23.mono (hh3.trans hh4)
  replace r50u6 := r50u6.mono hh4
  refine w_tx_upd (A := [_, _]) (F := fun c_ => (rpT (rpQ (k + 1))).R h4 c_ (T3.mk (minQ ((loT2 s ps i).x) ((flatZ s (ps.getD i (T3.mk (0 : Rat) (0 : Rat) (0 : Rat)))).x)) ((loT2 s ps i).y) ((loT2 s ps i).z))) rfl (upd_box Tryz.sizeOf30 (Pc.tx (Pc.here _)) rfl rfl rfl rb_23 r50u6 rfl) ?_
  intro cs_28 rb_29
  refine w_t_val rfl ((ov_index_arr (sz := 3) 0 Tryz.underlying32 Tryz.sizeOf30 rfl rfl rfl (by decide)).cv (show _ = vP b7 0 from congrArg (vP b7) (by rfl))) rfl ?_
  replace rb_25 := rb_25.mono (hh3.trans hh4)
  refine w_tx_upd (A := [_]) (F := fun c_ => (rpT (rpQ (k + 1))).R h4 c_ (T3.mk (maxQ ((hiT2 s ps i).x) ((flatZ s (ps.getD i (T3.mk (0 : Rat) (0 : Rat) (0 : Rat)))).x)) ((hiT2 s ps i).y) ((hiT2 s ps i).z))) rfl (upd_box Tryz.sizeOf30 (Pc.tx (Pc.here _)) rfl rfl rfl rb_25 r57u6 rfl) ?_
  intro cs_30 rb_31
  refine w_nil (gq_in (gq_keep (e' := [(1, _), (2, _), (6, _), (7, _), (8, _), (9, _), (10, _)]) ⟨rfl, rfl, rfl, rfl, rfl, rfl, rfl, trivial⟩ (gq_then (gc_region (mv rfl rfl (gv ((ov_add_i (q := 1) rfl rfl (by omega) (by omega)).cv (show _ = vI (1) from rfl)) rfl (asg rfl rfl (gl_nil (gq_loop1 (gc_seq (gc_seq (gc_region (mv rfl rfl ?_)))))))))))))
  refine gv (OpV.tr (by decide) (ov_lss_i (q := 2) rfl rfl)) rfl (gl_nil (gq_then (gc_cond_t rfl (gc_skip (gq_then (gc_seq (gc_block ?_)))))))
  refine gc_draw 17 _ [] [(0, .q), (1, .p), (2, .q), (3, .q), (4, .q), (5, .q), (6, .q), (7, .q), (9, .q), (10, .q), (11, .q), (12, .q), (13, .q), (14, .q), (8, .c), (16, .q), (15, .c), (17, .t), (18, .t), (19, .t)] mixed (fun x hx => by cases hx) (chk_of [0, 0, 0, 4, 8, 0, 32, 64, 144, 0, 512, 1024, 0, 4096, 8192, 18688, 509, 98813, 262143, 524287] [1048575, 1048575, 1048575, 1048571, 1048567, 1048575, 1048543, 1048511, 1048431, 1048575, 1048063, 1047551, 1048575, 1044479, 1040383, 1030143, 1048574, 982783, 1048573, 753663] (by kernel_rfl)) (fun x hx => by cases hx) (fun r hr => hr) (w_q rfl (fun h' L' hh hR => ov_move rfl) rfl (w_p (⟨.inl rfl,  rfl⟩) rfl rfl (w_q rfl (fun h' L' hh hR => ov_move rfl) rfl (w_q rfl (fun h' L' hh hR => (ov_index_arr (sz := 3) 1 Tryz.underlying32 Tryz.sizeOf30 rfl rfl rfl (by decide)).cv (show _ = vP b6 3 from congrArg (vP b6) (by rfl))) rfl (w_qx (F := fun v_ => (rpQ (k + 1)).Is h4 v_ ((loT2 s ps i).y)) rfl (ox_load_box ty30 (Pc.ty (Pc.here _)) rfl rfl rb_29 rfl) (mem1 (.tail _ (.tail _ (.head _)))) rfl ?_)))))
  intro v46u7 r46u7
  refine w_q rfl (fun h' L' hh hR => ov_move rfl) rfl (w_q rfl (fun h' L' hh hR => (ov_index_arr (sz := 3) 1 Tryz.underlying32 Tryz.sizeOf30 rfl rfl rfl (by decide)).cv (show _ = vP b9 3 from congrArg (vP b9) (by rfl))) rfl ?_)
  replace rb_27 := rb_27.mono (hh3.trans hh4)
  refine w_qx (F := fun v_ => (rpQ (k + 1)).Is h4 v_ ((flatZ s (ps.getD i (T3.mk (0 : Rat) (0 : Rat) (0 : Rat)))).y)) rfl (ox_load_box ty30 (Pc.ty (Pc.here _)) rfl rfl rb_27 rfl) (mem1 (.head _)) rfl ?_
  intro v49u7 r49u7
  refine w_q rfl (fun h' L' hh hR => ov_move rfl) rfl (w_q rfl (fun h' L' hh hR => (ov_index_arr (sz := 3) 1 Tryz.underlying32 Tryz.sizeOf30 rfl rfl rfl (by decide)).cv (show _ = vP b7 3 from congrArg (vP b7) (by rfl))) rfl (w_qx (F := fun v_ => (rpQ (k + 1)).Is h4 v_ ((hiT2 s ps i).y)) rfl (ox_load_box ty30 (Pc.ty (Pc.here _)) rfl rfl rb_31 rfl) (mem1 (.tail _ (.head _))) rfl ?_))
  intro v53u7 r53u7
  refine w_q rfl (fun h' L' hh hR => ov_move rfl) rfl (w_q rfl (fun h' L' hh hR => (ov_index_arr (sz := 3) 1 Tryz.underlying32 Tryz.sizeOf30 rfl rfl rfl (by decide)).cv (show _ = vP b9 3 from congrArg (vP b9) (by rfl))) rfl (w_qx (F := fun v_ => (rpQ (k + 1)).Is h4 v_ ((flatZ s (ps.getD i (T3.mk (0 : Rat) (0 : Rat) (0 : Rat)))).y)) rfl (ox_load_box ty30 (Pc.ty (Pc.here _)) rfl rfl rb_27 rfl) (mem1 (.head _)) rfl ?_))
  intro v56u7 r56u7
  refine w_c rfl ?_
  refine s_call (vs := [_, _]) Tryz.call74 ⟨rfl, rfl, trivial⟩ (fun w hs => o_rref_min hs r46u7 r49u7 (by omega)) rfl ?_
  intro v50u7 h5 hh5 r50u7
  change (rpQ (k + 1)).Is h5 v50u7 (minQ ((loT2 s ps i).y) ((flatZ s (ps.getD i (T3.mk (0 : Rat) (0 : Rat) (0 : Rat)))).y)) at r50u7
  refine w_q rfl (fun h' L' hh hR => (ov_index_arr (sz := 3) 1 Tryz.underlying32 Tryz.sizeOf30 rfl rfl rfl (by decide)).cv (show _ = vP b6 3 from congrArg (vP b6) (by rfl))) rfl ?_
  refine w_c rfl ?_
  replace r53u7 := r53u7.mono hh5
  replace r56u7 := r56u7.mono hh5
  refine s_call (vs := [_, _]) Tryz.call75 ⟨rfl, rfl, trivial⟩ (fun w hs => o_rref_max hs r53u7 r56u7 (by omega)) rfl ?_
  intro v57u7 h6 hh6 r57u7
  change (rpQ (k + 1)).Is h6 v57u7 (maxQ ((hiT2 s ps i).y) ((flatZ s (ps.getD i (T3.mk (0 : Rat) (0 : Rat) (0 : Rat)))).y)) at r57u7
  replace rb_29 := rb_29.mono (hh5.trans hh6)
  replace r50u7 := r50u7.mono hh6
  refine w_tx_upd (A := [_, _]) (F := fun c_ => (rpT (rpQ (k + 1))).R h6 c_ (T3.mk (minQ ((loT2 s ps i).x) ((flatZ s (ps.getD i (T3.mk (0 : Rat) (0 : Rat) (0 : Rat)))).x)) (minQ ((loT2 s ps i).y) ((flatZ s (ps.getD i (T3.mk (0 : Rat) (0 : Rat) (0 : Rat)))).y)) ((loT2 s ps i).z))) rfl (upd_box Tryz.sizeOf30 (Pc.ty (Pc.here _)) rfl rfl rfl rb_29 r50u7 rfl) ?_
  intro cs_32 rb_33
  refine w_t_val rfl ((ov_index_arr (sz := 3) 1 Tryz.underlying32 Tryz.sizeOf30 rfl rfl rfl (by decide)).cv (show _ = vP b7 3 from congrArg (vP b7) (by rfl))) rfl ?_
  replace rb_31 := rb_31.mono (hh5.trans hh6)
  refine w_tx_upd (A := [_]) (F := fun c_ => (rpT (rpQ (k + 1))).R h6 c_ (T3.mk (maxQ ((hiT2 s ps i).x) ((flatZ s (ps.getD i (T3.mk (0 : Rat) (0 : Rat) (0 : Rat)))).x)) (maxQ ((hiT2 s ps i).y) ((flatZ s (ps.getD i (T3.mk (0 : Rat) (0 : Rat) (0 : Rat)))).y)) ((hiT2 s ps i).z))) rfl (upd_box Tryz.sizeOf30 (Pc.ty (Pc.here _)) rfl rfl rfl rb_31 r57u7 rfl) ?_
  intro cs_34 rb_35
  refine w_nil (gq_in (gq_keep (e' := [(1, _), (2, _), (6, _), (7, _), (8, _), (9, _), (10, _)]) ⟨rfl, rfl, rfl, rfl, rfl, rfl, rfl, trivial⟩ (gq_then (gc_region (mv rfl rfl (gv ((ov_add_i (q := 1) rfl rfl (by omega) (by omega)).cv (show _ = vI (2) from rfl)) rfl (asg rfl rfl (gl_nil (gq_loop1 (gc_seq (gc_seq (gc_region (mv rfl rfl ?_)))))))))))))
  refine gv (OpV.fa (by decide) (ov_lss_i (q := 2) rfl rfl)) rfl (gl_nil (gq_then (gc_cond_f rfl (gc_exit (gx_then (gx_then (gx_here (gq_in (gq_then (gc_region (mv rfl rfl (gv (ov_add_i (q := 1) rfl rfl (by omega) (by omega)) rfl (asg rfl rfl ?_)))))))))))))
  refine gl_nil (gq_drop (A := []) ?_)
  refine gq_round ((i + 1), cs_32, cs_34, h6) ?_ ?_ ⟨rfl, rfl, rfl, rfl, rfl, trivial⟩ rfl rfl
  ·
   refine ⟨(((((hmma.trans hh2).trans hh3).trans hh4).trans hh5).trans hh6), ?_⟩
   refine ⟨(Rp.castR rb_33 rfl), (Rp.castR rb_35 rfl), ?_⟩
   exact (by omega)
  dsimp only
  omega
 have ei : i = ps.length := by omega
 refine gc_exit (gx_then (gx_then (gx_here (gq_then (gc_seq (gc_region ?_))))))
 refine gl_call (vs := [vI (1)]) rfl rfl rfl rfl Tryz.call45 ⟨rfl, trivial⟩ (fun w hs => o_rref_int hs (by decide) (by decide)) ?_
 intro v60 h2 hh2 r60
 change (rpQ 2).Is h2 v60 (((1 : Int) : Int) : Rat) at r60
 refine gl_newop (new_allocx (ρ := (rpQ 1)) (X := (0 : Rat)) info30 rfl rfl (zr_q (by decide))) rfl rfl rfl ?_
 intro v11 q11 hq11
 obtain ⟨b11, cs11, rfl, rfl, rb11⟩ := hq11
 have rw_36 := (Le.q (l := 2) (by decide)).R rb11
 refine gl_updx (A := []) (F := fun c_ => (rpQ 2).R h2 c_ (((1 : Int) : Int) : Rat)) (upd_box Tryz.sizeOf30 (Pc.here _) rfl rfl rfl rw_36 r60 rfl) ?_
 intro cs_37 rb_38
 refine gl_nil (gq_then (gc_seq ?_))
 refine gc_draw 20 _ [] [(0, .q), (1, .q), (2, .q), (3, .q), (5, .q), (6, .q), (7, .q), (9, .q), (10, .q), (11, .q), (13, .q), (14, .q), (15, .q), (4, .c), (8, .c), (12, .c), (16, .c), (17, .c), (18, .q), (19, .q)] mixed (fun x hx => by cases hx) (chk_of [0, 0, 2, 0, 12, 0, 32, 0, 208, 0, 512, 0, 3328, 0, 8192, 0, 53248, 69905, 262143, 524287] [1048575, 1048575, 1048573, 1048575, 1048563, 1048575, 1048543, 1048575, 1048383, 1048575, 1048063, 1048575, 1045503, 1048575, 1040383, 1048575, 999423, 978670, 917503, 1048575] (by kernel_rfl)) (fun x hx => by cases hx) (fun r hr => hr) ?_
 replace rb2 := rb2.mono ((hh1.trans hmma).trans hh2)
 refine w_qx (F := fun v_ => (rpP (rpT (rpQ m)) (rpQ l)).Is h2 v_ s) rfl (ox_load_box ty34 (Pc.here _) rfl rfl rb2 rfl) (mem1 (.tail _ (.tail _ (.tail _ (.head _))))) rfl ?_
 intro v61 r61
 refine w_q rfl (fun h' L' hh hR => (ov_index_arr (sz := 3) (q := 0) 0 Tryz.underlying32 Tryz.sizeOf30 rfl rfl rfl (by decide)).cv (show _ = vP b6 0 from congrArg (vP b6) (by rfl))) rfl ?_
 replace rb_23 := rb_23.mono hh2
 refine w_qx (F := fun v_ => (rpQ (k + 1)).Is h2 v_ ((loT2 s ps i).x)) rfl (ox_load_box ty30 (Pc.tx (Pc.here _)) rfl rfl rb_23 rfl) (mem1 (.tail _ (.tail _ (.head _)))) rfl ?_
 intro v63 r63
 refine w_qx (F := fun v_ => (rpQ 2).Is h2 v_ (((1 : Int) : Int) : Rat)) rfl (ox_load_box ty30 (Pc.here _) rfl rfl rb_38 rfl) (mem1 (.head _)) rfl ?_
 intro v64 r64
 refine w_q rfl (fun h' L' hh hR => (ov_index_arr (sz := 3) (q := 1) 1 Tryz.underlying32 Tryz.sizeOf30 rfl rfl rfl (by decide)).cv (show _ = vP b6 3 from congrArg (vP b6) (by rfl))) rfl (w_qx (F := fun v_ => (rpQ (k + 1)).Is h2 v_ ((loT2 s ps i).y)) rfl (ox_load_box ty30 (Pc.ty (Pc.here _)) rfl rfl rb_23 rfl) (mem1 (.tail _ (.tail _ (.head _)))) rfl ?_)
 intro v67 r67
 refine w_qx (F := fun v_ => (rpQ 2).Is h2 v_ (((1 : Int) : Int) : Rat)) rfl (ox_load_box ty30 (Pc.here _) rfl rfl rb_38 rfl) (mem1 (.head _)) rfl ?_
 intro v68 r68
 refine w_q rfl (fun h' L' hh hR => (ov_index_arr (sz := 3) (q := 0) 0 Tryz.underlying32 Tryz.sizeOf30 rfl rfl rfl (by decide)).cv (show _ = vP b7 0 from congrArg (vP b7) (by rfl))) rfl ?_
 replace rb_25 := rb_25.mono hh2
 refine w_qx (F := fun v_ => (rpQ (k + 1)).Is h2 v_ ((hiT2 s ps i).x)) rfl (ox_load_box ty30 (Pc.tx (Pc.here _)) rfl rfl rb_25 rfl) (mem1 (.tail _ (.head _))) rfl ?_
 intro v71 r71
 refine w_qx (F := fun v_ => (rpQ 2).Is h2 v_ (((1 : Int) : Int) : Rat)) rfl (ox_load_box ty30 (Pc.here _) rfl rfl rb_38 rfl) (mem1 (.head _)) rfl ?_
 intro v72 r72
 refine w_q rfl (fun h' L' hh hR => (ov_index_arr (sz := 3) (q := 1) 1 Tryz.underlying32 Tryz.sizeOf30 rfl rfl rfl (by decide)).cv (show _ = vP b7 3 from congrArg (vP b7) (by rfl))) rfl (w_qx (F := fun v_ => (rpQ (k + 1)).Is h2 v_ ((hiT2 s ps i).y)) rfl (ox_load_box ty30 (Pc.ty (Pc.here _)) rfl rfl rb_25 rfl) (mem1 (.tail _ (.head _))) rfl ?_)
 intro v75 r75
 refine w_qx (F := fun v_ => (rpQ 2).Is h2 v_ (((1 : Int) : Int) : Rat)) rfl (ox_load_box ty30 (Pc.here _) rfl rfl rb_38 rfl) (mem1 (.head _)) rfl ?_
 intro v76 r76
 refine w_c rfl ?_
 refine s_call (vs := [_, _]) Tryz.call56 ⟨rfl, rfl, trivial⟩ (fun w hs => o_rref_sub hs r63 r64 (by omega)) rfl ?_
 intro v65 h3 hh3 r65
 change (rpQ ((k + 1) + 2 + 1)).Is h3 v65 (((loT2 s ps i).x) - (((1 : Int) : Int) : Rat)) at r65
 replace r65 := Rp.Is.le r65 (Le.q (l := k + 4) (by omega))
 refine w_c rfl ?_
 replace r67 := r67.mono hh3
 replace r68 := r68.mono hh3
 refine s_call (vs := [_, _]) Tryz.call56 ⟨rfl, rfl, trivial⟩ (fun w hs => o_rref_sub hs r67 r68 (by omega)) rfl ?_
 intro v69 h4 hh4 r69
 change (rpQ ((k + 1) + 2 + 1)).Is h4 v69 (((loT2 s ps i).y) - (((1 : Int) : Int) : Rat)) at r69
 replace r69 := Rp.Is.le r69 (Le.q (l := k + 4) (by omega))
 refine w_c rfl ?_
 replace r71 := r71.mono (hh3.trans hh4)
 replace r72 := r72.mono (hh3.trans hh4)
 refine s_call (vs := [_, _]) Tryz.call53 ⟨rfl, rfl, trivial⟩ (fun w hs => o_rref_add hs r71 r72 (by omega)) rfl ?_
 intro v73 h5 hh5 r73
 change (rpQ ((k + 1) + 2 + 1)).Is h5 v73 (((hiT2 s ps i).x) + (((1 : Int) : Int) : Rat)) at r73
 replace r73 := Rp.Is.le r73 (Le.q (l := k + 4) (by omega))
 refine w_c rfl ?_
 replace r75 := r75.mono ((hh3.trans hh4).trans hh5)
 replace r76 := r76.mono ((hh3.trans hh4).trans hh5)
 refine s_call (vs := [_, _]) Tryz.call53 ⟨rfl, rfl, trivial⟩ (fun w hs => o_rref_add hs r75 r76 (by omega)) rfl ?_
 intro v77 h6 hh6 r77
 change (rpQ ((k + 1) + 2 + 1)).Is h6 v77 (((hiT2 s ps i).y) + (((1 : Int) : Int) : Rat)) at r77
 replace r77 := Rp.Is.le r77 (Le.q (l := k + 4) (by omega))
 refine w_c rfl ?_
 replace r61 := r61.mono (((hh3.trans hh4).trans hh5).trans hh6)
 replace r65 := r65.mono ((hh4.trans hh5).trans hh6)
 replace r69 := r69.mono (hh5.trans hh6)
 replace r73 := r73.mono hh6
 refine s_call (vs := [_, _, _, _, _]) Tryz.call76 ⟨rfl, rfl, rfl, rfl, rfl, trivial⟩ (fun w hs => o_r6_square hs r61 r65 r69 r73 r77 (by omega) (by omega) (by omega)) rfl ?_
 intro v78 h7 hh7 r78
 change (rpS (rpT (rpQ (3 * (k + 4) + l + 4 * m + 33)))).Is h7 v78 (sqrL s (((loT2 s ps i).x) - (((1 : Int) : Int) : Rat)) (((loT2 s ps i).y) - (((1 : Int) : Int) : Rat)) (((hiT2 s ps i).x) + (((1 : Int) : Int) : Rat)) (((hiT2 s ps i).y) + (((1 : Int) : Int) : Rat))) at r78
 replace r78 := Rp.Is.le r78 (Le.s (Le.t (Le.q (l := 3 * k + l + 4 * m + 45) (by omega))))
 refine w_q rfl (fun h' L' hh hR => ov_assign rfl) rfl (w_q rfl (fun h' L' hh hR => ov_assign rfl) rfl (w_nil (gq_keep (e' := [(4, _), (5, _)]) ⟨rfl, rfl, trivial⟩ (gq_then (gc_ret (gq_body2 rfl rfl rfl ?_))))))
 refine ⟨_, ?_, (Rp.Is.cast r78 (by rw [ei]; exact (if_neg hz).symm))⟩
 rw [vB_true hz]

end Go.Proofs.YtghhjjmjpeehdaaGreat


namespace Go.Proofs.YtghhjjmjpeehdaaGreat
open Bk Go
set_option linter.unusedVariables false
set_option linter.unusedSimpArgs false
set_option maxRecDepth 10000

theorem o_law_square {w0 : World} {h0 : Mem}  (hs : MLe h0 (mem w0))  :
    Calls Tryz.prog 43 #[] w0 (Ret w0 h0 (fun h r => (rpS (rpT (rpQ 2))).Is h r sq0)) := by
 refine calls_begin (n := 6) (e := []) (vs := []) Tryz.func43 rfl rfl (Nat.le_of_ble_eq_true rfl) hs trivial (gc_seq (gc_region (asg rfl rfl (gl_nil (gq_then (gc_seq (gc_region ?_)))))))
 refine gl_call (vs := [vI (0), vI (0), vI (0)]) rfl rfl rfl rfl Tryz.call44 ⟨rfl, rfl, rfl, trivial⟩ (fun w hs => o_made_at3 hs (by decide) (by decide) (by decide) (by decide) (by decide) (by decide)) ?_
 intro v1 h1 hh1 r1
 change (rpT (rpQ 2)).Is h1 v1 (T3.mk (((0 : Int) : Int) : Rat) (((0 : Int) : Int) : Rat) (((0 : Int) : Int) : Rat)) at r1
 refine gl_call (vs := [vI (2), vI (0), vI (0)]) rfl rfl rfl rfl Tryz.call44 ⟨rfl, rfl, rfl, trivial⟩ (fun w hs => o_made_at3 hs (by decide) (by decide) (by decide) (by decide) (by decide) (by decide)) ?_
 intro v2 h2 hh2 r2
 change (rpT (rpQ 2)).Is h2 v2 (T3.mk (((2 : Int) : Int) : Rat) (((0 : Int) : Int) : Rat) (((0 : Int) : Int) : Rat)) at r2
 refine gl_call (vs := [vI (2), vI (2), vI (0)]) rfl rfl rfl rfl Tryz.call44 ⟨rfl, rfl, rfl, trivial⟩ (fun w hs => o_made_at3 hs (by decide) (by decide) (by decide) (by decide) (by decide) (by decide)) ?_
 intro v3 h3 hh3 r3
 change (rpT (rpQ 2)).Is h3 v3 (T3.mk (((2 : Int) : Int) : Rat) (((2 : Int) : Int) : Rat) (((0 : Int) : Int) : Rat)) at r3
 refine gl_call (vs := [vI (0), vI (2), vI (0)]) rfl rfl rfl rfl Tryz.call44 ⟨rfl, rfl, rfl, trivial⟩ (fun w hs => o_made_at3 hs (by decide) (by decide) (by decide) (by decide) (by decide) (by decide)) ?_
 intro v4 h4 hh4 r4
 change (rpT (rpQ 2)).Is h4 v4 (T3.mk (((0 : Int) : Int) : Rat) (((2 : Int) : Int) : Rat) (((0 : Int) : Int) : Rat)) at r4
 replace r1 := r1.mono ((hh2.trans hh3).trans hh4)
 replace r2 := r2.mono (hh3.trans hh4)
 replace r3 := r3.mono hh4
 refine gl_newop (new_buildx (ρ := (rpT (rpQ 2))) (m := 4) (xs := [(T3.mk (((0 : Int) : Int) : Rat) (((0 : Int) : Int) : Rat) (((0 : Int) : Int) : Rat)), (T3.mk (((2 : Int) : Int) : Rat) (((0 : Int) : Int) : Rat) (((0 : Int) : Int) : Rat)), (T3.mk (((2 : Int) : Int) : Rat) (((2 : Int) : Int) : Rat) (((0 : Int) : Int) : Rat)), (T3.mk (((0 : Int) : Int) : Rat) (((2 : Int) : Int) : Rat) (((0 : Int) : Int) : Rat))]) (ps' := [(0, _), (1, _), (2, _), (3, _)]) Tryz.underlying27 info32 rfl rfl rfl (zr_t (zr_q (by decide))) ⟨rfl, rfl, rfl, rfl, rfl, rfl, rfl, rfl, trivial⟩ (fx_one rfl (Pc.arr (Pc.here _) (T3.mk (0 : Rat) (0 : Rat) (0 : Rat)) 0 (by decide)) r1 (fx_one rfl (Pc.arr (Pc.here _) (T3.mk (0 : Rat) (0 : Rat) (0 : Rat)) 1 (by decide)) r2 (fx_one rfl (Pc.arr (Pc.here _) (T3.mk (0 : Rat) (0 : Rat) (0 : Rat)) 2 (by decide)) r3 (fx_one rfl (Pc.arr (Pc.here _) (T3.mk (0 : Rat) (0 : Rat) (0 : Rat)) 3 (by decide)) r4 fx_nil)))) (show 4 * 9 ≤ 16777216 from by decide) (show 0 < 9 from by decide)) rfl rfl rfl ?_
 intro v5 q5 hq5
 obtain ⟨cs5, rfl, rl5⟩ := hq5
 refine asg rfl rfl (gl_nil (gq_then (gc_ret (gq_freezex (A := []) (ρ := (rpT (rpQ 2))) rl5 ?_))))
 intro h5 hh5 rs_1
 refine gq_body1 rfl rfl ?_
 exact rs_1

theorem law26_sane {w0 : World} {h0 : Mem}  (hs : MLe h0 (mem w0))  :
    Calls Tryz.prog 10 #[] w0 (Ret w0 h0 (fun _ r => r = .bool true)) := by
 refine calls_begin (n := 33) (e := []) (vs := []) Tryz.func10 rfl rfl (Nat.le_of_ble_eq_true rfl) hs trivial (gc_seq (gc_region (asg rfl rfl (gl_nil (gq_then (gc_seq (gc_region ?_)))))))
 refine gl_call (vs := []) rfl rfl rfl rfl Tryz.call43 trivial (fun w hs => o_law_square hs ) ?_
 intro v4 h1 hh1 r4
 change (rpS (rpT (rpQ 2))).Is h1 v4 sq0 at r4
 refine gl_call (vs := [vI (1), vI (0), vI (0)]) rfl rfl rfl rfl Tryz.call44 ⟨rfl, rfl, rfl, trivial⟩ (fun w hs => o_made_at3 hs (by decide) (by decide) (by decide) (by decide) (by decide) (by decide)) ?_
 intro v5 h2 hh2 r5
 change (rpT (rpQ 2)).Is h2 v5 (T3.mk (((1 : Int) : Int) : Rat) (((0 : Int) : Int) : Rat) (((0 : Int) : Int) : Rat)) at r5
 refine gl_call (vs := [vI (1)]) rfl rfl rfl rfl Tryz.call45 ⟨rfl, trivial⟩ (fun w hs => o_rref_int hs (by decide) (by decide)) ?_
 intro v6 h3 hh3 r6
 change (rpQ 2).Is h3 v6 (((1 : Int) : Int) : Rat) at r6
 replace r5 := r5.mono hh3
 refine gl_x (F := fun v_ => (rpP (rpT (rpQ 2)) (rpQ 2)).Is h3 v_ ((T3.mk (((1 : Int) : Int) : Rat) (((0 : Int) : Int) : Rat) (((0 : Int) : Int) : Rat)), (((1 : Int) : Int) : Rat))) (ox_build (ps' := [(0, _), (1, _)]) Tryz.underlying34 info34 rfl rfl (places34 Tryz.underlying34) ⟨rfl, rfl, rfl, rfl, trivial⟩ rfl (zr_p (zr_t (zr_q (by decide))) (zr_q (by decide))) (fx_one rfl (Pc.fst (Pc.here _)) r5 (fx_one rfl (Pc.snd (Pc.here _)) r6 fx_nil))) mem0 rfl ?_
 intro v7 r7
 replace r4 := r4.mono (hh2.trans hh3)
 refine gl_call (vs := [_, _]) rfl rfl rfl rfl Tryz.call14 ⟨rfl, rfl, trivial⟩ (fun w hs => o_cx_cut hs r4 r7 (by decide) (by decide) (by decide) (by first | omega | exact (by decide : 4 ≤ 50000))) ?_
 intro v8 h4 hh4 r8
 obtain ⟨v8_0, v8_1, rfl, r8_0, r8_1⟩ := r8
 change (rpS (rpT (rpQ (12 * 2 + 3 * 2 + 9 * 2 + 62 + 2)))).Is h4 v8_0 (cutB ((T3.mk (((1 : Int) : Int) : Rat) (((0 : Int) : Int) : Rat) (((0 : Int) : Int) : Rat)), (((1 : Int) : Int) : Rat)) sq0) at r8_0
 replace r8_0 := Rp.Is.le r8_0 (Le.s (Le.t (Le.q (l := 112) (by omega))))
 change (rpS (rpT (rpQ (12 * 2 + 3 * 2 + 9 * 2 + 62 + 2)))).Is h4 v8_1 (cutF ((T3.mk (((1 : Int) : Int) : Rat) (((0 : Int) : Int) : Rat) (((0 : Int) : Int) : Rat)), (((1 : Int) : Int) : Rat)) sq0) at r8_1
 replace r8_1 := Rp.Is.le r8_1 (Le.s (Le.t (Le.q (l := 112) (by omega))))
 refine mv rfl rfl (gv (ov_extract (vs := [_, _]) rfl rfl) rfl (gv (ov_extract (vs := [_, _]) rfl rfl) rfl (asg rfl rfl (asg rfl rfl (gl_nil (gq_then (gc_seq ?_)))))))
 refine gc_draw 23 _ [] [(0, .q), (1, .q), (2, .q), (3, .q), (4, .q), (5, .q), (6, .q), (7, .q), (8, .q), (9, .q), (10, .q), (11, .q), (12, .c), (13, .c), (14, .q), (15, .q), (16, .q), (17, .q), (18, .q), (19, .c), (20, .c), (21, .q), (22, .q)] mixed (fun x hx => by cases hx) (chk_of [0, 1, 2, 4, 8, 24, 40, 72, 136, 256, 768, 1280, 256, 6400, 8448, 24576, 32768, 98304, 163840, 32768, 819200, 1081344, 4194303] [8388607, 8388606, 8388605, 8388603, 8388599, 8388583, 8388567, 8388535, 8388479, 8388351, 8387839, 8387327, 8388351, 8382207, 8380159, 8372223, 8355839, 8290303, 8224767, 8355839, 7569407, 7307263, 6291455] (by kernel_rfl)) (fun x hx => by cases hx) (fun r hr => hr) (w_q rfl (fun h' L' hh hR => ov_move rfl) rfl (w_q rfl (fun h' L' hh hR => ov_len_sr Tryz.underlying27 rfl (r8_0.mono hh)) rfl (w_q rfl (fun h' L' hh hR => OpV.tr (by exact congrArg (fun l : List Pt => (↑l.length : Int)) sane_parts.1) (ov_eql_i (q := 4) rfl rfl)) rfl (w_q rfl (fun h' L' hh hR => ov_move rfl) rfl (w_q_on rfl rfl rfl (fun h' L' hh hR => ov_move rfl) rfl (w_q_on rfl rfl rfl (fun h' L' hh hR => ov_len_sr Tryz.underlying27 rfl (r8_1.mono hh)) rfl (w_q_on rfl rfl rfl (fun h' L' hh hR => OpV.tr (by exact congrArg (fun l : List Pt => (↑l.length : Int)) sane_parts.2) (ov_eql_i (q := 4) rfl rfl)) rfl (w_q rfl (fun h' L' hh hR => ov_pick_t rfl rfl) rfl (w_q rfl (fun h' L' hh hR => ov_move rfl) rfl (w_q_on rfl rfl rfl (fun h' L' hh hR => ov_move rfl) rfl (w_qx_on (F := fun v_ => AtP (rpT (rpQ 112)) h4 v_ ((cutB ((T3.mk (((1 : Int) : Int) : Rat) (((0 : Int) : Int) : Rat) (((0 : Int) : Int) : Rat)), (((1 : Int) : Int) : Rat)) sq0).getD 1 (T3.mk (0 : Rat) (0 : Rat) (0 : Rat)))) rfl rfl rfl (ox_idx_s (q := 1) (T3.mk (0 : Rat) (0 : Rat) (0 : Rat)) 1 Tryz.underlying27 ty32 rfl rfl r8_0 rfl (by exact Nat.lt_of_lt_of_eq (by decide : 1 < 4) (congrArg List.length sane_parts.1).symm) (show 0 < 9 from by decide)) mem0 rfl ?_)))))))))))
 intro v21 r21
 refine w_qx_on (F := fun v_ => (rpT (rpQ 112)).Is h4 v_ ((cutB ((T3.mk (((1 : Int) : Int) : Rat) (((0 : Int) : Int) : Rat) (((0 : Int) : Int) : Rat)), (((1 : Int) : Int) : Rat)) sq0).getD 1 (T3.mk (0 : Rat) (0 : Rat) (0 : Rat)))) rfl rfl rfl (ox_load_at ty32 rfl r21) mem0 rfl ?_
 intro v22 r22
 refine w_c rfl (s_on rfl rfl ?_)
 refine s_call (vs := [vI (1), vI (0), vI (0)]) Tryz.call44 ⟨rfl, rfl, rfl, trivial⟩ (fun w hs => o_made_at3 hs (by decide) (by decide) (by decide) (by decide) (by decide) (by decide)) rfl ?_
 intro v23 h5 hh5 r23
 change (rpT (rpQ 2)).Is h5 v23 (T3.mk (((1 : Int) : Int) : Rat) (((0 : Int) : Int) : Rat) (((0 : Int) : Int) : Rat)) at r23
 refine w_c rfl (s_on rfl rfl ?_)
 replace r22 := r22.mono hh5
 refine s_call (vs := [_, _]) Tryz.call29 ⟨rfl, rfl, trivial⟩ (fun w hs => o_r4_same hs r22 r23 (by decide)) rfl ?_
 intro v24 h6 hh6 r24
 obtain rfl : v24 = .bool true := by rw [show v24 = vB (((cutB ((T3.mk (((1 : Int) : Int) : Rat) (((0 : Int) : Int) : Rat) (((0 : Int) : Int) : Rat)), (((1 : Int) : Int) : Rat)) sq0).getD 1 (T3.mk (0 : Rat) (0 : Rat) (0 : Rat))) = (T3.mk (((1 : Int) : Int) : Rat) (((0 : Int) : Int) : Rat) (((0 : Int) : Int) : Rat))) from r24, vB_true (by exact (congrArg (fun l : List Pt => l.getD 1 zT) sane_parts.1).trans sane_pt)]
 refine w_q rfl (fun h' L' hh hR => ov_pick_t rfl rfl) rfl (w_q rfl (fun h' L' hh hR => ov_move rfl) rfl (w_q_on rfl rfl rfl (fun h' L' hh hR => ov_move rfl) rfl ?_))
 replace r8_1 := r8_1.mono (hh5.trans hh6)
 refine w_qx_on (F := fun v_ => AtP (rpT (rpQ 112)) h6 v_ ((cutF ((T3.mk (((1 : Int) : Int) : Rat) (((0 : Int) : Int) : Rat) (((0 : Int) : Int) : Rat)), (((1 : Int) : Int) : Rat)) sq0).getD 0 (T3.mk (0 : Rat) (0 : Rat) (0 : Rat)))) rfl rfl rfl (ox_idx_s (q := 0) (T3.mk (0 : Rat) (0 : Rat) (0 : Rat)) 0 Tryz.underlying27 ty32 rfl rfl r8_1 rfl (by exact Nat.lt_of_lt_of_eq (by decide : 0 < 4) (congrArg List.length sane_parts.2).symm) (show 0 < 9 from by decide)) mem0 rfl ?_
 intro v28 r28
 refine w_qx_on (F := fun v_ => (rpT (rpQ 112)).Is h6 v_ ((cutF ((T3.mk (((1 : Int) : Int) : Rat) (((0 : Int) : Int) : Rat) (((0 : Int) : Int) : Rat)), (((1 : Int) : Int) : Rat)) sq0).getD 0 (T3.mk (0 : Rat) (0 : Rat) (0 : Rat)))) rfl rfl rfl (ox_load_at ty32 rfl r28) mem0 rfl ?_
 intro v29 r29
 refine w_c rfl (s_on rfl rfl ?_)
 refine s_call (vs := [vI (1), vI (0), vI (0)]) Tryz.call44 ⟨rfl, rfl, rfl, trivial⟩ (fun w hs => o_made_at3 hs (by decide) (by decide) (by decide) (by decide) (by decide) (by decide)) rfl ?_
 intro v30 h7 hh7 r30
 change (rpT (rpQ 2)).Is h7 v30 (T3.mk (((1 : Int) : Int) : Rat) (((0 : Int) : Int) : Rat) (((0 : Int) : Int) : Rat)) at r30
 refine w_c rfl (s_on rfl rfl ?_)
 replace r29 := r29.mono hh7
 refine s_call (vs := [_, _]) Tryz.call29 ⟨rfl, rfl, trivial⟩ (fun w hs => o_r4_same hs r29 r30 (by decide)) rfl ?_
 intro v31 h8 hh8 r31
 obtain rfl : v31 = .bool true := by rw [show v31 = vB (((cutF ((T3.mk (((1 : Int) : Int) : Rat) (((0 : Int) : Int) : Rat) (((0 : Int) : Int) : Rat)), (((1 : Int) : Int) : Rat)) sq0).getD 0 (T3.mk (0 : Rat) (0 : Rat) (0 : Rat))) = (T3.mk (((1 : Int) : Int) : Rat) (((0 : Int) : Int) : Rat) (((0 : Int) : Int) : Rat))) from r31, vB_true (by exact (congrArg (fun l : List Pt => l.getD 0 zT) sane_parts.2).trans sane_pt)]
 refine w_q rfl (fun h' L' hh hR => ov_pick_t rfl rfl) rfl (w_q rfl (fun h' L' hh hR => ov_assign rfl) rfl (w_nil (gq_keep (e' := [(0, _)]) ⟨rfl, trivial⟩ (gq_then (gc_ret (gq_body1 rfl rfl ?_))))))
 rfl

theorem o_law_polyof {w0 w : World} {h0 h : Mem} {b k : Nat} {vl : Value} {xs : List Int} (hl : Is h vl xs) (hk : k ≤ xs.length) {L : List Res} (hs : St w0 h0 (.var b 65 [vl, vI ↑k] :: L) h w) :
    Calls Tryz.prog 12 #[vP b 0] w (RetMut w0 h0 h L (fun g r q' => ∃ k' : Nat, ∃ u0 u1 : Value, ∃ m : List (T3 Rat), ∃ s : (T3 Rat) × Rat, q' = .var b 65 [vl, vI ↑k'] ∧ k' ≤ xs.length ∧ (convP s m ∧ m.length ≤ 32) ∧ r = .tuple #[u0, u1] ∧ (rpS (rpT (rpQ 140000))).Is g u0 m ∧ (rpP (rpT (rpQ 2)) (rpQ 2)).Is g u1 s)) := by
 have hlen := hl.lt63
 refine calls_begin_st (n := 46) (e := [(0, vP b 0)]) (vs := [vP b 0]) Tryz.func12 rfl rfl (Nat.le_of_ble_eq_true rfl) hs ⟨rfl, trivial⟩ (gc_seq (gc_region (asg rfl rfl (gl_newop (new_allocx (ρ := (rpP (rpT (rpQ 2)) (rpQ 2))) (X := ((T3.mk (0 : Rat) (0 : Rat) (0 : Rat)), (0 : Rat))) info34 rfl rfl (zr_p (zr_t (zr_q (by decide))) (zr_q (by decide)))) rfl rfl rfl ?_))))
 intro v3 q3 hq3
 obtain ⟨b3, cs3, rfl, rfl, rb3⟩ := hq3
 refine gl_nil (gq_then (gc_seq (gc_region (mv rfl rfl ?_))))
 refine gl_call_mut2 (A := [_]) (vs := [_]) Tryz.call13 ⟨rfl, trivial⟩ (fun X w hs => o_dice_plane hl (by first | omega | exact Nat.zero_le _) hs) rfl ?_
 intro v11 g11 q11 hg11 hr11
 obtain ⟨k11, p11, rfl, hk11, hr11⟩ := hr11
 refine gl_newop (new_allocx (ρ := (rpP (rpT (rpQ 2)) (rpQ 2))) (X := ((T3.mk (0 : Rat) (0 : Rat) (0 : Rat)), (0 : Rat))) info34 rfl rfl (zr_p (zr_t (zr_q (by decide))) (zr_q (by decide)))) rfl rfl rfl ?_
 intro v4 q4 hq4
 obtain ⟨b4, cs4, rfl, rfl, rb4⟩ := hq4
 refine gl_updx (A := []) (F := fun c_ => (rpP (rpT (rpQ 2)) (rpQ 2)).R g11 c_ p11) (upd_box Tryz.sizeOf34 (Pc.here _) rfl rfl rfl rb4 hr11 rfl) ?_
 intro cs_2 rb_3
 refine gl_nil (gq_then (gc_seq ?_))
 refine gc_draw1 (A := [_, _]) 12 [] [(0, .q), (1, .q), (3, .q), (2, .c), (4, .c), (5, .c), (6, .c), (7, .q), (8, .q), (9, .q), (10, .q), (11, .q)] mixed (fun x hx => by cases hx) (chk_of [0, 0, 2, 0, 12, 20, 49, 64, 128, 128, 511, 2047] [4095, 4095, 4093, 4095, 4087, 4075, 4062, 4031, 3967, 3967, 3839, 3583] (by kernel_rfl)) (fun x hx => by cases hx) (w_qx (F := fun v_ => (rpP (rpT (rpQ 2)) (rpQ 2)).Is g11 v_ p11) rfl (ox_load_box ty34 (Pc.here _) rfl rfl rb_3 rfl) (mem1 (.head _)) rfl ?_)
 intro v13 r13
 refine w_q rfl (fun h' L' hh hR => ov_move rfl) rfl (w_q rfl (fun h' L' hh hR => ov_move rfl) rfl ?_)
 refine w_c rfl ?_
 replace hl := hl.mono hg11
 refine s_call_mut (A := [_, _]) (vs := [_]) Tryz.call33 ⟨rfl, trivial⟩ (fun X w hs => o_dice_spot hl (by first | omega | exact Nat.zero_le _) hs) rfl (mem_kept (by first | (simp; done) | grind)) ?_
 intro v15 g15 q15 hg15 hr15
 obtain ⟨k15, p15, rfl, hk15, hr15⟩ := hr15
 refine w_c rfl ?_
 replace hl := hl.mono hg15
 refine s_call_mut (A := [_, _]) (vs := [_]) Tryz.call33 ⟨rfl, trivial⟩ (fun X w hs => o_dice_spot hl (by first | omega | exact Nat.zero_le _) hs) rfl (mem_kept (by first | (simp; done) | grind)) ?_
 intro v17 g17 q17 hg17 hr17
 obtain ⟨k17, p17, rfl, hk17, hr17⟩ := hr17
 refine w_c rfl ?_
 replace hr15 := hr15.mono hg17
 refine s_new (fun X => new_buildx (ρ := (rpT (rpQ 2))) (m := 2) (xs := [p15, p17]) (ps' := [(0, _), (1, _)]) Tryz.underlying27 info32 rfl rfl rfl (zr_t (zr_q (by decide))) ⟨rfl, rfl, rfl, rfl, trivial⟩ (fx_one rfl (Pc.arr (Pc.here _) (T3.mk (0 : Rat) (0 : Rat) (0 : Rat)) 0 (by decide)) hr15 (fx_one rfl (Pc.arr (Pc.here _) (T3.mk (0 : Rat) (0 : Rat) (0 : Rat)) 1 (by decide)) hr17 fx_nil)) (show 2 * 9 ≤ 16777216 from by decide) (show 0 < 9 from by decide)) rfl ?_
 intro v18 q18 hq18
 obtain ⟨cs18, rfl, rl18⟩ := hq18
 refine w_c rfl (s_freezex (A := []) (ρ := (rpT (rpQ 2))) rl18 (drop_kept (by first | (simp; done) | grind)) ?_)
 intro h1 hh1 rs_4
 replace r13 := r13.mono ((hg15.trans hg17).trans hh1)
 refine s_call (vs := [_, _]) Tryz.call37 ⟨rfl, rfl, trivial⟩ (fun w hs => o_r6_around hs r13 rs_4 (by decide) (by decide) (by decide)) rfl ?_
 intro v19 h2 hh2 r19
 obtain ⟨v19_0, rfl, r19_0⟩ := r19
 change (rpS (rpT (rpQ (3 * 2 + 2 + 4 * 2 + 45)))).Is h2 v19_0 (aroZ p11 [p15, p17]) at r19_0
 replace r19_0 := Rp.Is.le r19_0 (Le.s (Le.t (Le.q (l := 61) (by omega))))
 refine w_q rfl (fun h' L' hh hR => ov_move rfl) rfl (w_q rfl (fun h' L' hh hR => ov_extract (vs := [_, _]) rfl rfl) rfl (w_q rfl (fun h' L' hh hR => ov_extract (vs := [_, _]) rfl rfl) rfl (w_q rfl (fun h' L' hh hR => ov_assign rfl) rfl (w_q rfl (fun h' L' hh hR => ov_assign rfl) rfl (w_nil (gq_keep (e' := [(0, _), (3, _), (4, _), (5, _), (6, _)]) ⟨rfl, rfl, rfl, rfl, rfl, trivial⟩ (gq_then (gc_seq (gc_seq (gc_region (mv rfl rfl (gv (ov_not rfl) rfl (gl_nil ?_)))))))))))))
 refine gq_then ?_
 refine gc_cond rfl (fun hc23 => ?_) (fun hc23 => ?_)
 ·
  refine gc_seq (gc_region ?_)
  refine gl_call (vs := []) rfl rfl rfl rfl Tryz.call43 trivial (fun w hs => o_law_square hs ) ?_
  intro v24 h3 hh3 r24
  change (rpS (rpT (rpQ 2))).Is h3 v24 sq0 at r24
  refine gl_call (vs := [vI (0), vI (0), vI (1)]) rfl rfl rfl rfl Tryz.call44 ⟨rfl, rfl, rfl, trivial⟩ (fun w hs => o_made_at3 hs (by decide) (by decide) (by decide) (by decide) (by decide) (by decide)) ?_
  intro v25 h4 hh4 r25
  change (rpT (rpQ 2)).Is h4 v25 (T3.mk (((0 : Int) : Int) : Rat) (((0 : Int) : Int) : Rat) (((1 : Int) : Int) : Rat)) at r25
  refine gl_x (F := fun v_ => (rpP (rpT (rpQ 2)) (rpQ 1)).Is h4 v_ ((T3.mk (((0 : Int) : Int) : Rat) (((0 : Int) : Int) : Rat) (((1 : Int) : Int) : Rat)), (0 : Rat))) (ox_build (ps' := [(0, _)]) Tryz.underlying34 info34 rfl rfl (places34 Tryz.underlying34) ⟨rfl, rfl, trivial⟩ rfl (zr_p (zr_t (zr_q (by decide))) (zr_q (by decide))) (fx_one rfl (Pc.fst (Pc.here _)) r25 fx_nil)) mem0 rfl ?_
  intro v26 r26
  refine asg rfl rfl ?_
  replace rb3 := rb3.mono ((((((hg11.trans hg15).trans hg17).trans hh1).trans hh2).trans hh3).trans hh4)
  refine gl_updx (A := [_]) (F := fun c_ => (rpP (rpT (rpQ 2)) (rpQ 2)).R h4 c_ ((T3.mk (((0 : Int) : Int) : Rat) (((0 : Int) : Int) : Rat) (((1 : Int) : Int) : Rat)), (0 : Rat))) (upd_box Tryz.sizeOf34 (Pc.here _) rfl rfl rfl rb3 (r26.le (Le.p (Le.refl _) (Le.q (l := 2) (by decide)))) rfl) ?_
  intro cs_5 rb_6
  refine gl_nil (gq_then (gc_ret (gr_then (gq_exv (rv_o (t := 3) ty34 (.tail _ (.head _)) rfl rb_6) ?_))))
  intro w_7 hvw_7 rr_8
  refine gq_res_own (fun E S => run_res2 rfl (rv_tmp rfl) hvw_7 E S) ?_
  replace r24 := r24.mono hh4
  exact ⟨_, (.cons _ (.cons _ (List.Sublist.refl _))), ((((((hg11.trans hg15).trans hg17).trans hh1).trans hh2).trans hh3).trans hh4), _, _, _, _, _, rfl, by omega, (by first | exact ⟨sq0_conv, by decide⟩ | exact ⟨hcv, by omega⟩), rfl, (Rp.Is.le r24 (Le.s (Le.t (Le.q (l := 140000) (by decide))))), rr_8⟩
 have hnz : ¬ p11.1 = zT := fun e => (Classical.not_not.1 hc23) (.inr e)
 refine gc_skip (gq_then (gc_seq (gc_seq (gc_region (mv rfl rfl ?_)))))
 replace hl := hl.mono ((hg17.trans hh1).trans hh2)
 refine gl_call_mut2 (A := [_, _]) (vs := [_, vI (4)]) Tryz.call22 ⟨rfl, rfl, trivial⟩ (fun X w hs => dice_next hl (by first | omega | exact Nat.zero_le _) (by omega) (by omega) hs) rfl ?_
 intro v28 g28 q28 hg28 hr28
 obtain ⟨k28, z28, rfl, hk28, rfl, hz28, hy28⟩ := hr28
 refine asg rfl rfl (gl_nil (gq_then (gc_block ?_)))
 refine gc_loop (ι := Nat × Nat × List (T3 Rat) × Value × Nat × Mem) (fun (n, kk, lv, u5_9, kd_11, ma) => MLe g28 ma ∧ ((rpS (rpT (rpQ kk))).Is ma u5_9 lv ∧ kd_11 ≤ xs.length ∧ ((n = 3 ∧ kk ≤ 61 ∧ lv.length ≤ 4) ∨ (n ≤ 2 ∧ kk ≤ 900 ∧ lv.length ≤ 8) ∨ (n ≤ 1 ∧ kk ≤ 11000 ∧ lv.length ≤ 16) ∨ (n = 0 ∧ kk ≤ 140000 ∧ lv.length ≤ 32)) ∧ convP p11 lv)) (fun (n, kk, lv, u5_9, kd_11, ma) => [(0, vP b 0), (3, vP b3 0), (4, vP b4 0), (5, u5_9), (7, vI ↑n)]) (fun (n, kk, lv, u5_9, kd_11, ma) => (.var b4 34 cs_2 :: .var b3 34 cs3 :: .var b 65 [vl, vI ↑kd_11] :: L)) (fun (n, kk, lv, u5_9, kd_11, ma) => ma) (fun (n, kk, lv, u5_9, kd_11, ma) => n) (z28.toNat, 61, (aroZ p11 [p15, p17]), v19_0, k28, g28) ?_ ⟨?_, ?_, ?_, ?_, ?_, trivial⟩ rfl rfl ?_
 ·
  refine ⟨MLe.refl _, ?_⟩
  replace r19_0 := r19_0.mono hg28
  refine ⟨r19_0, (by omega), ?_⟩
  exact ⟨by have := (aro_conv (s := p11) (ps := [p15, p17]) (by simp) hnz).2; omega, (aro_conv (by simp) hnz).1⟩
 · exact rfl
 · exact rfl
 · exact rfl
 · exact rfl
 · exact congrArg (fun z => some (vI z)) (by omega)
 intro x hx
 obtain ⟨n, kk, lv, u5_9, kd_11, ma⟩ := x
 obtain ⟨hmma, hinv⟩ := hx
 show GC _ _ _ _ _ _ [(0, vP b 0), (3, vP b3 0), (4, vP b4 0), (5, u5_9), (7, vI ↑n)] (.var b4 34 cs_2 :: .var b3 34 cs3 :: .var b 65 [vl, vI ↑kd_11] :: L) ma
 obtain ⟨ru_10, hkd_12, hinv⟩ := hinv
 obtain ⟨hnk, hcv⟩ := hinv
 refine gc_seq (gc_seq (gc_region (mv rfl rfl (gv (ov_gtr_i (q := 0) rfl rfl) rfl (gl_nil (gq_then ?_))))))
 refine gc_cond rfl (fun hc30 => ?_) (fun hc30 => ?_)
 ·
  refine gc_skip (gq_then (gc_seq (gc_block (gc_seq (gc_region (mv rfl rfl (mv rfl rfl ?_)))))))
  replace hl := hl.mono (hg28.trans hmma)
  refine gl_call_mut2 (A := [_, _]) (vs := [_]) Tryz.call13 ⟨rfl, trivial⟩ (fun X w hs => o_dice_plane hl (by first | omega | exact Nat.zero_le _) hs) rfl ?_
  intro v36 g36 q36 hg36 hr36
  obtain ⟨k36, p36, rfl, hk36, hr36⟩ := hr36
  replace ru_10 := ru_10.mono hg36
  refine gl_call (vs := [_, _]) rfl rfl rfl rfl Tryz.call15 ⟨rfl, rfl, trivial⟩ (fun w hs => o_r6_cut hs ru_10 hr36 (by omega) (by decide) (by decide) (by omega)) ?_
  intro v37 h3 hh3 r37
  obtain ⟨v37_0, v37_1, rfl, r37_0, r37_1⟩ := r37
  change (rpS (rpT (rpQ (12 * kk + 3 * 2 + 9 * 2 + 62)))).Is h3 v37_0 (cutB p36 lv) at r37_0
  replace r37_0 := Rp.Is.le r37_0 (Le.s (Le.t (Le.q (l := 12 * kk + 86) (by omega))))
  change (rpS (rpT (rpQ (12 * kk + 3 * 2 + 9 * 2 + 62)))).Is h3 v37_1 (cutF p36 lv) at r37_1
  replace r37_1 := Rp.Is.le r37_1 (Le.s (Le.t (Le.q (l := 12 * kk + 86) (by omega))))
  refine mv rfl rfl (gv (ov_extract (vs := [_, _]) rfl rfl) rfl (gv (ov_extract (vs := [_, _]) rfl rfl) rfl (asg rfl rfl (asg rfl rfl (gl_nil (gq_keep (e' := [(0, _), (3, _), (4, _), (5, _), (7, _), (8, _)]) ⟨rfl, rfl, rfl, rfl, rfl, rfl, trivial⟩ (gq_then (gc_seq (gc_region (mv rfl rfl (gv (ov_len_sr Tryz.underlying27 rfl r37_0) rfl (gv (ov_gtr_i (q := 0) rfl rfl) rfl (gl_nil ?_)))))))))))))
  refine gq_then ?_
  refine gc_cond rfl (fun hc42 => ?_) (fun hc42 => ?_)
  ·
   refine gc_region (mv rfl rfl (asg rfl rfl (gl_nil (gq_in (gq_then (gc_region (mv rfl rfl (gv (ov_sub_i (q := 1) rfl rfl (by omega) (by omega)) rfl (asg rfl rfl (gl_nil ?_))))))))))
   refine gq_round ((n - 1), (12 * kk + 86), (cutB p36 lv), v37_0, k36, h3) ?_ ?_ ⟨rfl, rfl, rfl, rfl, ?_, trivial⟩ rfl rfl
   ·
    refine ⟨((hmma.trans hg36).trans hh3), ?_⟩
    refine ⟨(Rp.Is.le r37_0 (Le.s (Le.t (Le.q (by omega))))), (by omega), ?_⟩
    exact ⟨by have := cutB_len p36 lv; omega, (cutB_valid p36 hcv).resolve_right (fun e => by rw [e] at hc42; exact absurd hc42 (by decide))⟩
   ·
    dsimp only
    omega
   · exact congrArg (fun z => some (vI z)) (by omega)
  refine gc_skip (gq_in (gq_then (gc_region (mv rfl rfl (gv (ov_sub_i (q := 1) rfl rfl (by omega) (by omega)) rfl (asg rfl rfl (gl_nil ?_)))))))
  refine gq_round ((n - 1), kk, lv, u5_9, k36, h3) ?_ ?_ ⟨rfl, rfl, rfl, rfl, ?_, trivial⟩ rfl rfl
  ·
   refine ⟨((hmma.trans hg36).trans hh3), ?_⟩
   replace ru_10 := ru_10.mono hh3
   refine ⟨(Rp.Is.le ru_10 (Le.s (Le.t (Le.q (by omega))))), (by omega), ?_⟩
   exact ⟨by omega, hcv⟩
  ·
   dsimp only
   omega
  · exact congrArg (fun z => some (vI z)) (by omega)
 refine gc_exit (gx_then (gx_then (gx_here (gq_then (gc_seq ?_)))))
 refine gc_draw 3 _ [] [(0, .q), (1, .q), (2, .q), (3, .t)] mixed (fun x hx => by cases hx) (by kernel_rfl) (fun x hx => by cases hx) (fun r hr => hr) (w_q rfl (fun h' L' hh hR => ov_move rfl) rfl ?_)
 replace rb_3 := rb_3.mono (((((hg15.trans hg17).trans hh1).trans hh2).trans hg28).trans hmma)
 refine w_qx (F := fun v_ => (rpP (rpT (rpQ 2)) (rpQ 2)).Is ma v_ p11) rfl (ox_load_box ty34 (Pc.here _) rfl rfl rb_3 rfl) (mem1 (.head _)) rfl ?_
 intro v45 r45
 refine w_q rfl (fun h' L' hh hR => ov_assign rfl) rfl ?_
 replace rb3 := rb3.mono ((((((hg11.trans hg15).trans hg17).trans hh1).trans hh2).trans hg28).trans hmma)
 refine w_tx_upd (A := [_]) (F := fun c_ => (rpP (rpT (rpQ 2)) (rpQ 2)).R ma c_ p11) rfl (upd_box Tryz.sizeOf34 (Pc.here _) rfl rfl rfl rb3 r45 rfl) ?_
 intro cs_13 rb_14
 refine w_nil (gq_then (gc_ret (gq_exv (rv_o (t := 3) ty34 (.tail _ (.head _)) rfl rb_14) ?_)))
 intro w_15 hvw_15 rr_16
 refine gq_res_own (fun E S => run_res2 rfl (rv_tmp rfl) hvw_15 E S) ?_
 exact ⟨_, (.cons _ (.cons _ (List.Sublist.refl _))), ((((((hg11.trans hg15).trans hg17).trans hh1).trans hh2).trans hg28).trans hmma), _, _, _, _, _, rfl, by omega, (by first | exact ⟨sq0_conv, by decide⟩ | exact ⟨hcv, by omega⟩), rfl, (Rp.Is.le ru_10 (Le.s (Le.t (Le.q (l := 140000) (by omega))))), rr_16⟩

end Go.Proofs.YtghhjjmjpeehdaaGreat


namespace Go.Proofs.YtghhjjmjpeehdaaGreat
open Bk Go
set_option linter.unusedVariables false
set_option linter.unusedSimpArgs false
set_option maxRecDepth 10000

theorem law26_convexcuts {w0 : World} {h0 : Mem}  (hs : MLe h0 (mem w0)) {vl : Value} {xsl : List Int} (hl : Is h0 vl xsl) :
    Calls Tryz.prog 3 #[vl] w0 (Ret w0 h0 (fun _ r => r = .bool true)) := by
 have hlenl := hl.lt63
 refine calls_begin (n := 68) (e := [(0, vl)]) (vs := [vl]) Tryz.func3 rfl rfl (Nat.le_of_ble_eq_true rfl) hs ⟨rfl, trivial⟩ (gc_seq (gc_region (asg rfl rfl (gl_nil (gq_then (gc_seq (gc_seq (gc_region (mv rfl rfl ?_)))))))))
 refine gl_call (vs := [_]) rfl rfl rfl rfl Tryz.call9 ⟨rfl, trivial⟩ (fun w hs => made_light hs hl) ?_
 intro v15 h1 hh1 hr15
 subst hr15
 refine gv (ov_not rfl) rfl (gl_nil (gq_then ?_))
 refine gc_cond rfl (fun hc16 => ?_) (fun hc16 => ?_)
 ·
  refine gc_seq (gc_region ?_)
  refine gl_call (vs := []) rfl rfl rfl rfl Tryz.call10 trivial (fun w hs => law26_sane hs) ?_
  intro v17 h2 hh2 hr17
  subst hr17
  refine asg rfl rfl (gl_nil (gq_then (gc_ret (gr_then (gq_body1 rfl rfl ?_)))))
  rfl
 refine gc_skip (gq_then (gc_seq (gc_region (mv rfl rfl ?_))))
 replace hl := hl.mono hh1
 refine gl_call_own (vs := [_]) rfl rfl rfl rfl Tryz.call11 ⟨rfl, trivial⟩ (fun w hs => made_roll hs hl) ?_
 intro v19 h2 L19 hh2 hr19
 obtain ⟨b19, rfl, rfl⟩ := hr19
 refine asg rfl rfl (gl_nil (gq_then (gc_seq (gc_region (mv rfl rfl ?_)))))
 replace hl := hl.mono hh2
 refine gl_call_mut2 (A := []) (vs := [_]) Tryz.call12 ⟨rfl, trivial⟩ (fun X w hs => o_law_polyof hl (by first | omega | exact Nat.zero_le _) hs) rfl ?_
 intro v22 g22 q22 hg22 hr22
 obtain ⟨k22, u22_0, u22_1, p22, s22, rfl, hk22, hx22, rfl, ra22, rb22⟩ := hr22
 refine mv rfl rfl (gv (ov_extract (vs := [_, _]) rfl rfl) rfl (gv (ov_extract (vs := [_, _]) rfl rfl) rfl (gl_newop (new_allocx (ρ := (rpP (rpT (rpQ 1)) (rpQ 1))) (X := ((T3.mk (0 : Rat) (0 : Rat) (0 : Rat)), (0 : Rat))) info34 rfl rfl (zr_p (zr_t (zr_q (by decide))) (zr_q (by decide)))) rfl rfl rfl ?_)))
 intro v5 q5 hq5
 obtain ⟨b5, cs5, rfl, rfl, rb5⟩ := hq5
 refine asg rfl rfl ?_
 have rw_1 := (Le.p (Le.t (Le.q (l := 2) (by decide))) (Le.q (l := 2) (by decide))).R rb5
 refine gl_updx (A := []) (F := fun c_ => (rpP (rpT (rpQ 2)) (rpQ 2)).R g22 c_ s22) (upd_box Tryz.sizeOf34 (Pc.here _) rfl rfl rfl rw_1 rb22 rfl) ?_
 intro cs_2 rb_3
 refine gl_nil (gq_keep (e' := [(3, _), (4, _)]) ⟨rfl, rfl, trivial⟩ (gq_then (gc_seq (gc_seq (gc_region (asg (v := vI (0)) rfl rfl (gl_nil (gq_then (gc_block ?_)))))))))
 refine gc_loop (ι := Nat × Nat × Mem) (fun (i, kd_4, ma) => MLe g22 ma ∧ (kd_4 ≤ xsl.length ∧ i ≤ 3)) (fun (i, kd_4, ma) => [(3, vP b19 0), (4, u22_0), (6, vI ↑i)]) (fun (i, kd_4, ma) => [.var b5 34 cs_2, .var b19 65 [vl, vI ↑kd_4]]) (fun (i, kd_4, ma) => ma) (fun (i, kd_4, ma) => 3 - i) (0, k22, g22) ?_ ⟨rfl, rfl, rfl, trivial⟩ rfl rfl ?_
 ·
  refine ⟨MLe.refl _, ?_⟩
  refine ⟨(by omega), ?_⟩
  exact (by omega)
 intro x hx
 obtain ⟨i, kd_4, ma⟩ := x
 obtain ⟨hmma, hinv⟩ := hx
 show GC _ _ _ _ _ _ [(3, vP b19 0), (4, u22_0), (6, vI ↑i)] [.var b5 34 cs_2, .var b19 65 [vl, vI ↑kd_4]] ma
 obtain ⟨hkd_5, hinv⟩ := hinv
 have hi1 := hinv
 refine gc_seq (gc_seq (gc_region (mv rfl rfl (gv (ov_lss_i (q := 3) rfl rfl) rfl (gl_nil (gq_then ?_))))))
 refine gc_cond rfl (fun hc26 => ?_) (fun hc26 => ?_)
 ·
  refine gc_skip (gq_then (gc_seq (gc_block (gc_seq (gc_region (mv rfl rfl ?_))))))
  replace hl := hl.mono (hg22.trans hmma)
  refine gl_call_mut2 (A := [_]) (vs := [_]) Tryz.call13 ⟨rfl, trivial⟩ (fun X w hs => o_dice_plane hl (by first | omega | exact Nat.zero_le _) hs) rfl ?_
  intro v30 g30 q30 hg30 hr30
  obtain ⟨k30, p30, rfl, hk30, hr30⟩ := hr30
  refine gl_newop (new_allocx (ρ := (rpP (rpT (rpQ 1)) (rpQ 1))) (X := ((T3.mk (0 : Rat) (0 : Rat) (0 : Rat)), (0 : Rat))) info34 rfl rfl (zr_p (zr_t (zr_q (by decide))) (zr_q (by decide)))) rfl rfl rfl ?_
  intro v7 q7 hq7
  obtain ⟨b7, cs7, rfl, rfl, rb7⟩ := hq7
  have rw_6 := (Le.p (Le.t (Le.q (l := 2) (by decide))) (Le.q (l := 2) (by decide))).R rb7
  refine gl_updx (A := []) (F := fun c_ => (rpP (rpT (rpQ 2)) (rpQ 2)).R g30 c_ p30) (upd_box Tryz.sizeOf34 (Pc.here _) rfl rfl rfl rw_6 hr30 rfl) ?_
  intro cs_7 rb_8
  refine gl_nil (gq_then (gc_seq (gc_region (mv rfl rfl (gl_x (F := fun v_ => (rpP (rpT (rpQ 2)) (rpQ 2)).Is g30 v_ p30) (ox_load_box ty34 (Pc.here _) rfl rfl rb_8 rfl) (mem1 (.head _)) rfl ?_)))))
  intro v33 r33
  replace ra22 := ra22.mono (hmma.trans hg30)
  refine gl_call (vs := [_, _]) rfl rfl rfl rfl Tryz.call14 ⟨rfl, rfl, trivial⟩ (fun w hs => o_cx_cut hs ra22 r33 (by decide) (by decide) (by decide) (by first | omega | exact Nat.le_trans hx22.2 (by decide))) ?_
  intro v34 h3 hh3 r34
  obtain ⟨v34_0, v34_1, rfl, r34_0, r34_1⟩ := r34
  change (rpS (rpT (rpQ (12 * 140000 + 3 * 2 + 9 * 2 + 62 + 2)))).Is h3 v34_0 (cutB p30 p22) at r34_0
  replace r34_0 := Rp.Is.le r34_0 (Le.s (Le.t (Le.q (l := 1680088) (by omega))))
  change (rpS (rpT (rpQ (12 * 140000 + 3 * 2 + 9 * 2 + 62 + 2)))).Is h3 v34_1 (cutF p30 p22) at r34_1
  replace r34_1 := Rp.Is.le r34_1 (Le.s (Le.t (Le.q (l := 1680088) (by omega))))
  refine mv rfl rfl (gv (ov_extract (vs := [_, _]) rfl rfl) rfl (gv (ov_extract (vs := [_, _]) rfl rfl) rfl (asg rfl rfl (asg rfl rfl (gl_nil (gq_keep (e' := [(3, _), (4, _), (6, _), (7, _), (8, _), (9, _)]) ⟨rfl, rfl, rfl, rfl, rfl, rfl, trivial⟩ (gq_then (gc_seq (gc_region (mv rfl rfl ?_))))))))))
  replace rb_8 := rb_8.mono hh3
  refine gl_x (F := fun v_ => (rpP (rpT (rpQ 2)) (rpQ 2)).Is h3 v_ p30) (ox_load_box ty34 (Pc.here _) rfl rfl rb_8 rfl) (mem1 (.head _)) rfl ?_
  intro v39 r39
  replace ra22 := ra22.mono hh3
  refine gl_call (vs := [_, _]) rfl rfl rfl rfl Tryz.call15 ⟨rfl, rfl, trivial⟩ (fun w hs => o_r6_cut hs ra22 r39 (by decide) (by decide) (by decide) (by first | omega | exact Nat.le_trans hx22.2 (by decide))) ?_
  intro v40 h4 hh4 r40
  obtain ⟨v40_0, v40_1, rfl, r40_0, r40_1⟩ := r40
  change (rpS (rpT (rpQ (12 * 140000 + 3 * 2 + 9 * 2 + 62)))).Is h4 v40_0 (cutB p30 p22) at r40_0
  replace r40_0 := Rp.Is.le r40_0 (Le.s (Le.t (Le.q (l := 1680086) (by omega))))
  change (rpS (rpT (rpQ (12 * 140000 + 3 * 2 + 9 * 2 + 62)))).Is h4 v40_1 (cutF p30 p22) at r40_1
  replace r40_1 := Rp.Is.le r40_1 (Le.s (Le.t (Le.q (l := 1680086) (by omega))))
  refine mv rfl rfl (gv (ov_extract (vs := [_, _]) rfl rfl) rfl (gv (ov_extract (vs := [_, _]) rfl rfl) rfl (asg rfl rfl (asg rfl rfl (gl_nil (gq_then (gc_seq (gc_region (mv rfl rfl (mv rfl rfl ?_))))))))))
  replace r34_0 := r34_0.mono hh4
  refine gl_call (vs := [_, _]) rfl rfl rfl rfl Tryz.call16 ⟨rfl, rfl, trivial⟩ (fun w hs => o_r4_samelist hs r34_0 r40_0 (by decide)) ?_
  intro v45 h5 hh5 r45
  obtain rfl : v45 = .bool true := by rw [show v45 = vB ((cutB p30 p22) = (cutB p30 p22)) from r45, vB_true (by exact rfl)]
  refine gv (ov_not_b rfl) rfl (mv rfl rfl (gl_on rfl rfl rfl (mv rfl rfl (gl_on rfl rfl rfl (mv rfl rfl (gl_on rfl rfl rfl ?_))))))
  replace r34_1 := r34_1.mono (hh4.trans hh5)
  replace r40_1 := r40_1.mono hh5
  refine gl_call (vs := [_, _]) rfl rfl rfl rfl Tryz.call16 ⟨rfl, rfl, trivial⟩ (fun w hs => o_r4_samelist hs r34_1 r40_1 (by decide)) ?_
  intro v50 h6 hh6 r50
  obtain rfl : v50 = .bool true := by rw [show v50 = vB ((cutF p30 p22) = (cutF p30 p22)) from r50, vB_true (by exact rfl)]
  refine gl_on rfl rfl rfl (gv (ov_not_b rfl) rfl (gv (ov_pick_f rfl rfl) rfl (gl_nil (gq_keep (e' := [(3, _), (4, _), (6, _), (52, _)]) ⟨rfl, rfl, rfl, rfl, trivial⟩ (gq_then (gc_cond_f rfl (gc_skip (gq_in (gq_then (gc_region (mv rfl rfl (gv (ov_add_i (q := 1) rfl rfl (by omega) (by omega)) rfl (asg rfl rfl ?_)))))))))))))
  refine gl_nil (gq_drop (A := []) ?_)
  refine gq_round ((i + 1), k30, h6) ?_ ?_ ⟨rfl, rfl, rfl, trivial⟩ rfl rfl
  ·
   refine ⟨(((((hmma.trans hg30).trans hh3).trans hh4).trans hh5).trans hh6), ?_⟩
   refine ⟨(by omega), ?_⟩
   exact (by omega)
  dsimp only
  omega
 refine gc_exit (gx_then (gx_then (gx_here (gq_then (gc_seq (gc_region (mv rfl rfl ?_)))))))
 replace hl := hl.mono (hg22.trans hmma)
 refine gl_call_mut2 (A := [_]) (vs := [_]) Tryz.call13 ⟨rfl, trivial⟩ (fun X w hs => o_dice_plane hl (by first | omega | exact Nat.zero_le _) hs) rfl ?_
 intro v55 g55 q55 hg55 hr55
 obtain ⟨k55, p55, rfl, hk55, hr55⟩ := hr55
 refine gl_call (vs := [_, _]) rfl rfl rfl rfl Tryz.call14 ⟨rfl, rfl, trivial⟩ (fun w hs => o_cx_cut hs (is_nil (ρ := (rpT (rpQ 1))) _) hr55 (by decide) (by decide) (by decide) (by first | omega | exact Nat.zero_le _)) ?_
 intro v56 h3 hh3 r56
 obtain ⟨v56_0, v56_1, rfl, r56_0, r56_1⟩ := r56
 change (rpS (rpT (rpQ (12 * 1 + 3 * 2 + 9 * 2 + 62 + 2)))).Is h3 v56_0 (cutB p55 []) at r56_0
 replace r56_0 := Rp.Is.le r56_0 (Le.s (Le.t (Le.q (l := 100) (by omega))))
 change (rpS (rpT (rpQ (12 * 1 + 3 * 2 + 9 * 2 + 62 + 2)))).Is h3 v56_1 (cutF p55 []) at r56_1
 replace r56_1 := Rp.Is.le r56_1 (Le.s (Le.t (Le.q (l := 100) (by omega))))
 refine mv rfl rfl (gv (ov_extract (vs := [_, _]) rfl rfl) rfl (gv (ov_extract (vs := [_, _]) rfl rfl) rfl (asg rfl rfl (asg rfl rfl (gl_nil (gq_keep (e' := [(12, _), (13, _)]) ⟨rfl, rfl, trivial⟩ (gq_then (gc_seq (gc_region (mv rfl rfl (gv (ov_len_sr Tryz.underlying27 rfl r56_0) rfl (mv rfl rfl (gv (ov_len_sr Tryz.underlying27 rfl r56_1) rfl ?_)))))))))))))
 refine gv (ov_add_i rfl rfl (by have h1 := cutB_len p55 []; have h2 := cutF_len p55 []; simp only [List.length_nil] at h1 h2; omega) (by have h1 := cutB_len p55 []; have h2 := cutF_len p55 []; simp only [List.length_nil] at h1 h2; omega)) rfl (gv (OpV.tr (by exact (by rw [(cut_nil p55).1, (cut_nil p55).2]; rfl)) (ov_eql_i (q := 0) rfl rfl)) rfl (mv rfl rfl (gl_on rfl rfl rfl ?_)))
 refine gl_call (vs := []) rfl rfl rfl rfl Tryz.call10 trivial (fun w hs => law26_sane hs) ?_
 intro v66 h4 hh4 hr66
 subst hr66
 refine gv (ov_pick_t rfl rfl) rfl (asg rfl rfl (gl_nil (gq_keep (e' := [(2, _)]) ⟨rfl, trivial⟩ (gq_then (gc_ret (gq_body1 rfl rfl ?_))))))
 rfl

end Go.Proofs.YtghhjjmjpeehdaaGreat
