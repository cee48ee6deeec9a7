/- Texts that the proof needs, part 6. -/
import Derived.Test.YtghhjjmjpeehdaaGreatK5


namespace Go.Proofs.YtghhjjmjpeehdaaGreat
open Bk Go
set_option linter.unusedVariables false
set_option linter.unusedSimpArgs false
set_option maxRecDepth 10000

theorem o_r4_samelist {w0 : World} {h0 : Mem}  (hs : MLe h0 (mem w0)) {k l : Nat} {va : Value} {a : (List (T3 Rat))} (ra : (rpS (rpT (rpQ k))).Is h0 va a) {vb : Value} {b : (List (T3 Rat))} (rb : (rpS (rpT (rpQ l))).Is h0 vb b) (hcd0 : k + l ≤ 1000000000)  :
    Calls Tryz.prog 16 #[va, vb] w0 (Ret w0 h0 (fun _ r => r = vB (a = b))) := by
 have hla := s_lt ra
 refine zP (n := 27) (e := [(0, va), (1, vb)]) (vs := [va, vb]) Tryz.func16 rfl rfl (Nat.le_of_ble_eq_true rfl) hs ⟨rfl, rfl, trivial⟩ (zC (zA (asg rfl rfl (zD (zB (zC (zC (zA (mv rfl rfl (gv (wJ Tryz.underlying27 rfl ra) rfl (mv rfl rfl (gv (wJ Tryz.underlying27 rfl rb) rfl (gv (ov_neq_i rfl rfl) rfl ?_)))))))))))))
 refine zD (zB ?_)
 refine zN rfl (fun hc10 => ?_) (fun hc10 => ?_)
 ·
  refine zC (zA (asg rfl rfl (zD (zB (zQ (yE (yG rfl rfl ?_)))))))
  exact (xD (fun e => hc10 (by rw [e]))).symm
 have hlen : a.length = b.length := by omega
 refine zK (zB (zC (zC (zA (asg (v := vI (0)) rfl rfl (zD (zB (zR ?_))))))))
 refine wH (ι := Nat × Mem) (fun (i, ma) => MLe h0 ma ∧ (i ≤ a.length ∧ ∀ u, u < i → a.getD u (T3.mk (0 : Rat) (0 : Rat) (0 : Rat)) = b.getD u (T3.mk (0 : Rat) (0 : Rat) (0 : Rat)))) (fun (i, ma) => [(0, va), (1, vb), (5, vI ↑i)]) (fun (i, ma) => []) (fun (i, ma) => ma) (fun (i, ma) => a.length - i) (0, h0) ?_ ⟨rfl, rfl, rfl, trivial⟩ rfl rfl ?_
 ·
  refine ⟨MLe.refl _, ?_⟩
  exact ⟨by omega, fun u h => by omega⟩
 intro x hx
 obtain ⟨i, ma⟩ := x
 obtain ⟨hmma, hinv⟩ := hx
 show GC _ _ _ _ _ _ [(0, va), (1, vb), (5, vI ↑i)] [] ma
 obtain ⟨hi1, hi2⟩ := hinv
 refine zC (zC (zA (mv rfl rfl (mv rfl rfl ?_))))
 replace ra := ra.mono hmma
 refine gv (wJ Tryz.underlying27 rfl ra) rfl (gv (zW rfl rfl) rfl (zD (zB ?_)))
 refine zN rfl (fun hc14 => ?_) (fun hc14 => ?_)
 ·
  refine zK (zB (zC (zR (zC ?_))))
  refine yK 10 _ [] [(0, .q), (1, .q), (2, .q), (3, .q), (4, .q), (5, .q), (6, .q), (7, .q), (8, .c), (9, .q)] xN (fun x hx => by cases hx) (by kernel_rfl) (fun x hx => by cases hx) (fun r hr => hr) (w_q rfl (fun h' L' hh hR => zG rfl) rfl (w_q rfl (fun h' L' hh hR => zG rfl) rfl (w_qx (F := fun v_ => AtP (rpT (rpQ k)) ma v_ (a.getD i (T3.mk (0 : Rat) (0 : Rat) (0 : Rat)))) rfl (ox_idx_s (T3.mk (0 : Rat) (0 : Rat) (0 : Rat)) i Tryz.underlying27 ty32 rfl rfl ra rfl (by omega) (show 0 < 9 from by decide)) mem0 rfl ?_)))
  intro v19 r19
  refine w_qx (F := fun v_ => (rpT (rpQ k)).Is ma v_ (a.getD i (T3.mk (0 : Rat) (0 : Rat) (0 : Rat)))) rfl (wY ty32 rfl r19) mem0 rfl ?_
  intro v20 r20
  refine w_q rfl (fun h' L' hh hR => zG rfl) rfl (w_q rfl (fun h' L' hh hR => zG rfl) rfl ?_)
  replace rb := rb.mono hmma
  refine w_qx (F := fun v_ => AtP (rpT (rpQ l)) ma v_ (b.getD i (T3.mk (0 : Rat) (0 : Rat) (0 : Rat)))) rfl (ox_idx_s (T3.mk (0 : Rat) (0 : Rat) (0 : Rat)) i Tryz.underlying27 ty32 rfl rfl rb rfl (by omega) (show 0 < 9 from by decide)) mem0 rfl ?_
  intro v23 r23
  refine w_qx (F := fun v_ => (rpT (rpQ l)).Is ma v_ (b.getD i (T3.mk (0 : Rat) (0 : Rat) (0 : Rat)))) rfl (wY ty32 rfl r23) mem0 rfl ?_
  intro v24 r24
  refine w_c rfl ?_
  refine yI (vs := [_, _]) Tryz.call29 ⟨rfl, rfl, trivial⟩ (fun w hs => o_r4_same hs r20 r24 (by omega)) rfl ?_
  intro v25 h1 hh1 r25
  obtain rfl : v25 = vB ((a.getD i (T3.mk (0 : Rat) (0 : Rat) (0 : Rat))) = (b.getD i (T3.mk (0 : Rat) (0 : Rat) (0 : Rat)))) := r25
  refine w_q rfl (fun h' L' hh hR => ov_not rfl) rfl (yZ (zJ (e' := [(0, _), (1, _), (5, _), (26, _)]) ⟨rfl, rfl, rfl, rfl, trivial⟩ (zB ?_)))
  refine zN rfl (fun hc26 => ?_) (fun hc26 => ?_)
  ·
   refine zC (zA (asg rfl rfl (zD (zB (zQ (gr_in (yE (yE (gr_in (yE (yG rfl rfl ?_)))))))))))
   exact (xD (fun e => hc26 (by rw [e]))).symm
  refine zK (yV (zB (zA (mv rfl rfl (gv (zS (q := 1) rfl rfl (by omega) (by omega)) rfl (asg rfl rfl (zD ?_)))))))
  refine yL ((i + 1), h1) ?_ ?_ ⟨rfl, rfl, rfl, trivial⟩ rfl rfl
  ·
   refine ⟨(hmma.trans hh1), ?_⟩
   exact ⟨by omega, one_step (Q := fun u => a.getD u (T3.mk (0 : Rat) (0 : Rat) (0 : Rat)) = b.getD u (T3.mk (0 : Rat) (0 : Rat) (0 : Rat))) hi2 (Classical.not_not.1 hc26)⟩
  dsimp only
  omega
 refine xG (yB (yB (xF (zB (zC (zA (asg rfl rfl (zD (zB (zQ (yG rfl rfl ?_)))))))))))
 exact (xT (list_same hlen (fun u hu => hi2 u (by omega)))).symm

theorem o_r6_square {w0 : World} {h0 : Mem}  (hs : MLe h0 (mem w0)) {m l k : Nat} {vs : Value} {s : ((T3 Rat) × Rat)} (rs : (rpP (rpT (rpQ m)) (rpQ l)).Is h0 vs s) {vx : Value} {x : Rat} (rx : (rpQ k).Is h0 vx x) {vy : Value} {y : Rat} (ry : (rpQ k).Is h0 vy y) {vu : Value} {u : Rat} (ru : (rpQ k).Is h0 vu u) {vv : Value} {v : Rat} (rv : (rpQ k).Is h0 vv v) (hcd0 : k ≤ 100000) (hcd1 : l ≤ 100000) (hcd2 : m ≤ 100000)  :
    Calls Tryz.prog 76 #[vs, vx, vy, vu, vv] w0 (Ret w0 h0 (fun h r => (rpS (rpT (rpQ (3 * k + l + 4 * m + 33)))).Is h r (sqrL s x y u v))) := by
 refine zP (n := 46) (e := [(0, vs), (1, vx), (2, vy), (3, vu), (4, vv)]) (vs := [vs, vx, vy, vu, vv]) Tryz.func76 rfl rfl (Nat.le_of_ble_eq_true rfl) hs ⟨rfl, rfl, rfl, rfl, rfl, trivial⟩ (zC (zA (zL (xL (ρ := (rpP (rpT (rpQ m)) (rpQ l))) rfl rs) rfl rfl rfl ?_)))
 intro v5 q5 hq5
 obtain ⟨b5, cs5, rfl, rfl, rb5⟩ := hq5
 refine zL (xL (ρ := (rpQ k)) rfl rx) rfl rfl rfl ?_
 intro v6 q6 hq6
 obtain ⟨b6, cs6, rfl, rfl, rb6⟩ := hq6
 refine zL (xL (ρ := (rpQ k)) rfl ry) rfl rfl rfl ?_
 intro v7 q7 hq7
 obtain ⟨b7, cs7, rfl, rfl, rb7⟩ := hq7
 refine zL (xL (ρ := (rpQ k)) rfl ru) rfl rfl rfl ?_
 intro v8 q8 hq8
 obtain ⟨b8, cs8, rfl, rfl, rb8⟩ := hq8
 refine zL (xL (ρ := (rpQ k)) rfl rv) rfl rfl rfl ?_
 intro v9 q9 hq9
 obtain ⟨b9, cs9, rfl, rfl, rb9⟩ := hq9
 refine asg rfl rfl (zD (zB (zC (zA (asg rfl rfl (zD (zB (zC (zA (gl_x (F := fun v_ => (rpQ k).Is h0 v_ x) (zE ty30 (Pc.here _) rfl rfl rb6 rfl) (mem1 (.tail _ (.tail _ (.tail _ (.head _))))) rfl ?_))))))))))
 intro v16 r16
 refine gl_x (F := fun v_ => (rpQ k).Is h0 v_ y) (zE ty30 (Pc.here _) rfl rfl rb7 rfl) (mem1 (.tail _ (.tail _ (.head _)))) rfl ?_
 intro v17 r17
 refine gl_x (F := fun v_ => (rpT (rpQ (k + 1))).Is h0 v_ (T3.mk x y (0 : Rat))) (wU (ps' := [(0, _), (1, _)]) Tryz.underlying32 yC rfl rfl Tryz.sizeOf30 ⟨rfl, rfl, rfl, rfl, trivial⟩ rfl (zr_t (zr_q (by omega))) (yQ rfl (Pc.tx (Pc.here _)) (r16.le (Le.q (l := k + 1) (by omega))) (yQ rfl (Pc.ty (Pc.here _)) (r17.le (Le.q (l := k + 1) (by omega))) xM))) mem0 rfl ?_
 intro v18 r18
 refine gl_x (F := fun v_ => (rpQ k).Is h0 v_ u) (zE ty30 (Pc.here _) rfl rfl rb8 rfl) (mem1 (.tail _ (.head _))) rfl ?_
 intro v19 r19
 refine gl_x (F := fun v_ => (rpQ k).Is h0 v_ y) (zE ty30 (Pc.here _) rfl rfl rb7 rfl) (mem1 (.tail _ (.tail _ (.head _)))) rfl ?_
 intro v20 r20
 refine gl_x (F := fun v_ => (rpT (rpQ (k + 1))).Is h0 v_ (T3.mk u y (0 : Rat))) (wU (ps' := [(0, _), (1, _)]) Tryz.underlying32 yC rfl rfl Tryz.sizeOf30 ⟨rfl, rfl, rfl, rfl, trivial⟩ rfl (zr_t (zr_q (by omega))) (yQ rfl (Pc.tx (Pc.here _)) (r19.le (Le.q (l := k + 1) (by omega))) (yQ rfl (Pc.ty (Pc.here _)) (r20.le (Le.q (l := k + 1) (by omega))) xM))) mem0 rfl ?_
 intro v21 r21
 refine gl_x (F := fun v_ => (rpQ k).Is h0 v_ u) (zE ty30 (Pc.here _) rfl rfl rb8 rfl) (mem1 (.tail _ (.head _))) rfl ?_
 intro v22 r22
 refine gl_x (F := fun v_ => (rpQ k).Is h0 v_ v) (zE ty30 (Pc.here _) rfl rfl rb9 rfl) (mem1 (.head _)) rfl ?_
 intro v23 r23
 refine gl_x (F := fun v_ => (rpT (rpQ (k + 1))).Is h0 v_ (T3.mk u v (0 : Rat))) (wU (ps' := [(0, _), (1, _)]) Tryz.underlying32 yC rfl rfl Tryz.sizeOf30 ⟨rfl, rfl, rfl, rfl, trivial⟩ rfl (zr_t (zr_q (by omega))) (yQ rfl (Pc.tx (Pc.here _)) (r22.le (Le.q (l := k + 1) (by omega))) (yQ rfl (Pc.ty (Pc.here _)) (r23.le (Le.q (l := k + 1) (by omega))) xM))) mem0 rfl ?_
 intro v24 r24
 refine gl_x (F := fun v_ => (rpQ k).Is h0 v_ x) (zE ty30 (Pc.here _) rfl rfl rb6 rfl) (mem1 (.tail _ (.tail _ (.tail _ (.head _))))) rfl ?_
 intro v25 r25
 refine gl_x (F := fun v_ => (rpQ k).Is h0 v_ v) (zE ty30 (Pc.here _) rfl rfl rb9 rfl) (mem1 (.head _)) rfl ?_
 intro v26 r26
 refine gl_x (F := fun v_ => (rpT (rpQ (k + 1))).Is h0 v_ (T3.mk x v (0 : Rat))) (wU (ps' := [(0, _), (1, _)]) Tryz.underlying32 yC rfl rfl Tryz.sizeOf30 ⟨rfl, rfl, rfl, rfl, trivial⟩ rfl (zr_t (zr_q (by omega))) (yQ rfl (Pc.tx (Pc.here _)) (r25.le (Le.q (l := k + 1) (by omega))) (yQ rfl (Pc.ty (Pc.here _)) (r26.le (Le.q (l := k + 1) (by omega))) xM))) mem0 rfl ?_
 intro v27 r27
 refine gl_x (F := fun v_ => (rpA 4 (rpT (rpQ (k + 1)))).Is h0 v_ [(T3.mk x y (0 : Rat)), (T3.mk u y (0 : Rat)), (T3.mk u v (0 : Rat)), (T3.mk x v (0 : Rat))]) (wU (ps' := [(0, _), (1, _), (2, _), (3, _)]) Tryz.underlying119 info119 rfl rfl Tryz.sizeOf32 ⟨rfl, rfl, rfl, rfl, rfl, rfl, rfl, rfl, trivial⟩ rfl (zr_a 4 (zr_t (zr_q (by omega)))) (yQ rfl (Pc.arr (Pc.here _) (T3.mk (0 : Rat) (0 : Rat) (0 : Rat)) 0 (by decide)) r18 (yQ rfl (Pc.arr (Pc.here _) (T3.mk (0 : Rat) (0 : Rat) (0 : Rat)) 1 (by decide)) r21 (yQ rfl (Pc.arr (Pc.here _) (T3.mk (0 : Rat) (0 : Rat) (0 : Rat)) 2 (by decide)) r24 (yQ rfl (Pc.arr (Pc.here _) (T3.mk (0 : Rat) (0 : Rat) (0 : Rat)) 3 (by decide)) r27 xM))))) mem0 rfl ?_
 intro v28 r28
 refine zL (xE (ρ := (rpA 4 (rpT (rpQ 1)))) (X := (List.replicate 4 (T3.mk (0 : Rat) (0 : Rat) (0 : Rat)))) info119 rfl rfl (zr_a 4 (zr_t (zr_q (by decide))))) rfl rfl rfl ?_
 intro v12 q12 hq12
 obtain ⟨b12, cs12, rfl, rfl, rb12⟩ := hq12
 have rw_1 := (Le.a (Le.t (Le.q (l := k + 1) (by omega)))).R rb12
 refine wE (A := []) (F := fun c_ => (rpA 4 (rpT (rpQ (k + 1)))).R h0 c_ [(T3.mk x y (0 : Rat)), (T3.mk u y (0 : Rat)), (T3.mk u v (0 : Rat)), (T3.mk x v (0 : Rat))]) (yJ Tryz.sizeOf119 (Pc.here _) rfl rfl rfl rw_1 r28 rfl) ?_
 intro cs_2 rb_3
 refine zD (zJ (e' := [(5, _), (11, _), (12, _)]) ⟨rfl, rfl, rfl, trivial⟩ (zB (zC (zC (zA (asg (v := vI (0)) rfl rfl (zD (zB (zR (gc_loop1 (zC (zC (zA ?_)))))))))))))
 refine mv rfl rfl (gv (OpV.tr (by decide) (zW (q := 4) rfl rfl)) rfl (zD (zB (xX rfl (zK (zB (zC (zR (zC ?_)))))))))
 refine yK 11 _ [(8, (14, 32, [.bool false, .slice none 0 0, .slice none 0 0, .bool false, .slice none 0 0, .slice none 0 0, .bool false, .slice none 0 0, .slice none 0 0]))] [(0, .q), (1, .q), (2, .q), (3, .q), (4, .c), (5, .q), (6, .q), (7, .q), (8, .a), (9, .c), (10, .q)] xN (AlOk.cons rfl (zero_run yC rfl rfl) AlOk.nil) (by kernel_rfl) (hae_cons rfl rfl hae_nil) (fun r hr => hr) (w_qx (F := fun v_ => (rpP (rpT (rpQ m)) (rpQ l)).Is h0 v_ s) rfl (zE ty34 (Pc.here _) rfl rfl rb5 rfl) (mem1 (.tail _ (.tail _ (.tail _ (.tail _ (.tail _ (.head _))))))) rfl ?_)
 intro v34u1 r34u1
 refine w_q rfl (fun h' L' hh hR => zG rfl) rfl (w_q rfl (fun h' L' hh hR => (zI (sz := 9) 0 Tryz.underlying119 Tryz.sizeOf32 rfl rfl rfl (by decide)).cv (show _ = vP b12 0 from congrArg (vP b12) (by rfl))) rfl (w_qx (F := fun v_ => (rpT (rpQ (k + 1))).Is h0 v_ ([(T3.mk x y (0 : Rat)), (T3.mk u y (0 : Rat)), (T3.mk u v (0 : Rat)), (T3.mk x v (0 : Rat))].getD 0 (T3.mk (0 : Rat) (0 : Rat) (0 : Rat)))) rfl (zE ty32 (Pc.arr (Pc.here _) (T3.mk (0 : Rat) (0 : Rat) (0 : Rat)) 0 (by decide)) rfl rfl rb_3 rfl) (mem1 (.head _)) rfl ?_))
 intro v37u1 r37u1
 refine w_c rfl ?_
 refine yI (vs := [_, _]) Tryz.call114 ⟨rfl, rfl, trivial⟩ (fun w hs => o_r5_lift hs r34u1 r37u1 (by omega) (by omega) (by omega)) rfl ?_
 intro v38u1 h1 hh1 r38u1
 obtain ⟨v38u1_0, rfl, r38u1_0⟩ := r38u1
 change (rpT (rpQ (3 * (k + 1) + l + 4 * m + 30))).Is h1 v38u1_0 (liftZ s ([(T3.mk x y (0 : Rat)), (T3.mk u y (0 : Rat)), (T3.mk u v (0 : Rat)), (T3.mk x v (0 : Rat))].getD 0 (T3.mk (0 : Rat) (0 : Rat) (0 : Rat)))) at r38u1_0
 replace r38u1_0 := Rp.Is.le r38u1_0 (Le.t (Le.q (l := 3 * k + l + 4 * m + 33) (by omega)))
 refine w_q rfl (fun h' L' hh hR => zG rfl) rfl (w_q rfl (fun h' L' hh hR => zO (vs := [_, _]) rfl rfl) rfl (w_q rfl (fun h' L' hh hR => zO (vs := [_, _]) rfl rfl) rfl ?_))
 refine w_a rfl (fun b14u1 => ?_)
 have rb14u1 : (rpT (rpQ (3 * k + l + 4 * m + 33))).R h1 [.bool false, .slice none 0 0, .slice none 0 0, .bool false, .slice none 0 0, .slice none 0 0, .bool false, .slice none 0 0, .slice none 0 0] (T3.mk (0 : Rat) (0 : Rat) (0 : Rat)) := (zr_t (zr_q (by omega)))
 refine w_c rfl (s_updx (A := []) (F := fun c_ => (rpT (rpQ (3 * k + l + 4 * m + 33))).R h1 c_ (liftZ s ([(T3.mk x y (0 : Rat)), (T3.mk u y (0 : Rat)), (T3.mk u v (0 : Rat)), (T3.mk x v (0 : Rat))].getD 0 (T3.mk (0 : Rat) (0 : Rat) (0 : Rat))))) (yJ Tryz.sizeOf32 (Pc.here _) rfl rfl rfl rb14u1 r38u1_0 rfl) (xA (by first | (simp; done) | grind)) ?_)
 intro cs_4 rb_5
 refine w_q rfl (fun h' L' hh hR => zX rfl) rfl (yZ (zJ (e' := [(5, _), (11, _), (12, _), (13, _), (14, _)]) ⟨rfl, rfl, rfl, rfl, rfl, trivial⟩ (zB (zA (mv rfl rfl (gl_x (F := fun v_ => (rpT (rpQ (3 * k + l + 4 * m + 33))).Is h1 v_ (liftZ s ([(T3.mk x y (0 : Rat)), (T3.mk u y (0 : Rat)), (T3.mk u v (0 : Rat)), (T3.mk x v (0 : Rat))].getD 0 (T3.mk (0 : Rat) (0 : Rat) (0 : Rat))))) (zE ty32 (Pc.here _) rfl rfl rb_5 rfl) (mem1 (.head _)) rfl ?_))))))
 intro v42u1 r42u1
 refine zL (yO (ρ := (rpT (rpQ (3 * k + l + 4 * m + 33)))) (m := 1) (xs := [liftZ s ([(T3.mk x y (0 : Rat)), (T3.mk u y (0 : Rat)), (T3.mk u v (0 : Rat)), (T3.mk x v (0 : Rat))].getD 0 (T3.mk (0 : Rat) (0 : Rat) (0 : Rat)))]) (ps' := [(0, _)]) Tryz.underlying27 yC rfl rfl rfl (zr_t (zr_q (by omega))) ⟨rfl, rfl, trivial⟩ (yQ rfl (Pc.arr (Pc.here _) (T3.mk (0 : Rat) (0 : Rat) (0 : Rat)) 0 (by decide)) r42u1 xM) (show 1 * 9 ≤ 16777216 from by decide) (show 0 < 9 from by decide)) rfl rfl rfl ?_
 intro v43u1 q43u1 hq43u1
 obtain ⟨cs43u1, rfl, rl43u1⟩ := hq43u1
 refine vQ (A := []) (ρ := (rpT (rpQ (3 * k + l + 4 * m + 33)))) rl43u1 ?_
 intro h2 hh2 rs_6
 refine gl_nilown 32 9 ?_
 have rl_7 : RL (rpT (rpQ (3 * k + l + 4 * m + 33))) h2 [] ([] : List (T3 Rat)) := RL.nil
 refine vO (A := []) (yD (ρ := (rpT (rpQ (3 * k + l + 4 * m + 33)))) (bytes := 168) Tryz.underlying27 yC rfl rfl rfl rfl (show 0 < 9 from by decide) rfl rfl rl_7 rs_6 (by first | omega | (simp only [List.length_append, List.length_cons, List.length_nil, List.length_replicate, List.length_set]; omega)) (by first | omega | (simp only [List.length_append, List.length_cons, List.length_nil, List.length_replicate, List.length_set]; omega))) rfl rfl rfl ?_
 intro v44u1 q44u1 hq44u1
 obtain ⟨cs44u1, rfl, rl44u1⟩ := hq44u1
 refine asg rfl rfl (zD (yV (zB (zA (mv rfl rfl (gv ((zS (q := 1) rfl rfl (by omega) (by omega)).cv (show _ = vI (1) from rfl)) rfl (asg rfl rfl (zD (xY (zC (zC (zA (mv rfl rfl ?_)))))))))))))
 refine gv (OpV.tr (by decide) (zW (q := 4) rfl rfl)) rfl (zD (zB (xX rfl (zK (zB (zC (zR (zC (wL (e' := [(5, _), (12, _), (11, _), (13, _)]) ⟨rfl, rfl, rfl, rfl, trivial⟩ ?_)))))))))
 refine yK 11 _ [(8, (14, 32, [.bool false, .slice none 0 0, .slice none 0 0, .bool false, .slice none 0 0, .slice none 0 0, .bool false, .slice none 0 0, .slice none 0 0]))] [(0, .q), (1, .q), (2, .q), (3, .q), (4, .c), (5, .q), (6, .q), (7, .q), (8, .a), (9, .c), (10, .q)] xN (AlOk.cons rfl (zero_run yC rfl rfl) AlOk.nil) (by kernel_rfl) (hae_cons rfl rfl hae_nil) (fun r hr => hr) ?_
 replace rb5 := rb5.mono (hh1.trans hh2)
 refine w_qx (F := fun v_ => (rpP (rpT (rpQ m)) (rpQ l)).Is h2 v_ s) rfl (zE ty34 (Pc.here _) rfl rfl rb5 rfl) (mem1 (.tail _ (.tail _ (.tail _ (.tail _ (.tail _ (.tail _ (.tail _ (.head _))))))))) rfl ?_
 intro v34u2 r34u2
 refine w_q rfl (fun h' L' hh hR => zG rfl) rfl (w_q rfl (fun h' L' hh hR => (zI (sz := 9) 1 Tryz.underlying119 Tryz.sizeOf32 rfl rfl rfl (by decide)).cv (show _ = vP b12 9 from congrArg (vP b12) (by rfl))) rfl ?_)
 replace rb_3 := rb_3.mono (hh1.trans hh2)
 refine w_qx (F := fun v_ => (rpT (rpQ (k + 1))).Is h2 v_ ([(T3.mk x y (0 : Rat)), (T3.mk u y (0 : Rat)), (T3.mk u v (0 : Rat)), (T3.mk x v (0 : Rat))].getD 1 (T3.mk (0 : Rat) (0 : Rat) (0 : Rat)))) rfl (zE ty32 (Pc.arr (Pc.here _) (T3.mk (0 : Rat) (0 : Rat) (0 : Rat)) 1 (by decide)) rfl rfl rb_3 rfl) (mem1 (.tail _ (.tail _ (.head _)))) rfl ?_
 intro v37u2 r37u2
 refine w_c rfl ?_
 refine yI (vs := [_, _]) Tryz.call114 ⟨rfl, rfl, trivial⟩ (fun w hs => o_r5_lift hs r34u2 r37u2 (by omega) (by omega) (by omega)) rfl ?_
 intro v38u2 h3 hh3 r38u2
 obtain ⟨v38u2_0, rfl, r38u2_0⟩ := r38u2
 change (rpT (rpQ (3 * (k + 1) + l + 4 * m + 30))).Is h3 v38u2_0 (liftZ s ([(T3.mk x y (0 : Rat)), (T3.mk u y (0 : Rat)), (T3.mk u v (0 : Rat)), (T3.mk x v (0 : Rat))].getD 1 (T3.mk (0 : Rat) (0 : Rat) (0 : Rat)))) at r38u2_0
 replace r38u2_0 := Rp.Is.le r38u2_0 (Le.t (Le.q (l := 3 * k + l + 4 * m + 33) (by omega)))
 refine w_q rfl (fun h' L' hh hR => zG rfl) rfl (w_q rfl (fun h' L' hh hR => zO (vs := [_, _]) rfl rfl) rfl (w_q rfl (fun h' L' hh hR => zO (vs := [_, _]) rfl rfl) rfl ?_))
 refine w_a rfl (fun b14u2 => ?_)
 have rb14u2 : (rpT (rpQ (3 * k + l + 4 * m + 33))).R h3 [.bool false, .slice none 0 0, .slice none 0 0, .bool false, .slice none 0 0, .slice none 0 0, .bool false, .slice none 0 0, .slice none 0 0] (T3.mk (0 : Rat) (0 : Rat) (0 : Rat)) := (zr_t (zr_q (by omega)))
 refine w_c rfl (s_updx (A := []) (F := fun c_ => (rpT (rpQ (3 * k + l + 4 * m + 33))).R h3 c_ (liftZ s ([(T3.mk x y (0 : Rat)), (T3.mk u y (0 : Rat)), (T3.mk u v (0 : Rat)), (T3.mk x v (0 : Rat))].getD 1 (T3.mk (0 : Rat) (0 : Rat) (0 : Rat))))) (yJ Tryz.sizeOf32 (Pc.here _) rfl rfl rfl rb14u2 r38u2_0 rfl) (xA (by first | (simp; done) | grind)) ?_)
 intro cs_8 rb_9
 refine w_q rfl (fun h' L' hh hR => zX rfl) rfl (yZ (zB (zA (mv rfl rfl (gl_x (F := fun v_ => (rpT (rpQ (3 * k + l + 4 * m + 33))).Is h3 v_ (liftZ s ([(T3.mk x y (0 : Rat)), (T3.mk u y (0 : Rat)), (T3.mk u v (0 : Rat)), (T3.mk x v (0 : Rat))].getD 1 (T3.mk (0 : Rat) (0 : Rat) (0 : Rat))))) (zE ty32 (Pc.here _) rfl rfl rb_9 rfl) (mem1 (.head _)) rfl ?_)))))
 intro v42u2 r42u2
 refine zL (yO (ρ := (rpT (rpQ (3 * k + l + 4 * m + 33)))) (m := 1) (xs := [liftZ s ([(T3.mk x y (0 : Rat)), (T3.mk u y (0 : Rat)), (T3.mk u v (0 : Rat)), (T3.mk x v (0 : Rat))].getD 1 (T3.mk (0 : Rat) (0 : Rat) (0 : Rat)))]) (ps' := [(0, _)]) Tryz.underlying27 yC rfl rfl rfl (zr_t (zr_q (by omega))) ⟨rfl, rfl, trivial⟩ (yQ rfl (Pc.arr (Pc.here _) (T3.mk (0 : Rat) (0 : Rat) (0 : Rat)) 0 (by decide)) r42u2 xM) (show 1 * 9 ≤ 16777216 from by decide) (show 0 < 9 from by decide)) rfl rfl rfl ?_
 intro v43u2 q43u2 hq43u2
 obtain ⟨cs43u2, rfl, rl43u2⟩ := hq43u2
 refine vQ (A := []) (ρ := (rpT (rpQ (3 * k + l + 4 * m + 33)))) rl43u2 ?_
 intro h4 hh4 rs_10
 replace rl44u1 := rl44u1.mono (hh3.trans hh4)
 refine vO (A := [_]) (yD (ρ := (rpT (rpQ (3 * k + l + 4 * m + 33)))) (bytes := 168) Tryz.underlying27 yC rfl rfl rfl rfl (show 0 < 9 from by decide) rfl rfl rl44u1 rs_10 (by first | omega | (simp only [List.length_append, List.length_cons, List.length_nil, List.length_replicate, List.length_set]; omega)) (by first | omega | (simp only [List.length_append, List.length_cons, List.length_nil, List.length_replicate, List.length_set]; omega))) rfl rfl rfl ?_
 intro v44u2 q44u2 hq44u2
 obtain ⟨cs44u2, rfl, rl44u2⟩ := hq44u2
 refine asg rfl rfl (zD (yV (zJ (e' := [(5, _), (12, _), (13, _), (11, _)]) ⟨rfl, rfl, rfl, rfl, trivial⟩ (zB (zA (mv rfl rfl (gv ((zS (q := 1) rfl rfl (by omega) (by omega)).cv (show _ = vI (2) from rfl)) rfl (asg rfl rfl (zD (xY (zC (zC (zA ?_)))))))))))))
 refine mv rfl rfl (gv (OpV.tr (by decide) (zW (q := 4) rfl rfl)) rfl (zD (zB (xX rfl (zK (zB (zC (zR (zC ?_)))))))))
 refine yK 11 _ [(8, (14, 32, [.bool false, .slice none 0 0, .slice none 0 0, .bool false, .slice none 0 0, .slice none 0 0, .bool false, .slice none 0 0, .slice none 0 0]))] [(0, .q), (1, .q), (2, .q), (3, .q), (4, .c), (5, .q), (6, .q), (7, .q), (8, .a), (9, .c), (10, .q)] xN (AlOk.cons rfl (zero_run yC rfl rfl) AlOk.nil) (by kernel_rfl) (hae_cons rfl rfl hae_nil) (fun r hr => hr) ?_
 replace rb5 := rb5.mono (hh3.trans hh4)
 refine w_qx (F := fun v_ => (rpP (rpT (rpQ m)) (rpQ l)).Is h4 v_ s) rfl (zE ty34 (Pc.here _) rfl rfl rb5 rfl) (mem1 (.tail _ (.tail _ (.tail _ (.tail _ (.tail _ (.tail _ (.tail _ (.tail _ (.head _)))))))))) rfl ?_
 intro v34u3 r34u3
 refine w_q rfl (fun h' L' hh hR => zG rfl) rfl (w_q rfl (fun h' L' hh hR => (zI (sz := 9) 2 Tryz.underlying119 Tryz.sizeOf32 rfl rfl rfl (by decide)).cv (show _ = vP b12 18 from congrArg (vP b12) (by rfl))) rfl ?_)
 replace rb_3 := rb_3.mono (hh3.trans hh4)
 refine w_qx (F := fun v_ => (rpT (rpQ (k + 1))).Is h4 v_ ([(T3.mk x y (0 : Rat)), (T3.mk u y (0 : Rat)), (T3.mk u v (0 : Rat)), (T3.mk x v (0 : Rat))].getD 2 (T3.mk (0 : Rat) (0 : Rat) (0 : Rat)))) rfl (zE ty32 (Pc.arr (Pc.here _) (T3.mk (0 : Rat) (0 : Rat) (0 : Rat)) 2 (by decide)) rfl rfl rb_3 rfl) (mem1 (.tail _ (.tail _ (.tail _ (.head _))))) rfl ?_
 intro v37u3 r37u3
 refine w_c rfl ?_
 refine yI (vs := [_, _]) Tryz.call114 ⟨rfl, rfl, trivial⟩ (fun w hs => o_r5_lift hs r34u3 r37u3 (by omega) (by omega) (by omega)) rfl ?_
 intro v38u3 h5 hh5 r38u3
 obtain ⟨v38u3_0, rfl, r38u3_0⟩ := r38u3
 change (rpT (rpQ (3 * (k + 1) + l + 4 * m + 30))).Is h5 v38u3_0 (liftZ s ([(T3.mk x y (0 : Rat)), (T3.mk u y (0 : Rat)), (T3.mk u v (0 : Rat)), (T3.mk x v (0 : Rat))].getD 2 (T3.mk (0 : Rat) (0 : Rat) (0 : Rat)))) at r38u3_0
 replace r38u3_0 := Rp.Is.le r38u3_0 (Le.t (Le.q (l := 3 * k + l + 4 * m + 33) (by omega)))
 refine w_q rfl (fun h' L' hh hR => zG rfl) rfl (w_q rfl (fun h' L' hh hR => zO (vs := [_, _]) rfl rfl) rfl (w_q rfl (fun h' L' hh hR => zO (vs := [_, _]) rfl rfl) rfl ?_))
 refine w_a rfl (fun b14u3 => ?_)
 have rb14u3 : (rpT (rpQ (3 * k + l + 4 * m + 33))).R h5 [.bool false, .slice none 0 0, .slice none 0 0, .bool false, .slice none 0 0, .slice none 0 0, .bool false, .slice none 0 0, .slice none 0 0] (T3.mk (0 : Rat) (0 : Rat) (0 : Rat)) := (zr_t (zr_q (by omega)))
 refine w_c rfl (s_updx (A := []) (F := fun c_ => (rpT (rpQ (3 * k + l + 4 * m + 33))).R h5 c_ (liftZ s ([(T3.mk x y (0 : Rat)), (T3.mk u y (0 : Rat)), (T3.mk u v (0 : Rat)), (T3.mk x v (0 : Rat))].getD 2 (T3.mk (0 : Rat) (0 : Rat) (0 : Rat))))) (yJ Tryz.sizeOf32 (Pc.here _) rfl rfl rfl rb14u3 r38u3_0 rfl) (xA (by first | (simp; done) | grind)) ?_)
 intro cs_11 rb_12
 refine w_q rfl (fun h' L' hh hR => zX rfl) rfl (yZ (zJ (e' := [(5, _), (12, _), (11, _), (13, _), (14, _)]) ⟨rfl, rfl, rfl, rfl, rfl, trivial⟩ (zB (zA (mv rfl rfl (gl_x (F := fun v_ => (rpT (rpQ (3 * k + l + 4 * m + 33))).Is h5 v_ (liftZ s ([(T3.mk x y (0 : Rat)), (T3.mk u y (0 : Rat)), (T3.mk u v (0 : Rat)), (T3.mk x v (0 : Rat))].getD 2 (T3.mk (0 : Rat) (0 : Rat) (0 : Rat))))) (zE ty32 (Pc.here _) rfl rfl rb_12 rfl) (mem1 (.head _)) rfl ?_))))))
 intro v42u3 r42u3
 refine zL (yO (ρ := (rpT (rpQ (3 * k + l + 4 * m + 33)))) (m := 1) (xs := [liftZ s ([(T3.mk x y (0 : Rat)), (T3.mk u y (0 : Rat)), (T3.mk u v (0 : Rat)), (T3.mk x v (0 : Rat))].getD 2 (T3.mk (0 : Rat) (0 : Rat) (0 : Rat)))]) (ps' := [(0, _)]) Tryz.underlying27 yC rfl rfl rfl (zr_t (zr_q (by omega))) ⟨rfl, rfl, trivial⟩ (yQ rfl (Pc.arr (Pc.here _) (T3.mk (0 : Rat) (0 : Rat) (0 : Rat)) 0 (by decide)) r42u3 xM) (show 1 * 9 ≤ 16777216 from by decide) (show 0 < 9 from by decide)) rfl rfl rfl ?_
 intro v43u3 q43u3 hq43u3
 obtain ⟨cs43u3, rfl, rl43u3⟩ := hq43u3
 refine vQ (A := []) (ρ := (rpT (rpQ (3 * k + l + 4 * m + 33)))) rl43u3 ?_
 intro h6 hh6 rs_13
 replace rl44u2 := rl44u2.mono (hh5.trans hh6)
 refine vO (A := [_, _]) (yD (ρ := (rpT (rpQ (3 * k + l + 4 * m + 33)))) (bytes := 168) Tryz.underlying27 yC rfl rfl rfl rfl (show 0 < 9 from by decide) rfl rfl rl44u2 rs_13 (by first | omega | (simp only [List.length_append, List.length_cons, List.length_nil, List.length_replicate, List.length_set]; omega)) (by first | omega | (simp only [List.length_append, List.length_cons, List.length_nil, List.length_replicate, List.length_set]; omega))) rfl rfl rfl ?_
 intro v44u3 q44u3 hq44u3
 obtain ⟨cs44u3, rfl, rl44u3⟩ := hq44u3
 refine asg rfl rfl (zD (yV (zB (zA (mv rfl rfl (gv ((zS (q := 1) rfl rfl (by omega) (by omega)).cv (show _ = vI (3) from rfl)) rfl (asg rfl rfl (zD (xY (zC (zC (zA (mv rfl rfl ?_)))))))))))))
 refine gv (OpV.tr (by decide) (zW (q := 4) rfl rfl)) rfl (zD (zB (xX rfl (zK (zB (zC (zR (zC (wL (e' := [(5, _), (12, _), (11, _), (13, _)]) ⟨rfl, rfl, rfl, rfl, trivial⟩ ?_)))))))))
 refine yK 11 _ [(8, (14, 32, [.bool false, .slice none 0 0, .slice none 0 0, .bool false, .slice none 0 0, .slice none 0 0, .bool false, .slice none 0 0, .slice none 0 0]))] [(0, .q), (1, .q), (2, .q), (3, .q), (4, .c), (5, .q), (6, .q), (7, .q), (8, .a), (9, .c), (10, .q)] xN (AlOk.cons rfl (zero_run yC rfl rfl) AlOk.nil) (by kernel_rfl) (hae_cons rfl rfl hae_nil) (fun r hr => hr) ?_
 replace rb5 := rb5.mono (hh5.trans hh6)
 refine w_qx (F := fun v_ => (rpP (rpT (rpQ m)) (rpQ l)).Is h6 v_ s) rfl (zE ty34 (Pc.here _) rfl rfl rb5 rfl) (mem1 (.tail _ (.tail _ (.tail _ (.tail _ (.tail _ (.tail _ (.tail _ (.tail _ (.tail _ (.head _))))))))))) rfl ?_
 intro v34u4 r34u4
 refine w_q rfl (fun h' L' hh hR => zG rfl) rfl (w_q rfl (fun h' L' hh hR => (zI (sz := 9) 3 Tryz.underlying119 Tryz.sizeOf32 rfl rfl rfl (by decide)).cv (show _ = vP b12 27 from congrArg (vP b12) (by rfl))) rfl ?_)
 replace rb_3 := rb_3.mono (hh5.trans hh6)
 refine w_qx (F := fun v_ => (rpT (rpQ (k + 1))).Is h6 v_ ([(T3.mk x y (0 : Rat)), (T3.mk u y (0 : Rat)), (T3.mk u v (0 : Rat)), (T3.mk x v (0 : Rat))].getD 3 (T3.mk (0 : Rat) (0 : Rat) (0 : Rat)))) rfl (zE ty32 (Pc.arr (Pc.here _) (T3.mk (0 : Rat) (0 : Rat) (0 : Rat)) 3 (by decide)) rfl rfl rb_3 rfl) (mem1 (.tail _ (.tail _ (.tail _ (.tail _ (.head _)))))) rfl ?_
 intro v37u4 r37u4
 refine w_c rfl ?_
 refine yI (vs := [_, _]) Tryz.call114 ⟨rfl, rfl, trivial⟩ (fun w hs => o_r5_lift hs r34u4 r37u4 (by omega) (by omega) (by omega)) rfl ?_
 intro v38u4 h7 hh7 r38u4
 obtain ⟨v38u4_0, rfl, r38u4_0⟩ := r38u4
 change (rpT (rpQ (3 * (k + 1) + l + 4 * m + 30))).Is h7 v38u4_0 (liftZ s ([(T3.mk x y (0 : Rat)), (T3.mk u y (0 : Rat)), (T3.mk u v (0 : Rat)), (T3.mk x v (0 : Rat))].getD 3 (T3.mk (0 : Rat) (0 : Rat) (0 : Rat)))) at r38u4_0
 replace r38u4_0 := Rp.Is.le r38u4_0 (Le.t (Le.q (l := 3 * k + l + 4 * m + 33) (by omega)))
 refine w_q rfl (fun h' L' hh hR => zG rfl) rfl (w_q rfl (fun h' L' hh hR => zO (vs := [_, _]) rfl rfl) rfl (w_q rfl (fun h' L' hh hR => zO (vs := [_, _]) rfl rfl) rfl ?_))
 refine w_a rfl (fun b14u4 => ?_)
 have rb14u4 : (rpT (rpQ (3 * k + l + 4 * m + 33))).R h7 [.bool false, .slice none 0 0, .slice none 0 0, .bool false, .slice none 0 0, .slice none 0 0, .bool false, .slice none 0 0, .slice none 0 0] (T3.mk (0 : Rat) (0 : Rat) (0 : Rat)) := (zr_t (zr_q (by omega)))
 refine w_c rfl (s_updx (A := []) (F := fun c_ => (rpT (rpQ (3 * k + l + 4 * m + 33))).R h7 c_ (liftZ s ([(T3.mk x y (0 : Rat)), (T3.mk u y (0 : Rat)), (T3.mk u v (0 : Rat)), (T3.mk x v (0 : Rat))].getD 3 (T3.mk (0 : Rat) (0 : Rat) (0 : Rat))))) (yJ Tryz.sizeOf32 (Pc.here _) rfl rfl rfl rb14u4 r38u4_0 rfl) (xA (by first | (simp; done) | grind)) ?_)
 intro cs_14 rb_15
 refine w_q rfl (fun h' L' hh hR => zX rfl) rfl (yZ (zB (zA (mv rfl rfl (gl_x (F := fun v_ => (rpT (rpQ (3 * k + l + 4 * m + 33))).Is h7 v_ (liftZ s ([(T3.mk x y (0 : Rat)), (T3.mk u y (0 : Rat)), (T3.mk u v (0 : Rat)), (T3.mk x v (0 : Rat))].getD 3 (T3.mk (0 : Rat) (0 : Rat) (0 : Rat))))) (zE ty32 (Pc.here _) rfl rfl rb_15 rfl) (mem1 (.head _)) rfl ?_)))))
 intro v42u4 r42u4
 refine zL (yO (ρ := (rpT (rpQ (3 * k + l + 4 * m + 33)))) (m := 1) (xs := [liftZ s ([(T3.mk x y (0 : Rat)), (T3.mk u y (0 : Rat)), (T3.mk u v (0 : Rat)), (T3.mk x v (0 : Rat))].getD 3 (T3.mk (0 : Rat) (0 : Rat) (0 : Rat)))]) (ps' := [(0, _)]) Tryz.underlying27 yC rfl rfl rfl (zr_t (zr_q (by omega))) ⟨rfl, rfl, trivial⟩ (yQ rfl (Pc.arr (Pc.here _) (T3.mk (0 : Rat) (0 : Rat) (0 : Rat)) 0 (by decide)) r42u4 xM) (show 1 * 9 ≤ 16777216 from by decide) (show 0 < 9 from by decide)) rfl rfl rfl ?_
 intro v43u4 q43u4 hq43u4
 obtain ⟨cs43u4, rfl, rl43u4⟩ := hq43u4
 refine vQ (A := []) (ρ := (rpT (rpQ (3 * k + l + 4 * m + 33)))) rl43u4 ?_
 intro h8 hh8 rs_16
 replace rl44u3 := rl44u3.mono (hh7.trans hh8)
 refine vO (A := [_, _, _]) (yD (ρ := (rpT (rpQ (3 * k + l + 4 * m + 33)))) (bytes := 168) Tryz.underlying27 yC rfl rfl rfl rfl (show 0 < 9 from by decide) rfl rfl rl44u3 rs_16 (by first | omega | (simp only [List.length_append, List.length_cons, List.length_nil, List.length_replicate, List.length_set]; omega)) (by first | omega | (simp only [List.length_append, List.length_cons, List.length_nil, List.length_replicate, List.length_set]; omega))) rfl rfl rfl ?_
 intro v44u4 q44u4 hq44u4
 obtain ⟨cs44u4, rfl, rl44u4⟩ := hq44u4
 refine asg rfl rfl (zD (yV (zJ (e' := [(5, _), (12, _), (13, _), (11, _)]) ⟨rfl, rfl, rfl, rfl, trivial⟩ (zB (zA (mv rfl rfl (gv ((zS (q := 1) rfl rfl (by omega) (by omega)).cv (show _ = vI (4) from rfl)) rfl (asg rfl rfl (zD (xY (zC (zC (zA ?_)))))))))))))
 refine mv rfl rfl (gv (OpV.fa (by decide) (zW (q := 4) rfl rfl)) rfl (zD (zB (vW rfl (xG (yB (yB (xF (zB (zC (zA (mv rfl rfl (asg rfl rfl ?_)))))))))))))
 refine zD (zB (zQ (gq_freezex (A := [_, _, _]) (ρ := (rpT (rpQ (3 * k + l + 4 * m + 33)))) rl44u4 ?_)))
 intro h9 hh9 rs_17
 refine yG rfl rfl ?_
 exact rs_17

theorem o_r6_around {w0 : World} {h0 : Mem}  (hs : MLe h0 (mem w0)) {m l k : Nat} {vs : Value} {s : ((T3 Rat) × Rat)} (rs : (rpP (rpT (rpQ m)) (rpQ l)).Is h0 vs s) {vps : Value} {ps : (List (T3 Rat))} (rps : (rpS (rpT (rpQ k))).Is h0 vps ps) (hcd0 : k ≤ 10000) (hcd1 : l ≤ 10000) (hcd2 : m ≤ 10000)  :
    Calls Tryz.prog 37 #[vs, vps] w0 (Ret w0 h0 (fun h r => ∃ u0, r = .tuple #[u0, vB (¬ (ps.length = 0 ∨ s.1 = zT))] ∧ (rpS (rpT (rpQ (3 * k + l + 4 * m + 45)))).Is h u0 (aroZ s ps))) := by
 have hlp := s_lt rps
 refine zP (n := 79) (e := [(0, vs), (1, vps)]) (vs := [vs, vps]) Tryz.func37 rfl rfl (Nat.le_of_ble_eq_true rfl) hs ⟨rfl, rfl, trivial⟩ (zC (zA (zL (xL (ρ := (rpP (rpT (rpQ m)) (rpQ l))) rfl rs) rfl rfl rfl ?_)))
 intro v2 q2 hq2
 obtain ⟨b2, cs2, rfl, rfl, rb2⟩ := hq2
 refine asg rfl rfl (asg rfl rfl (zD (zB (zC (zC (zA (mv rfl rfl (gv (wJ Tryz.underlying27 rfl rps) rfl (gv (wC (q := 0) rfl rfl) rfl ?_)))))))))
 refine vM (ι := Mem) 5 (fun m_ => MLe h0 m_) (fun _ => [(19, vB (((↑(ps).length : Int) = (0 : Int)) ∨ (s.1 = (T3.mk (0 : Rat) (0 : Rat) (0 : Rat))))), (1, vps), (2, vP b2 0)]) (fun _ => [.var b2 34 cs2]) (fun m_ => m_) ?_ ?_
 ·
  refine wI ((↑(ps).length : Int) = (0 : Int)) (fun hg => ?_) (fun hg => ?_)
  ·
   refine xK (zG (v := .bool true) (congrArg some (xT hg))) rfl rfl rfl (yM rfl rfl rfl rfl rfl rfl (yM rfl rfl rfl rfl rfl rfl (yM rfl rfl rfl rfl rfl rfl (gv (xR rfl rfl) rfl (zD ?_)))))
   refine yP h0 (MLe.refl _) ⟨?_, rfl, rfl, trivial⟩ rfl rfl
   exact congrArg some (vB_or_t hg)
  refine xK (zG (v := .bool false) (congrArg some (xD hg))) rfl rfl rfl (yW rfl rfl rfl (gv ((zH Tryz.underlying34 rfl Tryz.sizeOf32 rfl).cv (show _ = vP b2 0 from congrArg (vP b2) (by rfl))) rfl (yW rfl rfl rfl (gl_x (F := fun v_ => (rpT (rpQ m)).Is h0 v_ s.1) (zE ty32 (Pc.fst (Pc.here _)) rfl rfl rb2 rfl) (mem1 (.head _)) rfl ?_))))
  intro v17 r17
  refine yW rfl rfl rfl ?_
  refine zM (vs := [_]) rfl rfl rfl rfl Tryz.call41 ⟨rfl, trivial⟩ (fun w hs => o_r4_zero hs r17 (by omega)) ?_
  intro v18 h1 hh1 r18
  obtain rfl : v18 = vB (s.1 = (T3.mk (0 : Rat) (0 : Rat) (0 : Rat))) := r18
  refine gv (xU rfl rfl) rfl (zD ?_)
  refine yP h1 hh1 ⟨?_, rfl, rfl, trivial⟩ rfl rfl
  exact congrArg some (vB_or_f hg)
 intro mg1_3 hmmg1_3
 show GL _ _ _ _ _ _ _ [(19, vB (((↑(ps).length : Int) = (0 : Int)) ∨ (s.1 = (T3.mk (0 : Rat) (0 : Rat) (0 : Rat))))), (1, vps), (2, vP b2 0)] [.var b2 34 cs2] mg1_3
 refine zD (zB ?_)
 refine zN rfl (fun hc19 => ?_) (fun hc19 => ?_)
 ·
  have hz : ps.length = 0 ∨ s.1 = zT := hc19.imp (fun e => by omega) id
  refine zC (zA (asg rfl rfl (asg rfl rfl (zD (zB (zQ (yE (vN rfl rfl rfl ?_))))))))
  refine ⟨_, ?_, (Rp.Is.cast (is_nil _) (by exact (if_pos hz).symm))⟩
  rw [xD (fun e => e hz)]
 have hz : ¬ (ps.length = 0 ∨ s.1 = zT) := fun e => hc19 (e.imp (fun e => by omega) id)
 refine zK (zB (zC ?_))
 refine yK 6 _ [(5, (6, 32, [.bool false, .slice none 0 0, .slice none 0 0, .bool false, .slice none 0 0, .slice none 0 0, .bool false, .slice none 0 0, .slice none 0 0]))] [(0, .q), (1, .q), (2, .q), (3, .q), (4, .c), (5, .a), (6, .t)] xN (AlOk.cons rfl (zero_run yC rfl rfl) AlOk.nil) (by kernel_rfl) (hae_cons rfl rfl hae_nil) (fun r hr => hr) ?_
 replace rb2 := rb2.mono hmmg1_3
 refine w_qx (F := fun v_ => (rpP (rpT (rpQ m)) (rpQ l)).Is mg1_3 v_ s) rfl (zE ty34 (Pc.here _) rfl rfl rb2 rfl) (mem1 (.head _)) rfl ?_
 intro v20 r20
 refine w_q rfl (fun h' L' hh hR => zG rfl) rfl ?_
 replace rps := rps.mono hmmg1_3
 refine w_qx (F := fun v_ => AtP (rpT (rpQ k)) mg1_3 v_ (ps.getD 0 (T3.mk (0 : Rat) (0 : Rat) (0 : Rat)))) rfl (ox_idx_s (q := 0) (T3.mk (0 : Rat) (0 : Rat) (0 : Rat)) 0 Tryz.underlying27 ty32 rfl rfl rps rfl (by omega) (show 0 < 9 from by decide)) mem0 rfl ?_
 intro v22 r22
 refine w_qx (F := fun v_ => (rpT (rpQ k)).Is mg1_3 v_ (ps.getD 0 (T3.mk (0 : Rat) (0 : Rat) (0 : Rat)))) rfl (wY ty32 rfl r22) mem0 rfl ?_
 intro v23 r23
 refine w_c rfl ?_
 refine yI (vs := [_, _]) Tryz.call73 ⟨rfl, rfl, trivial⟩ (fun w hs => o_r5_flatten hs r20 r23 (by omega) (by omega)) rfl ?_
 intro v24 h1 hh1 r24
 change (rpT (rpQ (k + 1))).Is h1 v24 (flatZ s (ps.getD 0 (T3.mk (0 : Rat) (0 : Rat) (0 : Rat)))) at r24
 refine w_a rfl (fun b6 => ?_)
 have rb6 : (rpT (rpQ (k + 1))).R h1 [.bool false, .slice none 0 0, .slice none 0 0, .bool false, .slice none 0 0, .slice none 0 0, .bool false, .slice none 0 0, .slice none 0 0] (T3.mk (0 : Rat) (0 : Rat) (0 : Rat)) := (zr_t (zr_q (by omega)))
 refine wB (A := []) (F := fun c_ => (rpT (rpQ (k + 1))).R h1 c_ (flatZ s (ps.getD 0 (T3.mk (0 : Rat) (0 : Rat) (0 : Rat))))) rfl (yJ Tryz.sizeOf32 (Pc.here _) rfl rfl rfl rb6 r24 rfl) ?_
 intro cs_18 rb_19
 refine yZ (zB (zC (zA (gl_x (F := fun v_ => (rpT (rpQ (k + 1))).Is h1 v_ (flatZ s (ps.getD 0 (T3.mk (0 : Rat) (0 : Rat) (0 : Rat))))) (zE ty32 (Pc.here _) rfl rfl rb_19 rfl) (mem1 (.head _)) rfl ?_))))
 intro v25 r25
 refine zL (xE (ρ := (rpT (rpQ (k + 1)))) (X := (T3.mk (0 : Rat) (0 : Rat) (0 : Rat))) yC rfl rfl (zr_t (zr_q (by omega)))) rfl rfl rfl ?_
 intro v7 q7 hq7
 obtain ⟨b7, cs7, rfl, rfl, rb7⟩ := hq7
 refine wE (A := []) (F := fun c_ => (rpT (rpQ (k + 1))).R h1 c_ (flatZ s (ps.getD 0 (T3.mk (0 : Rat) (0 : Rat) (0 : Rat))))) (yJ Tryz.sizeOf32 (Pc.here _) rfl rfl rfl rb7 r25 rfl) ?_
 intro cs_20 rb_21
 refine zD (zB (zC (zC (zA (asg (v := vI (0)) rfl rfl (zD (zB (zR ?_))))))))
 refine wH (ι := Nat × List Value × List Value × Mem) (fun (i, cs_22, cs_24, ma) => MLe h1 ma ∧ ((rpT (rpQ (k + 1))).R ma cs_22 (loT2 s ps i) ∧ (rpT (rpQ (k + 1))).R ma cs_24 (hiT2 s ps i) ∧ i ≤ ps.length)) (fun (i, cs_22, cs_24, ma) => [(1, vps), (2, vP b2 0), (6, vP b6 0), (7, vP b7 0), (8, vI ↑i)]) (fun (i, cs_22, cs_24, ma) => [.var b7 32 cs_24, .var b6 32 cs_22, .var b2 34 cs2]) (fun (i, cs_22, cs_24, ma) => ma) (fun (i, cs_22, cs_24, ma) => ps.length - i) (0, cs_18, cs_20, h1) ?_ ⟨rfl, rfl, rfl, rfl, rfl, trivial⟩ rfl rfl ?_
 ·
  refine ⟨MLe.refl _, ?_⟩
  refine ⟨rb_19, rb_21, ?_⟩
  exact (by omega)
 intro x hx
 obtain ⟨i, cs_22, cs_24, ma⟩ := x
 obtain ⟨hmma, hinv⟩ := hx
 show GC _ _ _ _ _ _ [(1, vps), (2, vP b2 0), (6, vP b6 0), (7, vP b7 0), (8, vI ↑i)] [.var b7 32 cs_24, .var b6 32 cs_22, .var b2 34 cs2] ma
 obtain ⟨rb_23, rb_25, hinv⟩ := hinv
 have hi1 := hinv
 refine zC (zC (zA (mv rfl rfl (mv rfl rfl ?_))))
 replace rps := rps.mono (hh1.trans hmma)
 refine gv (wJ Tryz.underlying27 rfl rps) rfl (gv (zW rfl rfl) rfl (zD (zB ?_)))
 refine zN rfl (fun hc29 => ?_) (fun hc29 => ?_)
 ·
  refine zK (zB (zC (zR (zC ?_))))
  refine yK 7 _ [(6, (9, 32, [.bool false, .slice none 0 0, .slice none 0 0, .bool false, .slice none 0 0, .slice none 0 0, .bool false, .slice none 0 0, .slice none 0 0]))] [(0, .q), (1, .q), (2, .q), (3, .q), (4, .q), (5, .c), (6, .a), (7, .t)] xN (AlOk.cons rfl (zero_run yC rfl rfl) AlOk.nil) (by kernel_rfl) (hae_cons rfl rfl hae_nil) (fun r hr => hr) ?_
  replace rb2 := rb2.mono (hh1.trans hmma)
  refine w_qx (F := fun v_ => (rpP (rpT (rpQ m)) (rpQ l)).Is ma v_ s) rfl (zE ty34 (Pc.here _) rfl rfl rb2 rfl) (mem1 (.tail _ (.tail _ (.head _)))) rfl ?_
  intro v32 r32
  refine w_q rfl (fun h' L' hh hR => zG rfl) rfl (w_q rfl (fun h' L' hh hR => zG rfl) rfl (w_qx (F := fun v_ => AtP (rpT (rpQ k)) ma v_ (ps.getD i (T3.mk (0 : Rat) (0 : Rat) (0 : Rat)))) rfl (ox_idx_s (T3.mk (0 : Rat) (0 : Rat) (0 : Rat)) i Tryz.underlying27 ty32 rfl rfl rps rfl (by omega) (show 0 < 9 from by decide)) mem0 rfl ?_))
  intro v35 r35
  refine w_qx (F := fun v_ => (rpT (rpQ k)).Is ma v_ (ps.getD i (T3.mk (0 : Rat) (0 : Rat) (0 : Rat)))) rfl (wY ty32 rfl r35) mem0 rfl ?_
  intro v36 r36
  refine w_c rfl ?_
  refine yI (vs := [_, _]) Tryz.call73 ⟨rfl, rfl, trivial⟩ (fun w hs => o_r5_flatten hs r32 r36 (by omega) (by omega)) rfl ?_
  intro v37 h2 hh2 r37
  change (rpT (rpQ (k + 1))).Is h2 v37 (flatZ s (ps.getD i (T3.mk (0 : Rat) (0 : Rat) (0 : Rat)))) at r37
  refine w_a rfl (fun b9 => ?_)
  have rb9 : (rpT (rpQ (k + 1))).R h2 [.bool false, .slice none 0 0, .slice none 0 0, .bool false, .slice none 0 0, .slice none 0 0, .bool false, .slice none 0 0, .slice none 0 0] (T3.mk (0 : Rat) (0 : Rat) (0 : Rat)) := (zr_t (zr_q (by omega)))
  refine wB (A := []) (F := fun c_ => (rpT (rpQ (k + 1))).R h2 c_ (flatZ s (ps.getD i (T3.mk (0 : Rat) (0 : Rat) (0 : Rat))))) rfl (yJ Tryz.sizeOf32 (Pc.here _) rfl rfl rfl rb9 r37 rfl) ?_
  intro cs_26 rb_27
  refine yZ (zJ (e' := [(1, _), (2, _), (6, _), (7, _), (8, _), (9, _)]) ⟨rfl, rfl, rfl, rfl, rfl, rfl, trivial⟩ (zB (zC (zA (asg (v := vI (0)) rfl rfl (zD (zB (zR (gc_loop1 (zC (zC (zA (mv rfl rfl ?_)))))))))))))
  refine gv (OpV.tr (by decide) (zW (q := 2) rfl rfl)) rfl (zD (zB (xX rfl (zK (zB (zC (zR ?_)))))))
  refine yK 17 _ [] [(0, .q), (1, .p), (2, .q), (3, .q), (4, .q), (5, .q), (6, .q), (7, .q), (9, .q), (10, .q), (11, .q), (12, .q), (13, .q), (14, .q), (8, .c), (16, .q), (15, .c), (17, .t), (18, .t), (19, .t)] xN (fun x hx => by cases hx) (chk_of [0, 0, 0, 4, 8, 0, 32, 64, 144, 0, 512, 1024, 0, 4096, 8192, 18688, 509, 98813, 262143, 524287] [1048575, 1048575, 1048575, 1048571, 1048567, 1048575, 1048543, 1048511, 1048431, 1048575, 1048063, 1047551, 1048575, 1044479, 1040383, 1030143, 1048574, 982783, 1048573, 753663] (by kernel_rfl)) (fun x hx => by cases hx) (fun r hr => hr) (w_q rfl (fun h' L' hh hR => zG rfl) rfl (w_p (⟨.inl rfl,  rfl⟩) rfl rfl (w_q rfl (fun h' L' hh hR => zG rfl) rfl (w_q rfl (fun h' L' hh hR => (zI (sz := 3) 0 Tryz.underlying32 Tryz.sizeOf30 rfl rfl rfl (by decide)).cv (show _ = vP b6 0 from congrArg (vP b6) (by rfl))) rfl ?_))))
  replace rb_23 := rb_23.mono hh2
  refine w_qx (F := fun v_ => (rpQ (k + 1)).Is h2 v_ ((loT2 s ps i).x)) rfl (zE ty30 (Pc.tx (Pc.here _)) rfl rfl rb_23 rfl) (mem1 (.tail _ (.tail _ (.head _)))) rfl ?_
  intro v46u6 r46u6
  refine w_q rfl (fun h' L' hh hR => zG rfl) rfl (w_q rfl (fun h' L' hh hR => (zI (sz := 3) 0 Tryz.underlying32 Tryz.sizeOf30 rfl rfl rfl (by decide)).cv (show _ = vP b9 0 from congrArg (vP b9) (by rfl))) rfl (w_qx (F := fun v_ => (rpQ (k + 1)).Is h2 v_ ((flatZ s (ps.getD i (T3.mk (0 : Rat) (0 : Rat) (0 : Rat)))).x)) rfl (zE ty30 (Pc.tx (Pc.here _)) rfl rfl rb_27 rfl) (mem1 (.head _)) rfl ?_))
  intro v49u6 r49u6
  refine w_q rfl (fun h' L' hh hR => zG rfl) rfl (w_q rfl (fun h' L' hh hR => (zI (sz := 3) 0 Tryz.underlying32 Tryz.sizeOf30 rfl rfl rfl (by decide)).cv (show _ = vP b7 0 from congrArg (vP b7) (by rfl))) rfl ?_)
  replace rb_25 := rb_25.mono hh2
  refine w_qx (F := fun v_ => (rpQ (k + 1)).Is h2 v_ ((hiT2 s ps i).x)) rfl (zE ty30 (Pc.tx (Pc.here _)) rfl rfl rb_25 rfl) (mem1 (.tail _ (.head _))) rfl ?_
  intro v53u6 r53u6
  refine w_q rfl (fun h' L' hh hR => zG rfl) rfl (w_q rfl (fun h' L' hh hR => (zI (sz := 3) 0 Tryz.underlying32 Tryz.sizeOf30 rfl rfl rfl (by decide)).cv (show _ = vP b9 0 from congrArg (vP b9) (by rfl))) rfl (w_qx (F := fun v_ => (rpQ (k + 1)).Is h2 v_ ((flatZ s (ps.getD i (T3.mk (0 : Rat) (0 : Rat) (0 : Rat)))).x)) rfl (zE ty30 (Pc.tx (Pc.here _)) rfl rfl rb_27 rfl) (mem1 (.head _)) rfl ?_))
  intro v56u6 r56u6
  refine w_c rfl ?_
  refine yI (vs := [_, _]) Tryz.call74 ⟨rfl, rfl, trivial⟩ (fun w hs => o_rref_min hs r46u6 r49u6 (by omega)) rfl ?_
  intro v50u6 h3 hh3 r50u6
  change (rpQ (k + 1)).Is h3 v50u6 (minQ ((loT2 s ps i).x) ((flatZ s (ps.getD i (T3.mk (0 : Rat) (0 : Rat) (0 : Rat)))).x)) at r50u6
  refine w_q rfl (fun h' L' hh hR => (zI (sz := 3) 0 Tryz.underlying32 Tryz.sizeOf30 rfl rfl rfl (by decide)).cv (show _ = vP b6 0 from congrArg (vP b6) (by rfl))) rfl ?_
  refine w_c rfl ?_
  replace r53u6 := r53u6.mono hh3
  replace r56u6 := r56u6.mono hh3
  refine yI (vs := [_, _]) Tryz.call75 ⟨rfl, rfl, trivial⟩ (fun w hs => o_rref_max hs r53u6 r56u6 (by omega)) rfl ?_
  intro v57u6 h4 hh4 r57u6
  change (rpQ (k + 1)).Is h4 v57u6 (maxQ ((hiT2 s ps i).x) ((flatZ s (ps.getD i (T3.mk (0 : Rat) (0 : Rat) (0 : Rat)))).x)) at r57u6
  replace rb_23 := rb_23.mono (hh3.trans hh4)
  replace r50u6 := r50u6.mono hh4
  refine wB (A := [_, _]) (F := fun c_ => (rpT (rpQ (k + 1))).R h4 c_ (T3.mk (minQ ((loT2 s ps i).x) ((flatZ s (ps.getD i (T3.mk (0 : Rat) (0 : Rat) (0 : Rat)))).x)) ((loT2 s ps i).y) ((loT2 s ps i).z))) rfl (yJ Tryz.sizeOf30 (Pc.tx (Pc.here _)) rfl rfl rfl rb_23 r50u6 rfl) ?_
  intro cs_28 rb_29
  refine w_t_val rfl ((zI (sz := 3) 0 Tryz.underlying32 Tryz.sizeOf30 rfl rfl rfl (by decide)).cv (show _ = vP b7 0 from congrArg (vP b7) (by rfl))) rfl ?_
  replace rb_25 := rb_25.mono (hh3.trans hh4)
  refine wB (A := [_]) (F := fun c_ => (rpT (rpQ (k + 1))).R h4 c_ (T3.mk (maxQ ((hiT2 s ps i).x) ((flatZ s (ps.getD i (T3.mk (0 : Rat) (0 : Rat) (0 : Rat)))).x)) ((hiT2 s ps i).y) ((hiT2 s ps i).z))) rfl (yJ Tryz.sizeOf30 (Pc.tx (Pc.here _)) rfl rfl rfl rb_25 r57u6 rfl) ?_
  intro cs_30 rb_31
  refine yZ (yV (zJ (e' := [(1, _), (2, _), (6, _), (7, _), (8, _), (9, _), (10, _)]) ⟨rfl, rfl, rfl, rfl, rfl, rfl, rfl, trivial⟩ (zB (zA (mv rfl rfl (gv ((zS (q := 1) rfl rfl (by omega) (by omega)).cv (show _ = vI (1) from rfl)) rfl (asg rfl rfl (zD (xY (zC (zC (zA (mv rfl rfl ?_)))))))))))))
  refine gv (OpV.tr (by decide) (zW (q := 2) rfl rfl)) rfl (zD (zB (xX rfl (zK (zB (zC (zR ?_)))))))
  refine yK 17 _ [] [(0, .q), (1, .p), (2, .q), (3, .q), (4, .q), (5, .q), (6, .q), (7, .q), (9, .q), (10, .q), (11, .q), (12, .q), (13, .q), (14, .q), (8, .c), (16, .q), (15, .c), (17, .t), (18, .t), (19, .t)] xN (fun x hx => by cases hx) (chk_of [0, 0, 0, 4, 8, 0, 32, 64, 144, 0, 512, 1024, 0, 4096, 8192, 18688, 509, 98813, 262143, 524287] [1048575, 1048575, 1048575, 1048571, 1048567, 1048575, 1048543, 1048511, 1048431, 1048575, 1048063, 1047551, 1048575, 1044479, 1040383, 1030143, 1048574, 982783, 1048573, 753663] (by kernel_rfl)) (fun x hx => by cases hx) (fun r hr => hr) (w_q rfl (fun h' L' hh hR => zG rfl) rfl (w_p (⟨.inl rfl,  rfl⟩) rfl rfl (w_q rfl (fun h' L' hh hR => zG rfl) rfl (w_q rfl (fun h' L' hh hR => (zI (sz := 3) 1 Tryz.underlying32 Tryz.sizeOf30 rfl rfl rfl (by decide)).cv (show _ = vP b6 3 from congrArg (vP b6) (by rfl))) rfl (w_qx (F := fun v_ => (rpQ (k + 1)).Is h4 v_ ((loT2 s ps i).y)) rfl (zE ty30 (Pc.ty (Pc.here _)) rfl rfl rb_29 rfl) (mem1 (.tail _ (.tail _ (.head _)))) rfl ?_)))))
  intro v46u7 r46u7
  refine w_q rfl (fun h' L' hh hR => zG rfl) rfl (w_q rfl (fun h' L' hh hR => (zI (sz := 3) 1 Tryz.underlying32 Tryz.sizeOf30 rfl rfl rfl (by decide)).cv (show _ = vP b9 3 from congrArg (vP b9) (by rfl))) rfl ?_)
  replace rb_27 := rb_27.mono (hh3.trans hh4)
  refine w_qx (F := fun v_ => (rpQ (k + 1)).Is h4 v_ ((flatZ s (ps.getD i (T3.mk (0 : Rat) (0 : Rat) (0 : Rat)))).y)) rfl (zE ty30 (Pc.ty (Pc.here _)) rfl rfl rb_27 rfl) (mem1 (.head _)) rfl ?_
  intro v49u7 r49u7
  refine w_q rfl (fun h' L' hh hR => zG rfl) rfl (w_q rfl (fun h' L' hh hR => (zI (sz := 3) 1 Tryz.underlying32 Tryz.sizeOf30 rfl rfl rfl (by decide)).cv (show _ = vP b7 3 from congrArg (vP b7) (by rfl))) rfl (w_qx (F := fun v_ => (rpQ (k + 1)).Is h4 v_ ((hiT2 s ps i).y)) rfl (zE ty30 (Pc.ty (Pc.here _)) rfl rfl rb_31 rfl) (mem1 (.tail _ (.head _))) rfl ?_))
  intro v53u7 r53u7
  refine w_q rfl (fun h' L' hh hR => zG rfl) rfl (w_q rfl (fun h' L' hh hR => (zI (sz := 3) 1 Tryz.underlying32 Tryz.sizeOf30 rfl rfl rfl (by decide)).cv (show _ = vP b9 3 from congrArg (vP b9) (by rfl))) rfl (w_qx (F := fun v_ => (rpQ (k + 1)).Is h4 v_ ((flatZ s (ps.getD i (T3.mk (0 : Rat) (0 : Rat) (0 : Rat)))).y)) rfl (zE ty30 (Pc.ty (Pc.here _)) rfl rfl rb_27 rfl) (mem1 (.head _)) rfl ?_))
  intro v56u7 r56u7
  refine w_c rfl ?_
  refine yI (vs := [_, _]) Tryz.call74 ⟨rfl, rfl, trivial⟩ (fun w hs => o_rref_min hs r46u7 r49u7 (by omega)) rfl ?_
  intro v50u7 h5 hh5 r50u7
  change (rpQ (k + 1)).Is h5 v50u7 (minQ ((loT2 s ps i).y) ((flatZ s (ps.getD i (T3.mk (0 : Rat) (0 : Rat) (0 : Rat)))).y)) at r50u7
  refine w_q rfl (fun h' L' hh hR => (zI (sz := 3) 1 Tryz.underlying32 Tryz.sizeOf30 rfl rfl rfl (by decide)).cv (show _ = vP b6 3 from congrArg (vP b6) (by rfl))) rfl ?_
  refine w_c rfl ?_
  replace r53u7 := r53u7.mono hh5
  replace r56u7 := r56u7.mono hh5
  refine yI (vs := [_, _]) Tryz.call75 ⟨rfl, rfl, trivial⟩ (fun w hs => o_rref_max hs r53u7 r56u7 (by omega)) rfl ?_
  intro v57u7 h6 hh6 r57u7
  change (rpQ (k + 1)).Is h6 v57u7 (maxQ ((hiT2 s ps i).y) ((flatZ s (ps.getD i (T3.mk (0 : Rat) (0 : Rat) (0 : Rat)))).y)) at r57u7
  replace rb_29 := rb_29.mono (hh5.trans hh6)
  replace r50u7 := r50u7.mono hh6
  refine wB (A := [_, _]) (F := fun c_ => (rpT (rpQ (k + 1))).R h6 c_ (T3.mk (minQ ((loT2 s ps i).x) ((flatZ s (ps.getD i (T3.mk (0 : Rat) (0 : Rat) (0 : Rat)))).x)) (minQ ((loT2 s ps i).y) ((flatZ s (ps.getD i (T3.mk (0 : Rat) (0 : Rat) (0 : Rat)))).y)) ((loT2 s ps i).z))) rfl (yJ Tryz.sizeOf30 (Pc.ty (Pc.here _)) rfl rfl rfl rb_29 r50u7 rfl) ?_
  intro cs_32 rb_33
  refine w_t_val rfl ((zI (sz := 3) 1 Tryz.underlying32 Tryz.sizeOf30 rfl rfl rfl (by decide)).cv (show _ = vP b7 3 from congrArg (vP b7) (by rfl))) rfl ?_
  replace rb_31 := rb_31.mono (hh5.trans hh6)
  refine wB (A := [_]) (F := fun c_ => (rpT (rpQ (k + 1))).R h6 c_ (T3.mk (maxQ ((hiT2 s ps i).x) ((flatZ s (ps.getD i (T3.mk (0 : Rat) (0 : Rat) (0 : Rat)))).x)) (maxQ ((hiT2 s ps i).y) ((flatZ s (ps.getD i (T3.mk (0 : Rat) (0 : Rat) (0 : Rat)))).y)) ((hiT2 s ps i).z))) rfl (yJ Tryz.sizeOf30 (Pc.ty (Pc.here _)) rfl rfl rfl rb_31 r57u7 rfl) ?_
  intro cs_34 rb_35
  refine yZ (yV (zJ (e' := [(1, _), (2, _), (6, _), (7, _), (8, _), (9, _), (10, _)]) ⟨rfl, rfl, rfl, rfl, rfl, rfl, rfl, trivial⟩ (zB (zA (mv rfl rfl (gv ((zS (q := 1) rfl rfl (by omega) (by omega)).cv (show _ = vI (2) from rfl)) rfl (asg rfl rfl (zD (xY (zC (zC (zA (mv rfl rfl ?_)))))))))))))
  refine gv (OpV.fa (by decide) (zW (q := 2) rfl rfl)) rfl (zD (zB (vW rfl (xG (yB (yB (xF (yV (zB (zA (mv rfl rfl (gv (zS (q := 1) rfl rfl (by omega) (by omega)) rfl (asg rfl rfl ?_)))))))))))))
  refine zD (yX (A := []) ?_)
  refine yL ((i + 1), cs_32, cs_34, h6) ?_ ?_ ⟨rfl, rfl, rfl, rfl, rfl, trivial⟩ rfl rfl
  ·
   refine ⟨(((((hmma.trans hh2).trans hh3).trans hh4).trans hh5).trans hh6), ?_⟩
   refine ⟨(Rp.castR rb_33 rfl), (Rp.castR rb_35 rfl), ?_⟩
   exact (by omega)
  dsimp only
  omega
 have ei : i = ps.length := by omega
 refine xG (yB (yB (xF (zB (zC (zA ?_))))))
 refine zM (vs := [vI (1)]) rfl rfl rfl rfl Tryz.call45 ⟨rfl, trivial⟩ (fun w hs => o_rref_int hs (by decide) (by decide)) ?_
 intro v60 h2 hh2 r60
 change (rpQ 2).Is h2 v60 (((1 : Int) : Int) : Rat) at r60
 refine zL (xE (ρ := (rpQ 1)) (X := (0 : Rat)) wN rfl rfl (zr_q (by decide))) rfl rfl rfl ?_
 intro v11 q11 hq11
 obtain ⟨b11, cs11, rfl, rfl, rb11⟩ := hq11
 have rw_36 := (Le.q (l := 2) (by decide)).R rb11
 refine wE (A := []) (F := fun c_ => (rpQ 2).R h2 c_ (((1 : Int) : Int) : Rat)) (yJ Tryz.sizeOf30 (Pc.here _) rfl rfl rfl rw_36 r60 rfl) ?_
 intro cs_37 rb_38
 refine zD (zB (zC ?_))
 refine yK 20 _ [] [(0, .q), (1, .q), (2, .q), (3, .q), (5, .q), (6, .q), (7, .q), (9, .q), (10, .q), (11, .q), (13, .q), (14, .q), (15, .q), (4, .c), (8, .c), (12, .c), (16, .c), (17, .c), (18, .q), (19, .q)] xN (fun x hx => by cases hx) (chk_of [0, 0, 2, 0, 12, 0, 32, 0, 208, 0, 512, 0, 3328, 0, 8192, 0, 53248, 69905, 262143, 524287] [1048575, 1048575, 1048573, 1048575, 1048563, 1048575, 1048543, 1048575, 1048383, 1048575, 1048063, 1048575, 1045503, 1048575, 1040383, 1048575, 999423, 978670, 917503, 1048575] (by kernel_rfl)) (fun x hx => by cases hx) (fun r hr => hr) ?_
 replace rb2 := rb2.mono ((hh1.trans hmma).trans hh2)
 refine w_qx (F := fun v_ => (rpP (rpT (rpQ m)) (rpQ l)).Is h2 v_ s) rfl (zE ty34 (Pc.here _) rfl rfl rb2 rfl) (mem1 (.tail _ (.tail _ (.tail _ (.head _))))) rfl ?_
 intro v61 r61
 refine w_q rfl (fun h' L' hh hR => (zI (sz := 3) (q := 0) 0 Tryz.underlying32 Tryz.sizeOf30 rfl rfl rfl (by decide)).cv (show _ = vP b6 0 from congrArg (vP b6) (by rfl))) rfl ?_
 replace rb_23 := rb_23.mono hh2
 refine w_qx (F := fun v_ => (rpQ (k + 1)).Is h2 v_ ((loT2 s ps i).x)) rfl (zE ty30 (Pc.tx (Pc.here _)) rfl rfl rb_23 rfl) (mem1 (.tail _ (.tail _ (.head _)))) rfl ?_
 intro v63 r63
 refine w_qx (F := fun v_ => (rpQ 2).Is h2 v_ (((1 : Int) : Int) : Rat)) rfl (zE ty30 (Pc.here _) rfl rfl rb_38 rfl) (mem1 (.head _)) rfl ?_
 intro v64 r64
 refine w_q rfl (fun h' L' hh hR => (zI (sz := 3) (q := 1) 1 Tryz.underlying32 Tryz.sizeOf30 rfl rfl rfl (by decide)).cv (show _ = vP b6 3 from congrArg (vP b6) (by rfl))) rfl (w_qx (F := fun v_ => (rpQ (k + 1)).Is h2 v_ ((loT2 s ps i).y)) rfl (zE ty30 (Pc.ty (Pc.here _)) rfl rfl rb_23 rfl) (mem1 (.tail _ (.tail _ (.head _)))) rfl ?_)
 intro v67 r67
 refine w_qx (F := fun v_ => (rpQ 2).Is h2 v_ (((1 : Int) : Int) : Rat)) rfl (zE ty30 (Pc.here _) rfl rfl rb_38 rfl) (mem1 (.head _)) rfl ?_
 intro v68 r68
 refine w_q rfl (fun h' L' hh hR => (zI (sz := 3) (q := 0) 0 Tryz.underlying32 Tryz.sizeOf30 rfl rfl rfl (by decide)).cv (show _ = vP b7 0 from congrArg (vP b7) (by rfl))) rfl ?_
 replace rb_25 := rb_25.mono hh2
 refine w_qx (F := fun v_ => (rpQ (k + 1)).Is h2 v_ ((hiT2 s ps i).x)) rfl (zE ty30 (Pc.tx (Pc.here _)) rfl rfl rb_25 rfl) (mem1 (.tail _ (.head _))) rfl ?_
 intro v71 r71
 refine w_qx (F := fun v_ => (rpQ 2).Is h2 v_ (((1 : Int) : Int) : Rat)) rfl (zE ty30 (Pc.here _) rfl rfl rb_38 rfl) (mem1 (.head _)) rfl ?_
 intro v72 r72
 refine w_q rfl (fun h' L' hh hR => (zI (sz := 3) (q := 1) 1 Tryz.underlying32 Tryz.sizeOf30 rfl rfl rfl (by decide)).cv (show _ = vP b7 3 from congrArg (vP b7) (by rfl))) rfl (w_qx (F := fun v_ => (rpQ (k + 1)).Is h2 v_ ((hiT2 s ps i).y)) rfl (zE ty30 (Pc.ty (Pc.here _)) rfl rfl rb_25 rfl) (mem1 (.tail _ (.head _))) rfl ?_)
 intro v75 r75
 refine w_qx (F := fun v_ => (rpQ 2).Is h2 v_ (((1 : Int) : Int) : Rat)) rfl (zE ty30 (Pc.here _) rfl rfl rb_38 rfl) (mem1 (.head _)) rfl ?_
 intro v76 r76
 refine w_c rfl ?_
 refine yI (vs := [_, _]) Tryz.call56 ⟨rfl, rfl, trivial⟩ (fun w hs => o_rref_sub hs r63 r64 (by omega)) rfl ?_
 intro v65 h3 hh3 r65
 change (rpQ ((k + 1) + 2 + 1)).Is h3 v65 (((loT2 s ps i).x) - (((1 : Int) : Int) : Rat)) at r65
 replace r65 := Rp.Is.le r65 (Le.q (l := k + 4) (by omega))
 refine w_c rfl ?_
 replace r67 := r67.mono hh3
 replace r68 := r68.mono hh3
 refine yI (vs := [_, _]) Tryz.call56 ⟨rfl, rfl, trivial⟩ (fun w hs => o_rref_sub hs r67 r68 (by omega)) rfl ?_
 intro v69 h4 hh4 r69
 change (rpQ ((k + 1) + 2 + 1)).Is h4 v69 (((loT2 s ps i).y) - (((1 : Int) : Int) : Rat)) at r69
 replace r69 := Rp.Is.le r69 (Le.q (l := k + 4) (by omega))
 refine w_c rfl ?_
 replace r71 := r71.mono (hh3.trans hh4)
 replace r72 := r72.mono (hh3.trans hh4)
 refine yI (vs := [_, _]) Tryz.call53 ⟨rfl, rfl, trivial⟩ (fun w hs => o_rref_add hs r71 r72 (by omega)) rfl ?_
 intro v73 h5 hh5 r73
 change (rpQ ((k + 1) + 2 + 1)).Is h5 v73 (((hiT2 s ps i).x) + (((1 : Int) : Int) : Rat)) at r73
 replace r73 := Rp.Is.le r73 (Le.q (l := k + 4) (by omega))
 refine w_c rfl ?_
 replace r75 := r75.mono ((hh3.trans hh4).trans hh5)
 replace r76 := r76.mono ((hh3.trans hh4).trans hh5)
 refine yI (vs := [_, _]) Tryz.call53 ⟨rfl, rfl, trivial⟩ (fun w hs => o_rref_add hs r75 r76 (by omega)) rfl ?_
 intro v77 h6 hh6 r77
 change (rpQ ((k + 1) + 2 + 1)).Is h6 v77 (((hiT2 s ps i).y) + (((1 : Int) : Int) : Rat)) at r77
 replace r77 := Rp.Is.le r77 (Le.q (l := k + 4) (by omega))
 refine w_c rfl ?_
 replace r61 := r61.mono (((hh3.trans hh4).trans hh5).trans hh6)
 replace r65 := r65.mono ((hh4.trans hh5).trans hh6)
 replace r69 := r69.mono (hh5.trans hh6)
 replace r73 := r73.mono hh6
 refine yI (vs := [_, _, _, _, _]) Tryz.call76 ⟨rfl, rfl, rfl, rfl, rfl, trivial⟩ (fun w hs => o_r6_square hs r61 r65 r69 r73 r77 (by omega) (by omega) (by omega)) rfl ?_
 intro v78 h7 hh7 r78
 change (rpS (rpT (rpQ (3 * (k + 4) + l + 4 * m + 33)))).Is h7 v78 (sqrL s (((loT2 s ps i).x) - (((1 : Int) : Int) : Rat)) (((loT2 s ps i).y) - (((1 : Int) : Int) : Rat)) (((hiT2 s ps i).x) + (((1 : Int) : Int) : Rat)) (((hiT2 s ps i).y) + (((1 : Int) : Int) : Rat))) at r78
 replace r78 := Rp.Is.le r78 (Le.s (Le.t (Le.q (l := 3 * k + l + 4 * m + 45) (by omega))))
 refine w_q rfl (fun h' L' hh hR => zX rfl) rfl (w_q rfl (fun h' L' hh hR => zX rfl) rfl (yZ (zJ (e' := [(4, _), (5, _)]) ⟨rfl, rfl, trivial⟩ (zB (zQ (vN rfl rfl rfl ?_))))))
 refine ⟨_, ?_, (Rp.Is.cast r78 (by rw [ei]; exact (if_neg hz).symm))⟩
 rw [xT hz]

end Go.Proofs.YtghhjjmjpeehdaaGreat


namespace Go.Proofs.YtghhjjmjpeehdaaGreat
open Bk Go
set_option linter.unusedVariables false
set_option linter.unusedSimpArgs false
set_option maxRecDepth 10000

theorem o_law_square {w0 : World} {h0 : Mem}  (hs : MLe h0 (mem w0))  :
    Calls Tryz.prog 43 #[] w0 (Ret w0 h0 (fun h r => (rpS (rpT (rpQ 2))).Is h r sq0)) := by
 refine zP (n := 6) (e := []) (vs := []) Tryz.func43 rfl rfl (Nat.le_of_ble_eq_true rfl) hs trivial ?_
 refine zC ?_
 refine zA ?_  -- region 0 (line 14)
 refine asg rfl rfl ?_
 refine zD ?_
 refine zB ?_
 refine zC ?_
 refine zA ?_  -- region 1 (line 15)
 refine zM (vs := [vI (0), vI (0), vI (0)]) rfl rfl rfl rfl Tryz.call44 ⟨rfl, rfl, rfl, trivial⟩ (fun w hs => o_made_at3 hs (by decide) (by decide) (by decide) (by decide) (by decide) (by decide)) ?_
 intro v1 h1 hh1 r1
 change (rpT (rpQ 2)).Is h1 v1 (T3.mk (((0 : Int) : Int) : Rat) (((0 : Int) : Int) : Rat) (((0 : Int) : Int) : Rat)) at r1
 refine zM (vs := [vI (2), vI (0), vI (0)]) rfl rfl rfl rfl Tryz.call44 ⟨rfl, rfl, rfl, trivial⟩ (fun w hs => o_made_at3 hs (by decide) (by decide) (by decide) (by decide) (by decide) (by decide)) ?_
 intro v2 h2 hh2 r2
 change (rpT (rpQ 2)).Is h2 v2 (T3.mk (((2 : Int) : Int) : Rat) (((0 : Int) : Int) : Rat) (((0 : Int) : Int) : Rat)) at r2
 refine zM (vs := [vI (2), vI (2), vI (0)]) rfl rfl rfl rfl Tryz.call44 ⟨rfl, rfl, rfl, trivial⟩ (fun w hs => o_made_at3 hs (by decide) (by decide) (by decide) (by decide) (by decide) (by decide)) ?_
 intro v3 h3 hh3 r3
 change (rpT (rpQ 2)).Is h3 v3 (T3.mk (((2 : Int) : Int) : Rat) (((2 : Int) : Int) : Rat) (((0 : Int) : Int) : Rat)) at r3
 refine zM (vs := [vI (0), vI (2), vI (0)]) rfl rfl rfl rfl Tryz.call44 ⟨rfl, rfl, rfl, trivial⟩ (fun w hs => o_made_at3 hs (by decide) (by decide) (by decide) (by decide) (by decide) (by decide)) ?_
 intro v4 h4 hh4 r4
 change (rpT (rpQ 2)).Is h4 v4 (T3.mk (((0 : Int) : Int) : Rat) (((2 : Int) : Int) : Rat) (((0 : Int) : Int) : Rat)) at r4
 replace r1 := r1.mono ((hh2.trans hh3).trans hh4)
 replace r2 := r2.mono (hh3.trans hh4)
 replace r3 := r3.mono hh4
 refine zL (yO (ρ := (rpT (rpQ 2))) (m := 4) (xs := [(T3.mk (((0 : Int) : Int) : Rat) (((0 : Int) : Int) : Rat) (((0 : Int) : Int) : Rat)), (T3.mk (((2 : Int) : Int) : Rat) (((0 : Int) : Int) : Rat) (((0 : Int) : Int) : Rat)), (T3.mk (((2 : Int) : Int) : Rat) (((2 : Int) : Int) : Rat) (((0 : Int) : Int) : Rat)), (T3.mk (((0 : Int) : Int) : Rat) (((2 : Int) : Int) : Rat) (((0 : Int) : Int) : Rat))]) (ps' := [(0, _), (1, _), (2, _), (3, _)]) Tryz.underlying27 yC rfl rfl rfl (zr_t (zr_q (by decide))) ⟨rfl, rfl, rfl, rfl, rfl, rfl, rfl, rfl, trivial⟩ (yQ rfl (Pc.arr (Pc.here _) (T3.mk (0 : Rat) (0 : Rat) (0 : Rat)) 0 (by decide)) r1 (yQ rfl (Pc.arr (Pc.here _) (T3.mk (0 : Rat) (0 : Rat) (0 : Rat)) 1 (by decide)) r2 (yQ rfl (Pc.arr (Pc.here _) (T3.mk (0 : Rat) (0 : Rat) (0 : Rat)) 2 (by decide)) r3 (yQ rfl (Pc.arr (Pc.here _) (T3.mk (0 : Rat) (0 : Rat) (0 : Rat)) 3 (by decide)) r4 xM)))) (show 4 * 9 ≤ 16777216 from by decide) (show 0 < 9 from by decide)) rfl rfl rfl ?_
 intro v5 q5 hq5
 obtain ⟨cs5, rfl, rl5⟩ := hq5
 refine asg rfl rfl ?_
 refine zD ?_
 refine zB ?_
 refine zQ ?_
 refine gq_freezex (A := []) (ρ := (rpT (rpQ 2))) rl5 ?_
 intro h5 hh5 rs_1
 refine yG rfl rfl ?_
 exact rs_1

theorem law26_sane {w0 : World} {h0 : Mem}  (hs : MLe h0 (mem w0))  :
    Calls Tryz.prog 10 #[] w0 (Ret w0 h0 (fun _ r => r = .bool true)) := by
 refine zP (n := 33) (e := []) (vs := []) Tryz.func10 rfl rfl (Nat.le_of_ble_eq_true rfl) hs trivial ?_
 refine zC ?_
 refine zA ?_  -- region 0 (line 19)
 refine asg rfl rfl ?_
 refine zD ?_
 refine zB ?_
 refine zC ?_
 refine zA ?_  -- region 1 (line 20)
 refine zM (vs := []) rfl rfl rfl rfl Tryz.call43 trivial (fun w hs => o_law_square hs ) ?_
 intro v4 h1 hh1 r4
 change (rpS (rpT (rpQ 2))).Is h1 v4 sq0 at r4
 refine zM (vs := [vI (1), vI (0), vI (0)]) rfl rfl rfl rfl Tryz.call44 ⟨rfl, rfl, rfl, trivial⟩ (fun w hs => o_made_at3 hs (by decide) (by decide) (by decide) (by decide) (by decide) (by decide)) ?_
 intro v5 h2 hh2 r5
 change (rpT (rpQ 2)).Is h2 v5 (T3.mk (((1 : Int) : Int) : Rat) (((0 : Int) : Int) : Rat) (((0 : Int) : Int) : Rat)) at r5
 refine zM (vs := [vI (1)]) rfl rfl rfl rfl Tryz.call45 ⟨rfl, trivial⟩ (fun w hs => o_rref_int hs (by decide) (by decide)) ?_
 intro v6 h3 hh3 r6
 change (rpQ 2).Is h3 v6 (((1 : Int) : Int) : Rat) at r6
 replace r5 := r5.mono hh3
 refine gl_x (F := fun v_ => (rpP (rpT (rpQ 2)) (rpQ 2)).Is h3 v_ ((T3.mk (((1 : Int) : Int) : Rat) (((0 : Int) : Int) : Rat) (((0 : Int) : Int) : Rat)), (((1 : Int) : Int) : Rat))) (ox_build (ps' := [(0, _), (1, _)]) Tryz.underlying34 info34 rfl rfl (places34 Tryz.underlying34) ⟨rfl, rfl, rfl, rfl, trivial⟩ rfl (zr_p (zr_t (zr_q (by decide))) (zr_q (by decide))) (yQ rfl (Pc.fst (Pc.here _)) r5 (yQ rfl (Pc.snd (Pc.here _)) r6 xM))) mem0 rfl ?_
 intro v7 r7
 replace r4 := r4.mono (hh2.trans hh3)
 refine zM (vs := [_, _]) rfl rfl rfl rfl Tryz.call14 ⟨rfl, rfl, trivial⟩ (fun w hs => o_cx_cut hs r4 r7 (by decide) (by decide) (by decide) (by first | omega | exact (by decide : 4 ≤ 50000))) ?_
 intro v8 h4 hh4 r8
 obtain ⟨v8_0, v8_1, rfl, r8_0, r8_1⟩ := r8
 change (rpS (rpT (rpQ (12 * 2 + 3 * 2 + 9 * 2 + 62 + 2)))).Is h4 v8_0 (cutB ((T3.mk (((1 : Int) : Int) : Rat) (((0 : Int) : Int) : Rat) (((0 : Int) : Int) : Rat)), (((1 : Int) : Int) : Rat)) sq0) at r8_0
 replace r8_0 := Rp.Is.le r8_0 (Le.s (Le.t (Le.q (l := 112) (by omega))))
 change (rpS (rpT (rpQ (12 * 2 + 3 * 2 + 9 * 2 + 62 + 2)))).Is h4 v8_1 (cutF ((T3.mk (((1 : Int) : Int) : Rat) (((0 : Int) : Int) : Rat) (((0 : Int) : Int) : Rat)), (((1 : Int) : Int) : Rat)) sq0) at r8_1
 replace r8_1 := Rp.Is.le r8_1 (Le.s (Le.t (Le.q (l := 112) (by omega))))
 refine mv rfl rfl ?_
 refine gv (zO (vs := [_, _]) rfl rfl) rfl ?_
 refine gv (zO (vs := [_, _]) rfl rfl) rfl ?_
 refine asg rfl rfl ?_
 refine asg rfl rfl ?_
 refine zD ?_
 refine zB ?_
 refine zC ?_
 refine yK 23 _ [] [(0, .q), (1, .q), (2, .q), (3, .q), (4, .q), (5, .q), (6, .q), (7, .q), (8, .q), (9, .q), (10, .q), (11, .q), (12, .c), (13, .c), (14, .q), (15, .q), (16, .q), (17, .q), (18, .q), (19, .c), (20, .c), (21, .q), (22, .q)] xN (fun x hx => by cases hx) (chk_of [0, 1, 2, 4, 8, 24, 40, 72, 136, 256, 768, 1280, 256, 6400, 8448, 24576, 32768, 98304, 163840, 32768, 819200, 1081344, 4194303] [8388607, 8388606, 8388605, 8388603, 8388599, 8388583, 8388567, 8388535, 8388479, 8388351, 8387839, 8387327, 8388351, 8382207, 8380159, 8372223, 8355839, 8290303, 8224767, 8355839, 7569407, 7307263, 6291455] (by kernel_rfl)) (fun x hx => by cases hx) (fun r hr => hr) ?_  -- region 2 (line 21)
 refine w_q rfl (fun h' L' hh hR => zG rfl) rfl ?_
 refine w_q rfl (fun h' L' hh hR => wJ Tryz.underlying27 rfl (r8_0.mono hh)) rfl ?_
 refine w_q rfl (fun h' L' hh hR => OpV.tr (by exact congrArg (fun l : List Pt => (↑l.length : Int)) sane_parts.1) (wC (q := 4) rfl rfl)) rfl ?_
 refine w_q rfl (fun h' L' hh hR => zG rfl) rfl ?_
 refine w_q_on rfl rfl rfl (fun h' L' hh hR => zG rfl) rfl ?_
 refine w_q_on rfl rfl rfl (fun h' L' hh hR => wJ Tryz.underlying27 rfl (r8_1.mono hh)) rfl ?_
 refine w_q_on rfl rfl rfl (fun h' L' hh hR => OpV.tr (by exact congrArg (fun l : List Pt => (↑l.length : Int)) sane_parts.2) (wC (q := 4) rfl rfl)) rfl ?_
 refine w_q rfl (fun h' L' hh hR => xR rfl rfl) rfl ?_
 refine w_q rfl (fun h' L' hh hR => zG rfl) rfl ?_
 refine w_q_on rfl rfl rfl (fun h' L' hh hR => zG rfl) rfl ?_
 refine w_qx_on (F := fun v_ => AtP (rpT (rpQ 112)) h4 v_ ((cutB ((T3.mk (((1 : Int) : Int) : Rat) (((0 : Int) : Int) : Rat) (((0 : Int) : Int) : Rat)), (((1 : Int) : Int) : Rat)) sq0).getD 1 (T3.mk (0 : Rat) (0 : Rat) (0 : Rat)))) rfl rfl rfl (ox_idx_s (q := 1) (T3.mk (0 : Rat) (0 : Rat) (0 : Rat)) 1 Tryz.underlying27 ty32 rfl rfl r8_0 rfl (by exact Nat.lt_of_lt_of_eq (by decide : 1 < 4) (congrArg List.length sane_parts.1).symm) (show 0 < 9 from by decide)) mem0 rfl ?_
 intro v21 r21
 refine w_qx_on (F := fun v_ => (rpT (rpQ 112)).Is h4 v_ ((cutB ((T3.mk (((1 : Int) : Int) : Rat) (((0 : Int) : Int) : Rat) (((0 : Int) : Int) : Rat)), (((1 : Int) : Int) : Rat)) sq0).getD 1 (T3.mk (0 : Rat) (0 : Rat) (0 : Rat)))) rfl rfl rfl (wY ty32 rfl r21) mem0 rfl ?_
 intro v22 r22
 refine w_c rfl ?_
 refine s_on rfl rfl ?_
 refine yI (vs := [vI (1), vI (0), vI (0)]) Tryz.call44 ⟨rfl, rfl, rfl, trivial⟩ (fun w hs => o_made_at3 hs (by decide) (by decide) (by decide) (by decide) (by decide) (by decide)) rfl ?_
 intro v23 h5 hh5 r23
 change (rpT (rpQ 2)).Is h5 v23 (T3.mk (((1 : Int) : Int) : Rat) (((0 : Int) : Int) : Rat) (((0 : Int) : Int) : Rat)) at r23
 refine w_c rfl ?_
 refine s_on rfl rfl ?_
 replace r22 := r22.mono hh5
 refine yI (vs := [_, _]) Tryz.call29 ⟨rfl, rfl, trivial⟩ (fun w hs => o_r4_same hs r22 r23 (by decide)) rfl ?_
 intro v24 h6 hh6 r24
 obtain rfl : v24 = .bool true := by rw [show v24 = vB (((cutB ((T3.mk (((1 : Int) : Int) : Rat) (((0 : Int) : Int) : Rat) (((0 : Int) : Int) : Rat)), (((1 : Int) : Int) : Rat)) sq0).getD 1 (T3.mk (0 : Rat) (0 : Rat) (0 : Rat))) = (T3.mk (((1 : Int) : Int) : Rat) (((0 : Int) : Int) : Rat) (((0 : Int) : Int) : Rat))) from r24, xT (by exact (congrArg (fun l : List Pt => l.getD 1 zT) sane_parts.1).trans sane_pt)]
 refine w_q rfl (fun h' L' hh hR => xR rfl rfl) rfl ?_
 refine w_q rfl (fun h' L' hh hR => zG rfl) rfl ?_
 refine w_q_on rfl rfl rfl (fun h' L' hh hR => zG rfl) rfl ?_
 replace r8_1 := r8_1.mono (hh5.trans hh6)
 refine w_qx_on (F := fun v_ => AtP (rpT (rpQ 112)) h6 v_ ((cutF ((T3.mk (((1 : Int) : Int) : Rat) (((0 : Int) : Int) : Rat) (((0 : Int) : Int) : Rat)), (((1 : Int) : Int) : Rat)) sq0).getD 0 (T3.mk (0 : Rat) (0 : Rat) (0 : Rat)))) rfl rfl rfl (ox_idx_s (q := 0) (T3.mk (0 : Rat) (0 : Rat) (0 : Rat)) 0 Tryz.underlying27 ty32 rfl rfl r8_1 rfl (by exact Nat.lt_of_lt_of_eq (by decide : 0 < 4) (congrArg List.length sane_parts.2).symm) (show 0 < 9 from by decide)) mem0 rfl ?_
 intro v28 r28
 refine w_qx_on (F := fun v_ => (rpT (rpQ 112)).Is h6 v_ ((cutF ((T3.mk (((1 : Int) : Int) : Rat) (((0 : Int) : Int) : Rat) (((0 : Int) : Int) : Rat)), (((1 : Int) : Int) : Rat)) sq0).getD 0 (T3.mk (0 : Rat) (0 : Rat) (0 : Rat)))) rfl rfl rfl (wY ty32 rfl r28) mem0 rfl ?_
 intro v29 r29
 refine w_c rfl ?_
 refine s_on rfl rfl ?_
 refine yI (vs := [vI (1), vI (0), vI (0)]) Tryz.call44 ⟨rfl, rfl, rfl, trivial⟩ (fun w hs => o_made_at3 hs (by decide) (by decide) (by decide) (by decide) (by decide) (by decide)) rfl ?_
 intro v30 h7 hh7 r30
 change (rpT (rpQ 2)).Is h7 v30 (T3.mk (((1 : Int) : Int) : Rat) (((0 : Int) : Int) : Rat) (((0 : Int) : Int) : Rat)) at r30
 refine w_c rfl ?_
 refine s_on rfl rfl ?_
 replace r29 := r29.mono hh7
 refine yI (vs := [_, _]) Tryz.call29 ⟨rfl, rfl, trivial⟩ (fun w hs => o_r4_same hs r29 r30 (by decide)) rfl ?_
 intro v31 h8 hh8 r31
 obtain rfl : v31 = .bool true := by rw [show v31 = vB (((cutF ((T3.mk (((1 : Int) : Int) : Rat) (((0 : Int) : Int) : Rat) (((0 : Int) : Int) : Rat)), (((1 : Int) : Int) : Rat)) sq0).getD 0 (T3.mk (0 : Rat) (0 : Rat) (0 : Rat))) = (T3.mk (((1 : Int) : Int) : Rat) (((0 : Int) : Int) : Rat) (((0 : Int) : Int) : Rat))) from r31, xT (by exact (congrArg (fun l : List Pt => l.getD 0 zT) sane_parts.2).trans sane_pt)]
 refine w_q rfl (fun h' L' hh hR => xR rfl rfl) rfl ?_
 refine w_q rfl (fun h' L' hh hR => zX rfl) rfl ?_
 refine yZ ?_
 refine zJ (e' := [(0, _)]) ⟨rfl, trivial⟩ ?_
 refine zB ?_
 refine zQ ?_
 refine yG rfl rfl ?_
 rfl

theorem o_law_polyof {w0 w : World} {h0 h : Mem} {b k : Nat} {vl : Value} {xs : List Int} (hl : Is h vl xs) (hk : k ≤ xs.length) {L : List Res} (hs : St w0 h0 (.var b 65 [vl, vI ↑k] :: L) h w) :
    Calls Tryz.prog 12 #[vP b 0] w (RetMut w0 h0 h L (fun g r q' => ∃ k' : Nat, ∃ u0 u1 : Value, ∃ m : List (T3 Rat), ∃ s : (T3 Rat) × Rat, q' = .var b 65 [vl, vI ↑k'] ∧ k' ≤ xs.length ∧ (convP s m ∧ m.length ≤ 32) ∧ r = .tuple #[u0, u1] ∧ (rpS (rpT (rpQ 140000))).Is g u0 m ∧ (rpP (rpT (rpQ 2)) (rpQ 2)).Is g u1 s)) := by
 have hlen := hl.lt63
 refine calls_begin_st (n := 46) (e := [(0, vP b 0)]) (vs := [vP b 0]) Tryz.func12 rfl rfl (Nat.le_of_ble_eq_true rfl) hs ⟨rfl, trivial⟩ ?_
 refine zC ?_
 refine zA ?_  -- region 0 (line 25)
 refine asg rfl rfl ?_
 refine zL (xE (ρ := (rpP (rpT (rpQ 2)) (rpQ 2))) (X := ((T3.mk (0 : Rat) (0 : Rat) (0 : Rat)), (0 : Rat))) info34 rfl rfl (zr_p (zr_t (zr_q (by decide))) (zr_q (by decide)))) rfl rfl rfl ?_
 intro v3 q3 hq3
 obtain ⟨b3, cs3, rfl, rfl, rb3⟩ := hq3
 refine zD ?_
 refine zB ?_
 refine zC ?_
 refine zA ?_  -- region 1 (line 26)
 refine mv rfl rfl ?_
 refine xO (A := [_]) (vs := [_]) Tryz.call13 ⟨rfl, trivial⟩ (fun X w hs => o_dice_plane hl (by first | omega | exact Nat.zero_le _) hs) rfl ?_
 intro v11 g11 q11 hg11 hr11
 obtain ⟨k11, p11, rfl, hk11, hr11⟩ := hr11
 refine zL (xE (ρ := (rpP (rpT (rpQ 2)) (rpQ 2))) (X := ((T3.mk (0 : Rat) (0 : Rat) (0 : Rat)), (0 : Rat))) info34 rfl rfl (zr_p (zr_t (zr_q (by decide))) (zr_q (by decide)))) rfl rfl rfl ?_
 intro v4 q4 hq4
 obtain ⟨b4, cs4, rfl, rfl, rb4⟩ := hq4
 refine wE (A := []) (F := fun c_ => (rpP (rpT (rpQ 2)) (rpQ 2)).R g11 c_ p11) (yJ Tryz.sizeOf34 (Pc.here _) rfl rfl rfl rb4 hr11 rfl) ?_
 intro cs_2 rb_3
 refine zD ?_
 refine zB ?_
 refine zC ?_
 refine gc_draw1 (A := [_, _]) 12 [] [(0, .q), (1, .q), (3, .q), (2, .c), (4, .c), (5, .c), (6, .c), (7, .q), (8, .q), (9, .q), (10, .q), (11, .q)] xN (fun x hx => by cases hx) (chk_of [0, 0, 2, 0, 12, 20, 49, 64, 128, 128, 511, 2047] [4095, 4095, 4093, 4095, 4087, 4075, 4062, 4031, 3967, 3967, 3839, 3583] (by kernel_rfl)) (fun x hx => by cases hx) ?_
 refine w_qx (F := fun v_ => (rpP (rpT (rpQ 2)) (rpQ 2)).Is g11 v_ p11) rfl (zE ty34 (Pc.here _) rfl rfl rb_3 rfl) (mem1 (.head _)) rfl ?_
 intro v13 r13
 refine w_q rfl (fun h' L' hh hR => zG rfl) rfl ?_
 refine w_q rfl (fun h' L' hh hR => zG rfl) rfl ?_
 refine w_c rfl ?_
 replace hl := hl.mono hg11
 refine s_call_mut (A := [_, _]) (vs := [_]) Tryz.call33 ⟨rfl, trivial⟩ (fun X w hs => o_dice_spot hl (by first | omega | exact Nat.zero_le _) hs) rfl (xA (by first | (simp; done) | grind)) ?_
 intro v15 g15 q15 hg15 hr15
 obtain ⟨k15, p15, rfl, hk15, hr15⟩ := hr15
 refine w_c rfl ?_
 replace hl := hl.mono hg15
 refine s_call_mut (A := [_, _]) (vs := [_]) Tryz.call33 ⟨rfl, trivial⟩ (fun X w hs => o_dice_spot hl (by first | omega | exact Nat.zero_le _) hs) rfl (xA (by first | (simp; done) | grind)) ?_
 intro v17 g17 q17 hg17 hr17
 obtain ⟨k17, p17, rfl, hk17, hr17⟩ := hr17
 refine w_c rfl ?_
 replace hr15 := hr15.mono hg17
 refine s_new (fun X => yO (ρ := (rpT (rpQ 2))) (m := 2) (xs := [p15, p17]) (ps' := [(0, _), (1, _)]) Tryz.underlying27 yC rfl rfl rfl (zr_t (zr_q (by decide))) ⟨rfl, rfl, rfl, rfl, trivial⟩ (yQ rfl (Pc.arr (Pc.here _) (T3.mk (0 : Rat) (0 : Rat) (0 : Rat)) 0 (by decide)) hr15 (yQ rfl (Pc.arr (Pc.here _) (T3.mk (0 : Rat) (0 : Rat) (0 : Rat)) 1 (by decide)) hr17 xM)) (show 2 * 9 ≤ 16777216 from by decide) (show 0 < 9 from by decide)) rfl ?_
 intro v18 q18 hq18
 obtain ⟨cs18, rfl, rl18⟩ := hq18
 refine w_c rfl ?_
 refine xI (A := []) (ρ := (rpT (rpQ 2))) rl18 (xJ (by first | (simp; done) | grind)) ?_
 intro h1 hh1 rs_4
 replace r13 := r13.mono ((hg15.trans hg17).trans hh1)
 refine yI (vs := [_, _]) Tryz.call37 ⟨rfl, rfl, trivial⟩ (fun w hs => o_r6_around hs r13 rs_4 (by decide) (by decide) (by decide)) rfl ?_
 intro v19 h2 hh2 r19
 obtain ⟨v19_0, rfl, r19_0⟩ := r19
 change (rpS (rpT (rpQ (3 * 2 + 2 + 4 * 2 + 45)))).Is h2 v19_0 (aroZ p11 [p15, p17]) at r19_0
 replace r19_0 := Rp.Is.le r19_0 (Le.s (Le.t (Le.q (l := 61) (by omega))))
 refine w_q rfl (fun h' L' hh hR => zG rfl) rfl ?_
 refine w_q rfl (fun h' L' hh hR => zO (vs := [_, _]) rfl rfl) rfl ?_
 refine w_q rfl (fun h' L' hh hR => zO (vs := [_, _]) rfl rfl) rfl ?_
 refine w_q rfl (fun h' L' hh hR => zX rfl) rfl ?_
 refine w_q rfl (fun h' L' hh hR => zX rfl) rfl ?_
 refine yZ ?_
 refine zJ (e' := [(0, _), (3, _), (4, _), (5, _), (6, _)]) ⟨rfl, rfl, rfl, rfl, rfl, trivial⟩ ?_
 refine zB ?_
 refine zC ?_
 refine zC ?_
 refine zA ?_  -- region 3 (line 28)
 refine mv rfl rfl ?_
 refine gv (ov_not rfl) rfl ?_
 refine zD ?_
 refine zB ?_
 refine zN rfl (fun hc23 => ?_) (fun hc23 => ?_)
 ·
  refine zC ?_
  refine zA ?_  -- region 4 (line 29)
  refine zM (vs := []) rfl rfl rfl rfl Tryz.call43 trivial (fun w hs => o_law_square hs ) ?_
  intro v24 h3 hh3 r24
  change (rpS (rpT (rpQ 2))).Is h3 v24 sq0 at r24
  refine zM (vs := [vI (0), vI (0), vI (1)]) rfl rfl rfl rfl Tryz.call44 ⟨rfl, rfl, rfl, trivial⟩ (fun w hs => o_made_at3 hs (by decide) (by decide) (by decide) (by decide) (by decide) (by decide)) ?_
  intro v25 h4 hh4 r25
  change (rpT (rpQ 2)).Is h4 v25 (T3.mk (((0 : Int) : Int) : Rat) (((0 : Int) : Int) : Rat) (((1 : Int) : Int) : Rat)) at r25
  refine gl_x (F := fun v_ => (rpP (rpT (rpQ 2)) (rpQ 1)).Is h4 v_ ((T3.mk (((0 : Int) : Int) : Rat) (((0 : Int) : Int) : Rat) (((1 : Int) : Int) : Rat)), (0 : Rat))) (ox_build (ps' := [(0, _)]) Tryz.underlying34 info34 rfl rfl (places34 Tryz.underlying34) ⟨rfl, rfl, trivial⟩ rfl (zr_p (zr_t (zr_q (by decide))) (zr_q (by decide))) (yQ rfl (Pc.fst (Pc.here _)) r25 xM)) mem0 rfl ?_
  intro v26 r26
  refine asg rfl rfl ?_
  replace rb3 := rb3.mono ((((((hg11.trans hg15).trans hg17).trans hh1).trans hh2).trans hh3).trans hh4)
  refine wE (A := [_]) (F := fun c_ => (rpP (rpT (rpQ 2)) (rpQ 2)).R h4 c_ ((T3.mk (((0 : Int) : Int) : Rat) (((0 : Int) : Int) : Rat) (((1 : Int) : Int) : Rat)), (0 : Rat))) (yJ Tryz.sizeOf34 (Pc.here _) rfl rfl rfl rb3 (r26.le (Le.p (Le.refl _) (Le.q (l := 2) (by decide)))) rfl) ?_
  intro cs_5 rb_6
  refine zD ?_
  refine zB ?_
  refine zQ ?_
  refine yE ?_
  refine gq_exv (rv_o (t := 3) ty34 (.tail _ (.head _)) rfl rb_6) ?_
  intro w_7 hvw_7 rr_8
  refine gq_res_own (fun E S => run_res2 rfl (rv_tmp rfl) hvw_7 E S) ?_
  replace r24 := r24.mono hh4
  exact ⟨_, (.cons _ (.cons _ (List.Sublist.refl _))), ((((((hg11.trans hg15).trans hg17).trans hh1).trans hh2).trans hh3).trans hh4), _, _, _, _, _, rfl, by omega, (by first | exact ⟨sq0_conv, by decide⟩ | exact ⟨hcv, by omega⟩), rfl, (Rp.Is.le r24 (Le.s (Le.t (Le.q (l := 140000) (by decide))))), rr_8⟩
 ·
  have hnz : ¬ p11.1 = zT := fun e => (Classical.not_not.1 hc23) (.inr e)
  refine zK ?_
  refine zB ?_
  refine zC ?_
  refine zC ?_
  refine zA ?_  -- region 5 (line 31)
  refine mv rfl rfl ?_
  replace hl := hl.mono ((hg17.trans hh1).trans hh2)
  refine xO (A := [_, _]) (vs := [_, vI (4)]) Tryz.call22 ⟨rfl, rfl, trivial⟩ (fun X w hs => uC hl (by first | omega | exact Nat.zero_le _) (by omega) (by omega) hs) rfl ?_
  intro v28 g28 q28 hg28 hr28
  obtain ⟨k28, z28, rfl, hk28, rfl, hz28, hy28⟩ := hr28
  refine asg rfl rfl ?_
  refine zD ?_
  refine zB ?_
  refine zR ?_
  refine wH (ι := Nat × Nat × List (T3 Rat) × Value × Nat × Mem) (fun (n, kk, lv, u5_9, kd_11, ma) => MLe g28 ma ∧ ((rpS (rpT (rpQ kk))).Is ma u5_9 lv ∧ kd_11 ≤ xs.length ∧ ((n = 3 ∧ kk ≤ 61 ∧ lv.length ≤ 4) ∨ (n ≤ 2 ∧ kk ≤ 900 ∧ lv.length ≤ 8) ∨ (n ≤ 1 ∧ kk ≤ 11000 ∧ lv.length ≤ 16) ∨ (n = 0 ∧ kk ≤ 140000 ∧ lv.length ≤ 32)) ∧ convP p11 lv)) (fun (n, kk, lv, u5_9, kd_11, ma) => [(0, vP b 0), (3, vP b3 0), (4, vP b4 0), (5, u5_9), (7, vI ↑n)]) (fun (n, kk, lv, u5_9, kd_11, ma) => (.var b4 34 cs_2 :: .var b3 34 cs3 :: .var b 65 [vl, vI ↑kd_11] :: L)) (fun (n, kk, lv, u5_9, kd_11, ma) => ma) (fun (n, kk, lv, u5_9, kd_11, ma) => n) (z28.toNat, 61, (aroZ p11 [p15, p17]), v19_0, k28, g28) ?_ ⟨?_, ?_, ?_, ?_, ?_, trivial⟩ rfl rfl ?_
  ·
   refine ⟨MLe.refl _, ?_⟩
   replace r19_0 := r19_0.mono hg28
   refine ⟨r19_0, (by omega), ?_⟩
   exact ⟨by have := (aro_conv (s := p11) (ps := [p15, p17]) (by simp) hnz).2; omega, (aro_conv (by simp) hnz).1⟩
  · exact rfl
  · exact rfl
  · exact rfl
  · exact rfl
  · exact congrArg (fun z => some (vI z)) (by omega)
  ·
   intro x hx
   obtain ⟨n, kk, lv, u5_9, kd_11, ma⟩ := x
   obtain ⟨hmma, hinv⟩ := hx
   show GC _ _ _ _ _ _ [(0, vP b 0), (3, vP b3 0), (4, vP b4 0), (5, u5_9), (7, vI ↑n)] (.var b4 34 cs_2 :: .var b3 34 cs3 :: .var b 65 [vl, vI ↑kd_11] :: L) ma
   obtain ⟨ru_10, hkd_12, hinv⟩ := hinv
   obtain ⟨hnk, hcv⟩ := hinv
   refine zC ?_
   refine zC ?_
   refine zA ?_  -- region 6 (line 31)
   refine mv rfl rfl ?_
   refine gv (vD (q := 0) rfl rfl) rfl ?_
   refine zD ?_
   refine zB ?_
   refine zN rfl (fun hc30 => ?_) (fun hc30 => ?_)
   ·
    refine zK ?_
    refine zB ?_
    refine zC ?_
    refine zR ?_
    refine zC ?_
    refine zA ?_  -- region 8 (line 32)
    refine mv rfl rfl ?_
    refine mv rfl rfl ?_
    replace hl := hl.mono (hg28.trans hmma)
    refine xO (A := [_, _]) (vs := [_]) Tryz.call13 ⟨rfl, trivial⟩ (fun X w hs => o_dice_plane hl (by first | omega | exact Nat.zero_le _) hs) rfl ?_
    intro v36 g36 q36 hg36 hr36
    obtain ⟨k36, p36, rfl, hk36, hr36⟩ := hr36
    replace ru_10 := ru_10.mono hg36
    refine zM (vs := [_, _]) rfl rfl rfl rfl Tryz.call15 ⟨rfl, rfl, trivial⟩ (fun w hs => o_r6_cut hs ru_10 hr36 (by omega) (by decide) (by decide) (by omega)) ?_
    intro v37 h3 hh3 r37
    obtain ⟨v37_0, v37_1, rfl, r37_0, r37_1⟩ := r37
    change (rpS (rpT (rpQ (12 * kk + 3 * 2 + 9 * 2 + 62)))).Is h3 v37_0 (cutB p36 lv) at r37_0
    replace r37_0 := Rp.Is.le r37_0 (Le.s (Le.t (Le.q (l := 12 * kk + 86) (by omega))))
    change (rpS (rpT (rpQ (12 * kk + 3 * 2 + 9 * 2 + 62)))).Is h3 v37_1 (cutF p36 lv) at r37_1
    replace r37_1 := Rp.Is.le r37_1 (Le.s (Le.t (Le.q (l := 12 * kk + 86) (by omega))))
    refine mv rfl rfl ?_
    refine gv (zO (vs := [_, _]) rfl rfl) rfl ?_
    refine gv (zO (vs := [_, _]) rfl rfl) rfl ?_
    refine asg rfl rfl ?_
    refine asg rfl rfl ?_
    refine zD ?_
    refine zJ (e' := [(0, _), (3, _), (4, _), (5, _), (7, _), (8, _)]) ⟨rfl, rfl, rfl, rfl, rfl, rfl, trivial⟩ ?_
    refine zB ?_
    refine zC ?_
    refine zA ?_  -- region 9 (line 32)
    refine mv rfl rfl ?_
    refine gv (wJ Tryz.underlying27 rfl r37_0) rfl ?_
    refine gv (vD (q := 0) rfl rfl) rfl ?_
    refine zD ?_
    refine zB ?_
    refine zN rfl (fun hc42 => ?_) (fun hc42 => ?_)
    ·
     refine zA ?_  -- region 10 (line 33)
     refine mv rfl rfl ?_
     refine asg rfl rfl ?_
     refine zD ?_
     refine yV ?_
     refine zB ?_
     refine zA ?_  -- region 7 (line 31)
     refine mv rfl rfl ?_
     refine gv (xW (q := 1) rfl rfl (by omega) (by omega)) rfl ?_
     refine asg rfl rfl ?_
     refine zD ?_
     refine yL ((n - 1), (12 * kk + 86), (cutB p36 lv), v37_0, k36, h3) ?_ ?_ ⟨rfl, rfl, rfl, rfl, ?_, trivial⟩ rfl rfl
     ·
      refine ⟨((hmma.trans hg36).trans hh3), ?_⟩
      refine ⟨(Rp.Is.le r37_0 (Le.s (Le.t (Le.q (by omega))))), (by omega), ?_⟩
      exact ⟨by have := cutB_len p36 lv; omega, (cutB_valid p36 hcv).resolve_right (fun e => by rw [e] at hc42; exact absurd hc42 (by decide))⟩
     ·
      dsimp only
      omega
     · exact congrArg (fun z => some (vI z)) (by omega)
    ·
     refine zK ?_
     refine yV ?_
     refine zB ?_
     refine zA ?_  -- region 7 (line 31)
     refine mv rfl rfl ?_
     refine gv (xW (q := 1) rfl rfl (by omega) (by omega)) rfl ?_
     refine asg rfl rfl ?_
     refine zD ?_
     refine yL ((n - 1), kk, lv, u5_9, k36, h3) ?_ ?_ ⟨rfl, rfl, rfl, rfl, ?_, trivial⟩ rfl rfl
     ·
      refine ⟨((hmma.trans hg36).trans hh3), ?_⟩
      replace ru_10 := ru_10.mono hh3
      refine ⟨(Rp.Is.le ru_10 (Le.s (Le.t (Le.q (by omega))))), (by omega), ?_⟩
      exact ⟨by omega, hcv⟩
     ·
      dsimp only
      omega
     · exact congrArg (fun z => some (vI z)) (by omega)
   ·
    refine xG ?_
    refine yB ?_
    refine yB ?_
    refine xF ?_
    refine zB ?_
    refine zC ?_
    refine yK 3 _ [] [(0, .q), (1, .q), (2, .q), (3, .t)] xN (fun x hx => by cases hx) (by kernel_rfl) (fun x hx => by cases hx) (fun r hr => hr) ?_  -- region 11 (line 36)
    refine w_q rfl (fun h' L' hh hR => zG rfl) rfl ?_
    replace rb_3 := rb_3.mono (((((hg15.trans hg17).trans hh1).trans hh2).trans hg28).trans hmma)
    refine w_qx (F := fun v_ => (rpP (rpT (rpQ 2)) (rpQ 2)).Is ma v_ p11) rfl (zE ty34 (Pc.here _) rfl rfl rb_3 rfl) (mem1 (.head _)) rfl ?_
    intro v45 r45
    refine w_q rfl (fun h' L' hh hR => zX rfl) rfl ?_
    replace rb3 := rb3.mono ((((((hg11.trans hg15).trans hg17).trans hh1).trans hh2).trans hg28).trans hmma)
    refine wB (A := [_]) (F := fun c_ => (rpP (rpT (rpQ 2)) (rpQ 2)).R ma c_ p11) rfl (yJ Tryz.sizeOf34 (Pc.here _) rfl rfl rfl rb3 r45 rfl) ?_
    intro cs_13 rb_14
    refine yZ ?_
    refine zB ?_
    refine zQ ?_
    refine gq_exv (rv_o (t := 3) ty34 (.tail _ (.head _)) rfl rb_14) ?_
    intro w_15 hvw_15 rr_16
    refine gq_res_own (fun E S => run_res2 rfl (rv_tmp rfl) hvw_15 E S) ?_
    exact ⟨_, (.cons _ (.cons _ (List.Sublist.refl _))), ((((((hg11.trans hg15).trans hg17).trans hh1).trans hh2).trans hg28).trans hmma), _, _, _, _, _, rfl, by omega, (by first | exact ⟨sq0_conv, by decide⟩ | exact ⟨hcv, by omega⟩), rfl, (Rp.Is.le ru_10 (Le.s (Le.t (Le.q (l := 140000) (by omega))))), rr_16⟩

end Go.Proofs.YtghhjjmjpeehdaaGreat


namespace Bk
set_option linter.unusedVariables false
set_option linter.unusedSimpArgs false
open Classical
abbrev gpl (ps : List Pl) (m : Nat) : Pl := ps.getD m (T3.mk (0 : Rat) (0 : Rat) (0 : Rat), (0 : Rat))
noncomputable def clipTo (l : List Pt) (ps : List Pl) : Nat → List Pt
  | 0 => l
  | m + 1 => cutB (gpl ps m) (clipTo l ps m)
noncomputable def partsTo (c : Pl) (L : List (List Pt)) : Nat → List (List Pt)
  | 0 => []
  | m + 1 => partsTo c L m ++ (if 0 < (cutB c (L.getD m [])).length then [cutB c (L.getD m [])] else []) ++ (if 0 < (cutF c (L.getD m [])).length then [cutF c (L.getD m [])] else [])
noncomputable def yU (l : List Pt) (ps : List Pl) : Nat → List (List Pt)
  | 0 => [l]
  | m + 1 => partsTo (gpl ps m) (yU l ps m) (yU l ps m).length
noncomputable def splitZ (l : List Pt) (ps : List Pl) : List (List Pt) := if l.length = 0 then [] else yU l ps ps.length
theorem split_nil (ps : List Pl) : splitZ [] ps = [] := if_pos rfl
theorem clip_len {l : List Pt} {ps : List Pl} {m : Nat} : (clipTo l ps (m + 1)).length ≤ 2 * (clipTo l ps m).length := cutB_len _ _
section
variable {c : Pl} {L P : List (List Pt)} {m : Nat}
theorem pp_bf (hP : P = partsTo c L m) (h1 : 0 < (cutB c (L.getD m [])).length) (h2 : 0 < (cutF c (L.getD m [])).length) : P ++ [cutB c (L.getD m [])] ++ [cutF c (L.getD m [])] = partsTo c L (m + 1) := by
  show _ = _ ++ _ ++ _; rw [if_pos h1, if_pos h2, hP]
theorem pp_b (hP : P = partsTo c L m) (h1 : 0 < (cutB c (L.getD m [])).length) (h2 : ¬ 0 < (cutF c (L.getD m [])).length) : P ++ [cutB c (L.getD m [])] = partsTo c L (m + 1) := by
  show _ = _ ++ _ ++ _; rw [if_pos h1, if_neg h2, hP, List.append_nil]
theorem pp_f (hP : P = partsTo c L m) (h1 : ¬ 0 < (cutB c (L.getD m [])).length) (h2 : 0 < (cutF c (L.getD m [])).length) : P ++ [cutF c (L.getD m [])] = partsTo c L (m + 1) := by
  show _ = _ ++ _ ++ _; rw [if_neg h1, if_pos h2, hP, List.append_nil]
theorem pp_n (hP : P = partsTo c L m) (h1 : ¬ 0 < (cutB c (L.getD m [])).length) (h2 : ¬ 0 < (cutF c (L.getD m [])).length) : P = partsTo c L (m + 1) := by
  show _ = _ ++ _ ++ _; rw [if_neg h1, if_neg h2, hP, List.append_nil, List.append_nil]
theorem parts_mem {x : List Pt} : ∀ {m}, x ∈ partsTo c L m → ∃ q, q < m ∧ ((x = cutB c (L.getD q []) ∨ x = cutF c (L.getD q [])) ∧ 0 < x.length)
  | 0, h => absurd h List.not_mem_nil
  | m + 1, h => by
    have h' : x ∈ partsTo c L m ++ (if 0 < (cutB c (L.getD m [])).length then [cutB c (L.getD m [])] else []) ++ (if 0 < (cutF c (L.getD m [])).length then [cutF c (L.getD m [])] else []) := h
    rw [List.mem_append, List.mem_append] at h'
    rcases h' with (h1 | h1) | h1
    · obtain ⟨q, hq, e⟩ := parts_mem h1
      exact ⟨q, by omega, e⟩
    · split at h1
      · rename_i hc; rw [List.mem_singleton] at h1; exact ⟨m, by omega, .inl h1, by rw [h1]; exact hc⟩
      · exact absurd h1 List.not_mem_nil
    · split at h1
      · rename_i hc; rw [List.mem_singleton] at h1; exact ⟨m, by omega, .inr h1, by rw [h1]; exact hc⟩
      · exact absurd h1 List.not_mem_nil
theorem parts_count (c : Pl) (L : List (List Pt)) : ∀ m, (partsTo c L m).length ≤ 2 * m
  | 0 => Nat.le_refl _
  | m + 1 => by
    have h := parts_count c L m
    show List.length (_ ++ _ ++ _) ≤ _
    rw [List.length_append, List.length_append]
    have h1 : (if 0 < (cutB c (L.getD m [])).length then [cutB c (L.getD m [])] else []).length ≤ 1 := by split <;> simp
    have h2 : (if 0 < (cutF c (L.getD m [])).length then [cutF c (L.getD m [])] else []).length ≤ 1 := by split <;> simp
    omega
end
theorem getD_le {L : List (List Pt)} {n : Nat} (h : ∀ x, x ∈ L → x.length ≤ n) (m : Nat) : (L.getD m []).length ≤ n := by
  rw [List.getD_eq_getElem?_getD]
  rcases Nat.lt_or_ge m L.length with h1 | h1
  · rw [List.getElem?_eq_getElem h1]
    exact h _ (List.getElem_mem h1)
  · rw [List.getElem?_eq_none h1]
    exact Nat.zero_le _
theorem split_lens (l : List Pt) (ps : List Pl) : ∀ m, (yU l ps m).length ≤ 2 ^ m ∧ ∀ x, x ∈ yU l ps m → x.length ≤ 2 ^ m * l.length
  | 0 => ⟨Nat.le_refl _, fun x hx => by rw [List.mem_singleton.1 hx]; omega⟩
  | m + 1 => by
    obtain ⟨h1, h2⟩ := split_lens l ps m
    have h3 := parts_count (gpl ps m) (yU l ps m) (yU l ps m).length
    refine ⟨by rw [Nat.pow_succ]; exact Nat.le_trans h3 (by omega), fun x hx => ?_⟩
    obtain ⟨q, hq, e, _⟩ := parts_mem hx
    have h4 := getD_le h2 q
    have h5 := cutB_len (gpl ps m) ((yU l ps m).getD q [])
    have h6 := cutF_len (gpl ps m) ((yU l ps m).getD q [])
    rw [Nat.pow_succ, Nat.mul_right_comm]
    rcases e with e | e <;> rw [e] <;> omega
theorem split_b {l : List Pt} {ps : List Pl} {i : Nat} (hi : i ≤ 3) : (yU l ps i).length ≤ 8 ∧ ∀ m, ((yU l ps i).getD m []).length ≤ 8 * l.length := by
  obtain ⟨h1, h2⟩ := split_lens l ps i
  have h3 : 2 ^ i ≤ 2 ^ 3 := Nat.pow_le_pow_right (by decide) hi
  have h4 : (2 : Nat) ^ 3 = 8 := rfl
  refine ⟨by omega, fun m => Nat.le_trans (getD_le h2 m) ?_⟩
  exact Nat.mul_le_mul_right _ (by omega)
theorem splitZ_len {l : List Pt} {ps : List Pl} (hp : ps.length ≤ 3) : (splitZ l ps).length ≤ 8 := by
  unfold splitZ
  split
  · exact Nat.zero_le _
  · exact (split_b hp).1
theorem splitZ_mem {l : List Pt} {ps : List Pl} (hp : ps.length ≤ 3) : ∀ x, x ∈ splitZ l ps → x.length ≤ 8 * l.length := by
  intro x hx
  unfold splitZ at hx
  split at hx
  · exact absurd hx List.not_mem_nil
  · obtain ⟨h1, h2⟩ := split_lens l ps ps.length
    have h3 : 2 ^ ps.length ≤ 2 ^ 3 := Nat.pow_le_pow_right (by decide) hp
    exact Nat.le_trans (h2 x hx) (Nat.mul_le_mul_right _ h3)
end Bk


namespace Go.Proofs.YtghhjjmjpeehdaaGreat
open Bk Go
set_option linter.unusedVariables false
set_option linter.unusedSimpArgs false
set_option maxRecDepth 10000

theorem o_cx_clip {w0 : World} {h0 : Mem}  (hs : MLe h0 (mem w0)) {k : Nat} {vl : Value} {l : (List (T3 Rat))} (rl : (rpS (rpT (rpQ k))).Is h0 vl l) {vps : Value} {ps : (List ((T3 Rat) × Rat))} (rps : (rpS (rpP (rpT (rpQ 2)) (rpQ 2))).Is h0 vps ps) (hcd0 : k ≤ 140000) (hcd1 : l.length ≤ 1000) (hcd2 : ps.length ≤ 3)  :
    Calls Tryz.prog 31 #[vl, vps] w0 (Ret w0 h0 (fun h r => (rpS (rpT (rpQ 250000002))).Is h r (clipTo l ps ps.length))) := by
 refine zP (n := 22) (e := [(0, vl), (1, vps)]) (vs := [vl, vps]) Tryz.func31 rfl rfl (Nat.le_of_ble_eq_true rfl) hs ⟨rfl, rfl, trivial⟩ ?_
 refine zC ?_
 refine zA ?_  -- region 0 (line 95)
 refine asg rfl rfl ?_
 refine zD ?_
 refine zB ?_
 refine zC ?_
 refine zC ?_
 refine zA ?_  -- region 1 (line 96)
 refine mv rfl rfl ?_
 refine gv (wJ Tryz.underlying52 rfl rps) rfl ?_
 refine mv (v := vI (0)) rfl rfl ?_
 refine zD ?_
 refine zB ?_
 refine zR ?_
 refine wH (ι := Nat × Nat × Value × Mem) (fun (i, kk, u0_1, ma) => MLe h0 ma ∧ ((rpS (rpT (rpQ kk))).Is ma u0_1 (clipTo l ps i) ∧ ((i = 0 ∧ kk ≤ 140000 ∧ (clipTo l ps i).length ≤ 1000) ∨ (i = 1 ∧ kk ≤ 1700000 ∧ (clipTo l ps i).length ≤ 2000) ∨ (i = 2 ∧ kk ≤ 20500000 ∧ (clipTo l ps i).length ≤ 4000) ∨ (i = 3 ∧ kk ≤ 250000000 ∧ (clipTo l ps i).length ≤ 8000)) ∧ i ≤ ps.length)) (fun (i, kk, u0_1, ma) => [(0, u0_1), (7, vps), (8, vI (↑(ps).length : Int)), (9, vI ↑i)]) (fun (i, kk, u0_1, ma) => []) (fun (i, kk, u0_1, ma) => ma) (fun (i, kk, u0_1, ma) => ps.length - i) (0, k, vl, h0) ?_ ⟨rfl, rfl, rfl, rfl, trivial⟩ rfl rfl ?_
 ·
  refine ⟨MLe.refl _, ?_⟩
  refine ⟨rl, ?_⟩
  exact ⟨.inl ⟨rfl, by omega, by show l.length ≤ 1000; omega⟩, by omega⟩
 ·
  intro x hx
  obtain ⟨i, kk, u0_1, ma⟩ := x
  obtain ⟨hmma, hinv⟩ := hx
  show GC _ _ _ _ _ _ [(0, u0_1), (7, vps), (8, vI (↑(ps).length : Int)), (9, vI ↑i)] [] ma
  obtain ⟨ru_2, hinv⟩ := hinv
  obtain ⟨hkc, hi1⟩ := hinv
  have hcl := clip_len (l := l) (ps := ps) (m := i)
  refine zC ?_
  refine zA ?_  -- region 2 (line 96)
  refine gv (zW rfl rfl) rfl ?_
  refine zD ?_
  refine zB ?_
  refine zC ?_
  refine zN rfl (fun hc10 => ?_) (fun hc10 => ?_)
  ·
   refine zK ?_
   refine zB ?_
   refine zC ?_
   refine zR ?_
   refine zC ?_
   refine zA ?_  -- region 3 (line 96)
   replace rps := rps.mono hmma
   refine gl_x (F := fun v_ => AtP (rpP (rpT (rpQ 2)) (rpQ 2)) ma v_ (ps.getD i ((T3.mk (0 : Rat) (0 : Rat) (0 : Rat)), (0 : Rat)))) (ox_idx_s ((T3.mk (0 : Rat) (0 : Rat) (0 : Rat)), (0 : Rat)) i Tryz.underlying52 ty34 rfl rfl rps rfl (by omega) (show 0 < 12 from by decide)) mem0 rfl ?_
   intro v11 r11
   refine gl_x (F := fun v_ => (rpP (rpT (rpQ 2)) (rpQ 2)).Is ma v_ (ps.getD i ((T3.mk (0 : Rat) (0 : Rat) (0 : Rat)), (0 : Rat)))) (wY ty34 rfl r11) mem0 rfl ?_
   intro v12 r12
   refine zL (xE (ρ := (rpP (rpT (rpQ 1)) (rpQ 1))) (X := ((T3.mk (0 : Rat) (0 : Rat) (0 : Rat)), (0 : Rat))) info34 rfl rfl (zr_p (zr_t (zr_q (by decide))) (zr_q (by decide)))) rfl rfl rfl ?_
   intro v6 q6 hq6
   obtain ⟨b6, cs6, rfl, rfl, rb6⟩ := hq6
   have rw_3 := (Le.p (Le.t (Le.q (l := 2) (by decide))) (Le.q (l := 2) (by decide))).R rb6
   refine wE (A := []) (F := fun c_ => (rpP (rpT (rpQ 2)) (rpQ 2)).R ma c_ (ps.getD i ((T3.mk (0 : Rat) (0 : Rat) (0 : Rat)), (0 : Rat)))) (yJ Tryz.sizeOf34 (Pc.here _) rfl rfl rfl rw_3 r12 rfl) ?_
   intro cs_4 rb_5
   refine zD ?_
   refine zB ?_
   refine zA ?_  -- region 4 (line 97)
   refine mv rfl rfl ?_
   refine gl_x (F := fun v_ => (rpP (rpT (rpQ 2)) (rpQ 2)).Is ma v_ (ps.getD i ((T3.mk (0 : Rat) (0 : Rat) (0 : Rat)), (0 : Rat)))) (zE ty34 (Pc.here _) rfl rfl rb_5 rfl) (mem1 (.head _)) rfl ?_
   intro v15 r15
   refine zM (vs := [_, _]) rfl rfl rfl rfl Tryz.call47 ⟨rfl, rfl, trivial⟩ (fun w hs => o_cx_halves hs ru_2 r15 (by omega) (by decide) (by decide) (by omega)) ?_
   intro v16 h1 hh1 r16
   obtain ⟨v16_0, v16_1, rfl, r16_0, r16_1⟩ := r16
   change (rpS (rpT (rpQ (12 * kk + 3 * 2 + 9 * 2 + 62)))).Is h1 v16_0 (cutB (ps.getD i ((T3.mk (0 : Rat) (0 : Rat) (0 : Rat)), (0 : Rat))) (clipTo l ps i)) at r16_0
   replace r16_0 := Rp.Is.le r16_0 (Le.s (Le.t (Le.q (l := 12 * kk + 86) (by omega))))
   change (rpS (rpT (rpQ (12 * kk + 3 * 2 + 9 * 2 + 62)))).Is h1 v16_1 (cutF (ps.getD i ((T3.mk (0 : Rat) (0 : Rat) (0 : Rat)), (0 : Rat))) (clipTo l ps i)) at r16_1
   replace r16_1 := Rp.Is.le r16_1 (Le.s (Le.t (Le.q (l := 12 * kk + 86) (by omega))))
   refine mv rfl rfl ?_
   refine gv (zO (vs := [_, _]) rfl rfl) rfl ?_
   refine gv (zO (vs := [_, _]) rfl rfl) rfl ?_
   refine asg rfl rfl ?_
   refine zD ?_
   refine yV ?_
   refine zJ (e' := [(7, _), (8, _), (9, _), (0, _)]) ⟨rfl, rfl, rfl, rfl, trivial⟩ ?_
   refine zB ?_
   refine zA ?_  -- region 5 (line 96)
   refine gv (zS (q := 1) rfl rfl (by omega) (by omega)) rfl ?_
   refine mv rfl rfl ?_
   refine zD ?_
   refine yX (A := []) ?_
   refine yL ((i + 1), (12 * kk + 86), v16_0, h1) ?_ ?_ ⟨rfl, rfl, rfl, rfl, trivial⟩ rfl rfl
   ·
    refine ⟨(hmma.trans hh1), ?_⟩
    refine ⟨(Rp.Is.le r16_0 (Le.s (Le.t (Le.q (by omega))))), ?_⟩
    exact ⟨by omega, by omega⟩
   ·
    dsimp only
    omega
  ·
   have ei : i = ps.length := by omega
   refine xG ?_
   refine yB ?_
   refine yB ?_
   refine xF ?_
   refine zB ?_
   refine zC ?_
   refine zA ?_  -- region 6 (line 99)
   refine mv rfl rfl ?_
   refine zM (vs := [_]) rfl rfl rfl rfl Tryz.call48 ⟨rfl, trivial⟩ (fun w hs => o_own_points hs ru_2 (by omega) (by omega)) ?_
   intro v21 h1 hh1 r21
   change (rpS (rpT (rpQ (kk + 2)))).Is h1 v21 (clipTo l ps i) at r21
   refine asg rfl rfl ?_
   refine zD ?_
   refine zB ?_
   refine zQ ?_
   refine yG rfl rfl ?_
   exact (Rp.Is.cast (Rp.Is.le r21 (Le.s (Le.t (Le.q (l := 250000002) (by omega))))) (by rw [ei]))

theorem o_r6_clip {w0 : World} {h0 : Mem}  (hs : MLe h0 (mem w0)) {k : Nat} {vl : Value} {l : (List (T3 Rat))} (rl : (rpS (rpT (rpQ k))).Is h0 vl l) {vps : Value} {ps : (List ((T3 Rat) × Rat))} (rps : (rpS (rpP (rpT (rpQ 2)) (rpQ 2))).Is h0 vps ps) (hcd0 : k ≤ 140000) (hcd1 : l.length ≤ 1000) (hcd2 : ps.length ≤ 3)  :
    Calls Tryz.prog 32 #[vl, vps] w0 (Ret w0 h0 (fun h r => (rpS (rpT (rpQ 250000002))).Is h r (clipTo l ps ps.length))) := by
 refine zP (n := 25) (e := [(0, vl), (1, vps)]) (vs := [vl, vps]) Tryz.func32 rfl rfl (Nat.le_of_ble_eq_true rfl) hs ⟨rfl, rfl, trivial⟩ ?_
 refine zC ?_
 refine zA ?_  -- region 0 (line 88)
 refine asg rfl rfl ?_
 refine zD ?_
 refine zB ?_
 refine zC ?_
 refine zA ?_  -- region 1 (line 89)
 refine mv rfl rfl ?_
 refine gl_nilown 32 9 ?_
 have rl_6 : RL (rpT (rpQ k)) h0 [] ([] : List (T3 Rat)) := RL.nil
 refine vO (A := []) (yD (ρ := (rpT (rpQ k))) (bytes := 168) Tryz.underlying27 yC rfl rfl rfl rfl (show 0 < 9 from by decide) rfl rfl rl_6 rl (by first | omega | (simp only [List.length_append, List.length_cons, List.length_nil, List.length_replicate, List.length_set]; omega)) (by first | omega | (simp only [List.length_append, List.length_cons, List.length_nil, List.length_replicate, List.length_set]; omega))) rfl rfl rfl ?_
 intro v8 q8 hq8
 obtain ⟨cs8, rfl, rl8⟩ := hq8
 refine asg rfl rfl ?_
 refine zD ?_
 refine zB ?_
 refine zC ?_
 refine zC ?_
 refine zA ?_  -- region 2 (line 90)
 refine asg (v := vI (0)) rfl rfl ?_
 refine zD ?_
 refine zB ?_
 refine zR ?_
 refine gc_freezex (A := []) (ρ := (rpT (rpQ k))) rl8 ?_
 intro h1 hh1 rs_7
 refine wH (ι := Nat × Nat × Value × Mem) (fun (i, kk, u5_8, ma) => MLe h1 ma ∧ ((rpS (rpT (rpQ kk))).Is ma u5_8 (clipTo l ps i) ∧ ((i = 0 ∧ kk ≤ 140000 ∧ (clipTo l ps i).length ≤ 1000) ∨ (i = 1 ∧ kk ≤ 1700000 ∧ (clipTo l ps i).length ≤ 2000) ∨ (i = 2 ∧ kk ≤ 20500000 ∧ (clipTo l ps i).length ≤ 4000) ∨ (i = 3 ∧ kk ≤ 250000000 ∧ (clipTo l ps i).length ≤ 8000)) ∧ i ≤ ps.length)) (fun (i, kk, u5_8, ma) => [(1, vps), (5, u5_8), (6, vI ↑i)]) (fun (i, kk, u5_8, ma) => []) (fun (i, kk, u5_8, ma) => ma) (fun (i, kk, u5_8, ma) => ps.length - i) (0, k, v8, h1) ?_ ⟨rfl, rfl, rfl, trivial⟩ rfl rfl ?_
 ·
  refine ⟨MLe.refl _, ?_⟩
  refine ⟨(Rp.Is.cast rs_7 (List.nil_append _)), ?_⟩
  exact ⟨.inl ⟨rfl, by omega, by show l.length ≤ 1000; omega⟩, by omega⟩
 ·
  intro x hx
  obtain ⟨i, kk, u5_8, ma⟩ := x
  obtain ⟨hmma, hinv⟩ := hx
  show GC _ _ _ _ _ _ [(1, vps), (5, u5_8), (6, vI ↑i)] [] ma
  obtain ⟨ru_9, hinv⟩ := hinv
  obtain ⟨hkc, hi1⟩ := hinv
  have hcl := clip_len (l := l) (ps := ps) (m := i)
  refine zC ?_
  refine zC ?_
  refine zA ?_  -- region 3 (line 90)
  refine mv rfl rfl ?_
  refine mv rfl rfl ?_
  replace rps := rps.mono (hh1.trans hmma)
  refine gv (wJ Tryz.underlying52 rfl rps) rfl ?_
  refine gv (zW rfl rfl) rfl ?_
  refine zD ?_
  refine zB ?_
  refine zN rfl (fun hc12 => ?_) (fun hc12 => ?_)
  ·
   refine zK ?_
   refine zB ?_
   refine zC ?_
   refine zR ?_
   refine zA ?_  -- region 5 (line 91)
   refine mv rfl rfl ?_
   refine mv rfl rfl ?_
   refine mv rfl rfl ?_
   refine gl_x (F := fun v_ => AtP (rpP (rpT (rpQ 2)) (rpQ 2)) ma v_ (ps.getD i ((T3.mk (0 : Rat) (0 : Rat) (0 : Rat)), (0 : Rat)))) (ox_idx_s ((T3.mk (0 : Rat) (0 : Rat) (0 : Rat)), (0 : Rat)) i Tryz.underlying52 ty34 rfl rfl rps rfl (by omega) (show 0 < 12 from by decide)) mem0 rfl ?_
   intro v19 r19
   refine gl_x (F := fun v_ => (rpP (rpT (rpQ 2)) (rpQ 2)).Is ma v_ (ps.getD i ((T3.mk (0 : Rat) (0 : Rat) (0 : Rat)), (0 : Rat)))) (wY ty34 rfl r19) mem0 rfl ?_
   intro v20 r20
   refine zM (vs := [_, _]) rfl rfl rfl rfl Tryz.call15 ⟨rfl, rfl, trivial⟩ (fun w hs => o_r6_cut hs ru_9 r20 (by omega) (by decide) (by decide) (by omega)) ?_
   intro v21 h2 hh2 r21
   obtain ⟨v21_0, v21_1, rfl, r21_0, r21_1⟩ := r21
   change (rpS (rpT (rpQ (12 * kk + 3 * 2 + 9 * 2 + 62)))).Is h2 v21_0 (cutB (ps.getD i ((T3.mk (0 : Rat) (0 : Rat) (0 : Rat)), (0 : Rat))) (clipTo l ps i)) at r21_0
   replace r21_0 := Rp.Is.le r21_0 (Le.s (Le.t (Le.q (l := 12 * kk + 86) (by omega))))
   change (rpS (rpT (rpQ (12 * kk + 3 * 2 + 9 * 2 + 62)))).Is h2 v21_1 (cutF (ps.getD i ((T3.mk (0 : Rat) (0 : Rat) (0 : Rat)), (0 : Rat))) (clipTo l ps i)) at r21_1
   replace r21_1 := Rp.Is.le r21_1 (Le.s (Le.t (Le.q (l := 12 * kk + 86) (by omega))))
   refine mv rfl rfl ?_
   refine gv (zO (vs := [_, _]) rfl rfl) rfl ?_
   refine gv (zO (vs := [_, _]) rfl rfl) rfl ?_
   refine asg rfl rfl ?_
   refine zD ?_
   refine yV ?_
   refine zJ (e' := [(1, _), (6, _), (5, _)]) ⟨rfl, rfl, rfl, trivial⟩ ?_
   refine zB ?_
   refine zA ?_  -- region 4 (line 90)
   refine mv rfl rfl ?_
   refine gv (zS (q := 1) rfl rfl (by omega) (by omega)) rfl ?_
   refine asg rfl rfl ?_
   refine zD ?_
   refine yL ((i + 1), (12 * kk + 86), v21_0, h2) ?_ ?_ ⟨rfl, rfl, rfl, trivial⟩ rfl rfl
   ·
    refine ⟨(hmma.trans hh2), ?_⟩
    refine ⟨(Rp.Is.le r21_0 (Le.s (Le.t (Le.q (by omega))))), ?_⟩
    exact ⟨by omega, by omega⟩
   ·
    dsimp only
    omega
  ·
   have ei : i = ps.length := by omega
   refine xG ?_
   refine yB ?_
   refine yB ?_
   refine xF ?_
   refine zB ?_
   refine zC ?_
   refine zA ?_  -- region 6 (line 93)
   refine mv rfl rfl ?_
   refine asg rfl rfl ?_
   refine zD ?_
   refine zB ?_
   refine zQ ?_
   refine yG rfl rfl ?_
   exact (Rp.Is.cast (Rp.Is.le ru_9 (Le.s (Le.t (Le.q (l := 250000002) (by omega))))) (by rw [ei]))

theorem o_cx_split1 {w0 : World} {h0 : Mem}  (hs : MLe h0 (mem w0)) {k : Nat} {vx : Value} {x : (List (T3 Rat))} (rx : (rpS (rpT (rpQ k))).Is h0 vx x)  :
    Calls Tryz.prog 60 #[vx] w0 (Ret w0 h0 (fun _ r => r = vB (True))) := by
 refine zP (n := 3) (e := []) (vs := [vx]) Tryz.func60 rfl rfl (Nat.le_of_ble_eq_true rfl) hs trivial ?_
 refine zC ?_
 refine zA ?_  -- region 0 (line 104)
 refine asg rfl rfl ?_
 refine zD ?_
 refine zB ?_
 refine zC ?_
 refine zA ?_  -- region 1 (line 104)
 refine asg rfl rfl ?_
 refine zD ?_
 refine zB ?_
 refine zQ ?_
 refine yG rfl rfl ?_
 exact (xT trivial).symm

set_option maxHeartbeats 1000000 in
theorem o_cx_parts {w0 : World} {h0 : Mem}  (hs : MLe h0 (mem w0)) {k : Nat} {vl : Value} {l : (List (T3 Rat))} (rl : (rpS (rpT (rpQ k))).Is h0 vl l) {vps : Value} {ps : (List ((T3 Rat) × Rat))} (rps : (rpS (rpP (rpT (rpQ 2)) (rpQ 2))).Is h0 vps ps) (hcd0 : k ≤ 140000) (hcd1 : l.length ≤ 1000) (hcd2 : ps.length ≤ 3)  :
    Calls Tryz.prog 59 #[vl, vps, vF 60 []] w0 (Ret w0 h0 (fun h r => (rpS (rpS (rpT (rpQ 250000002)))).Is h r (splitZ l ps))) := by
 refine zP (n := 66) (e := [(0, vl), (1, vps), (2, vF 60 [])]) (vs := [vl, vps, vF 60 []]) Tryz.func59 rfl rfl (Nat.le_of_ble_eq_true rfl) hs ⟨rfl, rfl, rfl, trivial⟩ ?_
 refine zC ?_
 refine zA ?_  -- region 0 (line 108)
 refine asg rfl rfl ?_
 refine zD ?_
 refine zB ?_
 refine zC ?_
 refine zC ?_
 refine zA ?_  -- region 1 (line 109)
 refine mv rfl rfl ?_
 refine gv (wJ Tryz.underlying27 rfl rl) rfl ?_
 refine gv (wC (q := 0) rfl rfl) rfl ?_
 refine zD ?_
 refine zB ?_
 refine zN rfl (fun hc17 => ?_) (fun hc17 => ?_)
 ·
  have hz : l.length = 0 := by omega
  refine zC ?_
  refine zA ?_  -- region 2 (line 110)
  refine asg rfl rfl ?_
  refine zD ?_
  refine zB ?_
  refine zQ ?_
  refine yE ?_
  refine yG rfl rfl ?_
  exact (Rp.Is.cast (is_nil _) (by exact (if_pos hz).symm))
 ·
  have hz : ¬ l.length = 0 := by omega
  refine zK ?_
  refine zB ?_
  refine zC ?_
  refine zA ?_  -- region 3 (line 112)
  refine mv rfl rfl ?_
  refine zL (yO (ρ := (rpS (rpT (rpQ (k + 1))))) (m := 1) (xs := [l]) (ps' := [(0, _)]) Tryz.underlying50 info27 rfl rfl rfl zr_s ⟨rfl, rfl, trivial⟩ (yQ rfl (Pc.arr (Pc.here _) [] 0 (by decide)) (rl.le (Le.s (Le.t (Le.q (l := k + 1) (by omega))))) xM) (show 1 * 1 ≤ 16777216 from by decide) (show 0 < 1 from by decide)) rfl rfl rfl ?_
  intro v19 q19 hq19
  obtain ⟨cs19, rfl, rl19⟩ := hq19
  refine asg rfl rfl ?_
  refine zD ?_
  refine zB ?_
  refine zC ?_
  refine zC ?_
  refine zA ?_  -- region 4 (line 113)
  refine mv rfl rfl ?_
  refine gv (wJ Tryz.underlying52 rfl rps) rfl ?_
  refine mv (v := vI (0)) rfl rfl ?_
  refine zD ?_
  refine zB ?_
  refine zR ?_
  refine wH (ι := Nat × Nat × Value × List Value × Mem) (fun (i, kk, s7_10, cs_11, ma) => MLe h0 ma ∧ (RL (rpS (rpT (rpQ kk))) ma cs_11 (yU l ps i) ∧ ((i = 0 ∧ kk ≤ 140001) ∨ (i = 1 ∧ kk ≤ 1700000) ∨ (i = 2 ∧ kk ≤ 20500000) ∨ (i = 3 ∧ kk ≤ 250000000)) ∧ i ≤ ps.length)) (fun (i, kk, s7_10, cs_11, ma) => [(2, vF 60 []), (7, s7_10), (20, vps), (21, vI (↑(ps).length : Int)), (22, vI ↑i)]) (fun (i, kk, s7_10, cs_11, ma) => [.gs 27 1 s7_10 (yU l ps i).length cs_11]) (fun (i, kk, s7_10, cs_11, ma) => ma) (fun (i, kk, s7_10, cs_11, ma) => ps.length - i) (0, (k + 1), v19, cs19, h0) ?_ ⟨rfl, rfl, rfl, rfl, rfl, trivial⟩ rfl rfl ?_
  ·
   refine ⟨MLe.refl _, ?_⟩
   refine ⟨rl19, ?_⟩
   exact ⟨.inl ⟨rfl, by omega⟩, by omega⟩
  ·
   intro x hx
   obtain ⟨i, kk, s7_10, cs_11, ma⟩ := x
   obtain ⟨hmma, hinv⟩ := hx
   show GC _ _ _ _ _ _ [(2, vF 60 []), (7, s7_10), (20, vps), (21, vI (↑(ps).length : Int)), (22, vI ↑i)] [.gs 27 1 s7_10 (yU l ps i).length cs_11] ma
   obtain ⟨rl_12, hinv⟩ := hinv
   obtain ⟨hkc, hi1⟩ := hinv
   have hsb := split_b (l := l) (ps := ps) (i := i) (by omega)
   have hsb1 := hsb.1
   refine zC ?_
   refine zA ?_  -- region 5 (line 113)
   refine gv (zW rfl rfl) rfl ?_
   refine zD ?_
   refine zB ?_
   refine zC ?_
   refine zN rfl (fun hc23 => ?_) (fun hc23 => ?_)
   ·
    refine zK ?_
    refine zB ?_
    refine zC ?_
    refine zR ?_
    refine zC ?_
    refine zA ?_  -- region 6 (line 113)
    replace rps := rps.mono hmma
    refine gl_x (F := fun v_ => AtP (rpP (rpT (rpQ 2)) (rpQ 2)) ma v_ (ps.getD i ((T3.mk (0 : Rat) (0 : Rat) (0 : Rat)), (0 : Rat)))) (ox_idx_s ((T3.mk (0 : Rat) (0 : Rat) (0 : Rat)), (0 : Rat)) i Tryz.underlying52 ty34 rfl rfl rps rfl (by omega) (show 0 < 12 from by decide)) mem0 rfl ?_
    intro v24 r24
    refine gl_x (F := fun v_ => (rpP (rpT (rpQ 2)) (rpQ 2)).Is ma v_ (ps.getD i ((T3.mk (0 : Rat) (0 : Rat) (0 : Rat)), (0 : Rat)))) (wY ty34 rfl r24) mem0 rfl ?_
    intro v25 r25
    refine zL (xE (ρ := (rpP (rpT (rpQ 1)) (rpQ 1))) (X := ((T3.mk (0 : Rat) (0 : Rat) (0 : Rat)), (0 : Rat))) info34 rfl rfl (zr_p (zr_t (zr_q (by decide))) (zr_q (by decide)))) rfl rfl rfl ?_
    intro v9 q9 hq9
    obtain ⟨b9, cs9, rfl, rfl, rb9⟩ := hq9
    have rw_13 := (Le.p (Le.t (Le.q (l := 2) (by decide))) (Le.q (l := 2) (by decide))).R rb9
    refine wE (A := []) (F := fun c_ => (rpP (rpT (rpQ 2)) (rpQ 2)).R ma c_ (ps.getD i ((T3.mk (0 : Rat) (0 : Rat) (0 : Rat)), (0 : Rat)))) (yJ Tryz.sizeOf34 (Pc.here _) rfl rfl rfl rw_13 r25 rfl) ?_
    intro cs_14 rb_15
    refine zD ?_
    refine zB ?_
    refine zC ?_
    refine zA ?_  -- region 7 (line 114)
    refine asg rfl rfl ?_
    refine zD ?_
    refine zB ?_
    refine zC ?_
    refine zC ?_
    refine zA ?_  -- region 8 (line 115)
    refine mv rfl rfl ?_
    refine gv (ov_len_os (.tail _ (.head _)) Tryz.underlying50 rfl) rfl ?_
    refine mv (v := vI (0)) rfl rfl ?_
    refine zD ?_
    refine zB ?_
    refine zR ?_
    refine gc_nilown 27 1 ?_
    have rl_16 : RL (rpS (rpT (rpQ (12 * kk + 86)))) ma [] ([] : List (List (T3 Rat))) := RL.nil
    refine wH (ι := Nat × List (List (T3 Rat)) × Value × List Value × Mem) (fun (j, NX, s10_17, cs_18, mb) => MLe ma mb ∧ (RL (rpS (rpT (rpQ (12 * kk + 86)))) mb cs_18 NX ∧ j ≤ (yU l ps i).length ∧ NX = partsTo (gpl ps i) (yU l ps i) j)) (fun (j, NX, s10_17, cs_18, mb) => [(2, vF 60 []), (9, vP b9 0), (10, s10_17), (20, vps), (21, vI (↑(ps).length : Int)), (22, vI ↑i), (26, s7_10), (27, vI (↑(yU l ps i).length : Int)), (28, vI ↑j)]) (fun (j, NX, s10_17, cs_18, mb) => [.gs 27 1 s10_17 NX.length cs_18, .var b9 34 cs_14, .gs 27 1 s7_10 (yU l ps i).length cs_11]) (fun (j, NX, s10_17, cs_18, mb) => mb) (fun (j, NX, s10_17, cs_18, mb) => (yU l ps i).length - j) (0, [], (.slice none 0 0), [], ma) ?_ ⟨rfl, rfl, rfl, rfl, rfl, rfl, rfl, rfl, rfl, trivial⟩ rfl rfl ?_
    ·
     refine ⟨MLe.refl _, ?_⟩
     refine ⟨rl_16, ?_⟩
     exact ⟨by omega, rfl⟩
    ·
     intro x hx
     obtain ⟨j, NX, s10_17, cs_18, mb⟩ := x
     obtain ⟨hmmb, hinv⟩ := hx
     show GC _ _ _ _ _ _ [(2, vF 60 []), (9, vP b9 0), (10, s10_17), (20, vps), (21, vI (↑(ps).length : Int)), (22, vI ↑i), (26, s7_10), (27, vI (↑(yU l ps i).length : Int)), (28, vI ↑j)] [.gs 27 1 s10_17 NX.length cs_18, .var b9 34 cs_14, .gs 27 1 s7_10 (yU l ps i).length cs_11] mb
     obtain ⟨rl_19, hinv⟩ := hinv
     obtain ⟨hj1, hP⟩ := hinv
     have hpl := hsb.2 j
     have hNl : NX.length ≤ 2 * j := by rw [hP]; exact parts_count _ _ _
     refine zC ?_
     refine zA ?_  -- region 9 (line 115)
     refine gv (zW rfl rfl) rfl ?_
     refine zD ?_
     refine zB ?_
     refine zC ?_
     refine zN rfl (fun hc29 => ?_) (fun hc29 => ?_)
     ·
      refine zK ?_
      refine zB ?_
      refine zC ?_
      refine zR ?_
      refine zC ?_
      refine zA ?_  -- region 10 (line 115)
      refine gv ((vG j (.tail _ (.tail _ (.head _))) Tryz.underlying50 Tryz.sizeOf27 rfl rfl rfl (by first | omega | (simp only [List.length_append, List.length_cons, List.length_nil, List.length_replicate, List.length_set]; omega)) (show 0 < 1 from by decide)).cv (show _ = xH 1 s7_10 ((j * 1 + 0)) from congrArg (xH 1 s7_10) (by rfl))) rfl ?_
      replace rl_12 := rl_12.mono hmmb
      refine gl_x (F := fun v_ => (rpS (rpT (rpQ kk))).Is mb v_ ((yU l ps i).getD j [])) (ox_load_os ty27 (Pc.arr (Pc.here _) [] j (by first | omega | (simp only [List.length_append, List.length_cons, List.length_nil, List.length_replicate, List.length_set]; omega))) rfl (show 0 < 1 from by decide) rfl rl_12 rfl) (mem1 (.tail _ (.tail _ (.head _)))) rfl ?_
      intro v31 r31
      refine asg rfl rfl ?_
      refine zD ?_
      refine zB ?_
      refine zC ?_
      refine zA ?_  -- region 11 (line 116)
      refine mv rfl rfl ?_
      replace rb_15 := rb_15.mono hmmb
      refine gl_x (F := fun v_ => (rpP (rpT (rpQ 2)) (rpQ 2)).Is mb v_ (ps.getD i ((T3.mk (0 : Rat) (0 : Rat) (0 : Rat)), (0 : Rat)))) (zE ty34 (Pc.here _) rfl rfl rb_15 rfl) (mem1 (.tail _ (.head _))) rfl ?_
      intro v34 r34
      refine zM (vs := [_, _]) rfl rfl rfl rfl Tryz.call47 ⟨rfl, rfl, trivial⟩ (fun w hs => o_cx_halves hs r31 r34 (by omega) (by decide) (by decide) (by omega)) ?_
      intro v35 h1 hh1 r35
      obtain ⟨v35_0, v35_1, rfl, r35_0, r35_1⟩ := r35
      change (rpS (rpT (rpQ (12 * kk + 3 * 2 + 9 * 2 + 62)))).Is h1 v35_0 (cutB (ps.getD i ((T3.mk (0 : Rat) (0 : Rat) (0 : Rat)), (0 : Rat))) ((yU l ps i).getD j [])) at r35_0
      replace r35_0 := Rp.Is.le r35_0 (Le.s (Le.t (Le.q (l := 12 * kk + 86) (by omega))))
      change (rpS (rpT (rpQ (12 * kk + 3 * 2 + 9 * 2 + 62)))).Is h1 v35_1 (cutF (ps.getD i ((T3.mk (0 : Rat) (0 : Rat) (0 : Rat)), (0 : Rat))) ((yU l ps i).getD j [])) at r35_1
      replace r35_1 := Rp.Is.le r35_1 (Le.s (Le.t (Le.q (l := 12 * kk + 86) (by omega))))
      refine mv rfl rfl ?_
      refine gv (zO (vs := [_, _]) rfl rfl) rfl ?_
      refine gv (zO (vs := [_, _]) rfl rfl) rfl ?_
      refine asg rfl rfl ?_
      refine asg rfl rfl ?_
      refine zD ?_
      refine zJ (e' := [(2, _), (9, _), (10, _), (20, _), (21, _), (22, _), (26, _), (27, _), (28, _), (13, _), (14, _)]) ⟨rfl, rfl, rfl, rfl, rfl, rfl, rfl, rfl, rfl, rfl, rfl, trivial⟩ ?_
      refine zB ?_
      refine zC ?_
      refine zC ?_
      refine zA ?_  -- region 12 (line 117)
      refine mv rfl rfl ?_
      refine gv (wJ Tryz.underlying27 rfl r35_0) rfl ?_
      refine gv (vD (q := 0) rfl rfl) rfl ?_
      refine vM (ι := Mem) 5 (fun m_ => MLe h1 m_) (fun _ => [(45, vB (((0 : Int) < (↑(cutB (ps.getD i ((T3.mk (0 : Rat) (0 : Rat) (0 : Rat)), (0 : Rat))) ((yU l ps i).getD j [])).length : Int)) ∧ (True))), (2, vF 60 []), (9, vP b9 0), (10, s10_17), (20, vps), (21, vI (↑(ps).length : Int)), (22, vI ↑i), (26, s7_10), (27, vI (↑(yU l ps i).length : Int)), (28, vI ↑j), (13, v35_0), (14, v35_1)]) (fun _ => [.gs 27 1 s10_17 NX.length cs_18, .var b9 34 cs_14, .gs 27 1 s7_10 (yU l ps i).length cs_11]) (fun m_ => m_) ?_ ?_
      ·
       refine wI ((0 : Int) < (↑(cutB (ps.getD i ((T3.mk (0 : Rat) (0 : Rat) (0 : Rat)), (0 : Rat))) ((yU l ps i).getD j [])).length : Int)) (fun hg => ?_) (fun hg => ?_)
       ·
        refine xK (zG (v := .bool true) (congrArg some (xT hg))) rfl rfl rfl ?_
        refine yW rfl rfl rfl ?_
        refine mv rfl rfl ?_
        refine yW rfl rfl rfl ?_
        refine mv rfl rfl ?_
        refine yW rfl rfl rfl ?_
        refine gl_enter (enters_v (vs := [_]) Tryz.call60 rfl ⟨rfl, trivial⟩) rfl rfl rfl (fun w hs => o_cx_split1 hs r35_0) ?_
        intro v44 h2 hh2 r44
        obtain rfl : v44 = vB (True) := r44
        refine gv (xR rfl rfl) rfl ?_
        refine zD ?_
        refine yP h2 hh2 ⟨?_, rfl, rfl, rfl, rfl, rfl, rfl, rfl, rfl, rfl, rfl, rfl, trivial⟩ rfl rfl
        exact congrArg some (vB_and_t hg)
       ·
        refine xK (zG (v := .bool false) (congrArg some (xD hg))) rfl rfl rfl ?_
        refine yM rfl rfl rfl rfl rfl rfl ?_
        refine yM rfl rfl rfl rfl rfl rfl ?_
        refine yM rfl rfl rfl rfl rfl rfl ?_
        refine gv (xU rfl rfl) rfl ?_
        refine zD ?_
        refine yP h1 (MLe.refl _) ⟨?_, rfl, rfl, rfl, rfl, rfl, rfl, rfl, rfl, rfl, rfl, rfl, trivial⟩ rfl rfl
        exact congrArg some (vB_and_f hg)
      ·
       intro mg12_3 hmmg12_3
       show GL _ _ _ _ _ _ _ [(45, vB (((0 : Int) < (↑(cutB (ps.getD i ((T3.mk (0 : Rat) (0 : Rat) (0 : Rat)), (0 : Rat))) ((yU l ps i).getD j [])).length : Int)) ∧ (True))), (2, vF 60 []), (9, vP b9 0), (10, s10_17), (20, vps), (21, vI (↑(ps).length : Int)), (22, vI ↑i), (26, s7_10), (27, vI (↑(yU l ps i).length : Int)), (28, vI ↑j), (13, v35_0), (14, v35_1)] [.gs 27 1 s10_17 NX.length cs_18, .var b9 34 cs_14, .gs 27 1 s7_10 (yU l ps i).length cs_11] mg12_3
       refine zD ?_
       refine zB ?_
       refine zN rfl (fun hc45 => ?_) (fun hc45 => ?_)
       ·
        have hq1 : 0 < (cutB (ps.getD i (T3.mk (0 : Rat) (0 : Rat) (0 : Rat), (0 : Rat))) ((yU l ps i).getD j [])).length := by have h := hc45.1; omega
        refine zA ?_  -- region 13 (line 118)
        refine mv rfl rfl ?_
        refine mv rfl rfl ?_
        replace r35_0 := r35_0.mono hmmg12_3
        refine zL (yO (ρ := (rpS (rpT (rpQ (12 * kk + 86))))) (m := 1) (xs := [cutB (ps.getD i ((T3.mk (0 : Rat) (0 : Rat) (0 : Rat)), (0 : Rat))) ((yU l ps i).getD j [])]) (ps' := [(0, _)]) Tryz.underlying50 info27 rfl rfl rfl zr_s ⟨rfl, rfl, trivial⟩ (yQ rfl (Pc.arr (Pc.here _) [] 0 (by decide)) r35_0 xM) (show 1 * 1 ≤ 16777216 from by decide) (show 0 < 1 from by decide)) rfl rfl rfl ?_
        intro v48 q48 hq48
        obtain ⟨cs48, rfl, rl48⟩ := hq48
        refine vQ (A := []) (ρ := (rpS (rpT (rpQ (12 * kk + 86))))) rl48 ?_
        intro h2 hh2 rs_20
        replace rl_19 := rl_19.mono ((hh1.trans hmmg12_3).trans hh2)
        refine vO (A := []) (yD (ρ := (rpS (rpT (rpQ (12 * kk + 86))))) (bytes := 24) Tryz.underlying50 info27 rfl rfl rfl rfl (show 0 < 1 from by decide) rfl rfl rl_19 rs_20 (by first | omega | (simp only [List.length_append, List.length_cons, List.length_nil, List.length_replicate, List.length_set]; omega)) (by first | omega | (simp only [List.length_append, List.length_cons, List.length_nil, List.length_replicate, List.length_set]; omega))) rfl rfl rfl ?_
        intro v49 q49 hq49
        obtain ⟨cs49, rfl, rl49⟩ := hq49
        refine asg rfl rfl ?_
        refine zD ?_
        refine zB ?_
        refine zC ?_
        refine zA ?_  -- region 14 (line 120)
        refine mv rfl rfl ?_
        replace r35_1 := r35_1.mono (hmmg12_3.trans hh2)
        refine gv (wJ Tryz.underlying27 rfl r35_1) rfl ?_
        refine gv (vD (q := 0) rfl rfl) rfl ?_
        refine vM (ι := Mem) 5 (fun m_ => MLe h2 m_) (fun _ => [(57, vB (((0 : Int) < (↑(cutF (ps.getD i ((T3.mk (0 : Rat) (0 : Rat) (0 : Rat)), (0 : Rat))) ((yU l ps i).getD j [])).length : Int)) ∧ (True))), (2, vF 60 []), (9, vP b9 0), (20, vps), (21, vI (↑(ps).length : Int)), (22, vI ↑i), (26, s7_10), (27, vI (↑(yU l ps i).length : Int)), (28, vI ↑j), (14, v35_1), (10, v49)]) (fun _ => [.gs 27 1 v49 (NX ++ [cutB (ps.getD i ((T3.mk (0 : Rat) (0 : Rat) (0 : Rat)), (0 : Rat))) ((yU l ps i).getD j [])]).length cs49, .var b9 34 cs_14, .gs 27 1 s7_10 (yU l ps i).length cs_11]) (fun m_ => m_) ?_ ?_
        ·
         refine wI ((0 : Int) < (↑(cutF (ps.getD i ((T3.mk (0 : Rat) (0 : Rat) (0 : Rat)), (0 : Rat))) ((yU l ps i).getD j [])).length : Int)) (fun hg => ?_) (fun hg => ?_)
         ·
          refine xK (zG (v := .bool true) (congrArg some (xT hg))) rfl rfl rfl ?_
          refine yW rfl rfl rfl ?_
          refine mv rfl rfl ?_
          refine yW rfl rfl rfl ?_
          refine mv rfl rfl ?_
          refine yW rfl rfl rfl ?_
          refine gl_enter (enters_v (vs := [_]) Tryz.call60 rfl ⟨rfl, trivial⟩) rfl rfl rfl (fun w hs => o_cx_split1 hs r35_1) ?_
          intro v56 h3 hh3 r56
          obtain rfl : v56 = vB (True) := r56
          refine gv (xR rfl rfl) rfl ?_
          refine zD ?_
          refine yP h3 hh3 ⟨?_, rfl, rfl, rfl, rfl, rfl, rfl, rfl, rfl, rfl, rfl, trivial⟩ rfl rfl
          exact congrArg some (vB_and_t hg)
         ·
          refine xK (zG (v := .bool false) (congrArg some (xD hg))) rfl rfl rfl ?_
          refine yM rfl rfl rfl rfl rfl rfl ?_
          refine yM rfl rfl rfl rfl rfl rfl ?_
          refine yM rfl rfl rfl rfl rfl rfl ?_
          refine gv (xU rfl rfl) rfl ?_
          refine zD ?_
          refine yP h2 (MLe.refl _) ⟨?_, rfl, rfl, rfl, rfl, rfl, rfl, rfl, rfl, rfl, rfl, trivial⟩ rfl rfl
          exact congrArg some (vB_and_f hg)
        ·
         intro mg14_3 hmmg14_3
         show GL _ _ _ _ _ _ _ [(57, vB (((0 : Int) < (↑(cutF (ps.getD i ((T3.mk (0 : Rat) (0 : Rat) (0 : Rat)), (0 : Rat))) ((yU l ps i).getD j [])).length : Int)) ∧ (True))), (2, vF 60 []), (9, vP b9 0), (20, vps), (21, vI (↑(ps).length : Int)), (22, vI ↑i), (26, s7_10), (27, vI (↑(yU l ps i).length : Int)), (28, vI ↑j), (14, v35_1), (10, v49)] [.gs 27 1 v49 (NX ++ [cutB (ps.getD i ((T3.mk (0 : Rat) (0 : Rat) (0 : Rat)), (0 : Rat))) ((yU l ps i).getD j [])]).length cs49, .var b9 34 cs_14, .gs 27 1 s7_10 (yU l ps i).length cs_11] mg14_3
         refine zD ?_
         refine zB ?_
         refine zN rfl (fun hc57 => ?_) (fun hc57 => ?_)
         ·
          have hq2 : 0 < (cutF (ps.getD i (T3.mk (0 : Rat) (0 : Rat) (0 : Rat), (0 : Rat))) ((yU l ps i).getD j [])).length := by have h := hc57.1; omega
          refine zA ?_  -- region 15 (line 121)
          refine mv rfl rfl ?_
          refine mv rfl rfl ?_
          replace r35_1 := r35_1.mono hmmg14_3
          refine zL (yO (ρ := (rpS (rpT (rpQ (12 * kk + 86))))) (m := 1) (xs := [cutF (ps.getD i ((T3.mk (0 : Rat) (0 : Rat) (0 : Rat)), (0 : Rat))) ((yU l ps i).getD j [])]) (ps' := [(0, _)]) Tryz.underlying50 info27 rfl rfl rfl zr_s ⟨rfl, rfl, trivial⟩ (yQ rfl (Pc.arr (Pc.here _) [] 0 (by decide)) r35_1 xM) (show 1 * 1 ≤ 16777216 from by decide) (show 0 < 1 from by decide)) rfl rfl rfl ?_
          intro v60 q60 hq60
          obtain ⟨cs60, rfl, rl60⟩ := hq60
          refine vQ (A := []) (ρ := (rpS (rpT (rpQ (12 * kk + 86))))) rl60 ?_
          intro h3 hh3 rs_21
          replace rl49 := rl49.mono (hmmg14_3.trans hh3)
          refine vO (A := []) (yD (ρ := (rpS (rpT (rpQ (12 * kk + 86))))) (bytes := 24) Tryz.underlying50 info27 rfl rfl rfl rfl (show 0 < 1 from by decide) rfl rfl rl49 rs_21 (by first | omega | (simp only [List.length_append, List.length_cons, List.length_nil, List.length_replicate, List.length_set]; omega)) (by first | omega | (simp only [List.length_append, List.length_cons, List.length_nil, List.length_replicate, List.length_set]; omega))) rfl rfl rfl ?_
          intro v61 q61 hq61
          obtain ⟨cs61, rfl, rl61⟩ := hq61
          refine asg rfl rfl ?_
          refine zD ?_
          refine yV ?_
          refine zB ?_
          refine zA ?_  -- region 16 (line 115)
          refine gv (zS (q := 1) rfl rfl (by omega) (by omega)) rfl ?_
          refine mv rfl rfl ?_
          refine zD ?_
          refine yL ((j + 1), ((NX ++ [cutB (ps.getD i ((T3.mk (0 : Rat) (0 : Rat) (0 : Rat)), (0 : Rat))) ((yU l ps i).getD j [])]) ++ [cutF (ps.getD i ((T3.mk (0 : Rat) (0 : Rat) (0 : Rat)), (0 : Rat))) ((yU l ps i).getD j [])]), v61, cs61, h3) ?_ ?_ ⟨rfl, rfl, rfl, rfl, rfl, rfl, rfl, rfl, rfl, trivial⟩ rfl rfl
          ·
           refine ⟨(((((hmmb.trans hh1).trans hmmg12_3).trans hh2).trans hmmg14_3).trans hh3), ?_⟩
           refine ⟨rl61, ?_⟩
           exact ⟨by omega, (by first | exact pp_bf hP hq1 hq2 | exact pp_b hP hq1 hq2 | exact pp_f hP hq1 hq2 | exact pp_n hP hq1 hq2)⟩
          ·
           dsimp only
           omega
         ·
          have hq2 : ¬ 0 < (cutF (ps.getD i (T3.mk (0 : Rat) (0 : Rat) (0 : Rat), (0 : Rat))) ((yU l ps i).getD j [])).length := by have h := hc57; simp only [and_true] at h; omega
          refine zK ?_
          refine yV ?_
          refine zB ?_
          refine zA ?_  -- region 16 (line 115)
          refine gv (zS (q := 1) rfl rfl (by omega) (by omega)) rfl ?_
          refine mv rfl rfl ?_
          refine zD ?_
          refine yL ((j + 1), (NX ++ [cutB (ps.getD i ((T3.mk (0 : Rat) (0 : Rat) (0 : Rat)), (0 : Rat))) ((yU l ps i).getD j [])]), v49, cs49, mg14_3) ?_ ?_ ⟨rfl, rfl, rfl, rfl, rfl, rfl, rfl, rfl, rfl, trivial⟩ rfl rfl
          ·
           refine ⟨((((hmmb.trans hh1).trans hmmg12_3).trans hh2).trans hmmg14_3), ?_⟩
           replace rl49 := rl49.mono hmmg14_3
           refine ⟨rl49, ?_⟩
           exact ⟨by omega, (by first | exact pp_bf hP hq1 hq2 | exact pp_b hP hq1 hq2 | exact pp_f hP hq1 hq2 | exact pp_n hP hq1 hq2)⟩
          ·
           dsimp only
           omega
       ·
        have hq1 : ¬ 0 < (cutB (ps.getD i (T3.mk (0 : Rat) (0 : Rat) (0 : Rat), (0 : Rat))) ((yU l ps i).getD j [])).length := by have h := hc45; simp only [and_true] at h; omega
        refine zK ?_
        refine zB ?_
        refine zC ?_
        refine zA ?_  -- region 14 (line 120)
        refine mv rfl rfl ?_
        replace r35_1 := r35_1.mono hmmg12_3
        refine gv (wJ Tryz.underlying27 rfl r35_1) rfl ?_
        refine gv (vD (q := 0) rfl rfl) rfl ?_
        refine vM (ι := Mem) 5 (fun m_ => MLe mg12_3 m_) (fun _ => [(57, vB (((0 : Int) < (↑(cutF (ps.getD i ((T3.mk (0 : Rat) (0 : Rat) (0 : Rat)), (0 : Rat))) ((yU l ps i).getD j [])).length : Int)) ∧ (True))), (2, vF 60 []), (9, vP b9 0), (10, s10_17), (20, vps), (21, vI (↑(ps).length : Int)), (22, vI ↑i), (26, s7_10), (27, vI (↑(yU l ps i).length : Int)), (28, vI ↑j), (14, v35_1)]) (fun _ => [.gs 27 1 s10_17 NX.length cs_18, .var b9 34 cs_14, .gs 27 1 s7_10 (yU l ps i).length cs_11]) (fun m_ => m_) ?_ ?_
        ·
         refine wI ((0 : Int) < (↑(cutF (ps.getD i ((T3.mk (0 : Rat) (0 : Rat) (0 : Rat)), (0 : Rat))) ((yU l ps i).getD j [])).length : Int)) (fun hg => ?_) (fun hg => ?_)
         ·
          refine xK (zG (v := .bool true) (congrArg some (xT hg))) rfl rfl rfl ?_
          refine yW rfl rfl rfl ?_
          refine mv rfl rfl ?_
          refine yW rfl rfl rfl ?_
          refine mv rfl rfl ?_
          refine yW rfl rfl rfl ?_
          refine gl_enter (enters_v (vs := [_]) Tryz.call60 rfl ⟨rfl, trivial⟩) rfl rfl rfl (fun w hs => o_cx_split1 hs r35_1) ?_
          intro v56 h2 hh2 r56
          obtain rfl : v56 = vB (True) := r56
          refine gv (xR rfl rfl) rfl ?_
          refine zD ?_
          refine yP h2 hh2 ⟨?_, rfl, rfl, rfl, rfl, rfl, rfl, rfl, rfl, rfl, rfl, trivial⟩ rfl rfl
          exact congrArg some (vB_and_t hg)
         ·
          refine xK (zG (v := .bool false) (congrArg some (xD hg))) rfl rfl rfl ?_
          refine yM rfl rfl rfl rfl rfl rfl ?_
          refine yM rfl rfl rfl rfl rfl rfl ?_
          refine yM rfl rfl rfl rfl rfl rfl ?_
          refine gv (xU rfl rfl) rfl ?_
          refine zD ?_
          refine yP mg12_3 (MLe.refl _) ⟨?_, rfl, rfl, rfl, rfl, rfl, rfl, rfl, rfl, rfl, rfl, trivial⟩ rfl rfl
          exact congrArg some (vB_and_f hg)
        ·
         intro mg14_3 hmmg14_3
         show GL _ _ _ _ _ _ _ [(57, vB (((0 : Int) < (↑(cutF (ps.getD i ((T3.mk (0 : Rat) (0 : Rat) (0 : Rat)), (0 : Rat))) ((yU l ps i).getD j [])).length : Int)) ∧ (True))), (2, vF 60 []), (9, vP b9 0), (10, s10_17), (20, vps), (21, vI (↑(ps).length : Int)), (22, vI ↑i), (26, s7_10), (27, vI (↑(yU l ps i).length : Int)), (28, vI ↑j), (14, v35_1)] [.gs 27 1 s10_17 NX.length cs_18, .var b9 34 cs_14, .gs 27 1 s7_10 (yU l ps i).length cs_11] mg14_3
         refine zD ?_
         refine zB ?_
         refine zN rfl (fun hc57 => ?_) (fun hc57 => ?_)
         ·
          have hq2 : 0 < (cutF (ps.getD i (T3.mk (0 : Rat) (0 : Rat) (0 : Rat), (0 : Rat))) ((yU l ps i).getD j [])).length := by have h := hc57.1; omega
          refine zA ?_  -- region 15 (line 121)
          refine mv rfl rfl ?_
          refine mv rfl rfl ?_
          replace r35_1 := r35_1.mono hmmg14_3
          refine zL (yO (ρ := (rpS (rpT (rpQ (12 * kk + 86))))) (m := 1) (xs := [cutF (ps.getD i ((T3.mk (0 : Rat) (0 : Rat) (0 : Rat)), (0 : Rat))) ((yU l ps i).getD j [])]) (ps' := [(0, _)]) Tryz.underlying50 info27 rfl rfl rfl zr_s ⟨rfl, rfl, trivial⟩ (yQ rfl (Pc.arr (Pc.here _) [] 0 (by decide)) r35_1 xM) (show 1 * 1 ≤ 16777216 from by decide) (show 0 < 1 from by decide)) rfl rfl rfl ?_
          intro v60 q60 hq60
          obtain ⟨cs60, rfl, rl60⟩ := hq60
          refine vQ (A := []) (ρ := (rpS (rpT (rpQ (12 * kk + 86))))) rl60 ?_
          intro h2 hh2 rs_22
          replace rl_19 := rl_19.mono (((hh1.trans hmmg12_3).trans hmmg14_3).trans hh2)
          refine vO (A := []) (yD (ρ := (rpS (rpT (rpQ (12 * kk + 86))))) (bytes := 24) Tryz.underlying50 info27 rfl rfl rfl rfl (show 0 < 1 from by decide) rfl rfl rl_19 rs_22 (by first | omega | (simp only [List.length_append, List.length_cons, List.length_nil, List.length_replicate, List.length_set]; omega)) (by first | omega | (simp only [List.length_append, List.length_cons, List.length_nil, List.length_replicate, List.length_set]; omega))) rfl rfl rfl ?_
          intro v61 q61 hq61
          obtain ⟨cs61, rfl, rl61⟩ := hq61
          refine asg rfl rfl ?_
          refine zD ?_
          refine yV ?_
          refine zB ?_
          refine zA ?_  -- region 16 (line 115)
          refine gv (zS (q := 1) rfl rfl (by omega) (by omega)) rfl ?_
          refine mv rfl rfl ?_
          refine zD ?_
          refine yL ((j + 1), (NX ++ [cutF (ps.getD i ((T3.mk (0 : Rat) (0 : Rat) (0 : Rat)), (0 : Rat))) ((yU l ps i).getD j [])]), v61, cs61, h2) ?_ ?_ ⟨rfl, rfl, rfl, rfl, rfl, rfl, rfl, rfl, rfl, trivial⟩ rfl rfl
          ·
           refine ⟨((((hmmb.trans hh1).trans hmmg12_3).trans hmmg14_3).trans hh2), ?_⟩
           refine ⟨rl61, ?_⟩
           exact ⟨by omega, (by first | exact pp_bf hP hq1 hq2 | exact pp_b hP hq1 hq2 | exact pp_f hP hq1 hq2 | exact pp_n hP hq1 hq2)⟩
          ·
           dsimp only
           omega
         ·
          have hq2 : ¬ 0 < (cutF (ps.getD i (T3.mk (0 : Rat) (0 : Rat) (0 : Rat), (0 : Rat))) ((yU l ps i).getD j [])).length := by have h := hc57; simp only [and_true] at h; omega
          refine zK ?_
          refine yV ?_
          refine zB ?_
          refine zA ?_  -- region 16 (line 115)
          refine gv (zS (q := 1) rfl rfl (by omega) (by omega)) rfl ?_
          refine mv rfl rfl ?_
          refine zD ?_
          refine yL ((j + 1), NX, s10_17, cs_18, mg14_3) ?_ ?_ ⟨rfl, rfl, rfl, rfl, rfl, rfl, rfl, rfl, rfl, trivial⟩ rfl rfl
          ·
           refine ⟨(((hmmb.trans hh1).trans hmmg12_3).trans hmmg14_3), ?_⟩
           replace rl_19 := rl_19.mono ((hh1.trans hmmg12_3).trans hmmg14_3)
           refine ⟨rl_19, ?_⟩
           exact ⟨by omega, (by first | exact pp_bf hP hq1 hq2 | exact pp_b hP hq1 hq2 | exact pp_f hP hq1 hq2 | exact pp_n hP hq1 hq2)⟩
          ·
           dsimp only
           omega
     ·
      have hPe : NX = yU l ps (i + 1) := by rw [hP, show j = (yU l ps i).length by omega]; rfl
      subst hPe
      refine xG ?_
      refine yB ?_
      refine yB ?_
      refine xF ?_
      refine zB ?_
      refine zA ?_  -- region 17 (line 124)
      refine mv rfl rfl ?_
      refine asg rfl rfl ?_
      refine zD ?_
      refine yV ?_
      refine zB ?_
      refine zA ?_  -- region 18 (line 113)
      refine gv (zS (q := 1) rfl rfl (by omega) (by omega)) rfl ?_
      refine mv rfl rfl ?_
      refine zD ?_
      refine yX (A := [_]) ?_
      refine yX (A := [_]) ?_
      refine yL ((i + 1), (12 * kk + 86), s10_17, cs_18, mb) ?_ ?_ ⟨rfl, rfl, rfl, rfl, rfl, trivial⟩ rfl rfl
      ·
       refine ⟨(hmma.trans hmmb), ?_⟩
       replace rl := rl.mono (hmma.trans hmmb)
       refine ⟨(Le.rl (Le.s (Le.t (Le.q (by omega)))) rl_19), ?_⟩
       exact ⟨by omega, by omega⟩
      ·
       dsimp only
       omega
   ·
    have ei : i = ps.length := by omega
    refine xG ?_
    refine yB ?_
    refine yB ?_
    refine xF ?_
    refine zB ?_
    refine zC ?_
    refine zA ?_  -- region 19 (line 126)
    refine mv rfl rfl ?_
    refine asg rfl rfl ?_
    refine zD ?_
    refine zB ?_
    refine zQ ?_
    refine gq_freezex (A := []) (ρ := (rpS (rpT (rpQ kk)))) rl_12 ?_
    intro h1 hh1 rs_23
    refine yG rfl rfl ?_
    exact (Rp.Is.cast (Rp.Is.le rs_23 (Le.s (Le.s (Le.t (Le.q (l := 250000002) (by omega)))))) (by rw [ei]; exact (if_neg hz).symm))

theorem o_cx_split {w0 : World} {h0 : Mem}  (hs : MLe h0 (mem w0)) {k : Nat} {vl : Value} {l : (List (T3 Rat))} (rl : (rpS (rpT (rpQ k))).Is h0 vl l) {vps : Value} {ps : (List ((T3 Rat) × Rat))} (rps : (rpS (rpP (rpT (rpQ 2)) (rpQ 2))).Is h0 vps ps) (hcd0 : k ≤ 140000) (hcd1 : l.length ≤ 1000) (hcd2 : ps.length ≤ 3)  :
    Calls Tryz.prog 27 #[vl, vps] w0 (Ret w0 h0 (fun h r => (rpS (rpS (rpT (rpQ 250000004)))).Is h r (splitZ l ps))) := by
 have hsl := splitZ_len (l := l) (ps := ps) (by omega)
 have hsm := splitZ_mem (l := l) (ps := ps) (by omega)
 refine zP (n := 9) (e := [(0, vl), (1, vps)]) (vs := [vl, vps]) Tryz.func27 rfl rfl (Nat.le_of_ble_eq_true rfl) hs ⟨rfl, rfl, trivial⟩ ?_
 refine zC ?_
 refine zA ?_  -- region 0 (line 103)
 refine asg rfl rfl ?_
 refine zD ?_
 refine zB ?_
 refine zC ?_
 refine zA ?_  -- region 1 (line 104)
 refine mv rfl rfl ?_
 refine mv rfl rfl ?_
 refine zM (vs := [_, _, _]) rfl rfl rfl rfl Tryz.call59 ⟨rfl, rfl, rfl, trivial⟩ (fun w hs => o_cx_parts hs rl rps (by omega) (by omega) (by omega)) ?_
 intro v7 h1 hh1 r7
 change (rpS (rpS (rpT (rpQ 250000002)))).Is h1 v7 (splitZ l ps) at r7
 refine zM (vs := [_]) rfl rfl rfl rfl Tryz.call58 ⟨rfl, trivial⟩ (fun w hs => o_own_loops hs r7 (by decide) (by first | omega | exact fun x hx => Nat.le_trans (hsm x hx) (by omega)) (by first | omega | exact fun x hx => Nat.le_trans (hsm x hx) (by omega))) ?_
 intro v8 h2 hh2 r8
 change (rpS (rpS (rpT (rpQ (250000002 + 2))))).Is h2 v8 (splitZ l ps) at r8
 replace r8 := Rp.Is.le r8 (Le.s (Le.s (Le.t (Le.q (l := 250000004) (by omega)))))
 refine asg rfl rfl ?_
 refine zD ?_
 refine zB ?_
 refine zQ ?_
 refine yG rfl rfl ?_
 exact r8

set_option maxHeartbeats 1000000 in
theorem o_r6_split {w0 : World} {h0 : Mem}  (hs : MLe h0 (mem w0)) {k : Nat} {vl : Value} {l : (List (T3 Rat))} (rl : (rpS (rpT (rpQ k))).Is h0 vl l) {vps : Value} {ps : (List ((T3 Rat) × Rat))} (rps : (rpS (rpP (rpT (rpQ 2)) (rpQ 2))).Is h0 vps ps) (hcd0 : k ≤ 140000) (hcd1 : l.length ≤ 1000) (hcd2 : ps.length ≤ 3)  :
    Calls Tryz.prog 30 #[vl, vps] w0 (Ret w0 h0 (fun h r => (rpS (rpS (rpT (rpQ 250000002)))).Is h r (splitZ l ps))) := by
 refine zP (n := 57) (e := [(0, vl), (1, vps)]) (vs := [vl, vps]) Tryz.func30 rfl rfl (Nat.le_of_ble_eq_true rfl) hs ⟨rfl, rfl, trivial⟩ ?_
 refine zC ?_
 refine zA ?_  -- region 0 (line 97)
 refine asg rfl rfl ?_
 refine zD ?_
 refine zB ?_
 refine zC ?_
 refine zC ?_
 refine zA ?_  -- region 1 (line 98)
 refine mv rfl rfl ?_
 refine gv (wJ Tryz.underlying27 rfl rl) rfl ?_
 refine gv (wC (q := 0) rfl rfl) rfl ?_
 refine zD ?_
 refine zB ?_
 refine zN rfl (fun hc13 => ?_) (fun hc13 => ?_)
 ·
  have hz : l.length = 0 := by omega
  refine zC ?_
  refine zA ?_  -- region 2 (line 99)
  refine asg rfl rfl ?_
  refine zD ?_
  refine zB ?_
  refine zQ ?_
  refine yE ?_
  refine yG rfl rfl ?_
  exact (Rp.Is.cast (is_nil _) (by exact (if_pos hz).symm))
 ·
  have hz : ¬ l.length = 0 := by omega
  refine zK ?_
  refine zB ?_
  refine zC ?_
  refine zA ?_  -- region 3 (line 101)
  refine mv rfl rfl ?_
  refine gl_nilown 32 9 ?_
  have rl_24 : RL (rpT (rpQ k)) h0 [] ([] : List (T3 Rat)) := RL.nil
  refine vO (A := []) (yD (ρ := (rpT (rpQ k))) (bytes := 168) Tryz.underlying27 yC rfl rfl rfl rfl (show 0 < 9 from by decide) rfl rfl rl_24 rl (by first | omega | (simp only [List.length_append, List.length_cons, List.length_nil, List.length_replicate, List.length_set]; omega)) (by first | omega | (simp only [List.length_append, List.length_cons, List.length_nil, List.length_replicate, List.length_set]; omega))) rfl rfl rfl ?_
  intro v15 q15 hq15
  obtain ⟨cs15, rfl, rl15⟩ := hq15
  refine vQ (A := []) (ρ := (rpT (rpQ k))) rl15 ?_
  intro h1 hh1 rs_25
  refine zL (yO (ρ := (rpS (rpT (rpQ (k + 1))))) (m := 1) (xs := [(([] : List (T3 Rat)) ++ l)]) (ps' := [(0, _)]) Tryz.underlying50 info27 rfl rfl rfl zr_s ⟨rfl, rfl, trivial⟩ (yQ rfl (Pc.arr (Pc.here _) [] 0 (by decide)) (rs_25.le (Le.s (Le.t (Le.q (l := k + 1) (by omega))))) xM) (show 1 * 1 ≤ 16777216 from by decide) (show 0 < 1 from by decide)) rfl rfl rfl ?_
  intro v16 q16 hq16
  obtain ⟨cs16, rfl, rl16⟩ := hq16
  refine asg rfl rfl ?_
  refine zD ?_
  refine zB ?_
  refine zC ?_
  refine zC ?_
  refine zA ?_  -- region 4 (line 102)
  refine asg (v := vI (0)) rfl rfl ?_
  refine zD ?_
  refine zB ?_
  refine zR ?_
  refine wH (ι := Nat × Nat × Value × List Value × Mem) (fun (i, kk, s5_26, cs_27, ma) => MLe h1 ma ∧ (RL (rpS (rpT (rpQ kk))) ma cs_27 (yU l ps i) ∧ ((i = 0 ∧ kk ≤ 140001) ∨ (i = 1 ∧ kk ≤ 1700000) ∨ (i = 2 ∧ kk ≤ 20500000) ∨ (i = 3 ∧ kk ≤ 250000000)) ∧ i ≤ ps.length)) (fun (i, kk, s5_26, cs_27, ma) => [(1, vps), (5, s5_26), (6, vI ↑i)]) (fun (i, kk, s5_26, cs_27, ma) => [.gs 27 1 s5_26 (yU l ps i).length cs_27]) (fun (i, kk, s5_26, cs_27, ma) => ma) (fun (i, kk, s5_26, cs_27, ma) => ps.length - i) (0, (k + 1), v16, cs16, h1) ?_ ⟨rfl, rfl, rfl, trivial⟩ rfl rfl ?_
  ·
   refine ⟨MLe.refl _, ?_⟩
   refine ⟨(show RL _ _ _ [l] from by rw [← List.nil_append l]; exact rl16), ?_⟩
   exact ⟨.inl ⟨rfl, by omega⟩, by omega⟩
  ·
   intro x hx
   obtain ⟨i, kk, s5_26, cs_27, ma⟩ := x
   obtain ⟨hmma, hinv⟩ := hx
   show GC _ _ _ _ _ _ [(1, vps), (5, s5_26), (6, vI ↑i)] [.gs 27 1 s5_26 (yU l ps i).length cs_27] ma
   obtain ⟨rl_28, hinv⟩ := hinv
   obtain ⟨hkc, hi1⟩ := hinv
   have hsb := split_b (l := l) (ps := ps) (i := i) (by omega)
   have hsb1 := hsb.1
   refine zC ?_
   refine zC ?_
   refine zA ?_  -- region 5 (line 102)
   refine mv rfl rfl ?_
   refine mv rfl rfl ?_
   replace rps := rps.mono (hh1.trans hmma)
   refine gv (wJ Tryz.underlying52 rfl rps) rfl ?_
   refine gv (zW rfl rfl) rfl ?_
   refine zD ?_
   refine zB ?_
   refine zN rfl (fun hc20 => ?_) (fun hc20 => ?_)
   ·
    refine zK ?_
    refine zB ?_
    refine zC ?_
    refine zR ?_
    refine zC ?_
    refine zA ?_  -- region 7 (line 103)
    refine asg rfl rfl ?_
    refine zD ?_
    refine zB ?_
    refine zC ?_
    refine zC ?_
    refine zA ?_  -- region 8 (line 104)
    refine asg (v := vI (0)) rfl rfl ?_
    refine zD ?_
    refine zB ?_
    refine zR ?_
    refine gc_nilown 27 1 ?_
    have rl_29 : RL (rpS (rpT (rpQ (12 * kk + 86)))) ma [] ([] : List (List (T3 Rat))) := RL.nil
    refine wH (ι := Nat × List (List (T3 Rat)) × Value × List Value × Mem) (fun (j, NX, s7_30, cs_31, mb) => MLe ma mb ∧ (RL (rpS (rpT (rpQ (12 * kk + 86)))) mb cs_31 NX ∧ j ≤ (yU l ps i).length ∧ NX = partsTo (gpl ps i) (yU l ps i) j)) (fun (j, NX, s7_30, cs_31, mb) => [(1, vps), (5, s5_26), (6, vI ↑i), (7, s7_30), (8, vI ↑j)]) (fun (j, NX, s7_30, cs_31, mb) => [.gs 27 1 s7_30 NX.length cs_31, .gs 27 1 s5_26 (yU l ps i).length cs_27]) (fun (j, NX, s7_30, cs_31, mb) => mb) (fun (j, NX, s7_30, cs_31, mb) => (yU l ps i).length - j) (0, [], (.slice none 0 0), [], ma) ?_ ⟨rfl, rfl, rfl, rfl, rfl, trivial⟩ rfl rfl ?_
    ·
     refine ⟨MLe.refl _, ?_⟩
     refine ⟨rl_29, ?_⟩
     exact ⟨by omega, rfl⟩
    ·
     intro x hx
     obtain ⟨j, NX, s7_30, cs_31, mb⟩ := x
     obtain ⟨hmmb, hinv⟩ := hx
     show GC _ _ _ _ _ _ [(1, vps), (5, s5_26), (6, vI ↑i), (7, s7_30), (8, vI ↑j)] [.gs 27 1 s7_30 NX.length cs_31, .gs 27 1 s5_26 (yU l ps i).length cs_27] mb
     obtain ⟨rl_32, hinv⟩ := hinv
     obtain ⟨hj1, hP⟩ := hinv
     have hpl := hsb.2 j
     have hNl : NX.length ≤ 2 * j := by rw [hP]; exact parts_count _ _ _
     refine zC ?_
     refine zC ?_
     refine zA ?_  -- region 9 (line 104)
     refine mv rfl rfl ?_
     refine mv rfl rfl ?_
     refine gv (ov_len_os (.tail _ (.head _)) Tryz.underlying50 rfl) rfl ?_
     refine gv (zW rfl rfl) rfl ?_
     refine zD ?_
     refine zB ?_
     refine zN rfl (fun hc26 => ?_) (fun hc26 => ?_)
     ·
      refine zK ?_
      refine zB ?_
      refine zC ?_
      refine zR ?_
      refine zC ?_
      refine yK 14 _ [] [(0, .q), (1, .q), (2, .q), (3, .q), (4, .q), (5, .q), (6, .q), (7, .q), (8, .c), (9, .q), (10, .q), (11, .q), (12, .q), (13, .q)] xN (fun x hx => by cases hx) (chk_of [0, 0, 3, 4, 0, 0, 48, 64, 136, 256, 512, 512, 2047, 8191] [16383, 16383, 16380, 16379, 16383, 16383, 16335, 16319, 16247, 16127, 15871, 15871, 15359, 14335] (by kernel_rfl)) (fun x hx => by cases hx) (fun r hr => hr) ?_  -- region 11 (line 105)
      refine w_q rfl (fun h' L' hh hR => zG rfl) rfl ?_
      refine w_q rfl (fun h' L' hh hR => zG rfl) rfl ?_
      refine w_q rfl (fun h' L' hh hR => (vG j (hR _ (.tail _ (.head _))) Tryz.underlying50 Tryz.sizeOf27 rfl rfl rfl (by first | omega | (simp only [List.length_append, List.length_cons, List.length_nil, List.length_replicate, List.length_set]; omega)) (show 0 < 1 from by decide)).cv (show _ = xH 1 s5_26 ((j * 1 + 0)) from congrArg (xH 1 s5_26) (by rfl))) rfl ?_
      replace rl_28 := rl_28.mono hmmb
      refine w_qx (F := fun v_ => (rpS (rpT (rpQ kk))).Is mb v_ ((yU l ps i).getD j [])) rfl (ox_load_os ty27 (Pc.arr (Pc.here _) [] j (by first | omega | (simp only [List.length_append, List.length_cons, List.length_nil, List.length_replicate, List.length_set]; omega))) rfl (show 0 < 1 from by decide) rfl rl_28 rfl) (mem1 (.tail _ (.head _))) rfl ?_
      intro v33 r33
      refine w_q rfl (fun h' L' hh hR => zG rfl) rfl ?_
      refine w_q rfl (fun h' L' hh hR => zG rfl) rfl ?_
      replace rps := rps.mono hmmb
      refine w_qx (F := fun v_ => AtP (rpP (rpT (rpQ 2)) (rpQ 2)) mb v_ (ps.getD i ((T3.mk (0 : Rat) (0 : Rat) (0 : Rat)), (0 : Rat)))) rfl (ox_idx_s ((T3.mk (0 : Rat) (0 : Rat) (0 : Rat)), (0 : Rat)) i Tryz.underlying52 ty34 rfl rfl rps rfl (by omega) (show 0 < 12 from by decide)) mem0 rfl ?_
      intro v36 r36
      refine w_qx (F := fun v_ => (rpP (rpT (rpQ 2)) (rpQ 2)).Is mb v_ (ps.getD i ((T3.mk (0 : Rat) (0 : Rat) (0 : Rat)), (0 : Rat)))) rfl (wY ty34 rfl r36) mem0 rfl ?_
      intro v37 r37
      refine w_c rfl ?_
      refine yI (vs := [_, _]) Tryz.call15 ⟨rfl, rfl, trivial⟩ (fun w hs => o_r6_cut hs r33 r37 (by omega) (by decide) (by decide) (by omega)) rfl ?_
      intro v38 h2 hh2 r38
      obtain ⟨v38_0, v38_1, rfl, r38_0, r38_1⟩ := r38
      change (rpS (rpT (rpQ (12 * kk + 3 * 2 + 9 * 2 + 62)))).Is h2 v38_0 (cutB (ps.getD i ((T3.mk (0 : Rat) (0 : Rat) (0 : Rat)), (0 : Rat))) ((yU l ps i).getD j [])) at r38_0
      replace r38_0 := Rp.Is.le r38_0 (Le.s (Le.t (Le.q (l := 12 * kk + 86) (by omega))))
      change (rpS (rpT (rpQ (12 * kk + 3 * 2 + 9 * 2 + 62)))).Is h2 v38_1 (cutF (ps.getD i ((T3.mk (0 : Rat) (0 : Rat) (0 : Rat)), (0 : Rat))) ((yU l ps i).getD j [])) at r38_1
      replace r38_1 := Rp.Is.le r38_1 (Le.s (Le.t (Le.q (l := 12 * kk + 86) (by omega))))
      refine w_q rfl (fun h' L' hh hR => zG rfl) rfl ?_
      refine w_q rfl (fun h' L' hh hR => zO (vs := [_, _]) rfl rfl) rfl ?_
      refine w_q rfl (fun h' L' hh hR => zO (vs := [_, _]) rfl rfl) rfl ?_
      refine w_q rfl (fun h' L' hh hR => zX rfl) rfl ?_
      refine w_q rfl (fun h' L' hh hR => zX rfl) rfl ?_
      refine yZ ?_
      refine zJ (e' := [(1, _), (5, _), (6, _), (7, _), (8, _), (9, _), (10, _)]) ⟨rfl, rfl, rfl, rfl, rfl, rfl, rfl, trivial⟩ ?_
      refine zB ?_
      refine zC ?_
      refine zC ?_
      refine zA ?_  -- region 12 (line 106)
      refine mv rfl rfl ?_
      refine gv (wJ Tryz.underlying27 rfl r38_0) rfl ?_
      refine gv (vD (q := 0) rfl rfl) rfl ?_
      refine zD ?_
      refine zB ?_
      refine zN rfl (fun hc43 => ?_) (fun hc43 => ?_)
      ·
       have hq1 : 0 < (cutB (ps.getD i (T3.mk (0 : Rat) (0 : Rat) (0 : Rat), (0 : Rat))) ((yU l ps i).getD j [])).length := by have h := hc43; omega
       refine zA ?_  -- region 13 (line 107)
       refine mv rfl rfl ?_
       refine mv rfl rfl ?_
       refine zL (yO (ρ := (rpS (rpT (rpQ (12 * kk + 86))))) (m := 1) (xs := [cutB (ps.getD i ((T3.mk (0 : Rat) (0 : Rat) (0 : Rat)), (0 : Rat))) ((yU l ps i).getD j [])]) (ps' := [(0, _)]) Tryz.underlying50 info27 rfl rfl rfl zr_s ⟨rfl, rfl, trivial⟩ (yQ rfl (Pc.arr (Pc.here _) [] 0 (by decide)) r38_0 xM) (show 1 * 1 ≤ 16777216 from by decide) (show 0 < 1 from by decide)) rfl rfl rfl ?_
       intro v46 q46 hq46
       obtain ⟨cs46, rfl, rl46⟩ := hq46
       refine vQ (A := []) (ρ := (rpS (rpT (rpQ (12 * kk + 86))))) rl46 ?_
       intro h3 hh3 rs_33
       replace rl_32 := rl_32.mono (hh2.trans hh3)
       refine vO (A := []) (yD (ρ := (rpS (rpT (rpQ (12 * kk + 86))))) (bytes := 24) Tryz.underlying50 info27 rfl rfl rfl rfl (show 0 < 1 from by decide) rfl rfl rl_32 rs_33 (by first | omega | (simp only [List.length_append, List.length_cons, List.length_nil, List.length_replicate, List.length_set]; omega)) (by first | omega | (simp only [List.length_append, List.length_cons, List.length_nil, List.length_replicate, List.length_set]; omega))) rfl rfl rfl ?_
       intro v47 q47 hq47
       obtain ⟨cs47, rfl, rl47⟩ := hq47
       refine asg rfl rfl ?_
       refine zD ?_
       refine zB ?_
       refine zC ?_
       refine zA ?_  -- region 14 (line 109)
       refine mv rfl rfl ?_
       replace r38_1 := r38_1.mono hh3
       refine gv (wJ Tryz.underlying27 rfl r38_1) rfl ?_
       refine gv (vD (q := 0) rfl rfl) rfl ?_
       refine zD ?_
       refine zB ?_
       refine zN rfl (fun hc50 => ?_) (fun hc50 => ?_)
       ·
        have hq2 : 0 < (cutF (ps.getD i (T3.mk (0 : Rat) (0 : Rat) (0 : Rat), (0 : Rat))) ((yU l ps i).getD j [])).length := by have h := hc50; omega
        refine wL (e' := [(1, _), (5, _), (6, _), (8, _), (10, _), (7, _)]) ⟨rfl, rfl, rfl, rfl, rfl, rfl, trivial⟩ ?_
        refine zA ?_  -- region 15 (line 110)
        refine mv rfl rfl ?_
        refine mv rfl rfl ?_
        refine zL (yO (ρ := (rpS (rpT (rpQ (12 * kk + 86))))) (m := 1) (xs := [cutF (ps.getD i ((T3.mk (0 : Rat) (0 : Rat) (0 : Rat)), (0 : Rat))) ((yU l ps i).getD j [])]) (ps' := [(0, _)]) Tryz.underlying50 info27 rfl rfl rfl zr_s ⟨rfl, rfl, trivial⟩ (yQ rfl (Pc.arr (Pc.here _) [] 0 (by decide)) r38_1 xM) (show 1 * 1 ≤ 16777216 from by decide) (show 0 < 1 from by decide)) rfl rfl rfl ?_
        intro v53 q53 hq53
        obtain ⟨cs53, rfl, rl53⟩ := hq53
        refine vQ (A := []) (ρ := (rpS (rpT (rpQ (12 * kk + 86))))) rl53 ?_
        intro h4 hh4 rs_34
        replace rl47 := rl47.mono hh4
        refine vO (A := []) (yD (ρ := (rpS (rpT (rpQ (12 * kk + 86))))) (bytes := 24) Tryz.underlying50 info27 rfl rfl rfl rfl (show 0 < 1 from by decide) rfl rfl rl47 rs_34 (by first | omega | (simp only [List.length_append, List.length_cons, List.length_nil, List.length_replicate, List.length_set]; omega)) (by first | omega | (simp only [List.length_append, List.length_cons, List.length_nil, List.length_replicate, List.length_set]; omega))) rfl rfl rfl ?_
        intro v54 q54 hq54
        obtain ⟨cs54, rfl, rl54⟩ := hq54
        refine asg rfl rfl ?_
        refine zD ?_
        refine yV ?_
        refine zB ?_
        refine zA ?_  -- region 10 (line 104)
        refine mv rfl rfl ?_
        refine gv (zS (q := 1) rfl rfl (by omega) (by omega)) rfl ?_
        refine asg rfl rfl ?_
        refine zD ?_
        refine yL ((j + 1), ((NX ++ [cutB (ps.getD i ((T3.mk (0 : Rat) (0 : Rat) (0 : Rat)), (0 : Rat))) ((yU l ps i).getD j [])]) ++ [cutF (ps.getD i ((T3.mk (0 : Rat) (0 : Rat) (0 : Rat)), (0 : Rat))) ((yU l ps i).getD j [])]), v54, cs54, h4) ?_ ?_ ⟨rfl, rfl, rfl, rfl, rfl, trivial⟩ rfl rfl
        ·
         refine ⟨(((hmmb.trans hh2).trans hh3).trans hh4), ?_⟩
         refine ⟨rl54, ?_⟩
         exact ⟨by omega, (by first | exact pp_bf hP hq1 hq2 | exact pp_b hP hq1 hq2 | exact pp_f hP hq1 hq2 | exact pp_n hP hq1 hq2)⟩
        ·
         dsimp only
         omega
       ·
        have hq2 : ¬ 0 < (cutF (ps.getD i (T3.mk (0 : Rat) (0 : Rat) (0 : Rat), (0 : Rat))) ((yU l ps i).getD j [])).length := by have h := hc50; omega
        refine wL (e' := [(1, _), (5, _), (6, _), (8, _), (7, _)]) ⟨rfl, rfl, rfl, rfl, rfl, trivial⟩ ?_
        refine zK ?_
        refine yV ?_
        refine zB ?_
        refine zA ?_  -- region 10 (line 104)
        refine mv rfl rfl ?_
        refine gv (zS (q := 1) rfl rfl (by omega) (by omega)) rfl ?_
        refine asg rfl rfl ?_
        refine zD ?_
        refine yL ((j + 1), (NX ++ [cutB (ps.getD i ((T3.mk (0 : Rat) (0 : Rat) (0 : Rat)), (0 : Rat))) ((yU l ps i).getD j [])]), v47, cs47, h3) ?_ ?_ ⟨rfl, rfl, rfl, rfl, rfl, trivial⟩ rfl rfl
        ·
         refine ⟨((hmmb.trans hh2).trans hh3), ?_⟩
         refine ⟨rl47, ?_⟩
         exact ⟨by omega, (by first | exact pp_bf hP hq1 hq2 | exact pp_b hP hq1 hq2 | exact pp_f hP hq1 hq2 | exact pp_n hP hq1 hq2)⟩
        ·
         dsimp only
         omega
      ·
       have hq1 : ¬ 0 < (cutB (ps.getD i (T3.mk (0 : Rat) (0 : Rat) (0 : Rat), (0 : Rat))) ((yU l ps i).getD j [])).length := by have h := hc43; omega
       refine zK ?_
       refine zB ?_
       refine zC ?_
       refine zA ?_  -- region 14 (line 109)
       refine mv rfl rfl ?_
       refine gv (wJ Tryz.underlying27 rfl r38_1) rfl ?_
       refine gv (vD (q := 0) rfl rfl) rfl ?_
       refine zD ?_
       refine zB ?_
       refine zN rfl (fun hc50 => ?_) (fun hc50 => ?_)
       ·
        have hq2 : 0 < (cutF (ps.getD i (T3.mk (0 : Rat) (0 : Rat) (0 : Rat), (0 : Rat))) ((yU l ps i).getD j [])).length := by have h := hc50; omega
        refine zA ?_  -- region 15 (line 110)
        refine mv rfl rfl ?_
        refine mv rfl rfl ?_
        refine zL (yO (ρ := (rpS (rpT (rpQ (12 * kk + 86))))) (m := 1) (xs := [cutF (ps.getD i ((T3.mk (0 : Rat) (0 : Rat) (0 : Rat)), (0 : Rat))) ((yU l ps i).getD j [])]) (ps' := [(0, _)]) Tryz.underlying50 info27 rfl rfl rfl zr_s ⟨rfl, rfl, trivial⟩ (yQ rfl (Pc.arr (Pc.here _) [] 0 (by decide)) r38_1 xM) (show 1 * 1 ≤ 16777216 from by decide) (show 0 < 1 from by decide)) rfl rfl rfl ?_
        intro v53 q53 hq53
        obtain ⟨cs53, rfl, rl53⟩ := hq53
        refine vQ (A := []) (ρ := (rpS (rpT (rpQ (12 * kk + 86))))) rl53 ?_
        intro h3 hh3 rs_35
        replace rl_32 := rl_32.mono (hh2.trans hh3)
        refine vO (A := []) (yD (ρ := (rpS (rpT (rpQ (12 * kk + 86))))) (bytes := 24) Tryz.underlying50 info27 rfl rfl rfl rfl (show 0 < 1 from by decide) rfl rfl rl_32 rs_35 (by first | omega | (simp only [List.length_append, List.length_cons, List.length_nil, List.length_replicate, List.length_set]; omega)) (by first | omega | (simp only [List.length_append, List.length_cons, List.length_nil, List.length_replicate, List.length_set]; omega))) rfl rfl rfl ?_
        intro v54 q54 hq54
        obtain ⟨cs54, rfl, rl54⟩ := hq54
        refine asg rfl rfl ?_
        refine zD ?_
        refine yV ?_
        refine zJ (e' := [(1, _), (5, _), (6, _), (8, _), (7, _)]) ⟨rfl, rfl, rfl, rfl, rfl, trivial⟩ ?_
        refine zB ?_
        refine zA ?_  -- region 10 (line 104)
        refine mv rfl rfl ?_
        refine gv (zS (q := 1) rfl rfl (by omega) (by omega)) rfl ?_
        refine asg rfl rfl ?_
        refine zD ?_
        refine yL ((j + 1), (NX ++ [cutF (ps.getD i ((T3.mk (0 : Rat) (0 : Rat) (0 : Rat)), (0 : Rat))) ((yU l ps i).getD j [])]), v54, cs54, h3) ?_ ?_ ⟨rfl, rfl, rfl, rfl, rfl, trivial⟩ rfl rfl
        ·
         refine ⟨((hmmb.trans hh2).trans hh3), ?_⟩
         refine ⟨rl54, ?_⟩
         exact ⟨by omega, (by first | exact pp_bf hP hq1 hq2 | exact pp_b hP hq1 hq2 | exact pp_f hP hq1 hq2 | exact pp_n hP hq1 hq2)⟩
        ·
         dsimp only
         omega
       ·
        have hq2 : ¬ 0 < (cutF (ps.getD i (T3.mk (0 : Rat) (0 : Rat) (0 : Rat), (0 : Rat))) ((yU l ps i).getD j [])).length := by have h := hc50; omega
        refine zK ?_
        refine yV ?_
        refine zB ?_
        refine zA ?_  -- region 10 (line 104)
        refine mv rfl rfl ?_
        refine gv (zS (q := 1) rfl rfl (by omega) (by omega)) rfl ?_
        refine asg rfl rfl ?_
        refine zD ?_
        refine yL ((j + 1), NX, s7_30, cs_31, h2) ?_ ?_ ⟨rfl, rfl, rfl, rfl, rfl, trivial⟩ rfl rfl
        ·
         refine ⟨(hmmb.trans hh2), ?_⟩
         replace rl_32 := rl_32.mono hh2
         refine ⟨rl_32, ?_⟩
         exact ⟨by omega, (by first | exact pp_bf hP hq1 hq2 | exact pp_b hP hq1 hq2 | exact pp_f hP hq1 hq2 | exact pp_n hP hq1 hq2)⟩
        ·
         dsimp only
         omega
     ·
      have hPe : NX = yU l ps (i + 1) := by rw [hP, show j = (yU l ps i).length by omega]; rfl
      subst hPe
      refine xG ?_
      refine yB ?_
      refine yB ?_
      refine xF ?_
      refine zB ?_
      refine zA ?_  -- region 16 (line 113)
      refine mv rfl rfl ?_
      refine asg rfl rfl ?_
      refine zD ?_
      refine yV ?_
      refine zB ?_
      refine zA ?_  -- region 6 (line 102)
      refine mv rfl rfl ?_
      refine gv (zS (q := 1) rfl rfl (by omega) (by omega)) rfl ?_
      refine asg rfl rfl ?_
      refine zD ?_
      refine yX (A := [_]) ?_
      refine yL ((i + 1), (12 * kk + 86), s7_30, cs_31, mb) ?_ ?_ ⟨rfl, rfl, rfl, trivial⟩ rfl rfl
      ·
       refine ⟨(hmma.trans hmmb), ?_⟩
       replace rl := rl.mono ((hh1.trans hmma).trans hmmb)
       refine ⟨(Le.rl (Le.s (Le.t (Le.q (by omega)))) rl_32), ?_⟩
       exact ⟨by omega, by omega⟩
      ·
       dsimp only
       omega
   ·
    have ei : i = ps.length := by omega
    refine xG ?_
    refine yB ?_
    refine yB ?_
    refine xF ?_
    refine zB ?_
    refine zC ?_
    refine zA ?_  -- region 17 (line 115)
    refine mv rfl rfl ?_
    refine asg rfl rfl ?_
    refine zD ?_
    refine zB ?_
    refine zQ ?_
    refine gq_freezex (A := []) (ρ := (rpS (rpT (rpQ kk)))) rl_28 ?_
    intro h2 hh2 rs_36
    refine yG rfl rfl ?_
    exact (Rp.Is.cast (Rp.Is.le rs_36 (Le.s (Le.s (Le.t (Le.q (l := 250000002) (by omega)))))) (by rw [ei]; exact (if_neg hz).symm))

end Go.Proofs.YtghhjjmjpeehdaaGreat


namespace Go.Proofs.YtghhjjmjpeehdaaGreat
open Bk Go
set_option linter.unusedVariables false
set_option linter.unusedSimpArgs false
set_option maxRecDepth 10000

theorem law26_convexclips {w0 : World} {h0 : Mem}  (hs : MLe h0 (mem w0)) {vl : Value} {xsl : List Int} (hl : Is h0 vl xsl) :
    Calls Tryz.prog 6 #[vl] w0 (Ret w0 h0 (fun _ r => r = .bool true)) := by
 have hlenl := hl.lt63
 refine zP (n := 77) (e := [(0, vl)]) (vs := [vl]) Tryz.func6 rfl rfl (Nat.le_of_ble_eq_true rfl) hs ⟨rfl, trivial⟩ ?_
 refine zC ?_
 refine zA ?_  -- region 0 (line 79)
 refine asg rfl rfl ?_
 refine zD ?_
 refine zB ?_
 refine zC ?_
 refine zC ?_
 refine zA ?_  -- region 1 (line 80)
 refine mv rfl rfl ?_
 refine zM (vs := [_]) rfl rfl rfl rfl Tryz.call9 ⟨rfl, trivial⟩ (fun w hs => made_light hs hl) ?_
 intro v12 h1 hh1 hr12
 subst hr12
 refine gv (ov_not rfl) rfl ?_
 refine zD ?_
 refine zB ?_
 refine zN rfl (fun hc13 => ?_) (fun hc13 => ?_)
 ·
  refine zC ?_
  refine zA ?_  -- region 2 (line 81)
  refine zM (vs := []) rfl rfl rfl rfl Tryz.call10 trivial (fun w hs => law26_sane hs) ?_
  intro v14 h2 hh2 hr14
  subst hr14
  refine asg rfl rfl ?_
  refine zD ?_
  refine zB ?_
  refine zQ ?_
  refine yE ?_
  refine yG rfl rfl ?_
  rfl
 ·
  refine zK ?_
  refine zB ?_
  refine zC ?_
  refine zA ?_  -- region 3 (line 83)
  refine mv rfl rfl ?_
  replace hl := hl.mono hh1
  refine gl_call_own (vs := [_]) rfl rfl rfl rfl Tryz.call11 ⟨rfl, trivial⟩ (fun w hs => made_roll hs hl) ?_
  intro v16 h2 L16 hh2 hr16
  obtain ⟨b16, rfl, rfl⟩ := hr16
  refine asg rfl rfl ?_
  refine zD ?_
  refine zB ?_
  refine zC ?_
  refine zA ?_  -- region 4 (line 84)
  refine mv rfl rfl ?_
  replace hl := hl.mono hh2
  refine xO (A := []) (vs := [_]) Tryz.call12 ⟨rfl, trivial⟩ (fun X w hs => o_law_polyof hl (by first | omega | exact Nat.zero_le _) hs) rfl ?_
  intro v19 g19 q19 hg19 hr19
  obtain ⟨k19, u19_0, u19_1, p19, s19, rfl, hk19, hx19, rfl, ra19, rb19⟩ := hr19
  refine mv rfl rfl ?_
  refine gv (zO (vs := [_, _]) rfl rfl) rfl ?_
  refine gv (zO (vs := [_, _]) rfl rfl) rfl ?_
  refine zL (xE (ρ := (rpP (rpT (rpQ 1)) (rpQ 1))) (X := ((T3.mk (0 : Rat) (0 : Rat) (0 : Rat)), (0 : Rat))) info34 rfl rfl (zr_p (zr_t (zr_q (by decide))) (zr_q (by decide)))) rfl rfl rfl ?_
  intro v5 q5 hq5
  obtain ⟨b5, cs5, rfl, rfl, rb5⟩ := hq5
  refine asg rfl rfl ?_
  have rw_1 := (Le.p (Le.t (Le.q (l := 2) (by decide))) (Le.q (l := 2) (by decide))).R rb5
  refine wE (A := []) (F := fun c_ => (rpP (rpT (rpQ 2)) (rpQ 2)).R g19 c_ s19) (yJ Tryz.sizeOf34 (Pc.here _) rfl rfl rfl rw_1 rb19 rfl) ?_
  intro cs_2 rb_3
  refine zD ?_
  refine zJ (e' := [(3, _), (4, _)]) ⟨rfl, rfl, trivial⟩ ?_
  refine zB ?_
  refine zC ?_
  refine zA ?_  -- region 5 (line 85)
  refine asg rfl rfl ?_
  refine zD ?_
  refine zB ?_
  refine zC ?_
  refine zC ?_
  refine zA ?_  -- region 6 (line 86)
  refine mv rfl rfl ?_
  replace hl := hl.mono hg19
  refine xO (A := [_]) (vs := [_, vI (4)]) Tryz.call22 ⟨rfl, rfl, trivial⟩ (fun X w hs => uC hl (by first | omega | exact Nat.zero_le _) (by omega) (by omega) hs) rfl ?_
  intro v23 g23 q23 hg23 hr23
  obtain ⟨k23, z23, rfl, hk23, rfl, hz23, hy23⟩ := hr23
  refine asg rfl rfl ?_
  refine zD ?_
  refine zB ?_
  refine zR ?_
  refine gc_nilown 34 12 ?_
  have rl_4 : RL (rpP (rpT (rpQ 2)) (rpQ 2)) g23 [] ([] : List ((T3 Rat) × Rat)) := RL.nil
  refine wH (ι := Nat × List ((T3 Rat) × Rat) × Value × List Value × Nat × Mem) (fun (n, PL, s6_5, cs_6, kd_8, ma) => MLe g23 ma ∧ (RL (rpP (rpT (rpQ 2)) (rpQ 2)) ma cs_6 PL ∧ kd_8 ≤ xsl.length ∧ n + PL.length ≤ 3)) (fun (n, PL, s6_5, cs_6, kd_8, ma) => [(3, vP b16 0), (4, u19_0), (6, s6_5), (7, vI ↑n)]) (fun (n, PL, s6_5, cs_6, kd_8, ma) => [.gs 34 12 s6_5 PL.length cs_6, .var b5 34 cs_2, .var b16 65 [vl, vI ↑kd_8]]) (fun (n, PL, s6_5, cs_6, kd_8, ma) => ma) (fun (n, PL, s6_5, cs_6, kd_8, ma) => n) (z23.toNat, [], (.slice none 0 0), [], k23, g23) ?_ ⟨?_, ?_, ?_, ?_, trivial⟩ rfl rfl ?_
  ·
   refine ⟨MLe.refl _, ?_⟩
   refine ⟨rl_4, (by omega), ?_⟩
   exact (by show z23.toNat + 0 ≤ 3; omega)
  · exact rfl
  · exact rfl
  · exact rfl
  · exact congrArg (fun z => some (vI z)) (by omega)
  ·
   intro x hx
   obtain ⟨n, PL, s6_5, cs_6, kd_8, ma⟩ := x
   obtain ⟨hmma, hinv⟩ := hx
   show GC _ _ _ _ _ _ [(3, vP b16 0), (4, u19_0), (6, s6_5), (7, vI ↑n)] [.gs 34 12 s6_5 PL.length cs_6, .var b5 34 cs_2, .var b16 65 [vl, vI ↑kd_8]] ma
   obtain ⟨rl_7, hkd_9, hinv⟩ := hinv
   have hnp := hinv
   refine zC ?_
   refine zC ?_
   refine zA ?_  -- region 7 (line 86)
   refine mv rfl rfl ?_
   refine gv (vD (q := 0) rfl rfl) rfl ?_
   refine zD ?_
   refine zB ?_
   refine zN rfl (fun hc25 => ?_) (fun hc25 => ?_)
   ·
    refine zK ?_
    refine zB ?_
    refine zC ?_
    refine zR ?_
    refine zA ?_  -- region 9 (line 87)
    refine mv rfl rfl ?_
    refine mv rfl rfl ?_
    replace hl := hl.mono (hg23.trans hmma)
    refine xO (A := [_, _]) (vs := [_]) Tryz.call13 ⟨rfl, trivial⟩ (fun X w hs => o_dice_plane hl (by first | omega | exact Nat.zero_le _) hs) rfl ?_
    intro v30 g30 q30 hg30 hr30
    obtain ⟨k30, p30, rfl, hk30, hr30⟩ := hr30
    refine zL (yO (ρ := (rpP (rpT (rpQ 2)) (rpQ 2))) (m := 1) (xs := [p30]) (ps' := [(0, _)]) Tryz.underlying52 info34 rfl rfl rfl (zr_p (zr_t (zr_q (by decide))) (zr_q (by decide))) ⟨rfl, rfl, trivial⟩ (yQ rfl (Pc.arr (Pc.here _) ((T3.mk (0 : Rat) (0 : Rat) (0 : Rat)), (0 : Rat)) 0 (by decide)) hr30 xM) (show 1 * 12 ≤ 16777216 from by decide) (show 0 < 12 from by decide)) rfl rfl rfl ?_
    intro v31 q31 hq31
    obtain ⟨cs31, rfl, rl31⟩ := hq31
    refine vQ (A := []) (ρ := (rpP (rpT (rpQ 2)) (rpQ 2))) rl31 ?_
    intro h3 hh3 rs_10
    replace rl_7 := rl_7.mono (hg30.trans hh3)
    refine vO (A := []) (yD (ρ := (rpP (rpT (rpQ 2)) (rpQ 2))) (bytes := 224) Tryz.underlying52 info34 rfl rfl rfl rfl (show 0 < 12 from by decide) rfl rfl rl_7 rs_10 (by first | omega | (simp only [List.length_append, List.length_cons, List.length_nil, List.length_replicate, List.length_set]; omega)) (by first | omega | (simp only [List.length_append, List.length_cons, List.length_nil, List.length_replicate, List.length_set]; omega))) rfl rfl rfl ?_
    intro v32 q32 hq32
    obtain ⟨cs32, rfl, rl32⟩ := hq32
    refine asg rfl rfl ?_
    refine zD ?_
    refine yV ?_
    refine zB ?_
    refine zA ?_  -- region 8 (line 86)
    refine mv rfl rfl ?_
    refine gv (xW (q := 1) rfl rfl (by omega) (by omega)) rfl ?_
    refine asg rfl rfl ?_
    refine zD ?_
    refine yL ((n - 1), (PL ++ [p30]), v32, cs32, k30, h3) ?_ ?_ ⟨rfl, rfl, rfl, ?_, trivial⟩ rfl rfl
    ·
     refine ⟨((hmma.trans hg30).trans hh3), ?_⟩
     refine ⟨rl32, (by omega), ?_⟩
     exact (by simp only [List.length_append, List.length_cons, List.length_nil]; omega)
    ·
     dsimp only
     omega
    · exact congrArg (fun z => some (vI z)) (by omega)
   ·
    refine xG ?_
    refine yB ?_
    refine yB ?_
    refine xF ?_
    refine zB ?_
    refine zC ?_
    refine zA ?_  -- region 10 (line 89)
    refine mv rfl rfl ?_
    refine mv rfl rfl ?_
    refine vQ (A := []) (ρ := (rpP (rpT (rpQ 2)) (rpQ 2))) rl_7 ?_
    intro h3 hh3 rs_11
    replace ra19 := ra19.mono ((hg23.trans hmma).trans hh3)
    refine zM (vs := [_, _]) rfl rfl rfl rfl Tryz.call27 ⟨rfl, rfl, trivial⟩ (fun w hs => o_cx_split hs ra19 rs_11 (by decide) (by first | omega | exact Nat.le_trans hx19.2 (by decide) | exact Nat.zero_le _) (by first | omega | exact Nat.le_trans hx19.2 (by decide) | exact Nat.zero_le _)) ?_
    intro v35 h4 hh4 r35
    change (rpS (rpS (rpT (rpQ 250000004)))).Is h4 v35 (splitZ p19 PL) at r35
    refine mv rfl rfl ?_
    refine mv rfl rfl ?_
    replace ra19 := ra19.mono hh4
    replace rs_11 := rs_11.mono hh4
    refine zM (vs := [_, _]) rfl rfl rfl rfl Tryz.call30 ⟨rfl, rfl, trivial⟩ (fun w hs => o_r6_split hs ra19 rs_11 (by decide) (by first | omega | exact Nat.le_trans hx19.2 (by decide) | exact Nat.zero_le _) (by first | omega | exact Nat.le_trans hx19.2 (by decide) | exact Nat.zero_le _)) ?_
    intro v38 h5 hh5 r38
    change (rpS (rpS (rpT (rpQ 250000002)))).Is h5 v38 (splitZ p19 PL) at r38
    refine asg rfl rfl ?_
    refine asg rfl rfl ?_
    refine zD ?_
    refine zJ (e' := [(4, _), (6, _), (8, _), (9, _)]) ⟨rfl, rfl, rfl, rfl, trivial⟩ ?_
    refine zB ?_
    refine zC ?_
    refine zC ?_
    refine zA ?_  -- region 11 (line 90)
    refine mv rfl rfl ?_
    replace r35 := r35.mono hh5
    refine gv (wJ Tryz.underlying50 rfl r35) rfl ?_
    refine mv rfl rfl ?_
    refine gv (wJ Tryz.underlying50 rfl r38) rfl ?_
    refine gv (OpV.fa (by exact fun e => e rfl) (ov_neq_i rfl rfl)) rfl ?_
    refine mv rfl rfl ?_
    refine yW rfl rfl rfl ?_
    refine mv rfl rfl ?_
    refine yW rfl rfl rfl ?_
    refine mv rfl rfl ?_
    refine yW rfl rfl rfl ?_
    replace ra19 := ra19.mono hh5
    replace rs_11 := rs_11.mono hh5
    refine zM (vs := [_, _]) rfl rfl rfl rfl Tryz.call31 ⟨rfl, rfl, trivial⟩ (fun w hs => o_cx_clip hs ra19 rs_11 (by decide) (by first | omega | exact Nat.le_trans hx19.2 (by decide) | exact Nat.zero_le _) (by first | omega | exact Nat.le_trans hx19.2 (by decide) | exact Nat.zero_le _)) ?_
    intro v47 h6 hh6 r47
    change (rpS (rpT (rpQ 250000002))).Is h6 v47 (clipTo p19 PL PL.length) at r47
    refine yW rfl rfl rfl ?_
    refine mv rfl rfl ?_
    refine yW rfl rfl rfl ?_
    refine mv rfl rfl ?_
    refine yW rfl rfl rfl ?_
    replace ra19 := ra19.mono hh6
    replace rs_11 := rs_11.mono hh6
    refine zM (vs := [_, _]) rfl rfl rfl rfl Tryz.call32 ⟨rfl, rfl, trivial⟩ (fun w hs => o_r6_clip hs ra19 rs_11 (by decide) (by first | omega | exact Nat.le_trans hx19.2 (by decide) | exact Nat.zero_le _) (by first | omega | exact Nat.le_trans hx19.2 (by decide) | exact Nat.zero_le _)) ?_
    intro v50 h7 hh7 r50
    change (rpS (rpT (rpQ 250000002))).Is h7 v50 (clipTo p19 PL PL.length) at r50
    refine yW rfl rfl rfl ?_
    replace r47 := r47.mono hh7
    refine zM (vs := [_, _]) rfl rfl rfl rfl Tryz.call16 ⟨rfl, rfl, trivial⟩ (fun w hs => o_r4_samelist hs r47 r50 (by decide)) ?_
    intro v51 h8 hh8 r51
    obtain rfl : v51 = .bool true := by rw [show v51 = vB ((clipTo p19 PL PL.length) = (clipTo p19 PL PL.length)) from r51, xT (by exact rfl)]
    refine yW rfl rfl rfl ?_
    refine gv (ov_not_b rfl) rfl ?_
    refine gv (xU rfl rfl) rfl ?_
    refine mv rfl rfl ?_
    refine yW rfl rfl rfl ?_
    refine mv rfl rfl ?_
    refine yW rfl rfl rfl ?_
    replace rs_11 := rs_11.mono (hh7.trans hh8)
    refine zM (vs := [_, _]) rfl rfl rfl rfl Tryz.call27 ⟨rfl, rfl, trivial⟩ (fun w hs => o_cx_split hs (is_nil (ρ := (rpT (rpQ 1))) _) rs_11 (by decide) (by first | omega | exact Nat.le_trans hx19.2 (by decide) | exact Nat.zero_le _) (by first | omega | exact Nat.le_trans hx19.2 (by decide) | exact Nat.zero_le _)) ?_
    intro v56 h9 hh9 r56
    change (rpS (rpS (rpT (rpQ 250000004)))).Is h9 v56 (splitZ [] PL) at r56
    refine yW rfl rfl rfl ?_
    refine gv (wJ Tryz.underlying50 rfl r56) rfl ?_
    refine yW rfl rfl rfl ?_
    refine gv (OpV.fa (by exact fun e => e (by rw [split_nil]; rfl)) (ov_neq_i (q := 0) rfl rfl)) rfl ?_
    refine gv (xU rfl rfl) rfl ?_
    refine zD ?_
    refine zJ (e' := [(8, _), (9, _), (59, _)]) ⟨rfl, rfl, rfl, trivial⟩ ?_
    refine zB ?_
    refine vW rfl ?_
    refine zK ?_
    refine zB ?_
    refine zC ?_
    refine zC ?_
    refine zA ?_  -- region 13 (line 93)
    refine mv rfl rfl ?_
    replace r35 := r35.mono (((hh6.trans hh7).trans hh8).trans hh9)
    refine gv (wJ Tryz.underlying50 rfl r35) rfl ?_
    refine mv (v := vI (0)) rfl rfl ?_
    refine zD ?_
    refine zB ?_
    refine zR ?_
    refine wH (ι := Nat × Nat × Mem) (fun (i, kd_12, mb) => MLe h9 mb ∧ (kd_12 ≤ xsl.length ∧ i ≤ (splitZ p19 PL).length)) (fun (i, kd_12, mb) => [(8, v35), (9, v38), (61, vI (↑(splitZ p19 PL).length : Int)), (62, vI ↑i)]) (fun (i, kd_12, mb) => [.var b5 34 cs_2, .var b16 65 [vl, vI ↑kd_12]]) (fun (i, kd_12, mb) => mb) (fun (i, kd_12, mb) => (splitZ p19 PL).length - i) (0, kd_8, h9) ?_ ⟨rfl, rfl, rfl, rfl, trivial⟩ rfl rfl ?_
    ·
     refine ⟨MLe.refl _, ?_⟩
     refine ⟨(by omega), ?_⟩
     exact (by omega)
    ·
     intro x hx
     obtain ⟨i, kd_12, mb⟩ := x
     obtain ⟨hmmb, hinv⟩ := hx
     show GC _ _ _ _ _ _ [(8, v35), (9, v38), (61, vI (↑(splitZ p19 PL).length : Int)), (62, vI ↑i)] [.var b5 34 cs_2, .var b16 65 [vl, vI ↑kd_12]] mb
     obtain ⟨hkd_13, hinv⟩ := hinv
     have hi1 := hinv
     have hsl := splitZ_len (l := p19) (ps := PL) (by omega)
     refine zC ?_
     refine zA ?_  -- region 14 (line 93)
     refine gv (zW rfl rfl) rfl ?_
     refine zD ?_
     refine zB ?_
     refine zC ?_
     refine zN rfl (fun hc63 => ?_) (fun hc63 => ?_)
     ·
      refine zK ?_
      refine zB ?_
      refine zC ?_
      refine zR ?_
      refine zC ?_
      refine zA ?_  -- region 15 (line 93)
      refine mv rfl rfl ?_
      refine asg rfl rfl ?_
      refine zD ?_
      refine zB ?_
      refine zC ?_
      refine yK 10 _ [] [(0, .q), (1, .q), (2, .q), (3, .q), (4, .q), (5, .q), (6, .q), (7, .q), (8, .c), (9, .q)] xN (fun x hx => by cases hx) (by kernel_rfl) (fun x hx => by cases hx) (fun r hr => hr) ?_  -- region 16 (line 94)
      refine w_q rfl (fun h' L' hh hR => zG rfl) rfl ?_
      refine w_q rfl (fun h' L' hh hR => zG rfl) rfl ?_
      replace r35 := r35.mono hmmb
      refine w_qx (F := fun v_ => AtP (rpS (rpT (rpQ 250000004))) mb v_ ((splitZ p19 PL).getD i [])) rfl (ox_idx_s [] i Tryz.underlying50 ty27 rfl rfl r35 rfl (by omega) (show 0 < 1 from by decide)) mem0 rfl ?_
      intro v67 r67
      refine w_qx (F := fun v_ => (rpS (rpT (rpQ 250000004))).Is mb v_ ((splitZ p19 PL).getD i [])) rfl (wY ty27 rfl r67) mem0 rfl ?_
      intro v68 r68
      refine w_q rfl (fun h' L' hh hR => zG rfl) rfl ?_
      refine w_q rfl (fun h' L' hh hR => zG rfl) rfl ?_
      replace r38 := r38.mono ((((hh6.trans hh7).trans hh8).trans hh9).trans hmmb)
      refine w_qx (F := fun v_ => AtP (rpS (rpT (rpQ 250000002))) mb v_ ((splitZ p19 PL).getD i [])) rfl (ox_idx_s [] i Tryz.underlying50 ty27 rfl rfl r38 rfl (by omega) (show 0 < 1 from by decide)) mem0 rfl ?_
      intro v71 r71
      refine w_qx (F := fun v_ => (rpS (rpT (rpQ 250000002))).Is mb v_ ((splitZ p19 PL).getD i [])) rfl (wY ty27 rfl r71) mem0 rfl ?_
      intro v72 r72
      refine w_c rfl ?_
      refine yI (vs := [_, _]) Tryz.call16 ⟨rfl, rfl, trivial⟩ (fun w hs => o_r4_samelist hs r68 r72 (by decide)) rfl ?_
      intro v73 h10 hh10 r73
      obtain rfl : v73 = .bool true := by rw [show v73 = vB (((splitZ p19 PL).getD i []) = ((splitZ p19 PL).getD i [])) from r73, xT (by exact rfl)]
      refine w_q rfl (fun h' L' hh hR => ov_not_b rfl) rfl ?_
      refine yZ ?_
      refine zJ (e' := [(8, _), (9, _), (61, _), (62, _), (74, _)]) ⟨rfl, rfl, rfl, rfl, rfl, trivial⟩ ?_
      refine zB ?_
      refine vW rfl ?_
      refine zK ?_
      refine yV ?_
      refine zB ?_
      refine zA ?_  -- region 18 (line 93)
      refine gv (zS (q := 1) rfl rfl (by omega) (by omega)) rfl ?_
      refine mv rfl rfl ?_
      refine zD ?_
      refine yL ((i + 1), kd_12, h10) ?_ ?_ ⟨rfl, rfl, rfl, rfl, trivial⟩ rfl rfl
      ·
       refine ⟨(hmmb.trans hh10), ?_⟩
       refine ⟨(by omega), ?_⟩
       exact (by omega)
      ·
       dsimp only
       omega
     ·
      refine xG ?_
      refine yB ?_
      refine yB ?_
      refine xF ?_
      refine zB ?_
      refine zC ?_
      refine zA ?_  -- region 19 (line 98)
      refine zM (vs := []) rfl rfl rfl rfl Tryz.call10 trivial (fun w hs => law26_sane hs) ?_
      intro v76 h10 hh10 hr76
      subst hr76
      refine asg rfl rfl ?_
      refine zD ?_
      refine zB ?_
      refine zQ ?_
      refine yG rfl rfl ?_
      rfl

end Go.Proofs.YtghhjjmjpeehdaaGreat
