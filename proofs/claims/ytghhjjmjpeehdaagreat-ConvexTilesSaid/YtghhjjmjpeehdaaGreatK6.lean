/- Texts that the proof needs, part 6. -/
import Derived.Test.YtghhjjmjpeehdaaGreatK5
namespace Go.Proofs.YtghhjjmjpeehdaaGreat
open Bk Go Tryz
set_option linter.unusedVariables false
set_option linter.unusedSimpArgs false
set_option maxRecDepth 10000
theorem o_r6_square {w0 : World} {h0 : Mem}  (hs : MLe h0 (mem w0)) {m l k : Nat} {vs : Value} {s : ((T3 Rat) × Rat)} (rs : (rpP (rpT (rpQ m)) (rpQ l)).Is h0 vs s) {vx : Value} {x : Rat} (rx : (rpQ k).Is h0 vx x) {vy : Value} {y : Rat} (ry : (rpQ k).Is h0 vy y) {vu : Value} {u : Rat} (ru : (rpQ k).Is h0 vu u) {vv : Value} {v : Rat} (rv : (rpQ k).Is h0 vv v) (hcd0 : k ≤ 100000) (hcd1 : l ≤ 100000) (hcd2 : m ≤ 100000)  :
    Calls Tryz.prog 76 #[vs, vx, vy, vu, vv] w0 (Ret w0 h0 (fun h r => (rpS (rpT (rpQ (3 * k + l + 4 * m + 33)))).Is h r (sqrL s x y u v))) := by
 refine zM (n := 46) (e := [(0, vs), (1, vx), (2, vy), (3, vu), (4, vv)]) (vs := [vs, vx, vy, vu, vv]) func76 rfl rfl (bL rfl) hs e5z (zC (zA (zI (yU (ρ := (rpP (rpT (rpQ m)) (rpQ l))) rfl rs) rfl rfl rfl ?_)))
 intro v5 q5 hq5
 obtain ⟨b5, cs5, rfl, rfl, rb5⟩ := hq5
 refine zI (yU (ρ := (rpQ k)) rfl rx) rfl rfl rfl ?_
 intro v6 q6 hq6
 obtain ⟨b6, cs6, rfl, rfl, rb6⟩ := hq6
 refine zI (yU (ρ := (rpQ k)) rfl ry) rfl rfl rfl ?_
 intro v7 q7 hq7
 obtain ⟨b7, cs7, rfl, rfl, rb7⟩ := hq7
 refine zI (yU (ρ := (rpQ k)) rfl ru) rfl rfl rfl ?_
 intro v8 q8 hq8
 obtain ⟨b8, cs8, rfl, rfl, rb8⟩ := hq8
 refine zI (yU (ρ := (rpQ k)) rfl rv) rfl rfl rfl ?_
 intro v9 q9 hq9
 obtain ⟨b9, cs9, rfl, rfl, rb9⟩ := hq9
 refine asg rfl rfl (zD (zB (zC (zA (asg rfl rfl (zD (zB (zC (zA (xX (F := fun v_ => (rpQ k).Is h0 v_ x) (zE xS (Pc.here _) rfl rfl rb6 rfl) (yD mh3) rfl ?_))))))))))
 intro v16 r16
 refine xX (F := fun v_ => (rpQ k).Is h0 v_ y) (zE xS (Pc.here _) rfl rfl rb7 rfl) (yD mh2) rfl ?_
 intro v17 r17
 refine xX (F := fun v_ => (rpT (rpQ (k + 1))).Is h0 v_ (T3.mk x y (0 : Rat))) (wP (ps' := [(0, _), (1, _)]) underlying32 yL rfl rfl sizeOf30 e4z rfl (wO (wB (by omega))) (yZ rfl (Pc.tx (Pc.here _)) (r16.le (Le.q (l := k + 1) (by omega))) (yZ rfl (Pc.ty (Pc.here _)) (r17.le (Le.q (l := k + 1) (by omega))) wH))) vQ rfl ?_
 intro v18 r18
 refine xX (F := fun v_ => (rpQ k).Is h0 v_ u) (zE xS (Pc.here _) rfl rfl rb8 rfl) (yD mh1) rfl ?_
 intro v19 r19
 refine xX (F := fun v_ => (rpQ k).Is h0 v_ y) (zE xS (Pc.here _) rfl rfl rb7 rfl) (yD mh2) rfl ?_
 intro v20 r20
 refine xX (F := fun v_ => (rpT (rpQ (k + 1))).Is h0 v_ (T3.mk u y (0 : Rat))) (wP (ps' := [(0, _), (1, _)]) underlying32 yL rfl rfl sizeOf30 e4z rfl (wO (wB (by omega))) (yZ rfl (Pc.tx (Pc.here _)) (r19.le (Le.q (l := k + 1) (by omega))) (yZ rfl (Pc.ty (Pc.here _)) (r20.le (Le.q (l := k + 1) (by omega))) wH))) vQ rfl ?_
 intro v21 r21
 refine xX (F := fun v_ => (rpQ k).Is h0 v_ u) (zE xS (Pc.here _) rfl rfl rb8 rfl) (yD mh1) rfl ?_
 intro v22 r22
 refine xX (F := fun v_ => (rpQ k).Is h0 v_ v) (zE xS (Pc.here _) rfl rfl rb9 rfl) (yD mh0) rfl ?_
 intro v23 r23
 refine xX (F := fun v_ => (rpT (rpQ (k + 1))).Is h0 v_ (T3.mk u v (0 : Rat))) (wP (ps' := [(0, _), (1, _)]) underlying32 yL rfl rfl sizeOf30 e4z rfl (wO (wB (by omega))) (yZ rfl (Pc.tx (Pc.here _)) (r22.le (Le.q (l := k + 1) (by omega))) (yZ rfl (Pc.ty (Pc.here _)) (r23.le (Le.q (l := k + 1) (by omega))) wH))) vQ rfl ?_
 intro v24 r24
 refine xX (F := fun v_ => (rpQ k).Is h0 v_ x) (zE xS (Pc.here _) rfl rfl rb6 rfl) (yD mh3) rfl ?_
 intro v25 r25
 refine xX (F := fun v_ => (rpQ k).Is h0 v_ v) (zE xS (Pc.here _) rfl rfl rb9 rfl) (yD mh0) rfl ?_
 intro v26 r26
 refine xX (F := fun v_ => (rpT (rpQ (k + 1))).Is h0 v_ (T3.mk x v (0 : Rat))) (wP (ps' := [(0, _), (1, _)]) underlying32 yL rfl rfl sizeOf30 e4z rfl (wO (wB (by omega))) (yZ rfl (Pc.tx (Pc.here _)) (r25.le (Le.q (l := k + 1) (by omega))) (yZ rfl (Pc.ty (Pc.here _)) (r26.le (Le.q (l := k + 1) (by omega))) wH))) vQ rfl ?_
 intro v27 r27
 refine xX (F := fun v_ => (rpA 4 (rpT (rpQ (k + 1)))).Is h0 v_ [(T3.mk x y (0 : Rat)), (T3.mk u y (0 : Rat)), (T3.mk u v (0 : Rat)), (T3.mk x v (0 : Rat))]) (wP (ps' := [(0, _), (1, _), (2, _), (3, _)]) underlying119 info119 rfl rfl sizeOf32 e8 rfl (zr_a 4 (wO (wB (by omega)))) (yZ rfl (Pc.arr (Pc.here _) zT 0 (by decide)) r18 (yZ rfl (Pc.arr (Pc.here _) zT 1 (by decide)) r21 (yZ rfl (Pc.arr (Pc.here _) zT 2 (by decide)) r24 (yZ rfl (Pc.arr (Pc.here _) zT 3 (by decide)) r27 wH))))) vQ rfl ?_
 intro v28 r28
 refine zI (yR (ρ := (rpA 4 (rpT (rpQ 1)))) (X := (List.replicate 4 zT)) info119 rfl rfl (zr_a 4 (wO (wB (by decide))))) rfl rfl rfl ?_
 intro v12 q12 hq12
 obtain ⟨b12, cs12, rfl, rfl, rb12⟩ := hq12
 have rw_1 := (Le.a (Le.t (Le.q (l := k + 1) (by omega)))).R rb12
 refine wW (A := []) (F := fun c_ => (rpA 4 (rpT (rpQ (k + 1)))).R h0 c_ [(T3.mk x y (0 : Rat)), (T3.mk u y (0 : Rat)), (T3.mk u v (0 : Rat)), (T3.mk x v (0 : Rat))]) (yJ sizeOf119 (Pc.here _) rfl rfl rfl rw_1 r28 rfl) ?_
 intro cs_2 rb_3
 refine zD (zJ (e' := [(5, _), (11, _), (12, _)]) e3z (zB (zC (zC (zA (asg (v := vI (0)) rfl rfl (zD (zB (zP (kD (zC (zC (zA ?_)))))))))))))
 refine mv rfl rfl (gv (OpV.tr (by decide) (zW (q := 4) rfl rfl)) rfl (zD (zB (xZ rfl (zK (zB (zC (zP (zC ?_)))))))))
 refine yF 11 _ [(8, (14, 32, [.bool false, .slice none 0 0, .slice none 0 0, .bool false, .slice none 0 0, .slice none 0 0, .bool false, .slice none 0 0, .slice none 0 0]))] [(0, .q), (1, .q), (2, .q), (3, .q), (4, .c), (5, .q), (6, .q), (7, .q), (8, .a), (9, .c), (10, .q)] xH (jK.cons rfl rfl (qB yL rfl rfl) jK.nil) (by kernel_rfl) (qG rfl rfl kQ) (fun r hr => hr) (yP (F := fun v_ => (rpP (rpT (rpQ m)) (rpQ l)).Is h0 v_ s) rfl (zE kH (Pc.here _) rfl rfl rb5 rfl) (yD mh5) rfl ?_)
 intro v34u1 r34u1
 refine yH rfl rfl rfl (yK rfl (fun _ _ => (zH (sz := 9) 0 underlying119 sizeOf32 rfl rfl rfl (by decide)).cv (show _ = vP b12 0 from congrArg (vP b12) (by rfl))) rfl (yP (F := fun v_ => (rpT (rpQ (k + 1))).Is h0 v_ ([(T3.mk x y (0 : Rat)), (T3.mk u y (0 : Rat)), (T3.mk u v (0 : Rat)), (T3.mk x v (0 : Rat))].getD 0 zT)) rfl (zE xJ (Pc.arr (Pc.here _) zT 0 (by decide)) rfl rfl rb_3 rfl) (yD mh0) rfl ?_))
 intro v37u1 r37u1
 refine w_c rfl ?_
 refine zY (vs := [_, _]) call114 e2z (fun w hs => o_r5_lift hs r34u1 r37u1 (by omega) (by omega) (by omega)) rfl ?_
 intro v38u1 h1 hh1 r38u1
 obtain ⟨v38u1_0, rfl, r38u1_0⟩ := r38u1
 change (rpT (rpQ (3 * (k + 1) + l + 4 * m + 30))).Is h1 v38u1_0 (qF s ([(T3.mk x y (0 : Rat)), (T3.mk u y (0 : Rat)), (T3.mk u v (0 : Rat)), (T3.mk x v (0 : Rat))].getD 0 zT)) at r38u1_0
 replace r38u1_0 := Rp.Is.le r38u1_0 (Le.t (Le.q (l := 3 * k + l + 4 * m + 33) (by omega)))
 refine yH rfl rfl rfl (yK rfl (fun _ _ => zL (vs := [_, _]) rfl rfl) rfl (yK rfl (fun _ _ => zL (vs := [_, _]) rfl rfl) rfl ?_))
 refine w_a rfl rfl (fun b14u1 => ?_)
 have rb14u1 : (rpT (rpQ (3 * k + l + 4 * m + 33))).R h1 [.bool false, .slice none 0 0, .slice none 0 0, .bool false, .slice none 0 0, .slice none 0 0, .bool false, .slice none 0 0, .slice none 0 0] zT := (wO (wB (by omega)))
 refine w_c rfl (s_updx (A := []) (F := fun c_ => (rpT (rpQ (3 * k + l + 4 * m + 33))).R h1 c_ (qF s ([(T3.mk x y (0 : Rat)), (T3.mk u y (0 : Rat)), (T3.mk u v (0 : Rat)), (T3.mk x v (0 : Rat))].getD 0 zT))) (yJ sizeOf32 (Pc.here _) rfl rfl rfl rb14u1 r38u1_0 rfl) (wV (by first | (simp; done) | grind)) ?_)
 intro cs_4 rb_5
 refine uG rfl rfl rfl (xB (zJ (e' := [(5, _), (11, _), (12, _), (13, _), (14, _)]) e5z (zB (zA (mv rfl rfl (xX (F := fun v_ => (rpT (rpQ (3 * k + l + 4 * m + 33))).Is h1 v_ (qF s ([(T3.mk x y (0 : Rat)), (T3.mk u y (0 : Rat)), (T3.mk u v (0 : Rat)), (T3.mk x v (0 : Rat))].getD 0 zT))) (zE xJ (Pc.here _) rfl rfl rb_5 rfl) (yD mh0) rfl ?_))))))
 intro v42u1 r42u1
 refine zI (wA (ρ := (rpT (rpQ (3 * k + l + 4 * m + 33)))) (m := 1) (xs := [qF s ([(T3.mk x y (0 : Rat)), (T3.mk u y (0 : Rat)), (T3.mk u v (0 : Rat)), (T3.mk x v (0 : Rat))].getD 0 zT)]) (ps' := [(0, _)]) underlying27 yL rfl rfl rfl (wO (wB (by omega))) e2z (yZ rfl (Pc.arr (Pc.here _) zT 0 (by decide)) r42u1 wH) (show 1 * 9 ≤ 16777216 from by decide) p9N) rfl rfl rfl ?_
 intro v43u1 q43u1 hq43u1
 obtain ⟨cs43u1, rfl, rl43u1⟩ := hq43u1
 refine qN (A := []) (ρ := (rpT (rpQ (3 * k + l + 4 * m + 33)))) rl43u1 ?_
 intro h2 hh2 rs_6
 refine gl_nilown 32 9 ?_
 have rl_7 : RL (rpT (rpQ (3 * k + l + 4 * m + 33))) h2 [] ([] : List (T3 Rat)) := RL.nil
 refine qH (A := []) (xK (ρ := (rpT (rpQ (3 * k + l + 4 * m + 33)))) (bytes := 168) underlying27 yL rfl rfl rfl rfl p9N rfl rfl rl_7 rs_6 (by first | omega | (simp only [lAz, lC, lN, lR, lS]; omega)) (by first | omega | (simp only [lAz, lC, lN, lR, lS]; omega))) rfl rfl rfl ?_
 intro v44u1 q44u1 hq44u1
 obtain ⟨cs44u1, rfl, rl44u1⟩ := hq44u1
 refine asg rfl rfl (zD (xC (zB (zA (mv rfl rfl (gv ((zS (q := 1) rfl rfl (by omega) (by omega)).cv (show _ = vI (1) from rfl)) rfl (asg rfl rfl (zD (wN (zC (zC (zA (mv rfl rfl ?_)))))))))))))
 refine gv (OpV.tr (by decide) (zW (q := 4) rfl rfl)) rfl (zD (zB (xZ rfl (zK (zB (zC (zP (zC (wJ (e' := [(5, _), (12, _), (11, _), (13, _)]) e4z ?_)))))))))
 refine yF 11 _ [(8, (14, 32, [.bool false, .slice none 0 0, .slice none 0 0, .bool false, .slice none 0 0, .slice none 0 0, .bool false, .slice none 0 0, .slice none 0 0]))] [(0, .q), (1, .q), (2, .q), (3, .q), (4, .c), (5, .q), (6, .q), (7, .q), (8, .a), (9, .c), (10, .q)] xH (jK.cons rfl rfl (qB yL rfl rfl) jK.nil) (by kernel_rfl) (qG rfl rfl kQ) (fun r hr => hr) ?_
 replace rb5 := rb5.mono (hh1.trans hh2)
 refine yP (F := fun v_ => (rpP (rpT (rpQ m)) (rpQ l)).Is h2 v_ s) rfl (zE kH (Pc.here _) rfl rfl rb5 rfl) (yD mh7) rfl ?_
 intro v34u2 r34u2
 refine yH rfl rfl rfl (yK rfl (fun _ _ => (zH (sz := 9) 1 underlying119 sizeOf32 rfl rfl rfl (by decide)).cv (show _ = vP b12 9 from congrArg (vP b12) (by rfl))) rfl ?_)
 replace rb_3 := rb_3.mono (hh1.trans hh2)
 refine yP (F := fun v_ => (rpT (rpQ (k + 1))).Is h2 v_ ([(T3.mk x y (0 : Rat)), (T3.mk u y (0 : Rat)), (T3.mk u v (0 : Rat)), (T3.mk x v (0 : Rat))].getD 1 zT)) rfl (zE xJ (Pc.arr (Pc.here _) zT 1 (by decide)) rfl rfl rb_3 rfl) (yD mh2) rfl ?_
 intro v37u2 r37u2
 refine w_c rfl ?_
 refine zY (vs := [_, _]) call114 e2z (fun w hs => o_r5_lift hs r34u2 r37u2 (by omega) (by omega) (by omega)) rfl ?_
 intro v38u2 h3 hh3 r38u2
 obtain ⟨v38u2_0, rfl, r38u2_0⟩ := r38u2
 change (rpT (rpQ (3 * (k + 1) + l + 4 * m + 30))).Is h3 v38u2_0 (qF s ([(T3.mk x y (0 : Rat)), (T3.mk u y (0 : Rat)), (T3.mk u v (0 : Rat)), (T3.mk x v (0 : Rat))].getD 1 zT)) at r38u2_0
 replace r38u2_0 := Rp.Is.le r38u2_0 (Le.t (Le.q (l := 3 * k + l + 4 * m + 33) (by omega)))
 refine yH rfl rfl rfl (yK rfl (fun _ _ => zL (vs := [_, _]) rfl rfl) rfl (yK rfl (fun _ _ => zL (vs := [_, _]) rfl rfl) rfl ?_))
 refine w_a rfl rfl (fun b14u2 => ?_)
 have rb14u2 : (rpT (rpQ (3 * k + l + 4 * m + 33))).R h3 [.bool false, .slice none 0 0, .slice none 0 0, .bool false, .slice none 0 0, .slice none 0 0, .bool false, .slice none 0 0, .slice none 0 0] zT := (wO (wB (by omega)))
 refine w_c rfl (s_updx (A := []) (F := fun c_ => (rpT (rpQ (3 * k + l + 4 * m + 33))).R h3 c_ (qF s ([(T3.mk x y (0 : Rat)), (T3.mk u y (0 : Rat)), (T3.mk u v (0 : Rat)), (T3.mk x v (0 : Rat))].getD 1 zT))) (yJ sizeOf32 (Pc.here _) rfl rfl rfl rb14u2 r38u2_0 rfl) (wV (by first | (simp; done) | grind)) ?_)
 intro cs_8 rb_9
 refine uG rfl rfl rfl (xB (zB (zA (mv rfl rfl (xX (F := fun v_ => (rpT (rpQ (3 * k + l + 4 * m + 33))).Is h3 v_ (qF s ([(T3.mk x y (0 : Rat)), (T3.mk u y (0 : Rat)), (T3.mk u v (0 : Rat)), (T3.mk x v (0 : Rat))].getD 1 zT))) (zE xJ (Pc.here _) rfl rfl rb_9 rfl) (yD mh0) rfl ?_)))))
 intro v42u2 r42u2
 refine zI (wA (ρ := (rpT (rpQ (3 * k + l + 4 * m + 33)))) (m := 1) (xs := [qF s ([(T3.mk x y (0 : Rat)), (T3.mk u y (0 : Rat)), (T3.mk u v (0 : Rat)), (T3.mk x v (0 : Rat))].getD 1 zT)]) (ps' := [(0, _)]) underlying27 yL rfl rfl rfl (wO (wB (by omega))) e2z (yZ rfl (Pc.arr (Pc.here _) zT 0 (by decide)) r42u2 wH) (show 1 * 9 ≤ 16777216 from by decide) p9N) rfl rfl rfl ?_
 intro v43u2 q43u2 hq43u2
 obtain ⟨cs43u2, rfl, rl43u2⟩ := hq43u2
 refine qN (A := []) (ρ := (rpT (rpQ (3 * k + l + 4 * m + 33)))) rl43u2 ?_
 intro h4 hh4 rs_10
 replace rl44u1 := rl44u1.mono (hh3.trans hh4)
 refine qH (A := [_]) (xK (ρ := (rpT (rpQ (3 * k + l + 4 * m + 33)))) (bytes := 168) underlying27 yL rfl rfl rfl rfl p9N rfl rfl rl44u1 rs_10 (by first | omega | (simp only [lAz, lC, lN, lR, lS]; omega)) (by first | omega | (simp only [lAz, lC, lN, lR, lS]; omega))) rfl rfl rfl ?_
 intro v44u2 q44u2 hq44u2
 obtain ⟨cs44u2, rfl, rl44u2⟩ := hq44u2
 refine asg rfl rfl (zD (xC (zJ (e' := [(5, _), (12, _), (13, _), (11, _)]) e4z (zB (zA (mv rfl rfl (gv ((zS (q := 1) rfl rfl (by omega) (by omega)).cv (show _ = vI (2) from rfl)) rfl (asg rfl rfl (zD (wN (zC (zC (zA ?_)))))))))))))
 refine mv rfl rfl (gv (OpV.tr (by decide) (zW (q := 4) rfl rfl)) rfl (zD (zB (xZ rfl (zK (zB (zC (zP (zC ?_)))))))))
 refine yF 11 _ [(8, (14, 32, [.bool false, .slice none 0 0, .slice none 0 0, .bool false, .slice none 0 0, .slice none 0 0, .bool false, .slice none 0 0, .slice none 0 0]))] [(0, .q), (1, .q), (2, .q), (3, .q), (4, .c), (5, .q), (6, .q), (7, .q), (8, .a), (9, .c), (10, .q)] xH (jK.cons rfl rfl (qB yL rfl rfl) jK.nil) (by kernel_rfl) (qG rfl rfl kQ) (fun r hr => hr) ?_
 replace rb5 := rb5.mono (hh3.trans hh4)
 refine yP (F := fun v_ => (rpP (rpT (rpQ m)) (rpQ l)).Is h4 v_ s) rfl (zE kH (Pc.here _) rfl rfl rb5 rfl) (yD (.tail _ mh7)) rfl ?_
 intro v34u3 r34u3
 refine yH rfl rfl rfl (yK rfl (fun _ _ => (zH (sz := 9) 2 underlying119 sizeOf32 rfl rfl rfl (by decide)).cv (show _ = vP b12 18 from congrArg (vP b12) (by rfl))) rfl ?_)
 replace rb_3 := rb_3.mono (hh3.trans hh4)
 refine yP (F := fun v_ => (rpT (rpQ (k + 1))).Is h4 v_ ([(T3.mk x y (0 : Rat)), (T3.mk u y (0 : Rat)), (T3.mk u v (0 : Rat)), (T3.mk x v (0 : Rat))].getD 2 zT)) rfl (zE xJ (Pc.arr (Pc.here _) zT 2 (by decide)) rfl rfl rb_3 rfl) (yD mh3) rfl ?_
 intro v37u3 r37u3
 refine w_c rfl ?_
 refine zY (vs := [_, _]) call114 e2z (fun w hs => o_r5_lift hs r34u3 r37u3 (by omega) (by omega) (by omega)) rfl ?_
 intro v38u3 h5 hh5 r38u3
 obtain ⟨v38u3_0, rfl, r38u3_0⟩ := r38u3
 change (rpT (rpQ (3 * (k + 1) + l + 4 * m + 30))).Is h5 v38u3_0 (qF s ([(T3.mk x y (0 : Rat)), (T3.mk u y (0 : Rat)), (T3.mk u v (0 : Rat)), (T3.mk x v (0 : Rat))].getD 2 zT)) at r38u3_0
 replace r38u3_0 := Rp.Is.le r38u3_0 (Le.t (Le.q (l := 3 * k + l + 4 * m + 33) (by omega)))
 refine yH rfl rfl rfl (yK rfl (fun _ _ => zL (vs := [_, _]) rfl rfl) rfl (yK rfl (fun _ _ => zL (vs := [_, _]) rfl rfl) rfl ?_))
 refine w_a rfl rfl (fun b14u3 => ?_)
 have rb14u3 : (rpT (rpQ (3 * k + l + 4 * m + 33))).R h5 [.bool false, .slice none 0 0, .slice none 0 0, .bool false, .slice none 0 0, .slice none 0 0, .bool false, .slice none 0 0, .slice none 0 0] zT := (wO (wB (by omega)))
 refine w_c rfl (s_updx (A := []) (F := fun c_ => (rpT (rpQ (3 * k + l + 4 * m + 33))).R h5 c_ (qF s ([(T3.mk x y (0 : Rat)), (T3.mk u y (0 : Rat)), (T3.mk u v (0 : Rat)), (T3.mk x v (0 : Rat))].getD 2 zT))) (yJ sizeOf32 (Pc.here _) rfl rfl rfl rb14u3 r38u3_0 rfl) (wV (by first | (simp; done) | grind)) ?_)
 intro cs_11 rb_12
 refine uG rfl rfl rfl (xB (zJ (e' := [(5, _), (12, _), (11, _), (13, _), (14, _)]) e5z (zB (zA (mv rfl rfl (xX (F := fun v_ => (rpT (rpQ (3 * k + l + 4 * m + 33))).Is h5 v_ (qF s ([(T3.mk x y (0 : Rat)), (T3.mk u y (0 : Rat)), (T3.mk u v (0 : Rat)), (T3.mk x v (0 : Rat))].getD 2 zT))) (zE xJ (Pc.here _) rfl rfl rb_12 rfl) (yD mh0) rfl ?_))))))
 intro v42u3 r42u3
 refine zI (wA (ρ := (rpT (rpQ (3 * k + l + 4 * m + 33)))) (m := 1) (xs := [qF s ([(T3.mk x y (0 : Rat)), (T3.mk u y (0 : Rat)), (T3.mk u v (0 : Rat)), (T3.mk x v (0 : Rat))].getD 2 zT)]) (ps' := [(0, _)]) underlying27 yL rfl rfl rfl (wO (wB (by omega))) e2z (yZ rfl (Pc.arr (Pc.here _) zT 0 (by decide)) r42u3 wH) (show 1 * 9 ≤ 16777216 from by decide) p9N) rfl rfl rfl ?_
 intro v43u3 q43u3 hq43u3
 obtain ⟨cs43u3, rfl, rl43u3⟩ := hq43u3
 refine qN (A := []) (ρ := (rpT (rpQ (3 * k + l + 4 * m + 33)))) rl43u3 ?_
 intro h6 hh6 rs_13
 replace rl44u2 := rl44u2.mono (hh5.trans hh6)
 refine qH (A := [_, _]) (xK (ρ := (rpT (rpQ (3 * k + l + 4 * m + 33)))) (bytes := 168) underlying27 yL rfl rfl rfl rfl p9N rfl rfl rl44u2 rs_13 (by first | omega | (simp only [lAz, lC, lN, lR, lS]; omega)) (by first | omega | (simp only [lAz, lC, lN, lR, lS]; omega))) rfl rfl rfl ?_
 intro v44u3 q44u3 hq44u3
 obtain ⟨cs44u3, rfl, rl44u3⟩ := hq44u3
 refine asg rfl rfl (zD (xC (zB (zA (mv rfl rfl (gv ((zS (q := 1) rfl rfl (by omega) (by omega)).cv (show _ = vI (3) from rfl)) rfl (asg rfl rfl (zD (wN (zC (zC (zA (mv rfl rfl ?_)))))))))))))
 refine gv (OpV.tr (by decide) (zW (q := 4) rfl rfl)) rfl (zD (zB (xZ rfl (zK (zB (zC (zP (zC (wJ (e' := [(5, _), (12, _), (11, _), (13, _)]) e4z ?_)))))))))
 refine yF 11 _ [(8, (14, 32, [.bool false, .slice none 0 0, .slice none 0 0, .bool false, .slice none 0 0, .slice none 0 0, .bool false, .slice none 0 0, .slice none 0 0]))] [(0, .q), (1, .q), (2, .q), (3, .q), (4, .c), (5, .q), (6, .q), (7, .q), (8, .a), (9, .c), (10, .q)] xH (jK.cons rfl rfl (qB yL rfl rfl) jK.nil) (by kernel_rfl) (qG rfl rfl kQ) (fun r hr => hr) ?_
 replace rb5 := rb5.mono (hh5.trans hh6)
 refine yP (F := fun v_ => (rpP (rpT (rpQ m)) (rpQ l)).Is h6 v_ s) rfl (zE kH (Pc.here _) rfl rfl rb5 rfl) (yD (.tail _ (.tail _ mh7))) rfl ?_
 intro v34u4 r34u4
 refine yH rfl rfl rfl (yK rfl (fun _ _ => (zH (sz := 9) 3 underlying119 sizeOf32 rfl rfl rfl (by decide)).cv (show _ = vP b12 27 from congrArg (vP b12) (by rfl))) rfl ?_)
 replace rb_3 := rb_3.mono (hh5.trans hh6)
 refine yP (F := fun v_ => (rpT (rpQ (k + 1))).Is h6 v_ ([(T3.mk x y (0 : Rat)), (T3.mk u y (0 : Rat)), (T3.mk u v (0 : Rat)), (T3.mk x v (0 : Rat))].getD 3 zT)) rfl (zE xJ (Pc.arr (Pc.here _) zT 3 (by decide)) rfl rfl rb_3 rfl) (yD mh4) rfl ?_
 intro v37u4 r37u4
 refine w_c rfl ?_
 refine zY (vs := [_, _]) call114 e2z (fun w hs => o_r5_lift hs r34u4 r37u4 (by omega) (by omega) (by omega)) rfl ?_
 intro v38u4 h7 hh7 r38u4
 obtain ⟨v38u4_0, rfl, r38u4_0⟩ := r38u4
 change (rpT (rpQ (3 * (k + 1) + l + 4 * m + 30))).Is h7 v38u4_0 (qF s ([(T3.mk x y (0 : Rat)), (T3.mk u y (0 : Rat)), (T3.mk u v (0 : Rat)), (T3.mk x v (0 : Rat))].getD 3 zT)) at r38u4_0
 replace r38u4_0 := Rp.Is.le r38u4_0 (Le.t (Le.q (l := 3 * k + l + 4 * m + 33) (by omega)))
 refine yH rfl rfl rfl (yK rfl (fun _ _ => zL (vs := [_, _]) rfl rfl) rfl (yK rfl (fun _ _ => zL (vs := [_, _]) rfl rfl) rfl ?_))
 refine w_a rfl rfl (fun b14u4 => ?_)
 have rb14u4 : (rpT (rpQ (3 * k + l + 4 * m + 33))).R h7 [.bool false, .slice none 0 0, .slice none 0 0, .bool false, .slice none 0 0, .slice none 0 0, .bool false, .slice none 0 0, .slice none 0 0] zT := (wO (wB (by omega)))
 refine w_c rfl (s_updx (A := []) (F := fun c_ => (rpT (rpQ (3 * k + l + 4 * m + 33))).R h7 c_ (qF s ([(T3.mk x y (0 : Rat)), (T3.mk u y (0 : Rat)), (T3.mk u v (0 : Rat)), (T3.mk x v (0 : Rat))].getD 3 zT))) (yJ sizeOf32 (Pc.here _) rfl rfl rfl rb14u4 r38u4_0 rfl) (wV (by first | (simp; done) | grind)) ?_)
 intro cs_14 rb_15
 refine uG rfl rfl rfl (xB (zB (zA (mv rfl rfl (xX (F := fun v_ => (rpT (rpQ (3 * k + l + 4 * m + 33))).Is h7 v_ (qF s ([(T3.mk x y (0 : Rat)), (T3.mk u y (0 : Rat)), (T3.mk u v (0 : Rat)), (T3.mk x v (0 : Rat))].getD 3 zT))) (zE xJ (Pc.here _) rfl rfl rb_15 rfl) (yD mh0) rfl ?_)))))
 intro v42u4 r42u4
 refine zI (wA (ρ := (rpT (rpQ (3 * k + l + 4 * m + 33)))) (m := 1) (xs := [qF s ([(T3.mk x y (0 : Rat)), (T3.mk u y (0 : Rat)), (T3.mk u v (0 : Rat)), (T3.mk x v (0 : Rat))].getD 3 zT)]) (ps' := [(0, _)]) underlying27 yL rfl rfl rfl (wO (wB (by omega))) e2z (yZ rfl (Pc.arr (Pc.here _) zT 0 (by decide)) r42u4 wH) (show 1 * 9 ≤ 16777216 from by decide) p9N) rfl rfl rfl ?_
 intro v43u4 q43u4 hq43u4
 obtain ⟨cs43u4, rfl, rl43u4⟩ := hq43u4
 refine qN (A := []) (ρ := (rpT (rpQ (3 * k + l + 4 * m + 33)))) rl43u4 ?_
 intro h8 hh8 rs_16
 replace rl44u3 := rl44u3.mono (hh7.trans hh8)
 refine qH (A := [_, _, _]) (xK (ρ := (rpT (rpQ (3 * k + l + 4 * m + 33)))) (bytes := 168) underlying27 yL rfl rfl rfl rfl p9N rfl rfl rl44u3 rs_16 (by first | omega | (simp only [lAz, lC, lN, lR, lS]; omega)) (by first | omega | (simp only [lAz, lC, lN, lR, lS]; omega))) rfl rfl rfl ?_
 intro v44u4 q44u4 hq44u4
 obtain ⟨cs44u4, rfl, rl44u4⟩ := hq44u4
 refine asg rfl rfl (zD (xC (zJ (e' := [(5, _), (12, _), (13, _), (11, _)]) e4z (zB (zA (mv rfl rfl (gv ((zS (q := 1) rfl rfl (by omega) (by omega)).cv (show _ = vI (4) from rfl)) rfl (asg rfl rfl (zD (wN (zC (zC (zA ?_)))))))))))))
 refine mv rfl rfl (gv (OpV.fa (by decide) (zW (q := 4) rfl rfl)) rfl (zD (zB (qQ rfl (xG (yB (yB (xF (zB (zC (zA (mv rfl rfl (asg rfl rfl ?_)))))))))))))
 refine zD (zB (zQ (jI (A := [_, _, _]) (ρ := (rpT (rpQ (3 * k + l + 4 * m + 33)))) rl44u4 ?_)))
 intro h9 hh9 rs_17
 refine yC rfl rfl ?_
 exact rs_17
theorem o_r6_around {w0 : World} {h0 : Mem}  (hs : MLe h0 (mem w0)) {m l k : Nat} {vs : Value} {s : ((T3 Rat) × Rat)} (rs : (rpP (rpT (rpQ m)) (rpQ l)).Is h0 vs s) {vps : Value} {ps : (List (T3 Rat))} (rps : (rpS (rpT (rpQ k))).Is h0 vps ps) (hcd0 : k ≤ 10000) (hcd1 : l ≤ 10000) (hcd2 : m ≤ 10000)  :
    Calls Tryz.prog 37 #[vs, vps] w0 (Ret w0 h0 (fun h r => ∃ u0, r = .tuple #[u0, vB (¬ (ps.length = 0 ∨ s.1 = zT))] ∧ (rpS (rpT (rpQ (3 * k + l + 4 * m + 45)))).Is h u0 (aroZ s ps))) := by
 have hlp := s_lt rps
 refine zM (n := 79) (e := [(0, vs), (1, vps)]) (vs := [vs, vps]) func37 rfl rfl (bL rfl) hs e2z (zC (zA (zI (yU (ρ := (rpP (rpT (rpQ m)) (rpQ l))) rfl rs) rfl rfl rfl ?_)))
 intro v2 q2 hq2
 obtain ⟨b2, cs2, rfl, rfl, rb2⟩ := hq2
 refine asg rfl rfl (asg rfl rfl (zD (zB (zC (zC (zA (mv rfl rfl (gv (wI underlying27 rfl rps) rfl (gv (xU (q := 0) rfl rfl) rfl ?_)))))))))
 refine vY (ι := Mem) 5 (fun m_ => MLe h0 m_) (fun _ => [(19, vB (((↑(ps).length : Int) = (0 : Int)) ∨ (s.1 = zT))), (1, vps), (2, vP b2 0)]) (fun _ => [.var b2 34 cs2]) (fun m_ => m_) ?_ ?_
 ·
  refine wL ((↑(ps).length : Int) = (0 : Int)) (fun hg => ?_) (fun hg => ?_)
  ·
   refine xE (yO (v := .bool true) (congrArg some (xL hg))) rfl rfl rfl (yI rfl rfl rfl rfl rfl rfl (yI rfl rfl rfl rfl rfl rfl (yI rfl rfl rfl rfl rfl rfl (gv (xM rfl rfl) rfl (zD ?_)))))
   refine yM h0 (MLe.refl _) ⟨?_, rfl, rfl, trivial⟩ rfl rfl
   exact congrArg some (jZ hg)
  refine xE (yO (v := .bool false) (congrArg some (yX hg))) rfl rfl rfl (yY rfl rfl rfl (gv ((zG underlying34 rfl sizeOf32 rfl).cv (show _ = vP b2 0 from congrArg (vP b2) (by rfl))) rfl (yY rfl rfl rfl (xX (F := fun v_ => (rpT (rpQ m)).Is h0 v_ s.1) (zE xJ (Pc.fst (Pc.here _)) rfl rfl rb2 rfl) (yD mh0) rfl ?_))))
  intro v17 r17
  refine yY rfl rfl rfl ?_
  refine zO (vs := [_]) rfl rfl rfl rfl call41 ⟨rfl, trivial⟩ (fun w hs => o_r4_zero hs r17 (by omega)) ?_
  intro v18 h1 hh1 r18
  obtain rfl : v18 = vB (s.1 = zT) := r18
  refine gv (xW rfl rfl) rfl (zD ?_)
  refine yM h1 hh1 ⟨?_, rfl, rfl, trivial⟩ rfl rfl
  exact congrArg some (kA hg)
 intro mg1_3 hmmg1_3
 show GL _ _ _ _ _ _ _ [(19, vB (((↑(ps).length : Int) = (0 : Int)) ∨ (s.1 = zT))), (1, vps), (2, vP b2 0)] [.var b2 34 cs2] mg1_3
 refine zD (zB ?_)
 refine zN rfl (fun hc19 => ?_) (fun hc19 => ?_)
 ·
  have hz : ps.length = 0 ∨ s.1 = zT := hc19.imp (fun e => by omega) id
  refine zC (zA (asg rfl rfl (asg rfl rfl (zD (zB (zQ (zV (vK rfl rfl rfl ?_))))))))
  refine ⟨_, ?_, (Rp.Is.cast (is_nil _) (by exact (if_pos hz).symm))⟩
  rw [yX (fun e => e hz)]
 have hz : ¬ (ps.length = 0 ∨ s.1 = zT) := fun e => hc19 (e.imp (fun e => by omega) id)
 refine zK (zB (zC ?_))
 refine yF 6 _ [(5, (6, 32, [.bool false, .slice none 0 0, .slice none 0 0, .bool false, .slice none 0 0, .slice none 0 0, .bool false, .slice none 0 0, .slice none 0 0]))] [(0, .q), (1, .q), (2, .q), (3, .q), (4, .c), (5, .a), (6, .t)] xH (jK.cons rfl rfl (qB yL rfl rfl) jK.nil) (by kernel_rfl) (qG rfl rfl kQ) (fun r hr => hr) ?_
 replace rb2 := rb2.mono hmmg1_3
 refine yP (F := fun v_ => (rpP (rpT (rpQ m)) (rpQ l)).Is mg1_3 v_ s) rfl (zE kH (Pc.here _) rfl rfl rb2 rfl) (yD mh0) rfl ?_
 intro v20 r20
 refine yH rfl rfl rfl ?_
 replace rps := rps.mono hmmg1_3
 refine yP (F := fun v_ => AtP (rpT (rpQ k)) mg1_3 v_ (ps.getD 0 zT)) rfl (vJ (q := 0) zT 0 underlying27 xJ rfl rfl rps rfl (by omega) p9N) vQ rfl ?_
 intro v22 r22
 refine yP (F := fun v_ => (rpT (rpQ k)).Is mg1_3 v_ (ps.getD 0 zT)) rfl (wG xJ rfl r22) vQ rfl ?_
 intro v23 r23
 refine w_c rfl ?_
 refine zY (vs := [_, _]) call73 e2z (fun w hs => o_r5_flatten hs r20 r23 (by omega) (by omega)) rfl ?_
 intro v24 h1 hh1 r24
 change (rpT (rpQ (k + 1))).Is h1 v24 (qX s (ps.getD 0 zT)) at r24
 refine w_a rfl rfl (fun b6 => ?_)
 have rb6 : (rpT (rpQ (k + 1))).R h1 [.bool false, .slice none 0 0, .slice none 0 0, .bool false, .slice none 0 0, .slice none 0 0, .bool false, .slice none 0 0, .slice none 0 0] zT := (wO (wB (by omega)))
 refine xR (A := []) (F := fun c_ => (rpT (rpQ (k + 1))).R h1 c_ (qX s (ps.getD 0 zT))) rfl (yJ sizeOf32 (Pc.here _) rfl rfl rfl rb6 r24 rfl) ?_
 intro cs_18 rb_19
 refine xB (zB (zC (zA (xX (F := fun v_ => (rpT (rpQ (k + 1))).Is h1 v_ (qX s (ps.getD 0 zT))) (zE xJ (Pc.here _) rfl rfl rb_19 rfl) (yD mh0) rfl ?_))))
 intro v25 r25
 refine zI (yR (ρ := (rpT (rpQ (k + 1)))) (X := zT) yL rfl rfl (wO (wB (by omega)))) rfl rfl rfl ?_
 intro v7 q7 hq7
 obtain ⟨b7, cs7, rfl, rfl, rb7⟩ := hq7
 refine wW (A := []) (F := fun c_ => (rpT (rpQ (k + 1))).R h1 c_ (qX s (ps.getD 0 zT))) (yJ sizeOf32 (Pc.here _) rfl rfl rfl rb7 r25 rfl) ?_
 intro cs_20 rb_21
 refine zD (zB (zC (zC (zA (asg (v := vI (0)) rfl rfl (zD (zB (zP ?_))))))))
 refine wE (ι := Nat × List Value × List Value × Mem) (fun (i, cs_22, cs_24, ma) => MLe h1 ma ∧ ((rpT (rpQ (k + 1))).R ma cs_22 (loT2 s ps i) ∧ (rpT (rpQ (k + 1))).R ma cs_24 (hiT2 s ps i) ∧ i ≤ ps.length)) (fun (i, cs_22, cs_24, ma) => [(1, vps), (2, vP b2 0), (6, vP b6 0), (7, vP b7 0), (8, vI ↑i)]) (fun (i, cs_22, cs_24, ma) => [.var b7 32 cs_24, .var b6 32 cs_22, .var b2 34 cs2]) (fun (i, cs_22, cs_24, ma) => ma) (fun (i, cs_22, cs_24, ma) => ps.length - i) (0, cs_18, cs_20, h1) ?_ e5z rfl rfl ?_
 ·
  refine ⟨MLe.refl _, ?_⟩
  refine ⟨rb_19, rb_21, ?_⟩
  exact (by omega)
 intro x hx
 obtain ⟨i, cs_22, cs_24, ma⟩ := x
 obtain ⟨hmma, hinv⟩ := hx
 show GC _ _ _ _ _ _ [(1, vps), (2, vP b2 0), (6, vP b6 0), (7, vP b7 0), (8, vI ↑i)] [.var b7 32 cs_24, .var b6 32 cs_22, .var b2 34 cs2] ma
 obtain ⟨rb_23, rb_25, hinv⟩ := hinv
 have hi1 := hinv
 refine zC (zC (zA (mv rfl rfl (mv rfl rfl ?_))))
 replace rps := rps.mono (hh1.trans hmma)
 refine gv (wI underlying27 rfl rps) rfl (gv (zW rfl rfl) rfl (zD (zB ?_)))
 refine zN rfl (fun hc29 => ?_) (fun hc29 => ?_)
 ·
  refine zK (zB (zC (zP (zC ?_))))
  refine yF 7 _ [(6, (9, 32, [.bool false, .slice none 0 0, .slice none 0 0, .bool false, .slice none 0 0, .slice none 0 0, .bool false, .slice none 0 0, .slice none 0 0]))] [(0, .q), (1, .q), (2, .q), (3, .q), (4, .q), (5, .c), (6, .a), (7, .t)] xH (jK.cons rfl rfl (qB yL rfl rfl) jK.nil) (by kernel_rfl) (qG rfl rfl kQ) (fun r hr => hr) ?_
  replace rb2 := rb2.mono (hh1.trans hmma)
  refine yP (F := fun v_ => (rpP (rpT (rpQ m)) (rpQ l)).Is ma v_ s) rfl (zE kH (Pc.here _) rfl rfl rb2 rfl) (yD mh2) rfl ?_
  intro v32 r32
  refine yH rfl rfl rfl (yH rfl rfl rfl (yP (F := fun v_ => AtP (rpT (rpQ k)) ma v_ (ps.getD i zT)) rfl (vJ zT i underlying27 xJ rfl rfl rps rfl (by omega) p9N) vQ rfl ?_))
  intro v35 r35
  refine yP (F := fun v_ => (rpT (rpQ k)).Is ma v_ (ps.getD i zT)) rfl (wG xJ rfl r35) vQ rfl ?_
  intro v36 r36
  refine w_c rfl ?_
  refine zY (vs := [_, _]) call73 e2z (fun w hs => o_r5_flatten hs r32 r36 (by omega) (by omega)) rfl ?_
  intro v37 h2 hh2 r37
  change (rpT (rpQ (k + 1))).Is h2 v37 (qX s (ps.getD i zT)) at r37
  refine w_a rfl rfl (fun b9 => ?_)
  have rb9 : (rpT (rpQ (k + 1))).R h2 [.bool false, .slice none 0 0, .slice none 0 0, .bool false, .slice none 0 0, .slice none 0 0, .bool false, .slice none 0 0, .slice none 0 0] zT := (wO (wB (by omega)))
  refine xR (A := []) (F := fun c_ => (rpT (rpQ (k + 1))).R h2 c_ (qX s (ps.getD i zT))) rfl (yJ sizeOf32 (Pc.here _) rfl rfl rfl rb9 r37 rfl) ?_
  intro cs_26 rb_27
  refine xB (zJ (e' := [(1, _), (2, _), (6, _), (7, _), (8, _), (9, _)]) e6 (zB (zC (zA (asg (v := vI (0)) rfl rfl (zD (zB (zP (kD (zC (zC (zA (mv rfl rfl ?_)))))))))))))
  refine gv (OpV.tr (by decide) (zW (q := 2) rfl rfl)) rfl (zD (zB (xZ rfl (zK (zB (zC (zP ?_)))))))
  refine yF 17 _ [] [(0, .q), (1, .p), (2, .q), (3, .q), (4, .q), (5, .q), (6, .q), (7, .q), (9, .q), (10, .q), (11, .q), (12, .q), (13, .q), (14, .q), (8, .c), (16, .q), (15, .c), (17, .t), (18, .t), (19, .t)] xH nX (chk_of [0, 0, 0, 4, 8, 0, 32, 64, 144, 0, 512, 1024, 0, 4096, 8192, 18688, 509, 98813, 262143, 524287] [1048575, 1048575, 1048575, 1048571, 1048567, 1048575, 1048543, 1048511, 1048431, 1048575, 1048063, 1047551, 1048575, 1044479, 1040383, 1030143, 1048574, 982783, 1048573, 753663] (by kernel_rfl)) nX (fun r hr => hr) (yH rfl rfl rfl (w_p (⟨.inl rfl,  rfl⟩) rfl rfl (yH rfl rfl rfl (yK rfl (fun _ _ => (zH (sz := 3) 0 underlying32 sizeOf30 rfl rfl rfl (by decide)).cv (show _ = vP b6 0 from congrArg (vP b6) (by rfl))) rfl ?_))))
  replace rb_23 := rb_23.mono hh2
  refine yP (F := fun v_ => (rpQ (k + 1)).Is h2 v_ ((loT2 s ps i).x)) rfl (zE xS (Pc.tx (Pc.here _)) rfl rfl rb_23 rfl) (yD mh2) rfl ?_
  intro v46u6 r46u6
  refine yH rfl rfl rfl (yK rfl (fun _ _ => (zH (sz := 3) 0 underlying32 sizeOf30 rfl rfl rfl (by decide)).cv (show _ = vP b9 0 from congrArg (vP b9) (by rfl))) rfl (yP (F := fun v_ => (rpQ (k + 1)).Is h2 v_ ((qX s (ps.getD i zT)).x)) rfl (zE xS (Pc.tx (Pc.here _)) rfl rfl rb_27 rfl) (yD mh0) rfl ?_))
  intro v49u6 r49u6
  refine yH rfl rfl rfl (yK rfl (fun _ _ => (zH (sz := 3) 0 underlying32 sizeOf30 rfl rfl rfl (by decide)).cv (show _ = vP b7 0 from congrArg (vP b7) (by rfl))) rfl ?_)
  replace rb_25 := rb_25.mono hh2
  refine yP (F := fun v_ => (rpQ (k + 1)).Is h2 v_ ((hiT2 s ps i).x)) rfl (zE xS (Pc.tx (Pc.here _)) rfl rfl rb_25 rfl) (yD mh1) rfl ?_
  intro v53u6 r53u6
  refine yH rfl rfl rfl (yK rfl (fun _ _ => (zH (sz := 3) 0 underlying32 sizeOf30 rfl rfl rfl (by decide)).cv (show _ = vP b9 0 from congrArg (vP b9) (by rfl))) rfl (yP (F := fun v_ => (rpQ (k + 1)).Is h2 v_ ((qX s (ps.getD i zT)).x)) rfl (zE xS (Pc.tx (Pc.here _)) rfl rfl rb_27 rfl) (yD mh0) rfl ?_))
  intro v56u6 r56u6
  refine w_c rfl ?_
  refine zY (vs := [_, _]) call74 e2z (fun w hs => o_rref_min hs r46u6 r49u6 (by omega)) rfl ?_
  intro v50u6 h3 hh3 r50u6
  change (rpQ (k + 1)).Is h3 v50u6 (kM ((loT2 s ps i).x) ((qX s (ps.getD i zT)).x)) at r50u6
  refine yK rfl (fun _ _ => (zH (sz := 3) 0 underlying32 sizeOf30 rfl rfl rfl (by decide)).cv (show _ = vP b6 0 from congrArg (vP b6) (by rfl))) rfl ?_
  refine w_c rfl ?_
  replace r53u6 := r53u6.mono hh3
  replace r56u6 := r56u6.mono hh3
  refine zY (vs := [_, _]) call75 e2z (fun w hs => o_rref_max hs r53u6 r56u6 (by omega)) rfl ?_
  intro v57u6 h4 hh4 r57u6
  change (rpQ (k + 1)).Is h4 v57u6 (kL ((hiT2 s ps i).x) ((qX s (ps.getD i zT)).x)) at r57u6
  replace rb_23 := rb_23.mono (hh3.trans hh4)
  replace r50u6 := r50u6.mono hh4
  refine xR (A := [_, _]) (F := fun c_ => (rpT (rpQ (k + 1))).R h4 c_ (T3.mk (kM ((loT2 s ps i).x) ((qX s (ps.getD i zT)).x)) ((loT2 s ps i).y) ((loT2 s ps i).z))) rfl (yJ sizeOf30 (Pc.tx (Pc.here _)) rfl rfl rfl rb_23 r50u6 rfl) ?_
  intro cs_28 rb_29
  refine w_t_val rfl ((zH (sz := 3) 0 underlying32 sizeOf30 rfl rfl rfl (by decide)).cv (show _ = vP b7 0 from congrArg (vP b7) (by rfl))) rfl ?_
  replace rb_25 := rb_25.mono (hh3.trans hh4)
  refine xR (A := [_]) (F := fun c_ => (rpT (rpQ (k + 1))).R h4 c_ (T3.mk (kL ((hiT2 s ps i).x) ((qX s (ps.getD i zT)).x)) ((hiT2 s ps i).y) ((hiT2 s ps i).z))) rfl (yJ sizeOf30 (Pc.tx (Pc.here _)) rfl rfl rfl rb_25 r57u6 rfl) ?_
  intro cs_30 rb_31
  refine xB (xC (zJ (e' := [(1, _), (2, _), (6, _), (7, _), (8, _), (9, _), (10, _)]) e7 (zB (zA (mv rfl rfl (gv ((zS (q := 1) rfl rfl (by omega) (by omega)).cv (show _ = vI (1) from rfl)) rfl (asg rfl rfl (zD (wN (zC (zC (zA (mv rfl rfl ?_)))))))))))))
  refine gv (OpV.tr (by decide) (zW (q := 2) rfl rfl)) rfl (zD (zB (xZ rfl (zK (zB (zC (zP ?_)))))))
  refine yF 17 _ [] [(0, .q), (1, .p), (2, .q), (3, .q), (4, .q), (5, .q), (6, .q), (7, .q), (9, .q), (10, .q), (11, .q), (12, .q), (13, .q), (14, .q), (8, .c), (16, .q), (15, .c), (17, .t), (18, .t), (19, .t)] xH nX (chk_of [0, 0, 0, 4, 8, 0, 32, 64, 144, 0, 512, 1024, 0, 4096, 8192, 18688, 509, 98813, 262143, 524287] [1048575, 1048575, 1048575, 1048571, 1048567, 1048575, 1048543, 1048511, 1048431, 1048575, 1048063, 1047551, 1048575, 1044479, 1040383, 1030143, 1048574, 982783, 1048573, 753663] (by kernel_rfl)) nX (fun r hr => hr) (yH rfl rfl rfl (w_p (⟨.inl rfl,  rfl⟩) rfl rfl (yH rfl rfl rfl (yK rfl (fun _ _ => (zH (sz := 3) 1 underlying32 sizeOf30 rfl rfl rfl (by decide)).cv (show _ = vP b6 3 from congrArg (vP b6) (by rfl))) rfl (yP (F := fun v_ => (rpQ (k + 1)).Is h4 v_ ((loT2 s ps i).y)) rfl (zE xS (Pc.ty (Pc.here _)) rfl rfl rb_29 rfl) (yD mh2) rfl ?_)))))
  intro v46u7 r46u7
  refine yH rfl rfl rfl (yK rfl (fun _ _ => (zH (sz := 3) 1 underlying32 sizeOf30 rfl rfl rfl (by decide)).cv (show _ = vP b9 3 from congrArg (vP b9) (by rfl))) rfl ?_)
  replace rb_27 := rb_27.mono (hh3.trans hh4)
  refine yP (F := fun v_ => (rpQ (k + 1)).Is h4 v_ ((qX s (ps.getD i zT)).y)) rfl (zE xS (Pc.ty (Pc.here _)) rfl rfl rb_27 rfl) (yD mh0) rfl ?_
  intro v49u7 r49u7
  refine yH rfl rfl rfl (yK rfl (fun _ _ => (zH (sz := 3) 1 underlying32 sizeOf30 rfl rfl rfl (by decide)).cv (show _ = vP b7 3 from congrArg (vP b7) (by rfl))) rfl (yP (F := fun v_ => (rpQ (k + 1)).Is h4 v_ ((hiT2 s ps i).y)) rfl (zE xS (Pc.ty (Pc.here _)) rfl rfl rb_31 rfl) (yD mh1) rfl ?_))
  intro v53u7 r53u7
  refine yH rfl rfl rfl (yK rfl (fun _ _ => (zH (sz := 3) 1 underlying32 sizeOf30 rfl rfl rfl (by decide)).cv (show _ = vP b9 3 from congrArg (vP b9) (by rfl))) rfl (yP (F := fun v_ => (rpQ (k + 1)).Is h4 v_ ((qX s (ps.getD i zT)).y)) rfl (zE xS (Pc.ty (Pc.here _)) rfl rfl rb_27 rfl) (yD mh0) rfl ?_))
  intro v56u7 r56u7
  refine w_c rfl ?_
  refine zY (vs := [_, _]) call74 e2z (fun w hs => o_rref_min hs r46u7 r49u7 (by omega)) rfl ?_
  intro v50u7 h5 hh5 r50u7
  change (rpQ (k + 1)).Is h5 v50u7 (kM ((loT2 s ps i).y) ((qX s (ps.getD i zT)).y)) at r50u7
  refine yK rfl (fun _ _ => (zH (sz := 3) 1 underlying32 sizeOf30 rfl rfl rfl (by decide)).cv (show _ = vP b6 3 from congrArg (vP b6) (by rfl))) rfl ?_
  refine w_c rfl ?_
  replace r53u7 := r53u7.mono hh5
  replace r56u7 := r56u7.mono hh5
  refine zY (vs := [_, _]) call75 e2z (fun w hs => o_rref_max hs r53u7 r56u7 (by omega)) rfl ?_
  intro v57u7 h6 hh6 r57u7
  change (rpQ (k + 1)).Is h6 v57u7 (kL ((hiT2 s ps i).y) ((qX s (ps.getD i zT)).y)) at r57u7
  replace rb_29 := rb_29.mono (hh5.trans hh6)
  replace r50u7 := r50u7.mono hh6
  refine xR (A := [_, _]) (F := fun c_ => (rpT (rpQ (k + 1))).R h6 c_ (T3.mk (kM ((loT2 s ps i).x) ((qX s (ps.getD i zT)).x)) (kM ((loT2 s ps i).y) ((qX s (ps.getD i zT)).y)) ((loT2 s ps i).z))) rfl (yJ sizeOf30 (Pc.ty (Pc.here _)) rfl rfl rfl rb_29 r50u7 rfl) ?_
  intro cs_32 rb_33
  refine w_t_val rfl ((zH (sz := 3) 1 underlying32 sizeOf30 rfl rfl rfl (by decide)).cv (show _ = vP b7 3 from congrArg (vP b7) (by rfl))) rfl ?_
  replace rb_31 := rb_31.mono (hh5.trans hh6)
  refine xR (A := [_]) (F := fun c_ => (rpT (rpQ (k + 1))).R h6 c_ (T3.mk (kL ((hiT2 s ps i).x) ((qX s (ps.getD i zT)).x)) (kL ((hiT2 s ps i).y) ((qX s (ps.getD i zT)).y)) ((hiT2 s ps i).z))) rfl (yJ sizeOf30 (Pc.ty (Pc.here _)) rfl rfl rfl rb_31 r57u7 rfl) ?_
  intro cs_34 rb_35
  refine xB (xC (zJ (e' := [(1, _), (2, _), (6, _), (7, _), (8, _), (9, _), (10, _)]) e7 (zB (zA (mv rfl rfl (gv ((zS (q := 1) rfl rfl (by omega) (by omega)).cv (show _ = vI (2) from rfl)) rfl (asg rfl rfl (zD (wN (zC (zC (zA (mv rfl rfl ?_)))))))))))))
  refine gv (OpV.fa (by decide) (zW (q := 2) rfl rfl)) rfl (zD (zB (qQ rfl (xG (yB (yB (xF (xC (zB (zA (mv rfl rfl (gv (zS (q := 1) rfl rfl (by omega) (by omega)) rfl (asg rfl rfl ?_)))))))))))))
  refine zD (wQ (A := []) ?_)
  refine yV ((i + 1), cs_32, cs_34, h6) ?_ ?_ e5z rfl rfl
  ·
   refine ⟨(((((hmma.trans hh2).trans hh3).trans hh4).trans hh5).trans hh6), ?_⟩
   refine ⟨(Rp.castR rb_33 rfl), (Rp.castR rb_35 rfl), ?_⟩
   exact (by omega)
  dsimp only
  omega
 have ei : i = ps.length := by omega
 refine xG (yB (yB (xF (zB (zC (zA ?_))))))
 refine zO (vs := [vI (1)]) rfl rfl rfl rfl call45 ⟨rfl, trivial⟩ (fun w hs => o_rref_int hs (by decide) (by decide)) ?_
 intro v60 h2 hh2 r60
 change (rpQ 2).Is h2 v60 (((1 : Int) : Int) : Rat) at r60
 refine zI (yR (ρ := (rpQ 1)) (X := (0 : Rat)) wT rfl rfl (wB (by decide))) rfl rfl rfl ?_
 intro v11 q11 hq11
 obtain ⟨b11, cs11, rfl, rfl, rb11⟩ := hq11
 have rw_36 := (Le.q (l := 2) (by decide)).R rb11
 refine wW (A := []) (F := fun c_ => (rpQ 2).R h2 c_ (((1 : Int) : Int) : Rat)) (yJ sizeOf30 (Pc.here _) rfl rfl rfl rw_36 r60 rfl) ?_
 intro cs_37 rb_38
 refine zD (zB (zC ?_))
 refine yF 20 _ [] [(0, .q), (1, .q), (2, .q), (3, .q), (5, .q), (6, .q), (7, .q), (9, .q), (10, .q), (11, .q), (13, .q), (14, .q), (15, .q), (4, .c), (8, .c), (12, .c), (16, .c), (17, .c), (18, .q), (19, .q)] xH nX (chk_of [0, 0, 2, 0, 12, 0, 32, 0, 208, 0, 512, 0, 3328, 0, 8192, 0, 53248, 69905, 262143, 524287] [1048575, 1048575, 1048573, 1048575, 1048563, 1048575, 1048543, 1048575, 1048383, 1048575, 1048063, 1048575, 1045503, 1048575, 1040383, 1048575, 999423, 978670, 917503, 1048575] (by kernel_rfl)) nX (fun r hr => hr) ?_
 replace rb2 := rb2.mono ((hh1.trans hmma).trans hh2)
 refine yP (F := fun v_ => (rpP (rpT (rpQ m)) (rpQ l)).Is h2 v_ s) rfl (zE kH (Pc.here _) rfl rfl rb2 rfl) (yD mh3) rfl ?_
 intro v61 r61
 refine yK rfl (fun _ _ => (zH (sz := 3) (q := 0) 0 underlying32 sizeOf30 rfl rfl rfl (by decide)).cv (show _ = vP b6 0 from congrArg (vP b6) (by rfl))) rfl ?_
 replace rb_23 := rb_23.mono hh2
 refine yP (F := fun v_ => (rpQ (k + 1)).Is h2 v_ ((loT2 s ps i).x)) rfl (zE xS (Pc.tx (Pc.here _)) rfl rfl rb_23 rfl) (yD mh2) rfl ?_
 intro v63 r63
 refine yP (F := fun v_ => (rpQ 2).Is h2 v_ (((1 : Int) : Int) : Rat)) rfl (zE xS (Pc.here _) rfl rfl rb_38 rfl) (yD mh0) rfl ?_
 intro v64 r64
 refine yK rfl (fun _ _ => (zH (sz := 3) (q := 1) 1 underlying32 sizeOf30 rfl rfl rfl (by decide)).cv (show _ = vP b6 3 from congrArg (vP b6) (by rfl))) rfl (yP (F := fun v_ => (rpQ (k + 1)).Is h2 v_ ((loT2 s ps i).y)) rfl (zE xS (Pc.ty (Pc.here _)) rfl rfl rb_23 rfl) (yD mh2) rfl ?_)
 intro v67 r67
 refine yP (F := fun v_ => (rpQ 2).Is h2 v_ (((1 : Int) : Int) : Rat)) rfl (zE xS (Pc.here _) rfl rfl rb_38 rfl) (yD mh0) rfl ?_
 intro v68 r68
 refine yK rfl (fun _ _ => (zH (sz := 3) (q := 0) 0 underlying32 sizeOf30 rfl rfl rfl (by decide)).cv (show _ = vP b7 0 from congrArg (vP b7) (by rfl))) rfl ?_
 replace rb_25 := rb_25.mono hh2
 refine yP (F := fun v_ => (rpQ (k + 1)).Is h2 v_ ((hiT2 s ps i).x)) rfl (zE xS (Pc.tx (Pc.here _)) rfl rfl rb_25 rfl) (yD mh1) rfl ?_
 intro v71 r71
 refine yP (F := fun v_ => (rpQ 2).Is h2 v_ (((1 : Int) : Int) : Rat)) rfl (zE xS (Pc.here _) rfl rfl rb_38 rfl) (yD mh0) rfl ?_
 intro v72 r72
 refine yK rfl (fun _ _ => (zH (sz := 3) (q := 1) 1 underlying32 sizeOf30 rfl rfl rfl (by decide)).cv (show _ = vP b7 3 from congrArg (vP b7) (by rfl))) rfl (yP (F := fun v_ => (rpQ (k + 1)).Is h2 v_ ((hiT2 s ps i).y)) rfl (zE xS (Pc.ty (Pc.here _)) rfl rfl rb_25 rfl) (yD mh1) rfl ?_)
 intro v75 r75
 refine yP (F := fun v_ => (rpQ 2).Is h2 v_ (((1 : Int) : Int) : Rat)) rfl (zE xS (Pc.here _) rfl rfl rb_38 rfl) (yD mh0) rfl ?_
 intro v76 r76
 refine w_c rfl ?_
 refine zY (vs := [_, _]) call56 e2z (fun w hs => jG hs r63 r64 (by omega)) rfl ?_
 intro v65 h3 hh3 r65
 change (rpQ ((k + 1) + 2 + 1)).Is h3 v65 (((loT2 s ps i).x) - (((1 : Int) : Int) : Rat)) at r65
 replace r65 := Rp.Is.le r65 (Le.q (l := k + 4) (by omega))
 refine w_c rfl ?_
 replace r67 := r67.mono hh3
 replace r68 := r68.mono hh3
 refine zY (vs := [_, _]) call56 e2z (fun w hs => jG hs r67 r68 (by omega)) rfl ?_
 intro v69 h4 hh4 r69
 change (rpQ ((k + 1) + 2 + 1)).Is h4 v69 (((loT2 s ps i).y) - (((1 : Int) : Int) : Rat)) at r69
 replace r69 := Rp.Is.le r69 (Le.q (l := k + 4) (by omega))
 refine w_c rfl ?_
 replace r71 := r71.mono (hh3.trans hh4)
 replace r72 := r72.mono (hh3.trans hh4)
 refine zY (vs := [_, _]) call53 e2z (fun w hs => o_rref_add hs r71 r72 (by omega)) rfl ?_
 intro v73 h5 hh5 r73
 change (rpQ ((k + 1) + 2 + 1)).Is h5 v73 (((hiT2 s ps i).x) + (((1 : Int) : Int) : Rat)) at r73
 replace r73 := Rp.Is.le r73 (Le.q (l := k + 4) (by omega))
 refine w_c rfl ?_
 replace r75 := r75.mono ((hh3.trans hh4).trans hh5)
 replace r76 := r76.mono ((hh3.trans hh4).trans hh5)
 refine zY (vs := [_, _]) call53 e2z (fun w hs => o_rref_add hs r75 r76 (by omega)) rfl ?_
 intro v77 h6 hh6 r77
 change (rpQ ((k + 1) + 2 + 1)).Is h6 v77 (((hiT2 s ps i).y) + (((1 : Int) : Int) : Rat)) at r77
 replace r77 := Rp.Is.le r77 (Le.q (l := k + 4) (by omega))
 refine w_c rfl ?_
 replace r61 := r61.mono (((hh3.trans hh4).trans hh5).trans hh6)
 replace r65 := r65.mono ((hh4.trans hh5).trans hh6)
 replace r69 := r69.mono (hh5.trans hh6)
 replace r73 := r73.mono hh6
 refine zY (vs := [_, _, _, _, _]) call76 e5z (fun w hs => o_r6_square hs r61 r65 r69 r73 r77 (by omega) (by omega) (by omega)) rfl ?_
 intro v78 h7 hh7 r78
 change (rpS (rpT (rpQ (3 * (k + 4) + l + 4 * m + 33)))).Is h7 v78 (sqrL s (((loT2 s ps i).x) - (((1 : Int) : Int) : Rat)) (((loT2 s ps i).y) - (((1 : Int) : Int) : Rat)) (((hiT2 s ps i).x) + (((1 : Int) : Int) : Rat)) (((hiT2 s ps i).y) + (((1 : Int) : Int) : Rat))) at r78
 replace r78 := Rp.Is.le r78 (Le.s (Le.t (Le.q (l := 3 * k + l + 4 * m + 45) (by omega))))
 refine uG rfl rfl rfl (uG rfl rfl rfl (xB (zJ (e' := [(4, _), (5, _)]) e2z (zB (zQ (vK rfl rfl rfl ?_))))))
 refine ⟨_, ?_, (Rp.Is.cast r78 (by rw [ei]; exact (if_neg hz).symm))⟩
 rw [xL hz]
end Go.Proofs.YtghhjjmjpeehdaaGreat
namespace Go.Proofs.YtghhjjmjpeehdaaGreat
open Bk Go Tryz
set_option linter.unusedVariables false
set_option linter.unusedSimpArgs false
set_option maxRecDepth 10000
theorem o_law_square {w0 : World} {h0 : Mem}  (hs : MLe h0 (mem w0))  :
    Calls Tryz.prog 43 #[] w0 (Ret w0 h0 (fun h r => (rpS (rpT (rpQ 2))).Is h r sq0)) := by
 refine zM (n := 6) (e := []) (vs := []) func43 rfl rfl (bL rfl) hs trivial (zC (zA (asg rfl rfl (zD (zB (zC (zA ?_)))))))
 refine zO (vs := [vI (0), vI (0), vI (0)]) rfl rfl rfl rfl call44 e3z (fun w hs => o_made_at3 hs (by decide) (by decide) (by decide) (by decide) (by decide) (by decide)) ?_
 intro v1 h1 hh1 r1
 change (rpT (rpQ 2)).Is h1 v1 (T3.mk (((0 : Int) : Int) : Rat) (((0 : Int) : Int) : Rat) (((0 : Int) : Int) : Rat)) at r1
 refine zO (vs := [vI (2), vI (0), vI (0)]) rfl rfl rfl rfl call44 e3z (fun w hs => o_made_at3 hs (by decide) (by decide) (by decide) (by decide) (by decide) (by decide)) ?_
 intro v2 h2 hh2 r2
 change (rpT (rpQ 2)).Is h2 v2 (T3.mk (((2 : Int) : Int) : Rat) (((0 : Int) : Int) : Rat) (((0 : Int) : Int) : Rat)) at r2
 refine zO (vs := [vI (2), vI (2), vI (0)]) rfl rfl rfl rfl call44 e3z (fun w hs => o_made_at3 hs (by decide) (by decide) (by decide) (by decide) (by decide) (by decide)) ?_
 intro v3 h3 hh3 r3
 change (rpT (rpQ 2)).Is h3 v3 (T3.mk (((2 : Int) : Int) : Rat) (((2 : Int) : Int) : Rat) (((0 : Int) : Int) : Rat)) at r3
 refine zO (vs := [vI (0), vI (2), vI (0)]) rfl rfl rfl rfl call44 e3z (fun w hs => o_made_at3 hs (by decide) (by decide) (by decide) (by decide) (by decide) (by decide)) ?_
 intro v4 h4 hh4 r4
 change (rpT (rpQ 2)).Is h4 v4 (T3.mk (((0 : Int) : Int) : Rat) (((2 : Int) : Int) : Rat) (((0 : Int) : Int) : Rat)) at r4
 replace r1 := r1.mono ((hh2.trans hh3).trans hh4)
 replace r2 := r2.mono (hh3.trans hh4)
 replace r3 := r3.mono hh4
 refine zI (wA (ρ := (rpT (rpQ 2))) (m := 4) (xs := [(T3.mk (((0 : Int) : Int) : Rat) (((0 : Int) : Int) : Rat) (((0 : Int) : Int) : Rat)), (T3.mk (((2 : Int) : Int) : Rat) (((0 : Int) : Int) : Rat) (((0 : Int) : Int) : Rat)), (T3.mk (((2 : Int) : Int) : Rat) (((2 : Int) : Int) : Rat) (((0 : Int) : Int) : Rat)), (T3.mk (((0 : Int) : Int) : Rat) (((2 : Int) : Int) : Rat) (((0 : Int) : Int) : Rat))]) (ps' := [(0, _), (1, _), (2, _), (3, _)]) underlying27 yL rfl rfl rfl (wO (wB (by decide))) e8 (yZ rfl (Pc.arr (Pc.here _) zT 0 (by decide)) r1 (yZ rfl (Pc.arr (Pc.here _) zT 1 (by decide)) r2 (yZ rfl (Pc.arr (Pc.here _) zT 2 (by decide)) r3 (yZ rfl (Pc.arr (Pc.here _) zT 3 (by decide)) r4 wH)))) (show 4 * 9 ≤ 16777216 from by decide) p9N) rfl rfl rfl ?_
 intro v5 q5 hq5
 obtain ⟨cs5, rfl, rl5⟩ := hq5
 refine asg rfl rfl (zD (zB (zQ (jI (A := []) (ρ := (rpT (rpQ 2))) rl5 ?_))))
 intro h5 hh5 rs_1
 refine yC rfl rfl ?_
 exact rs_1
theorem law26_sane {w0 : World} {h0 : Mem}  (hs : MLe h0 (mem w0))  :
    Calls Tryz.prog 10 #[] w0 (Ret w0 h0 (fun _ r => r = .bool true)) := by
 refine zM (n := 33) (e := []) (vs := []) func10 rfl rfl (bL rfl) hs trivial (zC (zA (asg rfl rfl (zD (zB (zC (zA ?_)))))))
 refine zO (vs := []) rfl rfl rfl rfl call43 trivial (fun w hs => o_law_square hs ) ?_
 intro v4 h1 hh1 r4
 change (rpS (rpT (rpQ 2))).Is h1 v4 sq0 at r4
 refine zO (vs := [vI (1), vI (0), vI (0)]) rfl rfl rfl rfl call44 e3z (fun w hs => o_made_at3 hs (by decide) (by decide) (by decide) (by decide) (by decide) (by decide)) ?_
 intro v5 h2 hh2 r5
 change (rpT (rpQ 2)).Is h2 v5 (T3.mk (((1 : Int) : Int) : Rat) (((0 : Int) : Int) : Rat) (((0 : Int) : Int) : Rat)) at r5
 refine zO (vs := [vI (1)]) rfl rfl rfl rfl call45 ⟨rfl, trivial⟩ (fun w hs => o_rref_int hs (by decide) (by decide)) ?_
 intro v6 h3 hh3 r6
 change (rpQ 2).Is h3 v6 (((1 : Int) : Int) : Rat) at r6
 replace r5 := r5.mono hh3
 refine xX (F := fun v_ => (rpP (rpT (rpQ 2)) (rpQ 2)).Is h3 v_ ((T3.mk (((1 : Int) : Int) : Rat) (((0 : Int) : Int) : Rat) (((0 : Int) : Int) : Rat)), (((1 : Int) : Int) : Rat))) (ox_build (ps' := [(0, _), (1, _)]) underlying34 info34 rfl rfl (places34 underlying34) e4z rfl (zr_p (wO (wB (by decide))) (wB (by decide))) (yZ rfl (Pc.fst (Pc.here _)) r5 (yZ rfl (Pc.snd (Pc.here _)) r6 wH))) vQ rfl ?_
 intro v7 r7
 replace r4 := r4.mono (hh2.trans hh3)
 refine zO (vs := [_, _]) rfl rfl rfl rfl call14 e2z (fun w hs => o_cx_cut hs r4 r7 (by decide) (by decide) (by decide) (by first | omega | exact (by decide : 4 ≤ 50000))) ?_
 intro v8 h4 hh4 r8
 obtain ⟨v8_0, v8_1, rfl, r8_0, r8_1⟩ := r8
 change (rpS (rpT (rpQ (12 * 2 + 3 * 2 + 9 * 2 + 62 + 2)))).Is h4 v8_0 (qA ((T3.mk (((1 : Int) : Int) : Rat) (((0 : Int) : Int) : Rat) (((0 : Int) : Int) : Rat)), (((1 : Int) : Int) : Rat)) sq0) at r8_0
 replace r8_0 := Rp.Is.le r8_0 (Le.s (Le.t (Le.q (l := 112) (by omega))))
 change (rpS (rpT (rpQ (12 * 2 + 3 * 2 + 9 * 2 + 62 + 2)))).Is h4 v8_1 (uW ((T3.mk (((1 : Int) : Int) : Rat) (((0 : Int) : Int) : Rat) (((0 : Int) : Int) : Rat)), (((1 : Int) : Int) : Rat)) sq0) at r8_1
 replace r8_1 := Rp.Is.le r8_1 (Le.s (Le.t (Le.q (l := 112) (by omega))))
 refine mv rfl rfl (gv (zL (vs := [_, _]) rfl rfl) rfl (gv (zL (vs := [_, _]) rfl rfl) rfl (asg rfl rfl (asg rfl rfl (zD (zB (zC ?_)))))))
 refine yF 23 _ [] [(0, .q), (1, .q), (2, .q), (3, .q), (4, .q), (5, .q), (6, .q), (7, .q), (8, .q), (9, .q), (10, .q), (11, .q), (12, .c), (13, .c), (14, .q), (15, .q), (16, .q), (17, .q), (18, .q), (19, .c), (20, .c), (21, .q), (22, .q)] xH nX (chk_of [0, 1, 2, 4, 8, 24, 40, 72, 136, 256, 768, 1280, 256, 6400, 8448, 24576, 32768, 98304, 163840, 32768, 819200, 1081344, 4194303] [8388607, 8388606, 8388605, 8388603, 8388599, 8388583, 8388567, 8388535, 8388479, 8388351, 8387839, 8387327, 8388351, 8382207, 8380159, 8372223, 8355839, 8290303, 8224767, 8355839, 7569407, 7307263, 6291455] (by kernel_rfl)) nX (fun r hr => hr) (yH rfl rfl rfl (w_q rfl (fun h' L' hh hR => wI underlying27 rfl (r8_0.mono hh)) rfl (yK rfl (fun _ _ => OpV.tr (by exact congrArg (fun l : List Pt => (↑l.length : Int)) sane_parts.1) (xU (q := 4) rfl rfl)) rfl (yH rfl rfl rfl (jA rfl rfl rfl (fun h' L' hh hR => yO rfl) rfl (jA rfl rfl rfl (fun h' L' hh hR => wI underlying27 rfl (r8_1.mono hh)) rfl (jA rfl rfl rfl (fun h' L' hh hR => OpV.tr (by exact congrArg (fun l : List Pt => (↑l.length : Int)) sane_parts.2) (xU (q := 4) rfl rfl)) rfl (yK rfl (fun _ _ => xM rfl rfl) rfl (yH rfl rfl rfl (jA rfl rfl rfl (fun h' L' hh hR => yO rfl) rfl (w_qx_on (F := fun v_ => AtP (rpT (rpQ 112)) h4 v_ ((qA ((T3.mk (((1 : Int) : Int) : Rat) (((0 : Int) : Int) : Rat) (((0 : Int) : Int) : Rat)), (((1 : Int) : Int) : Rat)) sq0).getD 1 zT)) rfl rfl rfl (vJ (q := 1) zT 1 underlying27 xJ rfl rfl r8_0 rfl (by exact Nat.lt_of_lt_of_eq (by decide : 1 < 4) (congrArg List.length sane_parts.1).symm) p9N) vQ rfl ?_)))))))))))
 intro v21 r21
 refine w_qx_on (F := fun v_ => (rpT (rpQ 112)).Is h4 v_ ((qA ((T3.mk (((1 : Int) : Int) : Rat) (((0 : Int) : Int) : Rat) (((0 : Int) : Int) : Rat)), (((1 : Int) : Int) : Rat)) sq0).getD 1 zT)) rfl rfl rfl (wG xJ rfl r21) vQ rfl ?_
 intro v22 r22
 refine w_c rfl (s_on rfl rfl ?_)
 refine zY (vs := [vI (1), vI (0), vI (0)]) call44 e3z (fun w hs => o_made_at3 hs (by decide) (by decide) (by decide) (by decide) (by decide) (by decide)) rfl ?_
 intro v23 h5 hh5 r23
 change (rpT (rpQ 2)).Is h5 v23 (T3.mk (((1 : Int) : Int) : Rat) (((0 : Int) : Int) : Rat) (((0 : Int) : Int) : Rat)) at r23
 refine w_c rfl (s_on rfl rfl ?_)
 replace r22 := r22.mono hh5
 refine zY (vs := [_, _]) call29 e2z (fun w hs => o_r4_same hs r22 r23 (by decide)) rfl ?_
 intro v24 h6 hh6 r24
 obtain rfl : v24 = .bool true := by rw [show v24 = vB (((qA ((T3.mk (((1 : Int) : Int) : Rat) (((0 : Int) : Int) : Rat) (((0 : Int) : Int) : Rat)), (((1 : Int) : Int) : Rat)) sq0).getD 1 zT) = (T3.mk (((1 : Int) : Int) : Rat) (((0 : Int) : Int) : Rat) (((0 : Int) : Int) : Rat))) from r24, xL (by exact (congrArg (fun l : List Pt => l.getD 1 zT) sane_parts.1).trans sane_pt)]
 refine yK rfl (fun _ _ => xM rfl rfl) rfl (yH rfl rfl rfl (jA rfl rfl rfl (fun h' L' hh hR => yO rfl) rfl ?_))
 replace r8_1 := r8_1.mono (hh5.trans hh6)
 refine w_qx_on (F := fun v_ => AtP (rpT (rpQ 112)) h6 v_ ((uW ((T3.mk (((1 : Int) : Int) : Rat) (((0 : Int) : Int) : Rat) (((0 : Int) : Int) : Rat)), (((1 : Int) : Int) : Rat)) sq0).getD 0 zT)) rfl rfl rfl (vJ (q := 0) zT 0 underlying27 xJ rfl rfl r8_1 rfl (by exact Nat.lt_of_lt_of_eq (by decide : 0 < 4) (congrArg List.length sane_parts.2).symm) p9N) vQ rfl ?_
 intro v28 r28
 refine w_qx_on (F := fun v_ => (rpT (rpQ 112)).Is h6 v_ ((uW ((T3.mk (((1 : Int) : Int) : Rat) (((0 : Int) : Int) : Rat) (((0 : Int) : Int) : Rat)), (((1 : Int) : Int) : Rat)) sq0).getD 0 zT)) rfl rfl rfl (wG xJ rfl r28) vQ rfl ?_
 intro v29 r29
 refine w_c rfl (s_on rfl rfl ?_)
 refine zY (vs := [vI (1), vI (0), vI (0)]) call44 e3z (fun w hs => o_made_at3 hs (by decide) (by decide) (by decide) (by decide) (by decide) (by decide)) rfl ?_
 intro v30 h7 hh7 r30
 change (rpT (rpQ 2)).Is h7 v30 (T3.mk (((1 : Int) : Int) : Rat) (((0 : Int) : Int) : Rat) (((0 : Int) : Int) : Rat)) at r30
 refine w_c rfl (s_on rfl rfl ?_)
 replace r29 := r29.mono hh7
 refine zY (vs := [_, _]) call29 e2z (fun w hs => o_r4_same hs r29 r30 (by decide)) rfl ?_
 intro v31 h8 hh8 r31
 obtain rfl : v31 = .bool true := by rw [show v31 = vB (((uW ((T3.mk (((1 : Int) : Int) : Rat) (((0 : Int) : Int) : Rat) (((0 : Int) : Int) : Rat)), (((1 : Int) : Int) : Rat)) sq0).getD 0 zT) = (T3.mk (((1 : Int) : Int) : Rat) (((0 : Int) : Int) : Rat) (((0 : Int) : Int) : Rat))) from r31, xL (by exact (congrArg (fun l : List Pt => l.getD 0 zT) sane_parts.2).trans sane_pt)]
 refine yK rfl (fun _ _ => xM rfl rfl) rfl (uG rfl rfl rfl (xB (zJ (e' := [(0, _)]) ⟨rfl, trivial⟩ (zB (zQ (yC rfl rfl ?_))))))
 rfl
end Go.Proofs.YtghhjjmjpeehdaaGreat
namespace Bk
set_option linter.unusedVariables false
set_option linter.unusedSimpArgs false
open Classical
noncomputable abbrev lp2 (pl : Pl) (l : List Pt) : Nat → P2 := fun m => pt2 pl (gp l m)
def upr (pl : Pl) (a b : Pt) : Pl := (yW (qW b a) pl.1, wR (yW (qW b a) pl.1) a)
def inP (pl : Pl) (l : List Pt) (p : Pt) : Prop := (∀ m, m < l.length → ¬ 0 < sdZ (upr pl (gp l m) (nx l m)) p) ∧ 0 < l.length
theorem upr_or {pl : Pl} {a b p : Pt} (hn : ¬ pl.1 = zT) (ha : sdZ pl a = 0) (hb : sdZ pl b = 0) (hp : sdZ pl p = 0) : ¬ 0 < sdZ (upr pl a b) p ↔ 0 ≤ cr (pt2 pl a) (pt2 pl b) (pt2 pl p) := by
  have h : sdZ (upr pl a b) p = -orZ (pt2 pl a) (pt2 pl b) (pt2 pl p) := up_or hn ha hb hp
  have h2 : orZ (pt2 pl a) (pt2 pl b) (pt2 pl p) < 0 ↔ cr (pt2 pl a) (pt2 pl b) (pt2 pl p) < 0 := qY
  rw [h, ← Rat.not_lt, ← h2]
  omega
theorem conv_nx {pl : Pl} {l : List Pt} (h : qJ pl l) {m : Nat} (hm : m < l.length) : sdZ pl (nx l m) = 0 := h.2.1 _ (Nat.mod_lt _ (by omega))
theorem in_iff {pl : Pl} {l : List Pt} {p : Pt} (h : qJ pl l) (hp : sdZ pl p = 0) : inP pl l p ↔ inC (lp2 pl l) l.length (pt2 pl p) := by
  constructor
  · rintro ⟨h1, _⟩ m hm
    exact (upr_or h.1.2 (h.2.1 m hm) (conv_nx h hm) hp).1 (h1 m hm)
  · intro h1
    exact ⟨fun m hm => (upr_or h.1.2 (h.2.1 m hm) (conv_nx h hm) hp).2 (h1 m hm), by have := h.1.1; omega⟩
noncomputable def afC (pl c : Pl) : Rat × Rat × Rat :=
  (c.1.at (axK pl.1) / pl.1.at (axK pl.1) * pl.2 - c.2, c.1.at (axI pl.1) - c.1.at (axK pl.1) / pl.1.at (axK pl.1) * pl.1.at (axI pl.1), c.1.at (axJ pl.1) - c.1.at (axK pl.1) / pl.1.at (axK pl.1) * pl.1.at (axJ pl.1))
theorem af_hgt {pl c : Pl} {p : Pt} (hn : ¬ pl.1 = zT) (hp : sdZ pl p = 0) : afZ (afC pl c) (pt2 pl p) = hgt c p := by
  have hk : ¬ pl.1.at (axK pl.1) = 0 := fun e => hn ((ax_zero _).1 e)
  have h0 : hgt pl p = 0 := gA.1 hp
  have hu : c.1.at (axK pl.1) / pl.1.at (axK pl.1) * pl.1.at (axK pl.1) = c.1.at (axK pl.1) := Rat.div_mul_cancel hk
  unfold afC afZ pt2 pr
  simp only
  generalize c.1.at (axK pl.1) / pl.1.at (axK pl.1) = u at *
  unfold hgt wR at *
  obtain ⟨⟨x, y, z⟩, d⟩ := pl
  obtain ⟨⟨cx, cy, cz⟩, e⟩ := c
  obtain ⟨p1, p2, p3⟩ := p
  rcases ax_perm ⟨x, y, z⟩ with ⟨e1, e2, e3⟩ | ⟨e1, e2, e3⟩ | ⟨e1, e2, e3⟩ | ⟨e1, e2, e3⟩ | ⟨e1, e2, e3⟩ | ⟨e1, e2, e3⟩ <;> simp only [e1, e2, e3, T3.at] at * <;> grind
theorem cfg_cut {pl : Pl} {l : List Pt} (c : Pl) (h : qJ pl l) : Cfg (lp2 pl l) l.length (tC c l) (sgB c l) (afC pl c) where
  h3 := h.1.1
  tri := valid_tri h
  per := tC_per c l
  cross := fun m hm hc => by
    have hx := chgB.1 hc
    rw [tC_lt hm]
    refine ⟨(cut_t hx).1, ?_⟩
    have h1 := h.2.1 m hm
    have h2 := conv_nx h hm
    have h3 : sdZ pl (btw c (gp l m) (nx l m)) = 0 := by
      unfold btw
      rw [gA, hgt_lerp, gA.1 h1, gA.1 h2]
      grind
    have h4 := af_hgt (c := c) h.1.2 h3
    rw [(cut_t hx).2] at h4
    unfold btw at h4
    rw [pt2_lerp] at h4
    exact h4
  neg := fun m hm => by rw [af_hgt h.1.2 (h.2.1 m hm)]; exact sd_neg
  zero := fun m hm => by rw [af_hgt h.1.2 (h.2.1 m hm)]; exact gA
theorem part_pt {pl c : Pl} {l : List Pt} {s : Nat → Int} {q : Nat} (hq : q < (mks s l.length l.length).length) : lp2 pl ((mks s l.length l.length).map (mk3 c l)) q = mkP (lp2 pl l) l.length (tC c l) ((mks s l.length l.length).getD q (0, false)) := by
  show pt2 pl (gp _ q) = _
  rw [gp_map3 hq, mk3_pt2 (kC.1 (mk_in hq)).1]
theorem mem_gp {l : List Pt} {m : Nat} (hm : m < l.length) : gp l m ∈ l := by
  unfold gp
  rw [List.getD_eq_getElem?_getD, List.getElem?_eq_getElem hm]
  exact List.getElem_mem hm
theorem conv_side {pl c : Pl} {l : List Pt} {p : Pt} (h : qJ pl l) (hp : sdZ pl p = 0) (hi : inP pl l p) (hs : ∀ m, m < l.length → 0 ≤ hgt c (gp l m)) : 0 ≤ hgt c p := by
  rw [← af_hgt h.1.2 hp]
  exact hull_nonneg h.1.1 (valid_tri h) ((in_iff h hp).1 hi) fun m hm => by
    show 0 ≤ afZ (afC pl c) (pt2 pl (gp l m))
    rw [af_hgt h.1.2 (h.2.1 m hm)]; exact hs m hm
def ngP (c : Pl) : Pl := (T3.mk (-c.1.x) (-c.1.y) (-c.1.z), -c.2)
theorem hgt_ng (c : Pl) (p : Pt) : hgt (ngP c) p = -hgt c p := by unfold hgt ngP wR; grind
theorem conv_side' {pl c : Pl} {l : List Pt} {p : Pt} (h : qJ pl l) (hp : sdZ pl p = 0) (hi : inP pl l p) (hs : ∀ m, m < l.length → hgt c (gp l m) ≤ 0) : hgt c p ≤ 0 := by
  have := conv_side (c := ngP c) h hp hi fun m hm => by rw [hgt_ng]; have := hs m hm; grind
  rw [hgt_ng] at this
  grind
end Bk
namespace Bk
set_option linter.unusedVariables false
set_option linter.unusedSimpArgs false
open Classical
def sumT (l : List Pt) : Nat → Pt
  | 0 => zT
  | m + 1 => addT (sumT l m) (gp l m)
noncomputable def cenZ (l : List Pt) : Pt := if l.length = 0 then zT else T3.mk (qR 1 ↑l.length * (sumT l l.length).x) (qR 1 ↑l.length * (sumT l l.length).y) (qR 1 ↑l.length * (sumT l l.length).z)
def hsum (c : Pl) (l : List Pt) : Nat → Rat
  | 0 => 0
  | m + 1 => hsum c l m + hgt c (gp l m)
theorem dot_sum (c : Pl) (l : List Pt) : ∀ m, wR c.1 (sumT l m) = hsum c l m + (m : Rat) * c.2
  | 0 => by
    show wR c.1 zT = 0 + ((0 : Nat) : Rat) * c.2
    have e : ((0 : Nat) : Rat) = 0 := rfl
    rw [e]; unfold wR; grind
  | m + 1 => by
    have ih := dot_sum c l m
    have e : ((m + 1 : Nat) : Rat) = (m : Rat) + 1 := by rw [Rat.natCast_add]; rfl
    show wR c.1 (addT (sumT l m) (gp l m)) = hsum c l m + hgt c (gp l m) + _
    rw [e]
    unfold wR addT hgt at *
    unfold wR
    grind
theorem cen_hgt (c : Pl) {l : List Pt} (h : ¬ l.length = 0) : (l.length : Rat) * hgt c (cenZ l) = hsum c l l.length := by
  have hn : ¬ ((l.length : Rat)) = 0 := fun e => by
    have e0 : (0 : Rat) = ((0 : Nat) : Rat) := rfl
    rw [e0] at e
    exact h (by exact_mod_cast e)
  have hq : (l.length : Rat) * qR 1 ↑l.length = 1 := by
    unfold qR
    have e1 : ((1 : Int) : Rat) = 1 := rfl
    have e2 : (((l.length : Nat) : Int) : Rat) = (l.length : Rat) := Rat.intCast_natCast _
    rw [e1, e2, Rat.mul_comm, Rat.div_mul_cancel hn]
  have hd := dot_sum c l l.length
  unfold cenZ
  rw [if_neg h]
  generalize qR 1 ↑l.length = q at *
  generalize (l.length : Rat) = n at *
  unfold hgt wR at *
  simp only
  grind
theorem hsum_zero {c : Pl} {l : List Pt} : ∀ m, m ≤ l.length → (∀ q, q < l.length → hgt c (gp l q) = 0) → hsum c l m = 0
  | 0, _, _ => rfl
  | m + 1, hm, h => by
    show hsum c l m + hgt c (gp l m) = 0
    rw [hsum_zero m (by omega) h, h m (by omega)]; grind
theorem hsum_le {c : Pl} {l : List Pt} (h : ∀ q, q < l.length → hgt c (gp l q) ≤ 0) : ∀ m, m ≤ l.length → hsum c l m ≤ 0 ∧ ((∃ q, q < m ∧ hgt c (gp l q) < 0) → hsum c l m < 0)
  | 0, _ => ⟨Rat.le_refl, fun ⟨q, hq, _⟩ => by omega⟩
  | m + 1, hm => by
    obtain ⟨h1, h2⟩ := hsum_le h m (by omega)
    have h3 := h m (by omega)
    refine ⟨by show hsum c l m + hgt c (gp l m) ≤ 0; grind, fun ⟨q, hq, hn⟩ => ?_⟩
    show hsum c l m + hgt c (gp l m) < 0
    rcases Nat.lt_succ_iff_lt_or_eq.1 hq with e | e
    · have := h2 ⟨q, e, hn⟩; grind
    · subst e; grind
theorem nat_pos {n : Nat} (h : ¬ n = 0) : (0 : Rat) < (n : Rat) := by
  have e0 : (0 : Rat) = ((0 : Nat) : Rat) := rfl
  rw [e0]
  exact_mod_cast Nat.pos_of_ne_zero h
theorem cen_on {pl : Pl} {l : List Pt} (h : qJ pl l) : sdZ pl (cenZ l) = 0 := by
  have h0 : ¬ l.length = 0 := by have := h.1.1; omega
  have h1 := cen_hgt pl h0
  rw [hsum_zero _ (Nat.le_refl _) (fun q hq => gA.1 (h.2.1 q hq))] at h1
  rw [gA]
  rcases Rat.mul_eq_zero.1 h1 with h2 | h2
  · have := nat_pos h0; grind
  · exact h2
theorem det_le {pl : Pl} {a b c : Pt} (hn : ¬ pl.1 = zT) (ha : sdZ pl a = 0) (hb : sdZ pl b = 0) (hc : sdZ pl c = 0) : uT (detT (qW b a) (qW c a) pl.1) ≤ 0 ↔ ¬ 0 < orZ (pt2 pl a) (pt2 pl b) (pt2 pl c) := by
  rw [← det_or hn ha hb hc, det_eq]
  omega
end Bk
namespace Go.Proofs.YtghhjjmjpeehdaaGreat
open Bk Go Tryz
set_option linter.unusedVariables false
set_option linter.unusedSimpArgs false
set_option maxRecDepth 10000
theorem o_rref_make {w0 : World} {h0 : Mem} (hs : MLe h0 (mem w0)) {n : Int} (hn1 : -9223372036854775808 ≤ n) (hn2 : n < 9223372036854775808) {d : Int} (hd1 : -9223372036854775808 ≤ d) (hd2 : d < 9223372036854775808)  :
    Calls Tryz.prog 52 #[vI n, vI d] w0 (Ret w0 h0 (fun h r => ∃ u0, r = .tuple #[u0, vI (if d = 0 then 3 else 0)] ∧ (rpQ 2).Is h u0 (qR n d))) := by
  exact (rref_make hs   hn1 hn2 hd1 hd2).mono (jM fun h r x => by obtain ⟨u, e, y⟩ := x; exact ⟨u, e, is_q y (by exact lq_make hn1 hn2 hd1 hd2)⟩)
theorem o_s4_det {w0 : World} {h0 : Mem}  (hs : MLe h0 (mem w0)) {k l m : Nat} {va : Value} {a : (T3 Rat)} (ra : (rpT (rpQ k)).Is h0 va a) {vb : Value} {b : (T3 Rat)} (rb : (rpT (rpQ l)).Is h0 vb b) {vc : Value} {c : (T3 Rat)} (rc : (rpT (rpQ m)).Is h0 vc c) (hcd0 : k ≤ 100000000) (hcd1 : l ≤ 100000000) (hcd2 : m ≤ 100000000)  :
    Calls Tryz.prog 51 #[va, vb, vc] w0 (Ret w0 h0 (fun h r => (rpQ (3 * k + 6 * l + 6 * m + 18)).Is h r (detT a b c))) := by
 refine zM (n := 12) (e := [(0, va), (1, vb), (2, vc)]) (vs := [va, vb, vc]) func51 rfl rfl (bL rfl) hs e3z (zC (zA (zI (yU (ρ := (rpT (rpQ k))) rfl ra) rfl rfl rfl ?_)))
 intro v3 q3 hq3
 obtain ⟨b3, cs3, rfl, rfl, rb3⟩ := hq3
 refine zI (yU (ρ := (rpT (rpQ l))) rfl rb) rfl rfl rfl ?_
 intro v4 q4 hq4
 obtain ⟨b4, cs4, rfl, rfl, rb4⟩ := hq4
 refine zI (yU (ρ := (rpT (rpQ m))) rfl rc) rfl rfl rfl ?_
 intro v5 q5 hq5
 obtain ⟨b5, cs5, rfl, rfl, rb5⟩ := hq5
 refine zI (yR (ρ := (rpQ 1)) (X := (0 : Rat)) wT rfl rfl (wB (by decide))) rfl rfl rfl ?_
 intro v6 q6 hq6
 obtain ⟨b6, cs6, rfl, rfl, rb6⟩ := hq6
 refine zD (zB (zC ?_))
 refine yF 5 _ [] [(0, .q), (1, .q), (2, .q), (3, .c), (4, .c), (5, .t)] xH nX (by kernel_rfl) nX (fun r hr => hr) (yP (F := fun v_ => (rpT (rpQ k)).Is h0 v_ a) rfl (zE xJ (Pc.here _) rfl rfl rb3 rfl) (yD mh3) rfl ?_)
 intro v7 r7
 refine yP (F := fun v_ => (rpT (rpQ l)).Is h0 v_ b) rfl (zE xJ (Pc.here _) rfl rfl rb4 rfl) (yD mh2) rfl ?_
 intro v8 r8
 refine yP (F := fun v_ => (rpT (rpQ m)).Is h0 v_ c) rfl (zE xJ (Pc.here _) rfl rfl rb5 rfl) (yD mh1) rfl ?_
 intro v9 r9
 refine w_c rfl ?_
 refine zY (vs := [_, _]) call61 e2z (fun w hs => o_r4_cross hs r8 r9 (by omega)) rfl ?_
 intro v10 h1 hh1 r10
 change (rpT (rpQ (2 * l + 2 * m + 3))).Is h1 v10 (yW b c) at r10
 refine w_c rfl ?_
 replace r7 := r7.mono hh1
 refine zY (vs := [_, _]) call57 e2z (fun w hs => o_r4_dot hs r7 r10 (by omega)) rfl ?_
 intro v11 h2 hh2 r11
 change (rpQ (3 * k + 3 * (2 * l + 2 * m + 3) + 9)).Is h2 v11 (wR a (yW b c)) at r11
 replace r11 := Rp.Is.le r11 (Le.q (l := 3 * k + 6 * l + 6 * m + 18) (by omega))
 replace rb6 := rb6.mono (hh1.trans hh2)
 have rw_1 := (Le.q (l := 3 * k + 6 * l + 6 * m + 18) (by omega)).R rb6
 refine xR (A := []) (F := fun c_ => (rpQ (3 * k + 6 * l + 6 * m + 18)).R h2 c_ (wR a (yW b c))) rfl (yJ sizeOf30 (Pc.here _) rfl rfl rfl rw_1 r11 rfl) ?_
 intro cs_2 rb_3
 refine xB (zJ (e' := [(6, _)]) ⟨rfl, trivial⟩ (zB (zQ (uZ (rv_o (t := 6) xS mh0 rfl rb_3) ?_))))
 intro w_4 hvw_4 rr_5
 refine xQ (fun E S => yS rfl hvw_4 E S) ?_
 exact rr_5
theorem o_r6_upright {w0 : World} {h0 : Mem}  (hs : MLe h0 (mem w0)) {m l k : Nat} {vs : Value} {s : ((T3 Rat) × Rat)} (rs : (rpP (rpT (rpQ m)) (rpQ l)).Is h0 vs s) {va : Value} {a : (T3 Rat)} (ra : (rpT (rpQ k)).Is h0 va a) {vb : Value} {b : (T3 Rat)} (rb : (rpT (rpQ k)).Is h0 vb b) (hcd0 : k ≤ 50000000) (hcd1 : l ≤ 50000000) (hcd2 : m ≤ 50000000)  :
    Calls Tryz.prog 39 #[vs, va, vb] w0 (Ret w0 h0 (fun h r => (rpP (rpT (rpQ (4 * k + 2 * m + 5))) (rpQ (15 * k + 6 * m + 24))).Is h r (upr s a b))) := by
 refine zM (n := 19) (e := [(0, vs), (1, va), (2, vb)]) (vs := [vs, va, vb]) func39 rfl rfl (bL rfl) hs e3z (zC (zA (zI (yU (ρ := (rpP (rpT (rpQ m)) (rpQ l))) rfl rs) rfl rfl rfl ?_)))
 intro v3 q3 hq3
 obtain ⟨b3, cs3, rfl, rfl, rb3⟩ := hq3
 refine zI (yU (ρ := (rpT (rpQ k))) rfl ra) rfl rfl rfl ?_
 intro v4 q4 hq4
 obtain ⟨b4, cs4, rfl, rfl, rb4⟩ := hq4
 refine zI (yU (ρ := (rpT (rpQ k))) rfl rb) rfl rfl rfl ?_
 intro v5 q5 hq5
 obtain ⟨b5, cs5, rfl, rfl, rb5⟩ := hq5
 refine zI (yR (ρ := (rpP (rpT (rpQ 1)) (rpQ 1))) (X := (zT, (0 : Rat))) info34 rfl rfl (zr_p (wO (wB (by decide))) (wB (by decide)))) rfl rfl rfl ?_
 intro v6 q6 hq6
 obtain ⟨b6, cs6, rfl, rfl, rb6⟩ := hq6
 refine zD (zB (zC ?_))
 refine yF 7 _ [(6, (7, 32, [.bool false, .slice none 0 0, .slice none 0 0, .bool false, .slice none 0 0, .slice none 0 0, .bool false, .slice none 0 0, .slice none 0 0]))] [(0, .q), (1, .q), (3, .q), (4, .q), (2, .c), (5, .c), (6, .a), (7, .t)] xH (jK.cons rfl rfl (qB yL rfl rfl) jK.nil) (by kernel_rfl) (qG rfl rfl kQ) (fun r hr => hr) (yP (F := fun v_ => (rpT (rpQ k)).Is h0 v_ b) rfl (zE xJ (Pc.here _) rfl rfl rb5 rfl) (yD mh1) rfl ?_)
 intro v8 r8
 refine yP (F := fun v_ => (rpT (rpQ k)).Is h0 v_ a) rfl (zE xJ (Pc.here _) rfl rfl rb4 rfl) (yD mh2) rfl ?_
 intro v9 r9
 refine yK rfl (fun _ _ => (zG underlying34 rfl sizeOf32 rfl).cv (show _ = vP b3 0 from congrArg (vP b3) (by rfl))) rfl (yP (F := fun v_ => (rpT (rpQ m)).Is h0 v_ s.1) rfl (zE xJ (Pc.fst (Pc.here _)) rfl rfl rb3 rfl) (yD mh3) rfl ?_)
 intro v12 r12
 refine w_c rfl ?_
 refine zY (vs := [_, _]) call23 e2z (fun w hs => o_s4_sub hs r8 r9 (by omega)) rfl ?_
 intro v10 h1 hh1 r10
 change (rpT (rpQ (k + k + 1))).Is h1 v10 (T3.mk (b.x - a.x) (b.y - a.y) (b.z - a.z)) at r10
 replace r10 := Rp.Is.le r10 (Le.t (Le.q (l := 2 * k + 1) (by omega)))
 refine w_c rfl ?_
 replace r12 := r12.mono hh1
 refine zY (vs := [_, _]) call61 e2z (fun w hs => o_r4_cross hs r10 r12 (by omega)) rfl ?_
 intro v13 h2 hh2 r13
 change (rpT (rpQ (2 * (2 * k + 1) + 2 * m + 3))).Is h2 v13 (yW (T3.mk (b.x - a.x) (b.y - a.y) (b.z - a.z)) s.1) at r13
 replace r13 := Rp.Is.le r13 (Le.t (Le.q (l := 4 * k + 2 * m + 5) (by omega)))
 refine w_a rfl rfl (fun b7 => ?_)
 have rb7 : (rpT (rpQ (4 * k + 2 * m + 5))).R h2 [.bool false, .slice none 0 0, .slice none 0 0, .bool false, .slice none 0 0, .slice none 0 0, .bool false, .slice none 0 0, .slice none 0 0] zT := (wO (wB (by omega)))
 refine xR (A := []) (F := fun c_ => (rpT (rpQ (4 * k + 2 * m + 5))).R h2 c_ (yW (T3.mk (b.x - a.x) (b.y - a.y) (b.z - a.z)) s.1)) rfl (yJ sizeOf32 (Pc.here _) rfl rfl rfl rb7 r13 rfl) ?_
 intro cs_6 rb_7
 refine xB (zJ (e' := [(4, _), (6, _), (7, _)]) e3z (zB (zC ?_)))
 refine yF 5 _ [] [(0, .q), (1, .q), (2, .q), (3, .c), (4, .q), (5, .t)] xH nX (by kernel_rfl) nX (fun r hr => hr) (yP (F := fun v_ => (rpT (rpQ (4 * k + 2 * m + 5))).Is h2 v_ (yW (T3.mk (b.x - a.x) (b.y - a.y) (b.z - a.z)) s.1)) rfl (zE xJ (Pc.here _) rfl rfl rb_7 rfl) (yD mh0) rfl ?_)
 intro v14 r14
 refine yP (F := fun v_ => (rpT (rpQ (4 * k + 2 * m + 5))).Is h2 v_ (yW (T3.mk (b.x - a.x) (b.y - a.y) (b.z - a.z)) s.1)) rfl (zE xJ (Pc.here _) rfl rfl rb_7 rfl) (yD mh0) rfl ?_
 intro v15 r15
 replace rb4 := rb4.mono (hh1.trans hh2)
 refine yP (F := fun v_ => (rpT (rpQ k)).Is h2 v_ a) rfl (zE xJ (Pc.here _) rfl rfl rb4 rfl) (yD mh3) rfl ?_
 intro v16 r16
 refine w_c rfl ?_
 refine zY (vs := [_, _]) call57 e2z (fun w hs => o_r4_dot hs r15 r16 (by omega)) rfl ?_
 intro v17 h3 hh3 r17
 change (rpQ (3 * (4 * k + 2 * m + 5) + 3 * k + 9)).Is h3 v17 (wR (yW (T3.mk (b.x - a.x) (b.y - a.y) (b.z - a.z)) s.1) a) at r17
 replace r17 := Rp.Is.le r17 (Le.q (l := 15 * k + 6 * m + 24) (by omega))
 replace r14 := r14.mono hh3
 refine yP (F := fun v_ => (rpP (rpT (rpQ (4 * k + 2 * m + 5))) (rpQ (15 * k + 6 * m + 24))).Is h3 v_ (yW (T3.mk (b.x - a.x) (b.y - a.y) (b.z - a.z)) s.1, wR (yW (T3.mk (b.x - a.x) (b.y - a.y) (b.z - a.z)) s.1) a)) rfl (ox_build (ps' := [(0, _), (1, _)]) underlying34 info34 rfl rfl (places34 underlying34) e4z rfl (zr_p (wO (wB (by omega))) (wB (by omega))) (yZ rfl (Pc.fst (Pc.here _)) r14 (yZ rfl (Pc.snd (Pc.here _)) r17 wH))) vQ rfl ?_
 intro v18 r18
 replace rb6 := rb6.mono ((hh1.trans hh2).trans hh3)
 have rw_8 := (Le.p (Le.t (Le.q (l := 4 * k + 2 * m + 5) (by omega))) (Le.q (l := 15 * k + 6 * m + 24) (by omega))).R rb6
 refine xR (A := [_]) (F := fun c_ => (rpP (rpT (rpQ (4 * k + 2 * m + 5))) (rpQ (15 * k + 6 * m + 24))).R h3 c_ (yW (T3.mk (b.x - a.x) (b.y - a.y) (b.z - a.z)) s.1, wR (yW (T3.mk (b.x - a.x) (b.y - a.y) (b.z - a.z)) s.1) a)) rfl (yJ sizeOf34 (Pc.here _) rfl rfl rfl rw_8 r18 rfl) ?_
 intro cs_9 rb_10
 refine xB (zB (zQ (uZ (rv_o (t := 6) kH mh1 rfl rb_10) ?_)))
 intro w_11 hvw_11 rr_12
 refine xQ (fun E S => yS rfl hvw_11 E S) ?_
 exact rr_12
theorem o_law_in {w0 : World} {h0 : Mem}  (hs : MLe h0 (mem w0)) {k q n m : Nat} {vl : Value} {l : (List (T3 Rat))} (rl : (rpS (rpT (rpQ k))).Is h0 vl l) {vp : Value} {p : (T3 Rat)} (rp : (rpT (rpQ q)).Is h0 vp p) {vs : Value} {s : ((T3 Rat) × Rat)} (rs : (rpP (rpT (rpQ n)) (rpQ m)).Is h0 vs s) (hcd0 : k ≤ 5000000) (hcd1 : q ≤ 20000000) (hcd2 : n ≤ 1000000) (hcd3 : m ≤ 1000000) (hcd4 : l.length ≤ 100000)  :
    Calls Tryz.prog 26 #[vl, vp, vs] w0 (Ret w0 h0 (fun _ r => r = vB (inP s l p))) := by
 refine zM (n := 34) (e := [(0, vl), (1, vp), (2, vs)]) (vs := [vl, vp, vs]) func26 rfl rfl (bL rfl) hs e3z (zC (zA (zI (yU (ρ := (rpT (rpQ q))) rfl rp) rfl rfl rfl ?_)))
 intro v4 q4 hq4
 obtain ⟨b4, cs4, rfl, rfl, rb4⟩ := hq4
 refine zI (yU (ρ := (rpP (rpT (rpQ n)) (rpQ m))) rfl rs) rfl rfl rfl ?_
 intro v5 q5 hq5
 obtain ⟨b5, cs5, rfl, rfl, rb5⟩ := hq5
 refine asg rfl rfl (zD (zB (zC (zC (zA (mv rfl rfl (gv (wI underlying27 rfl rl) rfl (mv (v := vI (0)) rfl rfl (zD (zB (zP ?_)))))))))))
 refine wE (ι := Nat × Mem) (fun (i, ma) => MLe h0 ma ∧ (i ≤ l.length ∧ ∀ u, u < i → ¬ 0 < sdZ (upr s (gp l u) (nx l u)) p)) (fun (i, ma) => [(0, vl), (4, vP b4 0), (5, vP b5 0), (9, vI (↑(l).length : Int)), (10, vI ↑i)]) (fun (i, ma) => [.var b5 34 cs5, .var b4 32 cs4]) (fun (i, ma) => ma) (fun (i, ma) => l.length - i) (0, h0) ?_ e5z rfl rfl ?_
 ·
  refine ⟨MLe.refl _, ?_⟩
  exact ⟨by omega, fun u h => by omega⟩
 intro x hx
 obtain ⟨i, ma⟩ := x
 obtain ⟨hmma, hinv⟩ := hx
 show GC _ _ _ _ _ _ [(0, vl), (4, vP b4 0), (5, vP b5 0), (9, vI (↑(l).length : Int)), (10, vI ↑i)] [.var b5 34 cs5, .var b4 32 cs4] ma
 obtain ⟨hi1, hi2⟩ := hinv
 refine zC (zA (gv (zW rfl rfl) rfl (zD (zB (zC ?_)))))
 refine zN rfl (fun hc11 => ?_) (fun hc11 => ?_)
 ·
  refine zK (zB (zC (zP (zC (zA (mv rfl rfl (asg rfl rfl (zD (zB (zC ?_))))))))))
  refine yF 17 _ [] [(0, .q), (1, .q), (2, .q), (3, .q), (4, .q), (5, .q), (6, .q), (7, .q), (8, .q), (9, .q), (10, .q), (11, .q), (12, .q), (14, .q), (13, .c), (15, .c), (16, .q)] xH nX (chk_of [0, 0, 0, 6, 8, 0, 0, 64, 0, 256, 640, 1056, 2048, 4113, 0, 24576, 32768] [131071, 131071, 131071, 131065, 131063, 131071, 131071, 131007, 131071, 130815, 130431, 130015, 129023, 126958, 131071, 106495, 98303] (by kernel_rfl)) nX (fun r hr => hr) ?_
  replace rb5 := rb5.mono hmma
  refine yP (F := fun v_ => (rpP (rpT (rpQ n)) (rpQ m)).Is ma v_ s) rfl (zE kH (Pc.here _) rfl rfl rb5 rfl) (yD mh0) rfl ?_
  intro v13 r13
  refine yH rfl rfl rfl (yH rfl rfl rfl ?_)
  replace rl := rl.mono hmma
  refine yP (F := fun v_ => AtP (rpT (rpQ k)) ma v_ (l.getD i zT)) rfl (vJ zT i underlying27 xJ rfl rfl rl rfl (by omega) p9N) vQ rfl ?_
  intro v16 r16
  refine yP (F := fun v_ => (rpT (rpQ k)).Is ma v_ (l.getD i zT)) rfl (wG xJ rfl r16) vQ rfl ?_
  intro v17 r17
  refine yH rfl rfl rfl (yH rfl rfl rfl (yK rfl (fun _ _ => zS (q := 1) rfl rfl (by omega) (by omega)) rfl (yH rfl rfl rfl (w_q rfl (fun h' L' hh hR => wI underlying27 rfl (rl.mono hh)) rfl (yK rfl (fun _ _ => uU rfl rfl (by omega) (by omega)) rfl (yP (F := fun v_ => AtP (rpT (rpQ k)) ma v_ (l.getD ((i + 1) % l.length) zT)) rfl (vJ zT ((i + 1) % l.length) underlying27 xJ rfl rfl rl (by first | rfl | (push_cast; rfl)) (by exact Nat.mod_lt _ (by omega)) p9N) vQ rfl ?_))))))
  intro v24 r24
  refine yP (F := fun v_ => (rpT (rpQ k)).Is ma v_ (l.getD ((i + 1) % l.length) zT)) rfl (wG xJ rfl r24) vQ rfl ?_
  intro v25 r25
  replace rb4 := rb4.mono hmma
  refine yP (F := fun v_ => (rpT (rpQ q)).Is ma v_ p) rfl (zE xJ (Pc.here _) rfl rfl rb4 rfl) (yD mh1) rfl ?_
  intro v27 r27
  refine w_c rfl ?_
  refine zY (vs := [_, _, _]) call39 e3z (fun w hs => o_r6_upright hs r13 r17 r25 (by omega) (by omega) (by omega)) rfl ?_
  intro v26 h1 hh1 r26
  change (rpP (rpT (rpQ (4 * k + 2 * n + 5))) (rpQ (15 * k + 6 * n + 24))).Is h1 v26 (upr s (l.getD i zT) (l.getD ((i + 1) % l.length) zT)) at r26
  refine w_c rfl ?_
  replace r27 := r27.mono hh1
  refine zY (vs := [_, _]) call25 e2z (fun w hs => o_s4_side hs r26 r27 (by omega) (by omega) (by omega)) rfl ?_
  intro v28 h2 hh2 r28
  obtain rfl : v28 = vI (sdZ (upr s (l.getD i zT) (l.getD ((i + 1) % l.length) zT)) p) := r28
  have hsd28 := kS (upr s (l.getD i zT) (l.getD ((i + 1) % l.length) zT)) p
  refine yK rfl (fun _ _ => uH (q := 0) rfl rfl) rfl (xB (zJ (e' := [(0, _), (4, _), (5, _), (9, _), (10, _), (29, _)]) e6 (zB ?_)))
  refine zN rfl (fun hc29 => ?_) (fun hc29 => ?_)
  ·
   refine zC (zA (asg rfl rfl (zD (zB (zQ (vC (zV (zV (vC (zV (yC rfl rfl ?_)))))))))))
   exact (yX (fun e => e.1 i (by omega) hc29)).symm
  refine zK (xC (zB (zA (gv (zS (q := 1) rfl rfl (by omega) (by omega)) rfl (mv rfl rfl (zD ?_))))))
  refine yV ((i + 1), h2) ?_ ?_ e5z rfl rfl
  ·
   refine ⟨((hmma.trans hh1).trans hh2), ?_⟩
   exact ⟨by omega, one_step (Q := fun u => ¬ 0 < sdZ (upr s (gp l u) (nx l u)) p) hi2 hc29⟩
  dsimp only
  omega
 refine xG (yB (yB (xF (zB (zC (zA (mv rfl rfl ?_)))))))
 replace rl := rl.mono hmma
 refine gv (wI underlying27 rfl rl) rfl (gv (uH (q := 0) rfl rfl) rfl (asg rfl rfl (zD (zB (zQ (yC rfl rfl ?_))))))
 exact vB_iff ⟨fun h => ⟨fun u hu => hi2 u (by omega), by omega⟩, fun h => by have := h.2; omega⟩
end Go.Proofs.YtghhjjmjpeehdaaGreat
namespace Go.Proofs.YtghhjjmjpeehdaaGreat
open Bk Go Tryz
set_option linter.unusedVariables false
set_option linter.unusedSimpArgs false
set_option maxRecDepth 10000
theorem o_cx_valid {w0 : World} {h0 : Mem}  (hs : MLe h0 (mem w0)) {k n m : Nat} {vl : Value} {l : (List (T3 Rat))} (rl : (rpS (rpT (rpQ k))).Is h0 vl l) {vs : Value} {s : ((T3 Rat) × Rat)} (rs : (rpP (rpT (rpQ n)) (rpQ m)).Is h0 vs s) (hcd0 : k ≤ 90000000) (hcd1 : m ≤ 90000000) (hcd2 : n ≤ 90000000) (hcd3 : l.length ≤ 100000)  :
    Calls Tryz.prog 34 #[vl, vs] w0 (Ret w0 h0 (fun _ r => r = vB (qJ s l))) := by
 have hax := ax_sum s.1
 refine zM (n := 75) (e := [(0, vl), (1, vs)]) (vs := [vl, vs]) func34 rfl rfl (bL rfl) hs e2z (zC (zA (zI (yU (ρ := (rpP (rpT (rpQ n)) (rpQ m))) rfl rs) rfl rfl rfl ?_)))
 intro v3 q3 hq3
 obtain ⟨b3, cs3, rfl, rfl, rb3⟩ := hq3
 refine asg rfl rfl (zD (zB (zC (zC (zA (mv rfl rfl (gv (wI underlying27 rfl rl) rfl (gv (zW (q := 3) rfl rfl) rfl ?_))))))))
 refine vY (ι := Mem) 5 (fun m_ => MLe h0 m_) (fun _ => [(20, vB (((↑(l).length : Int) < (3 : Int)) ∨ (s.1 = zT))), (0, vl), (3, vP b3 0)]) (fun _ => [.var b3 34 cs3]) (fun m_ => m_) ?_ ?_
 ·
  refine wL ((↑(l).length : Int) < (3 : Int)) (fun hg => ?_) (fun hg => ?_)
  ·
   refine xE (yO (v := .bool true) (congrArg some (xL hg))) rfl rfl rfl (yI rfl rfl rfl rfl rfl rfl (yI rfl rfl rfl rfl rfl rfl (yI rfl rfl rfl rfl rfl rfl (gv (xM rfl rfl) rfl (zD ?_)))))
   refine yM h0 (MLe.refl _) ⟨?_, rfl, rfl, trivial⟩ rfl rfl
   exact congrArg some (jZ hg)
  refine xE (yO (v := .bool false) (congrArg some (yX hg))) rfl rfl rfl (yY rfl rfl rfl (gv ((zG underlying34 rfl sizeOf32 rfl).cv (show _ = vP b3 0 from congrArg (vP b3) (by rfl))) rfl (yY rfl rfl rfl (xX (F := fun v_ => (rpT (rpQ n)).Is h0 v_ s.1) (zE xJ (Pc.fst (Pc.here _)) rfl rfl rb3 rfl) (yD mh0) rfl ?_))))
  intro v18 r18
  refine yY rfl rfl rfl ?_
  refine zO (vs := [_]) rfl rfl rfl rfl call63 ⟨rfl, trivial⟩ (fun w hs => o_v_zero hs r18 (by omega)) ?_
  intro v19 h1 hh1 r19
  obtain rfl : v19 = vB (s.1 = zT) := r19
  refine gv (xW rfl rfl) rfl (zD ?_)
  refine yM h1 hh1 ⟨?_, rfl, rfl, trivial⟩ rfl rfl
  exact congrArg some (kA hg)
 intro mg1_3 hmmg1_3
 show GL _ _ _ _ _ _ _ [(20, vB (((↑(l).length : Int) < (3 : Int)) ∨ (s.1 = zT))), (0, vl), (3, vP b3 0)] [.var b3 34 cs3] mg1_3
 refine zD (zB ?_)
 refine zN rfl (fun hc20 => ?_) (fun hc20 => ?_)
 ·
  refine zC (zA (asg rfl rfl (zD (zB (zQ (zV (yC rfl rfl ?_)))))))
  exact (yX (fun e => hc20.elim (fun h => by have := e.1.1; omega) (fun h => e.1.2 h))).symm
 have hN : ¬ s.1 = zT := fun e => hc20 (.inr e)
 have h3 : 3 ≤ l.length := by have h := hc20; omega
 refine zK (zB (zC (zC (zA (mv rfl rfl ?_)))))
 replace rl := rl.mono hmmg1_3
 refine gv (wI underlying27 rfl rl) rfl (mv (v := vI (0)) rfl rfl (zD (zB (zP ?_))))
 refine wE (ι := Nat × Mem) (fun (i, ma) => MLe mg1_3 ma ∧ (i ≤ l.length ∧ ∀ u, u < i → sdZ s (gp l u) = 0)) (fun (i, ma) => [(0, vl), (3, vP b3 0), (21, vl), (22, vI (↑(l).length : Int)), (23, vI ↑i)]) (fun (i, ma) => [.var b3 34 cs3]) (fun (i, ma) => ma) (fun (i, ma) => l.length - i) (0, mg1_3) ?_ e5z rfl rfl ?_
 ·
  refine ⟨MLe.refl _, ?_⟩
  exact ⟨by omega, fun u h => by omega⟩
 intro x hx
 obtain ⟨i, ma⟩ := x
 obtain ⟨hmma, hinv⟩ := hx
 show GC _ _ _ _ _ _ [(0, vl), (3, vP b3 0), (21, vl), (22, vI (↑(l).length : Int)), (23, vI ↑i)] [.var b3 34 cs3] ma
 obtain ⟨hi1, hi2⟩ := hinv
 refine zC (zA (gv (zW rfl rfl) rfl (zD (zB (zC ?_)))))
 refine zN rfl (fun hc24 => ?_) (fun hc24 => ?_)
 ·
  refine zK (zB (zC (zP (zC (zA ?_)))))
  replace rl := rl.mono hmma
  refine xX (F := fun v_ => AtP (rpT (rpQ k)) ma v_ (l.getD i zT)) (vJ zT i underlying27 xJ rfl rfl rl rfl (by omega) p9N) vQ rfl ?_
  intro v25 r25
  refine xX (F := fun v_ => (rpT (rpQ k)).Is ma v_ (l.getD i zT)) (wG xJ rfl r25) vQ rfl ?_
  intro v26 r26
  refine zI (yR (ρ := (rpT (rpQ (k + 1)))) (X := zT) yL rfl rfl (wO (wB (by omega)))) rfl rfl rfl ?_
  intro v6 q6 hq6
  obtain ⟨b6, cs6, rfl, rfl, rb6⟩ := hq6
  refine wW (A := []) (F := fun c_ => (rpT (rpQ (k + 1))).R ma c_ (l.getD i zT)) (yJ sizeOf32 (Pc.here _) rfl rfl rfl rb6 (r26.le (Le.t (Le.q (l := k + 1) (by omega)))) rfl) ?_
  intro cs_1 rb_2
  refine zD (zB (zC (zA ?_)))
  replace rb3 := rb3.mono (hmmg1_3.trans hmma)
  refine xX (F := fun v_ => (rpP (rpT (rpQ n)) (rpQ m)).Is ma v_ s) (zE kH (Pc.here _) rfl rfl rb3 rfl) (yD mh1) rfl ?_
  intro v27 r27
  refine xX (F := fun v_ => (rpT (rpQ (k + 1))).Is ma v_ (l.getD i zT)) (zE xJ (Pc.here _) rfl rfl rb_2 rfl) (yD mh0) rfl ?_
  intro v28 r28
  refine zO (vs := [_, _]) rfl rfl rfl rfl call64 e2z (fun w hs => o_pl_side hs r27 r28 (by omega) (by omega) (by omega)) ?_
  intro v29 h1 hh1 r29
  obtain rfl : v29 = vI (sdZ s (l.getD i zT)) := r29
  have hsd29 := kS s (l.getD i zT)
  refine gv (ov_neq_i (q := 0) rfl rfl) rfl (zD (zB ?_))
  refine zN rfl (fun hc30 => ?_) (fun hc30 => ?_)
  ·
   refine wJ (e' := []) trivial (zC (zA (asg rfl rfl (zD (zB (zQ (vC (zV (zV (vC (zV (yC rfl rfl ?_))))))))))))
   exact (yX (fun e => hc30 (e.2.1 i (by omega)))).symm
  refine zK (xC (zB (zA (gv (zS (q := 1) rfl rfl (by omega) (by omega)) rfl (mv rfl rfl (zD (wQ (A := []) ?_)))))))
  refine yV ((i + 1), h1) ?_ ?_ e5z rfl rfl
  ·
   refine ⟨(hmma.trans hh1), ?_⟩
   exact ⟨by omega, one_step (Q := fun u => sdZ s (gp l u) = 0) hi2 (Classical.not_not.1 hc30)⟩
  dsimp only
  omega
 have hS : ∀ u, u < l.length → sdZ s (gp l u) = 0 := fun u hu => hi2 u (by omega)
 refine xG (yB (yB (xF (zB (zC (zA (gv ((zG underlying34 rfl sizeOf32 rfl).cv (show _ = vP b3 0 from congrArg (vP b3) (by rfl))) rfl ?_)))))))
 replace rb3 := rb3.mono (hmmg1_3.trans hmma)
 refine xX (F := fun v_ => (rpT (rpQ n)).Is ma v_ s.1) (zE xJ (Pc.fst (Pc.here _)) rfl rfl rb3 rfl) (yD mh0) rfl ?_
 intro v34 r34
 refine zO (vs := [_]) rfl rfl rfl rfl call65 ⟨rfl, trivial⟩ (fun w hs => o_pl_axes hs r34 (by omega)) ?_
 intro v35 h1 hh1 r35
 obtain rfl := r35
 refine mv rfl rfl (gv (zL (vs := [_, _]) rfl rfl) rfl (gv (zL (vs := [_, _]) rfl rfl) rfl (asg rfl rfl (asg rfl rfl (zD (zJ (e' := [(0, _), (7, _), (8, _)]) e3z (zB (zC (zC (zA (mv rfl rfl ?_)))))))))))
 replace rl := rl.mono (hmma.trans hh1)
 refine gv (wI underlying27 rfl rl) rfl (mv (v := vI (0)) rfl rfl (zD (zB (zP ?_))))
 refine wE (ι := Nat × Mem) (fun (i, mb) => MLe h1 mb ∧ (i ≤ l.length ∧ ∀ u, u < i → ∀ k', 2 ≤ k' → k' < l.length → 0 < orZ (pt2 s (gp l u)) (pt2 s (nx l u)) (pt2 s (gp l ((u + k') % l.length))))) (fun (i, mb) => [(0, vl), (7, vI (↑(axI s.1) : Int)), (8, vI (↑(axJ s.1) : Int)), (38, vl), (39, vI (↑(l).length : Int)), (40, vI ↑i)]) (fun (i, mb) => [.var b3 34 cs3]) (fun (i, mb) => mb) (fun (i, mb) => l.length - i) (0, h1) ?_ e6 rfl rfl ?_
 ·
  refine ⟨MLe.refl _, ?_⟩
  exact ⟨by omega, fun u h => by omega⟩
 intro x hx
 obtain ⟨i, mb⟩ := x
 obtain ⟨hmmb, hinv⟩ := hx
 show GC _ _ _ _ _ _ [(0, vl), (7, vI (↑(axI s.1) : Int)), (8, vI (↑(axJ s.1) : Int)), (38, vl), (39, vI (↑(l).length : Int)), (40, vI ↑i)] [.var b3 34 cs3] mb
 obtain ⟨hj1, hj2⟩ := hinv
 refine zC (zA (gv (zW rfl rfl) rfl (zD (zB (zC ?_)))))
 refine zN rfl (fun hc41 => ?_) (fun hc41 => ?_)
 ·
  refine zK (zB (zC (zP (zC (zA (mv rfl rfl ?_))))))
  replace rl := rl.mono hmmb
  refine xX (F := fun v_ => AtP (rpT (rpQ k)) mb v_ (l.getD i zT)) (vJ zT i underlying27 xJ rfl rfl rl rfl (by omega) p9N) vQ rfl ?_
  intro v43 r43
  refine xX (F := fun v_ => (rpT (rpQ k)).Is mb v_ (l.getD i zT)) (wG xJ rfl r43) vQ rfl ?_
  intro v44 r44
  refine zI (yR (ρ := (rpT (rpQ (k + 1)))) (X := zT) yL rfl rfl (wO (wB (by omega)))) rfl rfl rfl ?_
  intro v10 q10 hq10
  obtain ⟨b10, cs10, rfl, rfl, rb10⟩ := hq10
  refine asg rfl rfl (wW (A := []) (F := fun c_ => (rpT (rpQ (k + 1))).R mb c_ (l.getD i zT)) (yJ sizeOf32 (Pc.here _) rfl rfl rfl rb10 (r44.le (Le.t (Le.q (l := k + 1) (by omega)))) rfl) ?_)
  intro cs_3 rb_4
  refine zD (zB (zC (zA (mv rfl rfl (mv rfl rfl (gv (zS (q := 1) rfl rfl (by omega) (by omega)) rfl (mv rfl rfl (gv (wI underlying27 rfl rl) rfl (gv (uU rfl rfl (by omega) (by omega)) rfl (xX (F := fun v_ => AtP (rpT (rpQ k)) mb v_ (l.getD ((i + 1) % l.length) zT)) (vJ zT ((i + 1) % l.length) underlying27 xJ rfl rfl rl (by first | rfl | (push_cast; rfl)) (by exact Nat.mod_lt _ (by omega)) p9N) vQ rfl ?_))))))))))
  intro v51 r51
  refine xX (F := fun v_ => (rpT (rpQ k)).Is mb v_ (l.getD ((i + 1) % l.length) zT)) (wG xJ rfl r51) vQ rfl ?_
  intro v52 r52
  refine zI (yR (ρ := (rpT (rpQ (k + 1)))) (X := zT) yL rfl rfl (wO (wB (by omega)))) rfl rfl rfl ?_
  intro v11 q11 hq11
  obtain ⟨b11, cs11, rfl, rfl, rb11⟩ := hq11
  refine wW (A := []) (F := fun c_ => (rpT (rpQ (k + 1))).R mb c_ (l.getD ((i + 1) % l.length) zT)) (yJ sizeOf32 (Pc.here _) rfl rfl rfl rb11 (r52.le (Le.t (Le.q (l := k + 1) (by omega)))) rfl) ?_
  intro cs_5 rb_6
  refine zD (zJ (e' := [(0, _), (7, _), (8, _), (38, _), (39, _), (40, _), (10, _), (9, _), (11, _)]) e9 (zB (zC (zA (asg (v := vI (2)) rfl rfl (zD (zB (zP ?_))))))))
  refine wE (ι := Nat × Mem) (fun (q, mq) => MLe mb mq ∧ ((2 ≤ q ∧ q ≤ l.length) ∧ ∀ k', 2 ≤ k' → k' < q → 0 < orZ (pt2 s (gp l i)) (pt2 s (nx l i)) (pt2 s (gp l ((i + k') % l.length))))) (fun (q, mq) => [(0, vl), (7, vI (↑(axI s.1) : Int)), (8, vI (↑(axJ s.1) : Int)), (9, vI ↑i), (10, vP b10 0), (11, vP b11 0), (12, vI ↑q), (38, vl), (39, vI (↑(l).length : Int)), (40, vI ↑i)]) (fun (q, mq) => [.var b11 32 cs_5, .var b10 32 cs_3, .var b3 34 cs3]) (fun (q, mq) => mq) (fun (q, mq) => l.length - q) (2, mb) ?_ e10 rfl rfl ?_
  ·
   refine ⟨MLe.refl _, ?_⟩
   exact ⟨⟨by omega, by omega⟩, fun k' h1' h2' => by omega⟩
  intro x hx
  obtain ⟨q, mq⟩ := x
  obtain ⟨hmmq, hinv⟩ := hx
  show GC _ _ _ _ _ _ [(0, vl), (7, vI (↑(axI s.1) : Int)), (8, vI (↑(axJ s.1) : Int)), (9, vI ↑i), (10, vP b10 0), (11, vP b11 0), (12, vI ↑q), (38, vl), (39, vI (↑(l).length : Int)), (40, vI ↑i)] [.var b11 32 cs_5, .var b10 32 cs_3, .var b3 34 cs3] mq
  obtain ⟨⟨hk0, hk1⟩, hk2⟩ := hinv
  refine zC (zC (zA (mv rfl rfl (mv rfl rfl ?_))))
  replace rl := rl.mono hmmq
  refine gv (wI underlying27 rfl rl) rfl (gv (zW rfl rfl) rfl (zD (zB ?_)))
  refine zN rfl (fun hc56 => ?_) (fun hc56 => ?_)
  ·
   refine zK (zB (zC (zP (zC ?_))))
   refine yF 15 _ [] [(0, .q), (1, .q), (2, .q), (3, .q), (4, .q), (5, .q), (6, .q), (7, .q), (8, .q), (9, .q), (10, .q), (11, .q), (12, .q), (13, .c), (14, .q)] xH nX (chk_of [0, 0, 0, 0, 0, 24, 0, 64, 160, 260, 512, 0, 0, 7171, 8192] [32767, 32767, 32767, 32767, 32767, 32743, 32767, 32703, 32607, 32507, 32255, 32767, 32767, 25596, 24575] (by kernel_rfl)) nX (fun r hr => hr) ?_
   replace rb_4 := rb_4.mono hmmq
   refine yP (F := fun v_ => (rpT (rpQ (k + 1))).Is mq v_ (l.getD i zT)) rfl (zE xJ (Pc.here _) rfl rfl rb_4 rfl) (yD mh1) rfl ?_
   intro v59 r59
   replace rb_6 := rb_6.mono hmmq
   refine yP (F := fun v_ => (rpT (rpQ (k + 1))).Is mq v_ (l.getD ((i + 1) % l.length) zT)) rfl (zE xJ (Pc.here _) rfl rfl rb_6 rfl) (yD mh0) rfl ?_
   intro v60 r60
   refine yH rfl rfl rfl (yH rfl rfl rfl (yH rfl rfl rfl (yK rfl (fun _ _ => zS rfl rfl (by omega) (by omega)) rfl (yH rfl rfl rfl (w_q rfl (fun h' L' hh hR => wI underlying27 rfl (rl.mono hh)) rfl (yK rfl (fun _ _ => uU rfl rfl (by omega) (by omega)) rfl (yP (F := fun v_ => AtP (rpT (rpQ k)) mq v_ (l.getD ((i + q) % l.length) zT)) rfl (vJ zT ((i + q) % l.length) underlying27 xJ rfl rfl rl (by first | rfl | (push_cast; rfl)) (by exact Nat.mod_lt _ (by omega)) p9N) vQ rfl ?_)))))))
   intro v68 r68
   refine yP (F := fun v_ => (rpT (rpQ k)).Is mq v_ (l.getD ((i + q) % l.length) zT)) rfl (wG xJ rfl r68) vQ rfl ?_
   intro v69 r69
   refine yH rfl rfl rfl (yH rfl rfl rfl ?_)
   refine w_c rfl ?_
   refine zY (vs := [_, _, _, _, _]) call66 e5z (fun w hs => o_pl_orient (i := (axI s.1)) (j := (axJ s.1)) hs r59 r60 (r69.le (Le.t (Le.q (l := k + 1) (by omega)))) (by omega) (by omega) (by omega)) rfl ?_
   intro v72 h2 hh2 r72
   obtain rfl : v72 = vI (orZ (pr (l.getD i zT) (axI s.1) (axJ s.1)) (pr (l.getD ((i + 1) % l.length) zT) (axI s.1) (axJ s.1)) (pr (l.getD ((i + q) % l.length) zT) (axI s.1) (axJ s.1))) := r72
   have hor72 := or_range (pr (l.getD i zT) (axI s.1) (axJ s.1)) (pr (l.getD ((i + 1) % l.length) zT) (axI s.1) (axJ s.1)) (pr (l.getD ((i + q) % l.length) zT) (axI s.1) (axJ s.1))
   refine yK rfl (fun _ _ => ov_leq_i (q := 0) rfl rfl) rfl (xB (zJ (e' := [(0, _), (7, _), (8, _), (9, _), (10, _), (11, _), (12, _), (38, _), (39, _), (40, _), (73, _)]) e11 (zB ?_)))
   refine zN rfl (fun hc73 => ?_) (fun hc73 => ?_)
   ·
    have hed : ¬ 0 < orZ (pt2 s (gp l i)) (pt2 s (nx l i)) (pt2 s (gp l ((i + q) % l.length))) := fun e => Int.not_le.2 e hc73
    refine wJ (e' := []) trivial (zC (zA (asg rfl rfl (zD (zB (zQ (vC (zV (zV (vC (vC (zV (zV ?_)))))))))))))
    refine vC (zV (yC rfl rfl ?_))
    exact (yX (fun e => hed (e.2.2 i q (by omega) (by omega) (by omega)))).symm
   have hed : 0 < orZ (pt2 s (gp l i)) (pt2 s (nx l i)) (pt2 s (gp l ((i + q) % l.length))) := Int.not_le.1 hc73
   refine zK (xC (zB (zA (mv rfl rfl (gv (zS (q := 1) rfl rfl (by omega) (by omega)) rfl (asg rfl rfl (zD ?_)))))))
   refine yV ((q + 1), h2) ?_ ?_ e10 rfl rfl
   ·
    refine ⟨(hmmq.trans hh2), ?_⟩
    exact ⟨⟨by omega, by omega⟩, fun k' h1' h2' => by rcases Nat.lt_succ_iff_lt_or_eq.1 h2' with e | e; exact hk2 k' h1' e; subst e; exact hed⟩
   dsimp only
   omega
  refine xG (yB (yB (xF (xC (zB (zA (gv (zS (q := 1) rfl rfl (by omega) (by omega)) rfl (mv rfl rfl (zD (wQ (A := []) (wQ (A := []) ?_)))))))))))
  refine yV ((i + 1), mq) ?_ ?_ e6 rfl rfl
  ·
   refine ⟨(hmmb.trans hmmq), ?_⟩
   exact ⟨by omega, one_step (Q := fun u => ∀ k', 2 ≤ k' → k' < l.length → 0 < orZ (pt2 s (gp l u)) (pt2 s (nx l u)) (pt2 s (gp l ((u + k') % l.length)))) hj2 (fun k' h1' h2' => hk2 k' h1' (by omega))⟩
  dsimp only
  omega
 have hE : ∀ u k', u < l.length → 2 ≤ k' → k' < l.length → 0 < orZ (pt2 s (gp l u)) (pt2 s (nx l u)) (pt2 s (gp l ((u + k') % l.length))) := fun u k' hu h1' h2' => hj2 u (by omega) k' h1' h2'
 refine xG (yB (yB (xF (zB (zC (zA (asg rfl rfl (zD (zB (zQ (yC rfl rfl ?_)))))))))))
 exact (xL ⟨⟨h3, hN⟩, hS, hE⟩).symm
theorem o_r6_valid {w0 : World} {h0 : Mem}  (hs : MLe h0 (mem w0)) {k n m : Nat} {vl : Value} {l : (List (T3 Rat))} (rl : (rpS (rpT (rpQ k))).Is h0 vl l) {vs : Value} {s : ((T3 Rat) × Rat)} (rs : (rpP (rpT (rpQ n)) (rpQ m)).Is h0 vs s) (hcd0 : k ≤ 10000000) (hcd1 : m ≤ 10000000) (hcd2 : n ≤ 1000000) (hcd3 : l.length ≤ 100000)  :
    Calls Tryz.prog 17 #[vl, vs] w0 (Ret w0 h0 (fun _ r => r = vB (qJ s l))) := by
 have hax := ax_sum s.1
 refine zM (n := 73) (e := [(0, vl), (1, vs)]) (vs := [vl, vs]) func17 rfl rfl (bL rfl) hs e2z (zC (zA (zI (yU (ρ := (rpP (rpT (rpQ n)) (rpQ m))) rfl rs) rfl rfl rfl ?_)))
 intro v3 q3 hq3
 obtain ⟨b3, cs3, rfl, rfl, rb3⟩ := hq3
 refine asg rfl rfl (zD (zB (zC (zA (mv rfl rfl (gv (wI underlying27 rfl rl) rfl (asg rfl rfl (zD (zB (zC (zC (zA (mv rfl rfl ?_)))))))))))))
 refine gv (zW (q := 3) rfl rfl) rfl ?_
 refine vY (ι := Mem) 5 (fun m_ => MLe h0 m_) (fun _ => [(20, vB (((↑(l).length : Int) < (3 : Int)) ∨ (s.1 = zT))), (0, vl), (3, vP b3 0), (5, vI (↑(l).length : Int))]) (fun _ => [.var b3 34 cs3]) (fun m_ => m_) ?_ ?_
 ·
  refine wL ((↑(l).length : Int) < (3 : Int)) (fun hg => ?_) (fun hg => ?_)
  ·
   refine xE (yO (v := .bool true) (congrArg some (xL hg))) rfl rfl rfl (yI rfl rfl rfl rfl rfl rfl (yI rfl rfl rfl rfl rfl rfl (yI rfl rfl rfl rfl rfl rfl (gv (xM rfl rfl) rfl (zD ?_)))))
   refine yM h0 (MLe.refl _) ⟨?_, rfl, rfl, rfl, trivial⟩ rfl rfl
   exact congrArg some (jZ hg)
  refine xE (yO (v := .bool false) (congrArg some (yX hg))) rfl rfl rfl (yY rfl rfl rfl (gv ((zG underlying34 rfl sizeOf32 rfl).cv (show _ = vP b3 0 from congrArg (vP b3) (by rfl))) rfl (yY rfl rfl rfl (xX (F := fun v_ => (rpT (rpQ n)).Is h0 v_ s.1) (zE xJ (Pc.fst (Pc.here _)) rfl rfl rb3 rfl) (yD mh0) rfl ?_))))
  intro v18 r18
  refine yY rfl rfl rfl ?_
  refine zO (vs := [_]) rfl rfl rfl rfl call41 ⟨rfl, trivial⟩ (fun w hs => o_r4_zero hs r18 (by omega)) ?_
  intro v19 h1 hh1 r19
  obtain rfl : v19 = vB (s.1 = zT) := r19
  refine gv (xW rfl rfl) rfl (zD ?_)
  refine yM h1 hh1 ⟨?_, rfl, rfl, rfl, trivial⟩ rfl rfl
  exact congrArg some (kA hg)
 intro mg2_2 hmmg2_2
 show GL _ _ _ _ _ _ _ [(20, vB (((↑(l).length : Int) < (3 : Int)) ∨ (s.1 = zT))), (0, vl), (3, vP b3 0), (5, vI (↑(l).length : Int))] [.var b3 34 cs3] mg2_2
 refine zD (zB ?_)
 refine zN rfl (fun hc20 => ?_) (fun hc20 => ?_)
 ·
  refine zC (zA (asg rfl rfl (zD (zB (zQ (zV (yC rfl rfl ?_)))))))
  exact (yX (fun e => hc20.elim (fun h => by have := e.1.1; omega) (fun h => e.1.2 h))).symm
 have hN : ¬ s.1 = zT := fun e => hc20 (.inr e)
 have h3 : 3 ≤ l.length := by have h := hc20; omega
 refine zK (zB (zC (zC (zA (asg (v := vI (0)) rfl rfl (zD (zB (zP ?_))))))))
 refine wE (ι := Nat × Mem) (fun (i, ma) => MLe mg2_2 ma ∧ (i ≤ l.length ∧ ∀ u, u < i → sdZ s (gp l u) = 0)) (fun (i, ma) => [(0, vl), (3, vP b3 0), (5, vI (↑(l).length : Int)), (6, vI ↑i)]) (fun (i, ma) => [.var b3 34 cs3]) (fun (i, ma) => ma) (fun (i, ma) => l.length - i) (0, mg2_2) ?_ e4z rfl rfl ?_
 ·
  refine ⟨MLe.refl _, ?_⟩
  exact ⟨by omega, fun u h => by omega⟩
 intro x hx
 obtain ⟨i, ma⟩ := x
 obtain ⟨hmma, hinv⟩ := hx
 show GC _ _ _ _ _ _ [(0, vl), (3, vP b3 0), (5, vI (↑(l).length : Int)), (6, vI ↑i)] [.var b3 34 cs3] ma
 obtain ⟨hi1, hi2⟩ := hinv
 refine zC (zC (zA (mv rfl rfl (mv rfl rfl (gv (zW rfl rfl) rfl (zD (zB ?_)))))))
 refine zN rfl (fun hc23 => ?_) (fun hc23 => ?_)
 ·
  refine zK (zB (zC (zP (zC ?_))))
  refine yF 7 _ [] [(0, .q), (1, .q), (2, .q), (3, .q), (4, .q), (5, .c), (6, .q)] xH nX (by kernel_rfl) nX (fun r hr => hr) ?_
  replace rb3 := rb3.mono (hmmg2_2.trans hmma)
  refine yP (F := fun v_ => (rpP (rpT (rpQ n)) (rpQ m)).Is ma v_ s) rfl (zE kH (Pc.here _) rfl rfl rb3 rfl) (yD mh0) rfl ?_
  intro v26 r26
  refine yH rfl rfl rfl (yH rfl rfl rfl ?_)
  replace rl := rl.mono (hmmg2_2.trans hmma)
  refine yP (F := fun v_ => AtP (rpT (rpQ k)) ma v_ (l.getD i zT)) rfl (vJ zT i underlying27 xJ rfl rfl rl rfl (by omega) p9N) vQ rfl ?_
  intro v29 r29
  refine yP (F := fun v_ => (rpT (rpQ k)).Is ma v_ (l.getD i zT)) rfl (wG xJ rfl r29) vQ rfl ?_
  intro v30 r30
  refine w_c rfl ?_
  refine zY (vs := [_, _]) call25 e2z (fun w hs => o_s4_side hs r26 r30 (by omega) (by omega) (by omega)) rfl ?_
  intro v31 h1 hh1 r31
  obtain rfl : v31 = vI (sdZ s (l.getD i zT)) := r31
  have hsd31 := kS s (l.getD i zT)
  refine yK rfl (fun _ _ => ov_neq_i (q := 0) rfl rfl) rfl (xB (zB ?_))
  refine zN rfl (fun hc32 => ?_) (fun hc32 => ?_)
  ·
   refine wJ (e' := []) trivial (zC (zA (asg rfl rfl (zD (zB (zQ (vC (zV (zV (vC (zV (yC rfl rfl ?_))))))))))))
   exact (yX (fun e => hc32 (e.2.1 i (by omega)))).symm
  refine wJ (e' := [(0, _), (3, _), (5, _), (6, _)]) e4z (zK (xC (zB (zA (mv rfl rfl (gv (zS (q := 1) rfl rfl (by omega) (by omega)) rfl (asg rfl rfl (zD ?_))))))))
  refine yV ((i + 1), h1) ?_ ?_ e4z rfl rfl
  ·
   refine ⟨(hmma.trans hh1), ?_⟩
   exact ⟨by omega, one_step (Q := fun u => sdZ s (gp l u) = 0) hi2 (Classical.not_not.1 hc32)⟩
  dsimp only
  omega
 have hS : ∀ u, u < l.length → sdZ s (gp l u) = 0 := fun u hu => hi2 u (by omega)
 refine xG (yB (yB (xF (zB (zC (zC (zA (asg (v := vI (0)) rfl rfl (zD (zB (zP ?_)))))))))))
 refine wE (ι := Nat × Mem) (fun (i, mb) => MLe ma mb ∧ (i ≤ l.length ∧ ∀ u, u < i → ∀ k', 2 ≤ k' → k' < l.length → 0 < orZ (pt2 s (gp l u)) (pt2 s (nx l u)) (pt2 s (gp l ((u + k') % l.length))))) (fun (i, mb) => [(0, vl), (3, vP b3 0), (5, vI (↑(l).length : Int)), (7, vI ↑i)]) (fun (i, mb) => [.var b3 34 cs3]) (fun (i, mb) => mb) (fun (i, mb) => l.length - i) (0, ma) ?_ e4z rfl rfl ?_
 ·
  refine ⟨MLe.refl _, ?_⟩
  exact ⟨by omega, fun u h => by omega⟩
 intro x hx
 obtain ⟨i, mb⟩ := x
 obtain ⟨hmmb, hinv⟩ := hx
 show GC _ _ _ _ _ _ [(0, vl), (3, vP b3 0), (5, vI (↑(l).length : Int)), (7, vI ↑i)] [.var b3 34 cs3] mb
 obtain ⟨hj1, hj2⟩ := hinv
 refine zC (zC (zA (mv rfl rfl (mv rfl rfl (gv (zW rfl rfl) rfl (zD (zB ?_)))))))
 refine zN rfl (fun hc35 => ?_) (fun hc35 => ?_)
 ·
  refine zK (zB (zC (zP (zC ?_))))
  refine yF 15 _ [(11, (8, 32, [.bool false, .slice none 0 0, .slice none 0 0, .bool false, .slice none 0 0, .slice none 0 0, .bool false, .slice none 0 0, .slice none 0 0])), (12, (9, 32, [.bool false, .slice none 0 0, .slice none 0 0, .bool false, .slice none 0 0, .slice none 0 0, .bool false, .slice none 0 0, .slice none 0 0]))] [(0, .q), (1, .q), (2, .q), (3, .q), (4, .q), (5, .q), (6, .q), (7, .q), (8, .q), (9, .q), (10, .q), (11, .a), (12, .a), (13, .c), (14, .c)] xH (jK.cons rfl rfl (qB yL rfl rfl) (jK.cons rfl rfl (qB yL rfl rfl) jK.nil)) (chk_of [0, 0, 3, 4, 0, 0, 32, 0, 192, 272, 512, 0, 0, 6159, 16383] [32767, 32767, 32764, 32763, 32767, 32767, 32735, 32767, 32575, 32495, 32255, 32767, 32767, 30711, 27647] (by kernel_rfl)) (qG rfl rfl (qG rfl rfl kQ)) (fun r hr => hr) (yH rfl rfl rfl (yH rfl rfl rfl ?_))
  replace rl := rl.mono ((hmmg2_2.trans hmma).trans hmmb)
  refine yP (F := fun v_ => AtP (rpT (rpQ k)) mb v_ (l.getD i zT)) rfl (vJ zT i underlying27 xJ rfl rfl rl rfl (by omega) p9N) vQ rfl ?_
  intro v40 r40
  refine yP (F := fun v_ => (rpT (rpQ k)).Is mb v_ (l.getD i zT)) rfl (wG xJ rfl r40) vQ rfl ?_
  intro v41 r41
  refine yH rfl rfl rfl (yH rfl rfl rfl (yK rfl (fun _ _ => zS (q := 1) rfl rfl (by omega) (by omega)) rfl (yH rfl rfl rfl (yK rfl (fun _ _ => uU rfl rfl (by omega) (by omega)) rfl (yP (F := fun v_ => AtP (rpT (rpQ k)) mb v_ (l.getD ((i + 1) % l.length) zT)) rfl (vJ zT ((i + 1) % l.length) underlying27 xJ rfl rfl rl (by first | rfl | (push_cast; rfl)) (by exact Nat.mod_lt _ (by omega)) p9N) vQ rfl ?_)))))
  intro v47 r47
  refine yP (F := fun v_ => (rpT (rpQ k)).Is mb v_ (l.getD ((i + 1) % l.length) zT)) rfl (wG xJ rfl r47) vQ rfl ?_
  intro v48 r48
  refine w_a rfl rfl (fun b8 => ?_)
  have rb8 : (rpT (rpQ (k + 1))).R mb [.bool false, .slice none 0 0, .slice none 0 0, .bool false, .slice none 0 0, .slice none 0 0, .bool false, .slice none 0 0, .slice none 0 0] zT := (wO (wB (by omega)))
  refine w_a rfl rfl (fun b9 => ?_)
  have rb9 : (rpT (rpQ (k + 1))).R mb [.bool false, .slice none 0 0, .slice none 0 0, .bool false, .slice none 0 0, .slice none 0 0, .bool false, .slice none 0 0, .slice none 0 0] zT := (wO (wB (by omega)))
  refine w_c rfl (s_updx (A := [_]) (F := fun c_ => (rpT (rpQ (k + 1))).R mb c_ (l.getD i zT)) (yJ sizeOf32 (Pc.here _) rfl rfl rfl rb8 (r41.le (Le.t (Le.q (l := k + 1) (by omega)))) rfl) (wV (by first | (simp; done) | grind)) ?_)
  intro cs_7 rb_8
  refine w_c rfl (s_updx (A := []) (F := fun c_ => (rpT (rpQ (k + 1))).R mb c_ (l.getD ((i + 1) % l.length) zT)) (yJ sizeOf32 (Pc.here _) rfl rfl rfl rb9 (r48.le (Le.t (Le.q (l := k + 1) (by omega)))) rfl) (wV (by first | (simp; done) | grind)) ?_)
  intro cs_9 rb_10
  refine xB (zJ (e' := [(0, _), (3, _), (5, _), (7, _), (8, _), (9, _)]) e6 (zB (zC (zA (asg (v := vI (2)) rfl rfl (zD (zB (zP ?_))))))))
  refine wE (ι := Nat × Mem) (fun (q, mq) => MLe mb mq ∧ ((2 ≤ q ∧ q ≤ l.length) ∧ ∀ k', 2 ≤ k' → k' < q → 0 < orZ (pt2 s (gp l i)) (pt2 s (nx l i)) (pt2 s (gp l ((i + k') % l.length))))) (fun (q, mq) => [(0, vl), (3, vP b3 0), (5, vI (↑(l).length : Int)), (7, vI ↑i), (8, vP b8 0), (9, vP b9 0), (10, vI ↑q)]) (fun (q, mq) => [.var b9 32 cs_9, .var b8 32 cs_7, .var b3 34 cs3]) (fun (q, mq) => mq) (fun (q, mq) => l.length - q) (2, mb) ?_ e7 rfl rfl ?_
  ·
   refine ⟨MLe.refl _, ?_⟩
   exact ⟨⟨by omega, by omega⟩, fun k' h1' h2' => by omega⟩
  intro x hx
  obtain ⟨q, mq⟩ := x
  obtain ⟨hmmq, hinv⟩ := hx
  show GC _ _ _ _ _ _ [(0, vl), (3, vP b3 0), (5, vI (↑(l).length : Int)), (7, vI ↑i), (8, vP b8 0), (9, vP b9 0), (10, vI ↑q)] [.var b9 32 cs_9, .var b8 32 cs_7, .var b3 34 cs3] mq
  obtain ⟨⟨hk0, hk1⟩, hk2⟩ := hinv
  refine zC (zC (zA (mv rfl rfl (mv rfl rfl (gv (zW rfl rfl) rfl (zD (zB ?_)))))))
  refine zN rfl (fun hc51 => ?_) (fun hc51 => ?_)
  ·
   refine zK (zB (zC (zP (zC (zA (mv rfl rfl (mv rfl rfl (mv rfl rfl (gv (zS rfl rfl (by omega) (by omega)) rfl (mv rfl rfl (gv (uU rfl rfl (by omega) (by omega)) rfl ?_)))))))))))
   replace rl := rl.mono hmmq
   refine xX (F := fun v_ => AtP (rpT (rpQ k)) mq v_ (l.getD ((i + q) % l.length) zT)) (vJ zT ((i + q) % l.length) underlying27 xJ rfl rfl rl (by first | rfl | (push_cast; rfl)) (by exact Nat.mod_lt _ (by omega)) p9N) vQ rfl ?_
   intro v60 r60
   refine xX (F := fun v_ => (rpT (rpQ k)).Is mq v_ (l.getD ((i + q) % l.length) zT)) (wG xJ rfl r60) vQ rfl ?_
   intro v61 r61
   refine zI (yR (ρ := (rpT (rpQ (k + 1)))) (X := zT) yL rfl rfl (wO (wB (by omega)))) rfl rfl rfl ?_
   intro v11 q11 hq11
   obtain ⟨b11, cs11, rfl, rfl, rb11⟩ := hq11
   refine wW (A := []) (F := fun c_ => (rpT (rpQ (k + 1))).R mq c_ (l.getD ((i + q) % l.length) zT)) (yJ sizeOf32 (Pc.here _) rfl rfl rfl rb11 (r61.le (Le.t (Le.q (l := k + 1) (by omega)))) rfl) ?_
   intro cs_11 rb_12
   refine zD (zJ (e' := [(0, _), (3, _), (5, _), (7, _), (8, _), (9, _), (10, _), (11, _)]) e8 (zB (zC ?_)))
   refine yF 11 _ [] [(0, .q), (1, .q), (3, .q), (4, .q), (6, .q), (7, .q), (2, .c), (5, .c), (8, .c), (9, .c), (10, .q)] xH nX (by kernel_rfl) nX (fun r hr => hr) ?_
   replace rb_10 := rb_10.mono hmmq
   refine yP (F := fun v_ => (rpT (rpQ (k + 1))).Is mq v_ (l.getD ((i + 1) % l.length) zT)) rfl (zE xJ (Pc.here _) rfl rfl rb_10 rfl) (yD mh1) rfl ?_
   intro v62 r62
   replace rb_8 := rb_8.mono hmmq
   refine yP (F := fun v_ => (rpT (rpQ (k + 1))).Is mq v_ (l.getD i zT)) rfl (zE xJ (Pc.here _) rfl rfl rb_8 rfl) (yD mh2) rfl ?_
   intro v63 r63
   refine yP (F := fun v_ => (rpT (rpQ (k + 1))).Is mq v_ (l.getD ((i + q) % l.length) zT)) rfl (zE xJ (Pc.here _) rfl rfl rb_12 rfl) (yD mh0) rfl ?_
   intro v65 r65
   refine yP (F := fun v_ => (rpT (rpQ (k + 1))).Is mq v_ (l.getD i zT)) rfl (zE xJ (Pc.here _) rfl rfl rb_8 rfl) (yD mh2) rfl ?_
   intro v66 r66
   refine yK rfl (fun _ _ => (zG underlying34 rfl sizeOf32 rfl).cv (show _ = vP b3 0 from congrArg (vP b3) (by rfl))) rfl ?_
   replace rb3 := rb3.mono (((hmmg2_2.trans hmma).trans hmmb).trans hmmq)
   refine yP (F := fun v_ => (rpT (rpQ n)).Is mq v_ s.1) rfl (zE xJ (Pc.fst (Pc.here _)) rfl rfl rb3 rfl) (yD mh3) rfl ?_
   intro v69 r69
   refine w_c rfl ?_
   refine zY (vs := [_, _]) call23 e2z (fun w hs => o_s4_sub hs r62 r63 (by omega)) rfl ?_
   intro v64 h1 hh1 r64
   change (rpT (rpQ ((k + 1) + (k + 1) + 1))).Is h1 v64 (T3.mk ((l.getD ((i + 1) % l.length) zT).x - (l.getD i zT).x) ((l.getD ((i + 1) % l.length) zT).y - (l.getD i zT).y) ((l.getD ((i + 1) % l.length) zT).z - (l.getD i zT).z)) at r64
   replace r64 := Rp.Is.le r64 (Le.t (Le.q (l := 2 * k + 3) (by omega)))
   refine w_c rfl ?_
   replace r65 := r65.mono hh1
   replace r66 := r66.mono hh1
   refine zY (vs := [_, _]) call23 e2z (fun w hs => o_s4_sub hs r65 r66 (by omega)) rfl ?_
   intro v67 h2 hh2 r67
   change (rpT (rpQ ((k + 1) + (k + 1) + 1))).Is h2 v67 (T3.mk ((l.getD ((i + q) % l.length) zT).x - (l.getD i zT).x) ((l.getD ((i + q) % l.length) zT).y - (l.getD i zT).y) ((l.getD ((i + q) % l.length) zT).z - (l.getD i zT).z)) at r67
   replace r67 := Rp.Is.le r67 (Le.t (Le.q (l := 2 * k + 3) (by omega)))
   refine w_c rfl ?_
   replace r69 := r69.mono (hh1.trans hh2)
   replace r64 := r64.mono hh2
   refine zY (vs := [_, _, _]) call51 e3z (fun w hs => o_s4_det hs r64 r67 r69 (by omega) (by omega) (by omega)) rfl ?_
   intro v70 h3 hh3 r70
   change (rpQ (3 * (2 * k + 3) + 6 * (2 * k + 3) + 6 * n + 18)).Is h3 v70 (detT (T3.mk ((l.getD ((i + 1) % l.length) zT).x - (l.getD i zT).x) ((l.getD ((i + 1) % l.length) zT).y - (l.getD i zT).y) ((l.getD ((i + 1) % l.length) zT).z - (l.getD i zT).z)) (T3.mk ((l.getD ((i + q) % l.length) zT).x - (l.getD i zT).x) ((l.getD ((i + q) % l.length) zT).y - (l.getD i zT).y) ((l.getD ((i + q) % l.length) zT).z - (l.getD i zT).z)) s.1) at r70
   replace r70 := Rp.Is.le r70 (Le.q (l := 18 * k + 6 * n + 45) (by omega))
   refine w_c rfl ?_
   refine zY (vs := [_]) call50 ⟨rfl, trivial⟩ (fun w hs => o_rref_sign hs r70 (by omega)) rfl ?_
   intro v71 h4 hh4 r71
   obtain rfl : v71 = vI (uT (detT (T3.mk ((l.getD ((i + 1) % l.length) zT).x - (l.getD i zT).x) ((l.getD ((i + 1) % l.length) zT).y - (l.getD i zT).y) ((l.getD ((i + 1) % l.length) zT).z - (l.getD i zT).z)) (T3.mk ((l.getD ((i + q) % l.length) zT).x - (l.getD i zT).x) ((l.getD ((i + q) % l.length) zT).y - (l.getD i zT).y) ((l.getD ((i + q) % l.length) zT).z - (l.getD i zT).z)) s.1)) := r71
   have hsr71 := uE (detT (T3.mk ((l.getD ((i + 1) % l.length) zT).x - (l.getD i zT).x) ((l.getD ((i + 1) % l.length) zT).y - (l.getD i zT).y) ((l.getD ((i + 1) % l.length) zT).z - (l.getD i zT).z)) (T3.mk ((l.getD ((i + q) % l.length) zT).x - (l.getD i zT).x) ((l.getD ((i + q) % l.length) zT).y - (l.getD i zT).y) ((l.getD ((i + q) % l.length) zT).z - (l.getD i zT).z)) s.1)
   refine yK rfl (fun _ _ => ov_leq_i (q := 0) rfl rfl) rfl (xB (zJ (e' := [(0, _), (3, _), (5, _), (7, _), (8, _), (9, _), (10, _), (72, _)]) e8 (zB ?_)))
   refine zN rfl (fun hc72 => ?_) (fun hc72 => ?_)
   ·
    have hed : ¬ 0 < orZ (pt2 s (gp l i)) (pt2 s (nx l i)) (pt2 s (gp l ((i + q) % l.length))) := (det_le hN (hS i (by omega)) (hS ((i + 1) % l.length) (Nat.mod_lt _ (by omega))) (hS ((i + q) % l.length) (Nat.mod_lt _ (by omega)))).1 hc72
    refine zC (zA (asg rfl rfl (zD (zB (zQ (vC (zV (zV (vC (vC (zV (zV (vC ?_)))))))))))))
    refine zV (yC rfl rfl ?_)
    exact (yX (fun e => hed (e.2.2 i q (by omega) (by omega) (by omega)))).symm
   have hed : 0 < orZ (pt2 s (gp l i)) (pt2 s (nx l i)) (pt2 s (gp l ((i + q) % l.length))) := Classical.not_not.1 (fun e => hc72 ((det_le hN (hS i (by omega)) (hS ((i + 1) % l.length) (Nat.mod_lt _ (by omega))) (hS ((i + q) % l.length) (Nat.mod_lt _ (by omega)))).2 e))
   refine zK (xC (zB (zA (mv rfl rfl (gv (zS (q := 1) rfl rfl (by omega) (by omega)) rfl (asg rfl rfl (zD (wQ (A := []) ?_))))))))
   refine yV ((q + 1), h4) ?_ ?_ e7 rfl rfl
   ·
    refine ⟨((((hmmq.trans hh1).trans hh2).trans hh3).trans hh4), ?_⟩
    exact ⟨⟨by omega, by omega⟩, fun k' h1' h2' => by rcases Nat.lt_succ_iff_lt_or_eq.1 h2' with e | e; exact hk2 k' h1' e; subst e; exact hed⟩
   dsimp only
   omega
  refine xG (yB (yB (xF (xC (zB (zA (mv rfl rfl (gv (zS (q := 1) rfl rfl (by omega) (by omega)) rfl (asg rfl rfl (zD (wQ (A := []) (wQ (A := []) ?_))))))))))))
  refine yV ((i + 1), mq) ?_ ?_ e4z rfl rfl
  ·
   refine ⟨(hmmb.trans hmmq), ?_⟩
   exact ⟨by omega, one_step (Q := fun u => ∀ k', 2 ≤ k' → k' < l.length → 0 < orZ (pt2 s (gp l u)) (pt2 s (nx l u)) (pt2 s (gp l ((u + k') % l.length)))) hj2 (fun k' h1' h2' => hk2 k' h1' (by omega))⟩
  dsimp only
  omega
 have hE : ∀ u k', u < l.length → 2 ≤ k' → k' < l.length → 0 < orZ (pt2 s (gp l u)) (pt2 s (nx l u)) (pt2 s (gp l ((u + k') % l.length))) := fun u k' hu h1' h2' => hj2 u (by omega) k' h1' h2'
 refine xG (yB (yB (xF (zB (zC (zA (asg rfl rfl (zD (zB (zQ (yC rfl rfl ?_)))))))))))
 exact (xL ⟨⟨h3, hN⟩, hS, hE⟩).symm
end Go.Proofs.YtghhjjmjpeehdaaGreat
namespace Bk
set_option linter.unusedVariables false
set_option linter.unusedSimpArgs false
open Classical
abbrev gpl (ps : List Pl) (m : Nat) : Pl := ps.getD m (T3.mk (0 : Rat) 0 0, (0 : Rat))
noncomputable def clipTo (l : List Pt) (ps : List Pl) : Nat → List Pt
  | 0 => l
  | m + 1 => qA (gpl ps m) (clipTo l ps m)
noncomputable def kP (c : Pl) (L : List (List Pt)) : Nat → List (List Pt)
  | 0 => []
  | m + 1 => kP c L m ++ (if 0 < (qA c (L.getD m [])).length then [qA c (L.getD m [])] else []) ++ (if 0 < (uW c (L.getD m [])).length then [uW c (L.getD m [])] else [])
noncomputable def xN (l : List Pt) (ps : List Pl) : Nat → List (List Pt)
  | 0 => [l]
  | m + 1 => kP (gpl ps m) (xN l ps m) (xN l ps m).length
noncomputable def wS (l : List Pt) (ps : List Pl) : List (List Pt) := if l.length = 0 then [] else xN l ps ps.length
theorem clip_len {l : List Pt} {ps : List Pl} {m : Nat} : (clipTo l ps (m + 1)).length ≤ 2 * (clipTo l ps m).length := cutB_len _ _
section
variable {c : Pl} {L P : List (List Pt)} {m : Nat}
theorem pp_bf (hP : P = kP c L m) (h1 : 0 < (qA c (L.getD m [])).length) (h2 : 0 < (uW c (L.getD m [])).length) : P ++ [qA c (L.getD m [])] ++ [uW c (L.getD m [])] = kP c L (m + 1) := by
  show _ = _ ++ _ ++ _; rw [if_pos h1, if_pos h2, hP]
theorem pp_b (hP : P = kP c L m) (h1 : 0 < (qA c (L.getD m [])).length) (h2 : ¬ 0 < (uW c (L.getD m [])).length) : P ++ [qA c (L.getD m [])] = kP c L (m + 1) := by
  show _ = _ ++ _ ++ _; rw [if_pos h1, if_neg h2, hP, List.append_nil]
theorem pp_f (hP : P = kP c L m) (h1 : ¬ 0 < (qA c (L.getD m [])).length) (h2 : 0 < (uW c (L.getD m [])).length) : P ++ [uW c (L.getD m [])] = kP c L (m + 1) := by
  show _ = _ ++ _ ++ _; rw [if_neg h1, if_pos h2, hP, List.append_nil]
theorem pp_n (hP : P = kP c L m) (h1 : ¬ 0 < (qA c (L.getD m [])).length) (h2 : ¬ 0 < (uW c (L.getD m [])).length) : P = kP c L (m + 1) := by
  show _ = _ ++ _ ++ _; rw [if_neg h1, if_neg h2, hP, List.append_nil, List.append_nil]
theorem parts_mem {x : List Pt} : ∀ {m}, x ∈ kP c L m → ∃ q, q < m ∧ ((x = qA c (L.getD q []) ∨ x = uW c (L.getD q [])) ∧ 0 < x.length)
  | 0, h => absurd h List.not_mem_nil
  | m + 1, h => by
    have h' : x ∈ kP c L m ++ (if 0 < (qA c (L.getD m [])).length then [qA c (L.getD m [])] else []) ++ (if 0 < (uW c (L.getD m [])).length then [uW c (L.getD m [])] else []) := h
    rw [List.mem_append, List.mem_append] at h'
    rcases h' with (h1 | h1) | h1
    · obtain ⟨q, hq, e⟩ := parts_mem h1
      exact ⟨q, by omega, e⟩
    · split at h1
      · rename_i hc; rw [List.mem_singleton] at h1; exact ⟨m, by omega, .inl h1, by rw [h1]; exact hc⟩
      · exact absurd h1 List.not_mem_nil
    · split at h1
      · rename_i hc; rw [List.mem_singleton] at h1; exact ⟨m, by omega, .inr h1, by rw [h1]; exact hc⟩
      · exact absurd h1 List.not_mem_nil
theorem parts_count (c : Pl) (L : List (List Pt)) : ∀ m, (kP c L m).length ≤ 2 * m
  | 0 => Nat.le_refl _
  | m + 1 => by
    have h := parts_count c L m
    show List.length (_ ++ _ ++ _) ≤ _
    rw [lAz, lAz]
    have h1 : (if 0 < (qA c (L.getD m [])).length then [qA c (L.getD m [])] else []).length ≤ 1 := by split <;> simp
    have h2 : (if 0 < (uW c (L.getD m [])).length then [uW c (L.getD m [])] else []).length ≤ 1 := by split <;> simp
    omega
end
theorem getD_le {L : List (List Pt)} {n : Nat} (h : ∀ x, x ∈ L → x.length ≤ n) (m : Nat) : (L.getD m []).length ≤ n := by
  rw [List.getD_eq_getElem?_getD]
  rcases Nat.lt_or_ge m L.length with h1 | h1
  · rw [List.getElem?_eq_getElem h1]
    exact h _ (List.getElem_mem h1)
  · rw [List.getElem?_eq_none h1]
    exact Nat.zero_le _
theorem split_lens (l : List Pt) (ps : List Pl) : ∀ m, (xN l ps m).length ≤ 2 ^ m ∧ ∀ x, x ∈ xN l ps m → x.length ≤ 2 ^ m * l.length
  | 0 => ⟨Nat.le_refl _, fun x hx => by rw [List.mem_singleton.1 hx]; omega⟩
  | m + 1 => by
    obtain ⟨h1, h2⟩ := split_lens l ps m
    have h3 := parts_count (gpl ps m) (xN l ps m) (xN l ps m).length
    refine ⟨by rw [Nat.pow_succ]; exact Nat.le_trans h3 (by omega), fun x hx => ?_⟩
    obtain ⟨q, hq, e, _⟩ := parts_mem hx
    have h4 := getD_le h2 q
    have h5 := cutB_len (gpl ps m) ((xN l ps m).getD q [])
    have h6 := cutF_len (gpl ps m) ((xN l ps m).getD q [])
    rw [Nat.pow_succ, Nat.mul_right_comm]
    rcases e with e | e <;> rw [e] <;> omega
theorem split_b {l : List Pt} {ps : List Pl} {i : Nat} (hi : i ≤ 3) : (xN l ps i).length ≤ 8 ∧ ∀ m, ((xN l ps i).getD m []).length ≤ 8 * l.length := by
  obtain ⟨h1, h2⟩ := split_lens l ps i
  have h3 : 2 ^ i ≤ 2 ^ 3 := Nat.pow_le_pow_right (by decide) hi
  have h4 : (2 : Nat) ^ 3 = 8 := rfl
  refine ⟨by omega, fun m => Nat.le_trans (getD_le h2 m) ?_⟩
  exact Nat.mul_le_mul_right _ (by omega)
theorem splitZ_len {l : List Pt} {ps : List Pl} (hp : ps.length ≤ 3) : (wS l ps).length ≤ 8 := by
  unfold wS
  split
  · exact Nat.zero_le _
  · exact (split_b hp).1
theorem splitZ_mem {l : List Pt} {ps : List Pl} (hp : ps.length ≤ 3) : ∀ x, x ∈ wS l ps → x.length ≤ 8 * l.length := by
  intro x hx
  unfold wS at hx
  split at hx
  · exact absurd hx List.not_mem_nil
  · obtain ⟨h1, h2⟩ := split_lens l ps ps.length
    have h3 : 2 ^ ps.length ≤ 2 ^ 3 := Nat.pow_le_pow_right (by decide) hp
    exact Nat.le_trans (h2 x hx) (Nat.mul_le_mul_right _ h3)
end Bk
namespace Go.Proofs.YtghhjjmjpeehdaaGreat
open Bk Go Tryz
set_option linter.unusedVariables false
set_option linter.unusedSimpArgs false
set_option maxRecDepth 10000
theorem o_cx_clip {w0 : World} {h0 : Mem}  (hs : MLe h0 (mem w0)) {k : Nat} {vl : Value} {l : (List (T3 Rat))} (rl : (rpS (rpT (rpQ k))).Is h0 vl l) {vps : Value} {ps : (List ((T3 Rat) × Rat))} (rps : (rpS (rpP (rpT (rpQ 2)) (rpQ 2))).Is h0 vps ps) (hcd0 : k ≤ 140000) (hcd1 : l.length ≤ 1000) (hcd2 : ps.length ≤ 3)  :
    Calls Tryz.prog 31 #[vl, vps] w0 (Ret w0 h0 (fun h r => (rpS (rpT (rpQ 250000002))).Is h r (clipTo l ps ps.length))) := by
 refine zM (n := 22) (e := [(0, vl), (1, vps)]) (vs := [vl, vps]) func31 rfl rfl (bL rfl) hs e2z (zC (zA (asg rfl rfl (zD (zB (zC (zC (zA (mv rfl rfl (gv (wI underlying52 rfl rps) rfl (mv (v := vI (0)) rfl rfl (zD (zB ?_)))))))))))))
 refine zP ?_
 refine wE (ι := Nat × Nat × Value × Mem) (fun (i, kk, u0_1, ma) => MLe h0 ma ∧ ((rpS (rpT (rpQ kk))).Is ma u0_1 (clipTo l ps i) ∧ ((i = 0 ∧ kk ≤ 140000 ∧ (clipTo l ps i).length ≤ 1000) ∨ (i = 1 ∧ kk ≤ 1700000 ∧ (clipTo l ps i).length ≤ 2000) ∨ (i = 2 ∧ kk ≤ 20500000 ∧ (clipTo l ps i).length ≤ 4000) ∨ (i = 3 ∧ kk ≤ 250000000 ∧ (clipTo l ps i).length ≤ 8000)) ∧ i ≤ ps.length)) (fun (i, kk, u0_1, ma) => [(0, u0_1), (7, vps), (8, vI (↑(ps).length : Int)), (9, vI ↑i)]) (fun (i, kk, u0_1, ma) => []) (fun (i, kk, u0_1, ma) => ma) (fun (i, kk, u0_1, ma) => ps.length - i) (0, k, vl, h0) ?_ e4z rfl rfl ?_
 ·
  refine ⟨MLe.refl _, ?_⟩
  refine ⟨rl, ?_⟩
  exact ⟨.inl ⟨rfl, by omega, by show l.length ≤ 1000; omega⟩, by omega⟩
 intro x hx
 obtain ⟨i, kk, u0_1, ma⟩ := x
 obtain ⟨hmma, hinv⟩ := hx
 show GC _ _ _ _ _ _ [(0, u0_1), (7, vps), (8, vI (↑(ps).length : Int)), (9, vI ↑i)] [] ma
 obtain ⟨ru_2, hinv⟩ := hinv
 obtain ⟨hkc, hi1⟩ := hinv
 have hcl := clip_len (l := l) (ps := ps) (m := i)
 refine zC (zA (gv (zW rfl rfl) rfl (zD (zB (zC ?_)))))
 refine zN rfl (fun hc10 => ?_) (fun hc10 => ?_)
 ·
  refine zK (zB (zC (zP (zC (zA ?_)))))
  replace rps := rps.mono hmma
  refine xX (F := fun v_ => AtP (rpP (rpT (rpQ 2)) (rpQ 2)) ma v_ (ps.getD i (zT, (0 : Rat)))) (vJ (zT, (0 : Rat)) i underlying52 kH rfl rfl rps rfl (by omega) (show 0 < 12 from by decide)) vQ rfl ?_
  intro v11 r11
  refine xX (F := fun v_ => (rpP (rpT (rpQ 2)) (rpQ 2)).Is ma v_ (ps.getD i (zT, (0 : Rat)))) (wG kH rfl r11) vQ rfl ?_
  intro v12 r12
  refine zI (yR (ρ := (rpP (rpT (rpQ 1)) (rpQ 1))) (X := (zT, (0 : Rat))) info34 rfl rfl (zr_p (wO (wB (by decide))) (wB (by decide)))) rfl rfl rfl ?_
  intro v6 q6 hq6
  obtain ⟨b6, cs6, rfl, rfl, rb6⟩ := hq6
  have rw_3 := (Le.p (Le.t (Le.q (l := 2) (by decide))) (Le.q (l := 2) (by decide))).R rb6
  refine wW (A := []) (F := fun c_ => (rpP (rpT (rpQ 2)) (rpQ 2)).R ma c_ (ps.getD i (zT, (0 : Rat)))) (yJ sizeOf34 (Pc.here _) rfl rfl rfl rw_3 r12 rfl) ?_
  intro cs_4 rb_5
  refine zD (zB (zA (mv rfl rfl (xX (F := fun v_ => (rpP (rpT (rpQ 2)) (rpQ 2)).Is ma v_ (ps.getD i (zT, (0 : Rat)))) (zE kH (Pc.here _) rfl rfl rb_5 rfl) (yD mh0) rfl ?_))))
  intro v15 r15
  refine zO (vs := [_, _]) rfl rfl rfl rfl call47 e2z (fun w hs => o_cx_halves hs ru_2 r15 (by omega) (by decide) (by decide) (by omega)) ?_
  intro v16 h1 hh1 r16
  obtain ⟨v16_0, v16_1, rfl, r16_0, r16_1⟩ := r16
  change (rpS (rpT (rpQ (12 * kk + 3 * 2 + 9 * 2 + 62)))).Is h1 v16_0 (qA (ps.getD i (zT, (0 : Rat))) (clipTo l ps i)) at r16_0
  replace r16_0 := Rp.Is.le r16_0 (Le.s (Le.t (Le.q (l := 12 * kk + 86) (by omega))))
  change (rpS (rpT (rpQ (12 * kk + 3 * 2 + 9 * 2 + 62)))).Is h1 v16_1 (uW (ps.getD i (zT, (0 : Rat))) (clipTo l ps i)) at r16_1
  replace r16_1 := Rp.Is.le r16_1 (Le.s (Le.t (Le.q (l := 12 * kk + 86) (by omega))))
  refine mv rfl rfl (gv (zL (vs := [_, _]) rfl rfl) rfl (gv (zL (vs := [_, _]) rfl rfl) rfl (asg rfl rfl (zD (xC (zJ (e' := [(7, _), (8, _), (9, _), (0, _)]) e4z (zB (zA (gv (zS (q := 1) rfl rfl (by omega) (by omega)) rfl (mv rfl rfl (zD (wQ (A := []) ?_))))))))))))
  refine yV ((i + 1), (12 * kk + 86), v16_0, h1) ?_ ?_ e4z rfl rfl
  ·
   refine ⟨(hmma.trans hh1), ?_⟩
   refine ⟨(Rp.Is.le r16_0 (Le.s (Le.t (Le.q (by omega))))), ?_⟩
   exact ⟨by omega, by omega⟩
  dsimp only
  omega
 have ei : i = ps.length := by omega
 refine xG (yB (yB (xF (zB (zC (zA (mv rfl rfl ?_)))))))
 refine zO (vs := [_]) rfl rfl rfl rfl call48 ⟨rfl, trivial⟩ (fun w hs => o_own_points hs ru_2 (by omega) (by omega)) ?_
 intro v21 h1 hh1 r21
 change (rpS (rpT (rpQ (kk + 2)))).Is h1 v21 (clipTo l ps i) at r21
 refine asg rfl rfl (zD (zB (zQ (yC rfl rfl ?_))))
 exact (Rp.Is.cast (Rp.Is.le r21 (Le.s (Le.t (Le.q (l := 250000002) (by omega))))) (by rw [ei]))
theorem o_cx_split1 {w0 : World} {h0 : Mem}  (hs : MLe h0 (mem w0)) {k : Nat} {vx : Value} {x : (List (T3 Rat))} (rx : (rpS (rpT (rpQ k))).Is h0 vx x)  :
    Calls Tryz.prog 60 #[vx] w0 (Ret w0 h0 (fun _ r => r = vB (True))) := by
 refine zM (n := 3) (e := []) (vs := [vx]) func60 rfl rfl (bL rfl) hs trivial (zC (zA (asg rfl rfl (zD (zB (zC (zA (asg rfl rfl (zD (zB (zQ (yC rfl rfl ?_))))))))))))
 exact (xL trivial).symm
set_option maxHeartbeats 1000000 in
theorem o_cx_parts {w0 : World} {h0 : Mem}  (hs : MLe h0 (mem w0)) {k : Nat} {vl : Value} {l : (List (T3 Rat))} (rl : (rpS (rpT (rpQ k))).Is h0 vl l) {vps : Value} {ps : (List ((T3 Rat) × Rat))} (rps : (rpS (rpP (rpT (rpQ 2)) (rpQ 2))).Is h0 vps ps) (hcd0 : k ≤ 140000) (hcd1 : l.length ≤ 1000) (hcd2 : ps.length ≤ 3)  :
    Calls Tryz.prog 59 #[vl, vps, vF 60 []] w0 (Ret w0 h0 (fun h r => (rpS (rpS (rpT (rpQ 250000002)))).Is h r (wS l ps))) := by
 refine zM (n := 66) (e := [(0, vl), (1, vps), (2, vF 60 [])]) (vs := [vl, vps, vF 60 []]) func59 rfl rfl (bL rfl) hs e3z (zC (zA (asg rfl rfl (zD (zB (zC (zC (zA (mv rfl rfl (gv (wI underlying27 rfl rl) rfl (gv (xU (q := 0) rfl rfl) rfl (zD (zB ?_)))))))))))))
 refine zN rfl (fun hc17 => ?_) (fun hc17 => ?_)
 ·
  have hz : l.length = 0 := by omega
  refine zC (zA (asg rfl rfl (zD (zB (zQ (zV (yC rfl rfl ?_)))))))
  exact (Rp.Is.cast (is_nil _) (by exact (if_pos hz).symm))
 have hz : ¬ l.length = 0 := by omega
 refine zK (zB (zC (zA (mv rfl rfl (zI (wA (ρ := (rpS (rpT (rpQ (k + 1))))) (m := 1) (xs := [l]) (ps' := [(0, _)]) underlying50 info27 rfl rfl rfl zr_s e2z (yZ rfl (Pc.arr (Pc.here _) [] 0 (by decide)) (rl.le (Le.s (Le.t (Le.q (l := k + 1) (by omega))))) wH) (show 1 * 1 ≤ 16777216 from by decide) p1N) rfl rfl rfl ?_)))))
 intro v19 q19 hq19
 obtain ⟨cs19, rfl, rl19⟩ := hq19
 refine asg rfl rfl (zD (zB (zC (zC (zA (mv rfl rfl (gv (wI underlying52 rfl rps) rfl (mv (v := vI (0)) rfl rfl (zD (zB (zP ?_)))))))))))
 refine wE (ι := Nat × Nat × Value × List Value × Mem) (fun (i, kk, s7_10, cs_11, ma) => MLe h0 ma ∧ (RL (rpS (rpT (rpQ kk))) ma cs_11 (xN l ps i) ∧ ((i = 0 ∧ kk ≤ 140001) ∨ (i = 1 ∧ kk ≤ 1700000) ∨ (i = 2 ∧ kk ≤ 20500000) ∨ (i = 3 ∧ kk ≤ 250000000)) ∧ i ≤ ps.length)) (fun (i, kk, s7_10, cs_11, ma) => [(2, vF 60 []), (7, s7_10), (20, vps), (21, vI (↑(ps).length : Int)), (22, vI ↑i)]) (fun (i, kk, s7_10, cs_11, ma) => [.gs 27 1 s7_10 (xN l ps i).length cs_11]) (fun (i, kk, s7_10, cs_11, ma) => ma) (fun (i, kk, s7_10, cs_11, ma) => ps.length - i) (0, (k + 1), v19, cs19, h0) ?_ e5z rfl rfl ?_
 ·
  refine ⟨MLe.refl _, ?_⟩
  refine ⟨rl19, ?_⟩
  exact ⟨.inl ⟨rfl, by omega⟩, by omega⟩
 intro x hx
 obtain ⟨i, kk, s7_10, cs_11, ma⟩ := x
 obtain ⟨hmma, hinv⟩ := hx
 show GC _ _ _ _ _ _ [(2, vF 60 []), (7, s7_10), (20, vps), (21, vI (↑(ps).length : Int)), (22, vI ↑i)] [.gs 27 1 s7_10 (xN l ps i).length cs_11] ma
 obtain ⟨rl_12, hinv⟩ := hinv
 obtain ⟨hkc, hi1⟩ := hinv
 have hsb := split_b (l := l) (ps := ps) (i := i) (by omega)
 have hsb1 := hsb.1
 refine zC (zA (gv (zW rfl rfl) rfl (zD (zB (zC ?_)))))
 refine zN rfl (fun hc23 => ?_) (fun hc23 => ?_)
 ·
  refine zK (zB (zC (zP (zC (zA ?_)))))
  replace rps := rps.mono hmma
  refine xX (F := fun v_ => AtP (rpP (rpT (rpQ 2)) (rpQ 2)) ma v_ (ps.getD i (zT, (0 : Rat)))) (vJ (zT, (0 : Rat)) i underlying52 kH rfl rfl rps rfl (by omega) (show 0 < 12 from by decide)) vQ rfl ?_
  intro v24 r24
  refine xX (F := fun v_ => (rpP (rpT (rpQ 2)) (rpQ 2)).Is ma v_ (ps.getD i (zT, (0 : Rat)))) (wG kH rfl r24) vQ rfl ?_
  intro v25 r25
  refine zI (yR (ρ := (rpP (rpT (rpQ 1)) (rpQ 1))) (X := (zT, (0 : Rat))) info34 rfl rfl (zr_p (wO (wB (by decide))) (wB (by decide)))) rfl rfl rfl ?_
  intro v9 q9 hq9
  obtain ⟨b9, cs9, rfl, rfl, rb9⟩ := hq9
  have rw_13 := (Le.p (Le.t (Le.q (l := 2) (by decide))) (Le.q (l := 2) (by decide))).R rb9
  refine wW (A := []) (F := fun c_ => (rpP (rpT (rpQ 2)) (rpQ 2)).R ma c_ (ps.getD i (zT, (0 : Rat)))) (yJ sizeOf34 (Pc.here _) rfl rfl rfl rw_13 r25 rfl) ?_
  intro cs_14 rb_15
  refine zD (zB (zC (zA (asg rfl rfl (zD (zB (zC (zC (zA (mv rfl rfl (gv (ov_len_os mh1 underlying50 rfl) rfl (mv (v := vI (0)) rfl rfl (zD ?_)))))))))))))
  refine zB (zP (gc_nilown 27 1 ?_))
  have rl_16 : RL (rpS (rpT (rpQ (12 * kk + 86)))) ma [] ([] : List (List (T3 Rat))) := RL.nil
  refine wE (ι := Nat × List (List (T3 Rat)) × Value × List Value × Mem) (fun (j, NX, s10_17, cs_18, mb) => MLe ma mb ∧ (RL (rpS (rpT (rpQ (12 * kk + 86)))) mb cs_18 NX ∧ j ≤ (xN l ps i).length ∧ NX = kP (gpl ps i) (xN l ps i) j)) (fun (j, NX, s10_17, cs_18, mb) => [(2, vF 60 []), (9, vP b9 0), (10, s10_17), (20, vps), (21, vI (↑(ps).length : Int)), (22, vI ↑i), (26, s7_10), (27, vI (↑(xN l ps i).length : Int)), (28, vI ↑j)]) (fun (j, NX, s10_17, cs_18, mb) => [.gs 27 1 s10_17 NX.length cs_18, .var b9 34 cs_14, .gs 27 1 s7_10 (xN l ps i).length cs_11]) (fun (j, NX, s10_17, cs_18, mb) => mb) (fun (j, NX, s10_17, cs_18, mb) => (xN l ps i).length - j) (0, [], (.slice none 0 0), [], ma) ?_ e9 rfl rfl ?_
  ·
   refine ⟨MLe.refl _, ?_⟩
   refine ⟨rl_16, ?_⟩
   exact ⟨by omega, rfl⟩
  intro x hx
  obtain ⟨j, NX, s10_17, cs_18, mb⟩ := x
  obtain ⟨hmmb, hinv⟩ := hx
  show GC _ _ _ _ _ _ [(2, vF 60 []), (9, vP b9 0), (10, s10_17), (20, vps), (21, vI (↑(ps).length : Int)), (22, vI ↑i), (26, s7_10), (27, vI (↑(xN l ps i).length : Int)), (28, vI ↑j)] [.gs 27 1 s10_17 NX.length cs_18, .var b9 34 cs_14, .gs 27 1 s7_10 (xN l ps i).length cs_11] mb
  obtain ⟨rl_19, hinv⟩ := hinv
  obtain ⟨hj1, hP⟩ := hinv
  have hpl := hsb.2 j
  have hNl : NX.length ≤ 2 * j := by rw [hP]; exact parts_count _ _ _
  refine zC (zA (gv (zW rfl rfl) rfl (zD (zB (zC ?_)))))
  refine zN rfl (fun hc29 => ?_) (fun hc29 => ?_)
  ·
   refine zK (zB (zC (zP (zC (zA (gv ((qE j mh2 underlying50 sizeOf27 rfl rfl rfl (by first | omega | (simp only [lAz, lC, lN, lR, lS]; omega)) p1N).cv (show _ = xY 1 s7_10 ((j * 1 + 0)) from congrArg (xY 1 s7_10) (by rfl))) rfl ?_))))))
   replace rl_12 := rl_12.mono hmmb
   refine xX (F := fun v_ => (rpS (rpT (rpQ kk))).Is mb v_ ((xN l ps i).getD j [])) (kJ ty27 (Pc.arr (Pc.here _) [] j (by first | omega | (simp only [lAz, lC, lN, lR, lS]; omega))) rfl p1N rfl rl_12 rfl) (yD mh2) rfl ?_
   intro v31 r31
   refine asg rfl rfl (zD (zB (zC (zA (mv rfl rfl ?_)))))
   replace rb_15 := rb_15.mono hmmb
   refine xX (F := fun v_ => (rpP (rpT (rpQ 2)) (rpQ 2)).Is mb v_ (ps.getD i (zT, (0 : Rat)))) (zE kH (Pc.here _) rfl rfl rb_15 rfl) (yD mh1) rfl ?_
   intro v34 r34
   refine zO (vs := [_, _]) rfl rfl rfl rfl call47 e2z (fun w hs => o_cx_halves hs r31 r34 (by omega) (by decide) (by decide) (by omega)) ?_
   intro v35 h1 hh1 r35
   obtain ⟨v35_0, v35_1, rfl, r35_0, r35_1⟩ := r35
   change (rpS (rpT (rpQ (12 * kk + 3 * 2 + 9 * 2 + 62)))).Is h1 v35_0 (qA (ps.getD i (zT, (0 : Rat))) ((xN l ps i).getD j [])) at r35_0
   replace r35_0 := Rp.Is.le r35_0 (Le.s (Le.t (Le.q (l := 12 * kk + 86) (by omega))))
   change (rpS (rpT (rpQ (12 * kk + 3 * 2 + 9 * 2 + 62)))).Is h1 v35_1 (uW (ps.getD i (zT, (0 : Rat))) ((xN l ps i).getD j [])) at r35_1
   replace r35_1 := Rp.Is.le r35_1 (Le.s (Le.t (Le.q (l := 12 * kk + 86) (by omega))))
   refine mv rfl rfl (gv (zL (vs := [_, _]) rfl rfl) rfl (gv (zL (vs := [_, _]) rfl rfl) rfl (asg rfl rfl (asg rfl rfl (zD (zJ (e' := [(2, _), (9, _), (10, _), (20, _), (21, _), (22, _), (26, _), (27, _), (28, _), (13, _), (14, _)]) e11 (zB (zC (zC (zA (mv rfl rfl (gv (wI underlying27 rfl r35_0) rfl (gv (uH (q := 0) rfl rfl) rfl ?_)))))))))))))
   refine vY (ι := Mem) 5 (fun m_ => MLe h1 m_) (fun _ => [(45, vB (((0 : Int) < (↑(qA (ps.getD i (zT, (0 : Rat))) ((xN l ps i).getD j [])).length : Int)) ∧ (True))), (2, vF 60 []), (9, vP b9 0), (10, s10_17), (20, vps), (21, vI (↑(ps).length : Int)), (22, vI ↑i), (26, s7_10), (27, vI (↑(xN l ps i).length : Int)), (28, vI ↑j), (13, v35_0), (14, v35_1)]) (fun _ => [.gs 27 1 s10_17 NX.length cs_18, .var b9 34 cs_14, .gs 27 1 s7_10 (xN l ps i).length cs_11]) (fun m_ => m_) ?_ ?_
   ·
    refine wL ((0 : Int) < (↑(qA (ps.getD i (zT, (0 : Rat))) ((xN l ps i).getD j [])).length : Int)) (fun hg => ?_) (fun hg => ?_)
    ·
     refine xE (yO (v := .bool true) (congrArg some (xL hg))) rfl rfl rfl (yY rfl rfl rfl (mv rfl rfl (yY rfl rfl rfl (mv rfl rfl (yY rfl rfl rfl (gl_enter (kE (vs := [_]) call60 rfl ⟨rfl, trivial⟩) rfl rfl rfl (fun w hs => o_cx_split1 hs r35_0) ?_))))))
     intro v44 h2 hh2 r44
     obtain rfl : v44 = vB (True) := r44
     refine gv (xM rfl rfl) rfl (zD ?_)
     refine yM h2 hh2 ⟨?_, rfl, rfl, rfl, rfl, rfl, rfl, rfl, rfl, rfl, rfl, rfl, trivial⟩ rfl rfl
     exact congrArg some (uC hg)
    refine xE (yO (v := .bool false) (congrArg some (yX hg))) rfl rfl rfl (yI rfl rfl rfl rfl rfl rfl (yI rfl rfl rfl rfl rfl rfl (yI rfl rfl rfl rfl rfl rfl (gv (xW rfl rfl) rfl (zD ?_)))))
    refine yM h1 (MLe.refl _) ⟨?_, rfl, rfl, rfl, rfl, rfl, rfl, rfl, rfl, rfl, rfl, rfl, trivial⟩ rfl rfl
    exact congrArg some (uD hg)
   intro mg12_3 hmmg12_3
   show GL _ _ _ _ _ _ _ [(45, vB (((0 : Int) < (↑(qA (ps.getD i (zT, (0 : Rat))) ((xN l ps i).getD j [])).length : Int)) ∧ (True))), (2, vF 60 []), (9, vP b9 0), (10, s10_17), (20, vps), (21, vI (↑(ps).length : Int)), (22, vI ↑i), (26, s7_10), (27, vI (↑(xN l ps i).length : Int)), (28, vI ↑j), (13, v35_0), (14, v35_1)] [.gs 27 1 s10_17 NX.length cs_18, .var b9 34 cs_14, .gs 27 1 s7_10 (xN l ps i).length cs_11] mg12_3
   refine zD (zB ?_)
   refine zN rfl (fun hc45 => ?_) (fun hc45 => ?_)
   ·
    have hq1 : 0 < (qA (ps.getD i (zT, (0 : Rat))) ((xN l ps i).getD j [])).length := by have h := hc45.1; omega
    refine zA (mv rfl rfl (mv rfl rfl ?_))
    replace r35_0 := r35_0.mono hmmg12_3
    refine zI (wA (ρ := (rpS (rpT (rpQ (12 * kk + 86))))) (m := 1) (xs := [qA (ps.getD i (zT, (0 : Rat))) ((xN l ps i).getD j [])]) (ps' := [(0, _)]) underlying50 info27 rfl rfl rfl zr_s e2z (yZ rfl (Pc.arr (Pc.here _) [] 0 (by decide)) r35_0 wH) (show 1 * 1 ≤ 16777216 from by decide) p1N) rfl rfl rfl ?_
    intro v48 q48 hq48
    obtain ⟨cs48, rfl, rl48⟩ := hq48
    refine qN (A := []) (ρ := (rpS (rpT (rpQ (12 * kk + 86))))) rl48 ?_
    intro h2 hh2 rs_20
    replace rl_19 := rl_19.mono ((hh1.trans hmmg12_3).trans hh2)
    refine qH (A := []) (xK (ρ := (rpS (rpT (rpQ (12 * kk + 86))))) (bytes := 24) underlying50 info27 rfl rfl rfl rfl p1N rfl rfl rl_19 rs_20 (by first | omega | (simp only [lAz, lC, lN, lR, lS]; omega)) (by first | omega | (simp only [lAz, lC, lN, lR, lS]; omega))) rfl rfl rfl ?_
    intro v49 q49 hq49
    obtain ⟨cs49, rfl, rl49⟩ := hq49
    refine asg rfl rfl (zD (zB (zC (zA (mv rfl rfl ?_)))))
    replace r35_1 := r35_1.mono (hmmg12_3.trans hh2)
    refine gv (wI underlying27 rfl r35_1) rfl (gv (uH (q := 0) rfl rfl) rfl ?_)
    refine vY (ι := Mem) 5 (fun m_ => MLe h2 m_) (fun _ => [(57, vB (((0 : Int) < (↑(uW (ps.getD i (zT, (0 : Rat))) ((xN l ps i).getD j [])).length : Int)) ∧ (True))), (2, vF 60 []), (9, vP b9 0), (20, vps), (21, vI (↑(ps).length : Int)), (22, vI ↑i), (26, s7_10), (27, vI (↑(xN l ps i).length : Int)), (28, vI ↑j), (14, v35_1), (10, v49)]) (fun _ => [.gs 27 1 v49 (NX ++ [qA (ps.getD i (zT, (0 : Rat))) ((xN l ps i).getD j [])]).length cs49, .var b9 34 cs_14, .gs 27 1 s7_10 (xN l ps i).length cs_11]) (fun m_ => m_) ?_ ?_
    ·
     refine wL ((0 : Int) < (↑(uW (ps.getD i (zT, (0 : Rat))) ((xN l ps i).getD j [])).length : Int)) (fun hg => ?_) (fun hg => ?_)
     ·
      refine xE (yO (v := .bool true) (congrArg some (xL hg))) rfl rfl rfl (yY rfl rfl rfl (mv rfl rfl (yY rfl rfl rfl (mv rfl rfl (yY rfl rfl rfl (gl_enter (kE (vs := [_]) call60 rfl ⟨rfl, trivial⟩) rfl rfl rfl (fun w hs => o_cx_split1 hs r35_1) ?_))))))
      intro v56 h3 hh3 r56
      obtain rfl : v56 = vB (True) := r56
      refine gv (xM rfl rfl) rfl (zD ?_)
      refine yM h3 hh3 ⟨?_, rfl, rfl, rfl, rfl, rfl, rfl, rfl, rfl, rfl, rfl, trivial⟩ rfl rfl
      exact congrArg some (uC hg)
     refine xE (yO (v := .bool false) (congrArg some (yX hg))) rfl rfl rfl (yI rfl rfl rfl rfl rfl rfl (yI rfl rfl rfl rfl rfl rfl (yI rfl rfl rfl rfl rfl rfl (gv (xW rfl rfl) rfl (zD ?_)))))
     refine yM h2 (MLe.refl _) ⟨?_, rfl, rfl, rfl, rfl, rfl, rfl, rfl, rfl, rfl, rfl, trivial⟩ rfl rfl
     exact congrArg some (uD hg)
    intro mg14_3 hmmg14_3
    show GL _ _ _ _ _ _ _ [(57, vB (((0 : Int) < (↑(uW (ps.getD i (zT, (0 : Rat))) ((xN l ps i).getD j [])).length : Int)) ∧ (True))), (2, vF 60 []), (9, vP b9 0), (20, vps), (21, vI (↑(ps).length : Int)), (22, vI ↑i), (26, s7_10), (27, vI (↑(xN l ps i).length : Int)), (28, vI ↑j), (14, v35_1), (10, v49)] [.gs 27 1 v49 (NX ++ [qA (ps.getD i (zT, (0 : Rat))) ((xN l ps i).getD j [])]).length cs49, .var b9 34 cs_14, .gs 27 1 s7_10 (xN l ps i).length cs_11] mg14_3
    refine zD (zB ?_)
    refine zN rfl (fun hc57 => ?_) (fun hc57 => ?_)
    ·
     have hq2 : 0 < (uW (ps.getD i (zT, (0 : Rat))) ((xN l ps i).getD j [])).length := by have h := hc57.1; omega
     refine zA (mv rfl rfl (mv rfl rfl ?_))
     replace r35_1 := r35_1.mono hmmg14_3
     refine zI (wA (ρ := (rpS (rpT (rpQ (12 * kk + 86))))) (m := 1) (xs := [uW (ps.getD i (zT, (0 : Rat))) ((xN l ps i).getD j [])]) (ps' := [(0, _)]) underlying50 info27 rfl rfl rfl zr_s e2z (yZ rfl (Pc.arr (Pc.here _) [] 0 (by decide)) r35_1 wH) (show 1 * 1 ≤ 16777216 from by decide) p1N) rfl rfl rfl ?_
     intro v60 q60 hq60
     obtain ⟨cs60, rfl, rl60⟩ := hq60
     refine qN (A := []) (ρ := (rpS (rpT (rpQ (12 * kk + 86))))) rl60 ?_
     intro h3 hh3 rs_21
     replace rl49 := rl49.mono (hmmg14_3.trans hh3)
     refine qH (A := []) (xK (ρ := (rpS (rpT (rpQ (12 * kk + 86))))) (bytes := 24) underlying50 info27 rfl rfl rfl rfl p1N rfl rfl rl49 rs_21 (by first | omega | (simp only [lAz, lC, lN, lR, lS]; omega)) (by first | omega | (simp only [lAz, lC, lN, lR, lS]; omega))) rfl rfl rfl ?_
     intro v61 q61 hq61
     obtain ⟨cs61, rfl, rl61⟩ := hq61
     refine asg rfl rfl (zD (xC (zB (zA (gv (zS (q := 1) rfl rfl (by omega) (by omega)) rfl (mv rfl rfl (zD ?_)))))))
     refine yV ((j + 1), ((NX ++ [qA (ps.getD i (zT, (0 : Rat))) ((xN l ps i).getD j [])]) ++ [uW (ps.getD i (zT, (0 : Rat))) ((xN l ps i).getD j [])]), v61, cs61, h3) ?_ ?_ e9 rfl rfl
     ·
      refine ⟨(((((hmmb.trans hh1).trans hmmg12_3).trans hh2).trans hmmg14_3).trans hh3), ?_⟩
      refine ⟨rl61, ?_⟩
      exact ⟨by omega, (by first | exact pp_bf hP hq1 hq2 | exact pp_b hP hq1 hq2 | exact pp_f hP hq1 hq2 | exact pp_n hP hq1 hq2)⟩
     dsimp only
     omega
    have hq2 : ¬ 0 < (uW (ps.getD i (zT, (0 : Rat))) ((xN l ps i).getD j [])).length := by have h := hc57; simp only [and_true] at h; omega
    refine zK (xC (zB (zA (gv (zS (q := 1) rfl rfl (by omega) (by omega)) rfl (mv rfl rfl (zD ?_))))))
    refine yV ((j + 1), (NX ++ [qA (ps.getD i (zT, (0 : Rat))) ((xN l ps i).getD j [])]), v49, cs49, mg14_3) ?_ ?_ e9 rfl rfl
    ·
     refine ⟨((((hmmb.trans hh1).trans hmmg12_3).trans hh2).trans hmmg14_3), ?_⟩
     replace rl49 := rl49.mono hmmg14_3
     refine ⟨rl49, ?_⟩
     exact ⟨by omega, (by first | exact pp_bf hP hq1 hq2 | exact pp_b hP hq1 hq2 | exact pp_f hP hq1 hq2 | exact pp_n hP hq1 hq2)⟩
    dsimp only
    omega
   have hq1 : ¬ 0 < (qA (ps.getD i (zT, (0 : Rat))) ((xN l ps i).getD j [])).length := by have h := hc45; simp only [and_true] at h; omega
   refine zK (zB (zC (zA (mv rfl rfl ?_))))
   replace r35_1 := r35_1.mono hmmg12_3
   refine gv (wI underlying27 rfl r35_1) rfl (gv (uH (q := 0) rfl rfl) rfl ?_)
   refine vY (ι := Mem) 5 (fun m_ => MLe mg12_3 m_) (fun _ => [(57, vB (((0 : Int) < (↑(uW (ps.getD i (zT, (0 : Rat))) ((xN l ps i).getD j [])).length : Int)) ∧ (True))), (2, vF 60 []), (9, vP b9 0), (10, s10_17), (20, vps), (21, vI (↑(ps).length : Int)), (22, vI ↑i), (26, s7_10), (27, vI (↑(xN l ps i).length : Int)), (28, vI ↑j), (14, v35_1)]) (fun _ => [.gs 27 1 s10_17 NX.length cs_18, .var b9 34 cs_14, .gs 27 1 s7_10 (xN l ps i).length cs_11]) (fun m_ => m_) ?_ ?_
   ·
    refine wL ((0 : Int) < (↑(uW (ps.getD i (zT, (0 : Rat))) ((xN l ps i).getD j [])).length : Int)) (fun hg => ?_) (fun hg => ?_)
    ·
     refine xE (yO (v := .bool true) (congrArg some (xL hg))) rfl rfl rfl (yY rfl rfl rfl (mv rfl rfl (yY rfl rfl rfl (mv rfl rfl (yY rfl rfl rfl (gl_enter (kE (vs := [_]) call60 rfl ⟨rfl, trivial⟩) rfl rfl rfl (fun w hs => o_cx_split1 hs r35_1) ?_))))))
     intro v56 h2 hh2 r56
     obtain rfl : v56 = vB (True) := r56
     refine gv (xM rfl rfl) rfl (zD ?_)
     refine yM h2 hh2 ⟨?_, rfl, rfl, rfl, rfl, rfl, rfl, rfl, rfl, rfl, rfl, trivial⟩ rfl rfl
     exact congrArg some (uC hg)
    refine xE (yO (v := .bool false) (congrArg some (yX hg))) rfl rfl rfl (yI rfl rfl rfl rfl rfl rfl (yI rfl rfl rfl rfl rfl rfl (yI rfl rfl rfl rfl rfl rfl (gv (xW rfl rfl) rfl (zD ?_)))))
    refine yM mg12_3 (MLe.refl _) ⟨?_, rfl, rfl, rfl, rfl, rfl, rfl, rfl, rfl, rfl, rfl, trivial⟩ rfl rfl
    exact congrArg some (uD hg)
   intro mg14_3 hmmg14_3
   show GL _ _ _ _ _ _ _ [(57, vB (((0 : Int) < (↑(uW (ps.getD i (zT, (0 : Rat))) ((xN l ps i).getD j [])).length : Int)) ∧ (True))), (2, vF 60 []), (9, vP b9 0), (10, s10_17), (20, vps), (21, vI (↑(ps).length : Int)), (22, vI ↑i), (26, s7_10), (27, vI (↑(xN l ps i).length : Int)), (28, vI ↑j), (14, v35_1)] [.gs 27 1 s10_17 NX.length cs_18, .var b9 34 cs_14, .gs 27 1 s7_10 (xN l ps i).length cs_11] mg14_3
   refine zD (zB ?_)
   refine zN rfl (fun hc57 => ?_) (fun hc57 => ?_)
   ·
    have hq2 : 0 < (uW (ps.getD i (zT, (0 : Rat))) ((xN l ps i).getD j [])).length := by have h := hc57.1; omega
    refine zA (mv rfl rfl (mv rfl rfl ?_))
    replace r35_1 := r35_1.mono hmmg14_3
    refine zI (wA (ρ := (rpS (rpT (rpQ (12 * kk + 86))))) (m := 1) (xs := [uW (ps.getD i (zT, (0 : Rat))) ((xN l ps i).getD j [])]) (ps' := [(0, _)]) underlying50 info27 rfl rfl rfl zr_s e2z (yZ rfl (Pc.arr (Pc.here _) [] 0 (by decide)) r35_1 wH) (show 1 * 1 ≤ 16777216 from by decide) p1N) rfl rfl rfl ?_
    intro v60 q60 hq60
    obtain ⟨cs60, rfl, rl60⟩ := hq60
    refine qN (A := []) (ρ := (rpS (rpT (rpQ (12 * kk + 86))))) rl60 ?_
    intro h2 hh2 rs_22
    replace rl_19 := rl_19.mono (((hh1.trans hmmg12_3).trans hmmg14_3).trans hh2)
    refine qH (A := []) (xK (ρ := (rpS (rpT (rpQ (12 * kk + 86))))) (bytes := 24) underlying50 info27 rfl rfl rfl rfl p1N rfl rfl rl_19 rs_22 (by first | omega | (simp only [lAz, lC, lN, lR, lS]; omega)) (by first | omega | (simp only [lAz, lC, lN, lR, lS]; omega))) rfl rfl rfl ?_
    intro v61 q61 hq61
    obtain ⟨cs61, rfl, rl61⟩ := hq61
    refine asg rfl rfl (zD (xC (zB (zA (gv (zS (q := 1) rfl rfl (by omega) (by omega)) rfl (mv rfl rfl (zD ?_)))))))
    refine yV ((j + 1), (NX ++ [uW (ps.getD i (zT, (0 : Rat))) ((xN l ps i).getD j [])]), v61, cs61, h2) ?_ ?_ e9 rfl rfl
    ·
     refine ⟨((((hmmb.trans hh1).trans hmmg12_3).trans hmmg14_3).trans hh2), ?_⟩
     refine ⟨rl61, ?_⟩
     exact ⟨by omega, (by first | exact pp_bf hP hq1 hq2 | exact pp_b hP hq1 hq2 | exact pp_f hP hq1 hq2 | exact pp_n hP hq1 hq2)⟩
    dsimp only
    omega
   have hq2 : ¬ 0 < (uW (ps.getD i (zT, (0 : Rat))) ((xN l ps i).getD j [])).length := by have h := hc57; simp only [and_true] at h; omega
   refine zK (xC (zB (zA (gv (zS (q := 1) rfl rfl (by omega) (by omega)) rfl (mv rfl rfl (zD ?_))))))
   refine yV ((j + 1), NX, s10_17, cs_18, mg14_3) ?_ ?_ e9 rfl rfl
   ·
    refine ⟨(((hmmb.trans hh1).trans hmmg12_3).trans hmmg14_3), ?_⟩
    replace rl_19 := rl_19.mono ((hh1.trans hmmg12_3).trans hmmg14_3)
    refine ⟨rl_19, ?_⟩
    exact ⟨by omega, (by first | exact pp_bf hP hq1 hq2 | exact pp_b hP hq1 hq2 | exact pp_f hP hq1 hq2 | exact pp_n hP hq1 hq2)⟩
   dsimp only
   omega
  have hPe : NX = xN l ps (i + 1) := by rw [hP, show j = (xN l ps i).length by omega]; rfl
  subst hPe
  refine xG (yB (yB (xF (zB (zA (mv rfl rfl (asg rfl rfl (zD (xC (zB (zA (gv (zS (q := 1) rfl rfl (by omega) (by omega)) rfl (mv rfl rfl ?_)))))))))))))
  refine zD (wQ (A := [_]) (wQ (A := [_]) ?_))
  refine yV ((i + 1), (12 * kk + 86), s10_17, cs_18, mb) ?_ ?_ e5z rfl rfl
  ·
   refine ⟨(hmma.trans hmmb), ?_⟩
   replace rl := rl.mono (hmma.trans hmmb)
   refine ⟨(Le.rl (Le.s (Le.t (Le.q (by omega)))) rl_19), ?_⟩
   exact ⟨by omega, by omega⟩
  dsimp only
  omega
 have ei : i = ps.length := by omega
 refine xG (yB (yB (xF (zB (zC (zA (mv rfl rfl (asg rfl rfl (zD (zB (zQ (jI (A := []) (ρ := (rpS (rpT (rpQ kk)))) rl_12 ?_))))))))))))
 intro h1 hh1 rs_23
 refine yC rfl rfl ?_
 exact (Rp.Is.cast (Rp.Is.le rs_23 (Le.s (Le.s (Le.t (Le.q (l := 250000002) (by omega)))))) (by rw [ei]; exact (if_neg hz).symm))
theorem o_cx_split {w0 : World} {h0 : Mem}  (hs : MLe h0 (mem w0)) {k : Nat} {vl : Value} {l : (List (T3 Rat))} (rl : (rpS (rpT (rpQ k))).Is h0 vl l) {vps : Value} {ps : (List ((T3 Rat) × Rat))} (rps : (rpS (rpP (rpT (rpQ 2)) (rpQ 2))).Is h0 vps ps) (hcd0 : k ≤ 140000) (hcd1 : l.length ≤ 1000) (hcd2 : ps.length ≤ 3)  :
    Calls Tryz.prog 27 #[vl, vps] w0 (Ret w0 h0 (fun h r => (rpS (rpS (rpT (rpQ 250000004)))).Is h r (wS l ps))) := by
 have hsl := splitZ_len (l := l) (ps := ps) (by omega)
 have hsm := splitZ_mem (l := l) (ps := ps) (by omega)
 refine zM (n := 9) (e := [(0, vl), (1, vps)]) (vs := [vl, vps]) func27 rfl rfl (bL rfl) hs e2z (zC (zA (asg rfl rfl (zD (zB (zC (zA (mv rfl rfl (mv rfl rfl ?_)))))))))
 refine zO (vs := [_, _, _]) rfl rfl rfl rfl call59 e3z (fun w hs => o_cx_parts hs rl rps (by omega) (by omega) (by omega)) ?_
 intro v7 h1 hh1 r7
 change (rpS (rpS (rpT (rpQ 250000002)))).Is h1 v7 (wS l ps) at r7
 refine zO (vs := [_]) rfl rfl rfl rfl call58 ⟨rfl, trivial⟩ (fun w hs => o_own_loops hs r7 (by decide) (by first | omega | exact fun x hx => Nat.le_trans (hsm x hx) (by omega)) (by first | omega | exact fun x hx => Nat.le_trans (hsm x hx) (by omega))) ?_
 intro v8 h2 hh2 r8
 change (rpS (rpS (rpT (rpQ (250000002 + 2))))).Is h2 v8 (wS l ps) at r8
 replace r8 := Rp.Is.le r8 (Le.s (Le.s (Le.t (Le.q (l := 250000004) (by omega)))))
 refine asg rfl rfl (zD (zB (zQ (yC rfl rfl ?_))))
 exact r8
end Go.Proofs.YtghhjjmjpeehdaaGreat
namespace Bk
set_option linter.unusedVariables false
set_option linter.unusedSimpArgs false
open Go Go.RowKit
open Classical
theorem rs_tight {α : Type} {ρ σ : Rp α} (P : α → Prop) (hn : ρ.n = σ.n) (k : ∀ {h cs x}, ρ.R h cs x → P x → σ.R h cs x) {h : Mem} {cs : List Value} {xs : List α} (r : (rpS ρ).R h cs xs) (hp : ∀ x, x ∈ xs → P x) : (rpS σ).R h cs xs := by
  obtain ⟨v, ds, e, s, rl⟩ := r
  refine ⟨v, ds, e, hn ▸ s, ?_⟩
  clear s e
  induction xs generalizing ds with
  | nil => exact rl
  | cons x xs ih =>
    obtain ⟨a, b, e, ra, rb⟩ := rl
    exact ⟨a, b, e, k ra (hp x (.head _)), ih (fun y hy => hp y (.tail _ hy)) b rb⟩
theorem s_tight {α : Type} {ρ σ : Rp α} (P : α → Prop) (hn : ρ.n = σ.n) (k : ∀ {h cs x}, ρ.R h cs x → P x → σ.R h cs x) {h : Mem} {v : Value} {xs : List α} (s : (rpS ρ).Is h v xs) (hp : ∀ x, x ∈ xs → P x) : (rpS σ).Is h v xs := by
  obtain ⟨cs, r, e⟩ := s
  exact ⟨cs, rs_tight P hn k r hp, e⟩
def sh3 (k : Nat) (p : Pt) : Prop := lq p.x ≤ k ∧ lq p.y ≤ k ∧ lq p.z ≤ k
theorem rt_tight {K k : Nat} {h : Mem} {cs : List Value} {p : Pt} (r : (rpT (rpQ K)).R h cs p) (hp : sh3 k p) : (rpT (rpQ k)).R h cs p := by
  obtain ⟨a, b, e, ra, c, d, e', rc, rd⟩ := r
  exact ⟨a, b, e, ⟨ra.1, hp.1⟩, c, d, e', ⟨rc.1, hp.2.1⟩, ⟨rd.1, hp.2.2⟩⟩
theorem l_tight {K k : Nat} {h : Mem} {v : Value} {xs : List Pt} (s : (rpS (rpT (rpQ K))).Is h v xs) (hp : ∀ x, x ∈ xs → sh3 k x) : (rpS (rpT (rpQ k))).Is h v xs := s_tight (ρ := rpT (rpQ K)) (σ := rpT (rpQ k)) (sh3 k) rfl rt_tight s hp
theorem ll_tight {K k : Nat} {h : Mem} {v : Value} {xs : List (List Pt)} (s : (rpS (rpS (rpT (rpQ K)))).Is h v xs) (hp : ∀ x, x ∈ xs → ∀ p, p ∈ x → sh3 k p) : (rpS (rpS (rpT (rpQ k)))).Is h v xs :=
  s_tight (ρ := rpS (rpT (rpQ K))) (σ := rpS (rpT (rpQ k))) (fun x => ∀ p, p ∈ x → sh3 k p) rfl (fun r hx => rs_tight (ρ := rpT (rpQ K)) (σ := rpT (rpQ k)) (sh3 k) rfl rt_tight r hx) s hp
def edgP (pl : Pl) (l : List Pt) : Prop := ∀ m, m < l.length → ∃ e, smN e ∧ ¬ yW pl.1 e.1 = zT ∧ hgt e (gp l m) = 0 ∧ hgt e (nx l m) = 0
theorem t3z {p : Pt} : p = zT ↔ p.x = 0 ∧ p.y = 0 ∧ p.z = 0 := t3_eq
theorem sq3 {a b c : Rat} (h : ¬ (a = 0 ∧ b = 0 ∧ c = 0)) : 0 < a * a + b * b + c * c := by
  by_cases h1 : c = 0
  · by_cases h2 : b = 0
    · have := sq_pos (i := c) (j := b) (k := a) (fun e => h ⟨e, h2, h1⟩); grind
    · have := sq_pos (i := c) (j := a) (k := b) h2; grind
  · exact sq_pos h1
theorem cross_ne {pl c : Pl} {p q : Pt} (hn : ¬ pl.1 = zT) (hp : sdZ pl p = 0) (hq : sdZ pl q = 0) (h : ¬ hgt c p = hgt c q) : ¬ yW pl.1 c.1 = zT := by
  intro e
  rw [gA] at hp hq
  have h0 := sq3 (fun k => hn (t3z.2 k))
  obtain ⟨e1, e2, e3⟩ := t3z.1 e
  obtain ⟨⟨x, y, z⟩, d⟩ := pl
  obtain ⟨⟨a, b, c⟩, f⟩ := c
  obtain ⟨p1, p2, p3⟩ := p
  obtain ⟨q1, q2, q3⟩ := q
  unfold hgt wR at *
  unfold yW at e1 e2 e3
  simp only at *
  have key : (x * x + y * y + z * z) * ((a * p1 + b * p2 + c * p3) - (a * q1 + b * q2 + c * q3)) = 0 := by
    have hd : x * (p1 - q1) + y * (p2 - q2) + z * (p3 - q3) = 0 := by grind
    generalize p1 - q1 = u at *
    have g : ∀ u v w : Rat, x * u + y * v + z * w = 0 → (x * x + y * y + z * z) * (a * u + b * v + c * w) = 0 := fun u v w hd => by grind
    have := g (p1 - q1) (p2 - q2) (p3 - q3) (by grind)
    grind
  rcases Rat.mul_eq_zero.1 key with k | k
  · grind
  · exact h (by grind)
theorem cramer (a b c p : Pt) : detT a b c * p.x = (yW b c).x * wR a p + (yW c a).x * wR b p + (yW a b).x * wR c p ∧ detT a b c * p.y = (yW b c).y * wR a p + (yW c a).y * wR b p + (yW a b).y * wR c p ∧ detT a b c * p.z = (yW b c).z * wR a p + (yW c a).z * wR b p + (yW a b).z * wR c p := by
  unfold detT wR yW
  refine ⟨?_, ?_, ?_⟩ <;> grind
theorem along {u a b : Pt} (h1 : wR a u = 0) (h2 : wR b u = 0) : wR (yW a b) (yW a b) * u.x = wR u (yW a b) * (yW a b).x ∧ wR (yW a b) (yW a b) * u.y = wR u (yW a b) * (yW a b).y ∧ wR (yW a b) (yW a b) * u.z = wR u (yW a b) * (yW a b).z := by
  have e1 : u.y * (yW a b).z - u.z * (yW a b).y = 0 := by unfold yW wR at *; simp only at *; grind
  have e2 : u.z * (yW a b).x - u.x * (yW a b).z = 0 := by unfold yW wR at *; simp only at *; grind
  have e3 : u.x * (yW a b).y - u.y * (yW a b).x = 0 := by unfold yW wR at *; simp only at *; grind
  generalize yW a b = w at *
  unfold wR
  refine ⟨?_, ?_, ?_⟩ <;> grind
theorem cross_cross (n a b : Pt) : wR (yW (yW n a) (yW n b)) n = detT n a b * wR n n := by unfold detT wR yW; grind
theorem det_ne {n a b u v : Pt} (h1 : wR n u = 0) (h2 : wR a u = 0) (h3 : wR n v = 0) (h4 : wR b v = 0) (ha : ¬ yW n a = zT) (hb : ¬ yW n b = zT) (ht : ¬ wR (yW u v) n = 0) : ¬ detT n a b = 0 := by
  intro e
  have hc := cross_cross n a b
  rw [e, Rat.zero_mul] at hc
  obtain ⟨a1, a2, a3⟩ := along h1 h2
  obtain ⟨b1, b2, b3⟩ := along h3 h4
  have pa : 0 < wR (yW n a) (yW n a) := sq3 (fun k => ha (t3z.2 k))
  have pb : 0 < wR (yW n b) (yW n b) := sq3 (fun k => hb (t3z.2 k))
  generalize yW n a = w at *
  generalize yW n b = z at *
  generalize wR w w = A at *
  generalize wR z z = B at *
  generalize wR u w = s at *
  generalize wR v z = t at *
  have key : A * (B * wR (yW u v) n) = (s * t) * wR (yW w z) n := by
    unfold wR yW
    simp only
    have e1 : A * (B * ((u.y * v.z - u.z * v.y) * n.x + (u.z * v.x - u.x * v.z) * n.y + (u.x * v.y - u.y * v.x) * n.z)) = ((A * u.y) * (B * v.z) - (A * u.z) * (B * v.y)) * n.x + ((A * u.z) * (B * v.x) - (A * u.x) * (B * v.z)) * n.y + ((A * u.x) * (B * v.y) - (A * u.y) * (B * v.x)) * n.z := by grind
    rw [e1, a1, a2, a3, b1, b2, b3]
    grind
  rw [hc, Rat.mul_zero] at key
  rcases Rat.mul_eq_zero.1 key with k | k
  · grind
  · rcases Rat.mul_eq_zero.1 k with k | k
    · grind
    · exact ht k
theorem i3_cross (a b c x y z : Int) : yW (i3 a b c) (i3 x y z) = i3 (b * z - c * y) (c * x - a * z) (a * y - b * x) := by
  unfold yW i3
  rw [T3.mk.injEq]
  simp only [Rat.intCast_sub, Rat.intCast_mul]
  exact ⟨trivial, trivial, trivial⟩
theorem i3_dot (a b c x y z : Int) : wR (i3 a b c) (i3 x y z) = ((a * x + b * y + c * z : Int) : Rat) := by
  unfold wR i3
  simp only [Rat.intCast_add, Rat.intCast_mul]
theorem num_short {q : Rat} {n d : Int} (hd : ¬ (d : Rat) = 0) (h : (d : Rat) * q = (n : Rat) / 2) (bn : bdI n 100000) (bd : bdI d 100000) : lq q ≤ 2 := by
  have e : q = qR n (2 * d) := by
    unfold qR
    rw [Rat.intCast_mul]
    have e2 : ((2 : Int) : Rat) = 2 := rfl
    rw [e2]
    have hd2 : ¬ (2 * (d : Rat)) = 0 := by grind
    have h3 : (n : Rat) / (2 * (d : Rat)) * (2 * (d : Rat)) = (n : Rat) := Rat.div_mul_cancel hd2
    have h4 : (n : Rat) / 2 * 2 = (n : Rat) := Rat.div_mul_cancel (by decide)
    generalize (n : Rat) / (2 * (d : Rat)) = t at *
    generalize (n : Rat) / 2 = s at *
    have h5 : (2 * (d : Rat)) * (q - t) = 0 := by grind
    rcases Rat.mul_eq_zero.1 h5 with k | k
    · exact absurd k hd2
    · grind
  rw [e]
  unfold bdI at *
  exact lq_make (by omega) (by omega) (by omega) (by omega)
theorem meet_short {s e f : Pl} {p : Pt} (hs : smN s) (he : smN e) (hf : smN f) (h1 : hgt s p = 0) (h2 : hgt e p = 0) (h3 : hgt f p = 0) (hd : ¬ detT s.1 e.1 f.1 = 0) : sh3 2 p := by
  obtain ⟨a1, b1, c1, d1, ⟨ba1, bb1, bc1, bd1⟩, rfl⟩ := hs
  obtain ⟨a2, b2, c2, d2, ⟨ba2, bb2, bc2, bd2⟩, rfl⟩ := he
  obtain ⟨a3, b3, c3, d3, ⟨ba3, bb3, bc3, bd3⟩, rfl⟩ := hf
  unfold hgt at h1 h2 h3
  simp only at *
  have hx := cramer (i3 a1 b1 c1) (i3 a2 b2 c2) (i3 a3 b3 c3) p
  have g1 : wR (i3 a1 b1 c1) p = (d1 : Rat) / 2 := by grind
  have g2 : wR (i3 a2 b2 c2) p = (d2 : Rat) / 2 := by grind
  have g3 : wR (i3 a3 b3 c3) p = (d3 : Rat) / 2 := by grind
  rw [g1, g2, g3, i3_cross, i3_cross, i3_cross] at hx
  unfold detT at hx hd
  rw [i3_cross, i3_dot] at hx hd
  have half : ∀ x y z d1 d2 d3 : Int, (x : Rat) * ((d1 : Rat) / 2) + (y : Rat) * ((d2 : Rat) / 2) + (z : Rat) * ((d3 : Rat) / 2) = ((x * d1 + y * d2 + z * d3 : Int) : Rat) / 2 := fun x y z d1 d2 d3 => by
    simp only [Rat.intCast_add, Rat.intCast_mul]
    grind
  unfold i3 at hx
  simp only at hx
  rw [half, half, half] at hx
  have m := fun {x y z u v w : Int} {r s t : Int} (hx : bdI x 2) (hy : bdI y 2) (hz : bdI z 2) (hu : bdI u 2) (hv : bdI v 2) (hw : bdI w 2) => bd_sub (uI hx hy) (uI hz hu)
  have big : ∀ {z : Int} {n : Nat}, n ≤ 100000 → bdI z n → bdI z 100000 := fun h k => Nat.le_trans k h
  have bdet := big (by decide) (bd_add (bd_add (uI ba1 (bd_sub (uI bb2 bc3) (uI bc2 bb3))) (uI bb1 (bd_sub (uI bc2 ba3) (uI ba2 bc3)))) (uI bc1 (bd_sub (uI ba2 bb3) (uI bb2 ba3))))
  refine ⟨num_short hd hx.1 ?_ bdet, num_short hd hx.2.1 ?_ bdet, num_short hd hx.2.2 ?_ bdet⟩
  · exact big (by decide) (bd_add (bd_add (uI (bd_sub (uI bb2 bc3) (uI bc2 bb3)) bd1) (uI (bd_sub (uI bb3 bc1) (uI bc3 bb1)) bd2)) (uI (bd_sub (uI bb1 bc2) (uI bc1 bb2)) bd3))
  · exact big (by decide) (bd_add (bd_add (uI (bd_sub (uI bc2 ba3) (uI ba2 bc3)) bd1) (uI (bd_sub (uI bc3 ba1) (uI ba3 bc1)) bd2)) (uI (bd_sub (uI bc1 ba2) (uI ba1 bc2)) bd3))
  · exact big (by decide) (bd_add (bd_add (uI (bd_sub (uI ba2 bb3) (uI bb2 ba3)) bd1) (uI (bd_sub (uI ba3 bb1) (uI bb3 ba1)) bd2)) (uI (bd_sub (uI ba1 bb2) (uI bb1 ba2)) bd3))
theorem mem_gp' {l : List Pt} {p : Pt} (h : p ∈ l) : ∃ m, m < l.length ∧ gp l m = p := by
  obtain ⟨m, hm, e⟩ := List.getElem_of_mem h
  refine ⟨m, hm, ?_⟩
  unfold gp
  rw [List.getD_eq_getElem?_getD, List.getElem?_eq_getElem hm]
  exact e
theorem sub_dot {e : Pl} {p q : Pt} (hp : hgt e p = 0) (hq : hgt e q = 0) : wR e.1 (qW p q) = 0 := by
  unfold hgt wR qW at *
  simp only
  grind
theorem edge_short {pl : Pl} {l : List Pt} (h : qJ pl l) (hs : smN pl) (he : edgP pl l) : ∀ p, p ∈ l → sh3 2 p := by
  intro p hp
  obtain ⟨m, hm, rfl⟩ := mem_gp' hp
  have h3 := h.1.1
  -- the edge ahead of the corner
  have hm1 : (m + l.length - 1) % l.length < l.length := Nat.mod_lt _ (by omega)
  have hm2 : ((m + l.length - 1) % l.length + 1) % l.length = m := by
    rw [Nat.mod_add_mod, show m + l.length - 1 + 1 = m + l.length by omega, Nat.add_mod_right, Nat.mod_eq_of_lt hm]
  obtain ⟨e, se, ce, e1, e2⟩ := he _ hm1
  obtain ⟨f, sf, cf, f1, f2⟩ := he m hm
  have e2' : hgt e (gp l m) = 0 := by have := e2; unfold nx at this; rwa [hm2] at this
  have on : ∀ q, q < l.length → hgt pl (gp l q) = 0 := fun q hq => gA.1 (h.2.1 q hq)
  have hnx : hgt pl (nx l m) = 0 := gA.1 (conv_nx h hm)
  refine meet_short hs se sf (on m hm) e2' f1 ?_
  have hturn := h.2.2 ((m + l.length - 1) % l.length) 2 hm1 (by omega) (by omega)
  have hk : ((m + l.length - 1) % l.length + 2) % l.length = (m + 1) % l.length := by
    rw [Nat.mod_add_mod, show m + l.length - 1 + 2 = (m + 1) + l.length by omega, Nat.add_mod_right]
  have hk2 : nx l ((m + l.length - 1) % l.length) = gp l m := by unfold nx; rw [hm2]
  rw [hk, hk2, ← det_or h.1.2 (h.2.1 _ hm1) (h.2.1 m hm) (conv_nx h hm)] at hturn
  refine det_ne (u := qW (gp l ((m + l.length - 1) % l.length)) (gp l m)) (v := qW (nx l m) (gp l m)) (sub_dot (on _ hm1) (on m hm)) (sub_dot e1 e2') (sub_dot hnx (on m hm)) (sub_dot f2 f1) ce cf (fun k => ?_)
  have h5 := sgn_pos.1 hturn
  have e5 : wR (yW (qW (gp l m) (gp l ((m + l.length - 1) % l.length))) (qW (nx l m) (gp l ((m + l.length - 1) % l.length)))) pl.1 = -wR (yW (qW (gp l ((m + l.length - 1) % l.length)) (gp l m)) (qW (nx l m) (gp l m))) pl.1 := by
    unfold wR yW qW; grind
  have h6 : 0 < wR (yW (qW (gp l m) (gp l ((m + l.length - 1) % l.length))) (qW (nx l m) (gp l ((m + l.length - 1) % l.length)))) pl.1 := h5
  rw [e5, k] at h6
  exact absurd h6 (by decide)
theorem part_edge {pl c : Pl} {l : List Pt} {s : Nat → Int} {w : Rat × Rat × Rat} (h : qJ pl l) (he : edgP pl l) (hc : smN c) (hx : ¬ yW pl.1 c.1 = zT) (hv : qJ pl ((mks s l.length l.length).map (mk3 c l))) (C : Cfg (lp2 pl l) l.length (tC c l) s w) (hw : ∀ p, sdZ pl p = 0 → afZ w (pt2 pl p) = 0 → hgt c p = 0) : edgP pl ((mks s l.length l.length).map (mk3 c l)) := by
  intro q hq
  have hlen : ((mks s l.length l.length).map (mk3 c l)).length = (mks s l.length l.length).length := List.length_map ..
  have hq' : q < (mks s l.length l.length).length := by rw [← hlen]; exact hq
  have onA := hv.2.1 q hq
  have onB := conv_nx hv hq
  have pA := part_pt (pl := pl) (c := c) (s := s) hq'
  have hB : (q + 1) % (mks s l.length l.length).length < (mks s l.length l.length).length := Nat.mod_lt _ (by omega)
  have pB := part_pt (pl := pl) (c := c) (s := s) hB
  rw [← nx_pt C.per hq'] at pB
  have pB' : pt2 pl (nx ((mks s l.length l.length).map (mk3 c l)) q) = mkP (lp2 pl l) l.length (tC c l) (nxM (mks s l.length l.length) l.length q) := by
    rw [← pB]; unfold nx; rw [hlen]
  have pA' : pt2 pl (gp ((mks s l.length l.length).map (mk3 c l)) q) = _ := pA
  rcases seg C hq' with ⟨e, u, v, hel, e1, e2, _⟩ | ⟨e1, e2⟩
  · obtain ⟨E, sE, cE, h1, h2⟩ := he e hel
    have k1 : ex (lp2 pl l) l.length e = pt2 pl (gp l e) := by unfold ex; rw [Nat.mod_eq_of_lt hel]
    have k2 : ex (lp2 pl l) l.length (e + 1) = pt2 pl (nx l e) := rfl
    have z : ∀ t : Rat, afZ (afC pl E) (lp t (ex (lp2 pl l) l.length e) (ex (lp2 pl l) l.length (e + 1))) = 0 := fun t => by
      rw [af_lp, k1, k2, af_hgt h.1.2 (h.2.1 e hel), af_hgt h.1.2 (conv_nx h hel), h1, h2]; grind
    refine ⟨E, sE, cE, ?_, ?_⟩
    · rw [← af_hgt h.1.2 onA, pA', e1]; exact z u
    · rw [← af_hgt h.1.2 onB, pB', e2]; exact z v
  · exact ⟨c, hc, hx, hw _ onA (by rw [pA']; exact e1), hw _ onB (by rw [pB']; exact e2)⟩
theorem edge_nil (pl : Pl) : edgP pl [] := fun m hm => absurd hm (Nat.not_lt_zero m)
theorem both_cross {pl c : Pl} {l : List Pt} (h : qJ pl l) {i j : Nat} (hi : i < l.length) (hj : j < l.length) (h1 : sdZ c (gp l i) < 0) (h2 : 0 < sdZ c (gp l j)) : ¬ yW pl.1 c.1 = zT :=
  cross_ne h.1.2 (h.2.1 i hi) (h.2.1 j hj) fun e => by
    have a := sd_neg.1 h1
    have b := sd_pos.1 h2
    rw [e] at a
    grind
theorem cutB_edge {pl c : Pl} {l : List Pt} (h : qJ pl l) (he : edgP pl l) (hc : smN c) : edgP pl (qA c l) := by
  by_cases ha : qP c l l.length
  · by_cases hb : qV c l l.length
    · obtain ⟨i, hi, h1⟩ := (beh_iff _).1 hb
      obtain ⟨j, hj, h2⟩ := (ahe_iff _).1 ha
      rw [(kF ha hb).1, bk_mks]
      exact part_edge h he hc (both_cross h hi hj h1 h2) (part_valid h (fun m => chgB) hi hj h1 h2) (cfg_cut c h) fun p hp e => by rwa [af_hgt h.1.2 hp] at e
    · rw [(cutF_all ha hb).1]; exact edge_nil pl
  · rw [(kV ha).1]; exact he
theorem cutF_edge {pl c : Pl} {l : List Pt} (h : qJ pl l) (he : edgP pl l) (hc : smN c) : edgP pl (uW c l) := by
  by_cases ha : qP c l l.length
  · by_cases hb : qV c l l.length
    · obtain ⟨i, hi, h1⟩ := (beh_iff _).1 hb
      obtain ⟨j, hj, h2⟩ := (ahe_iff _).1 ha
      rw [(kF ha hb).2, fr_mks]
      have C : Cfg (lp2 pl l) l.length (tC c l) (sgF c l) (ngW (afC pl c)) := (cfg_cut c h).ng
      exact part_edge h he hc (both_cross h hi hj h1 h2) (part_valid h (fun m => chgF) hj hi (by unfold sgF; omega) (by unfold sgF; omega)) C fun p hp e => by
        rw [af_ng, af_hgt h.1.2 hp] at e; grind
    · rw [(cutF_all ha hb).2]; exact he
  · rw [(kV ha).2]; exact edge_nil pl
theorem half_min {a b : Rat} {n : Nat} (ha : jQ a n) (hb : jQ b n) : jQ (kM a b) n := by unfold kM; split <;> assumption
theorem half_max {a b : Rat} {n : Nat} (ha : jQ a n) (hb : jQ b n) : jQ (kL a b) n := by unfold kL; split <;> assumption
theorem half_add {a : Rat} {n : Nat} (ha : jQ a n) : jQ (a + ((1 : Int) : Rat)) (n + 2) := by
  obtain ⟨z, hz, rfl⟩ := ha
  refine ⟨z + 2, bd_add hz (by decide), ?_⟩
  rw [Rat.intCast_add]
  have e1 : ((1 : Int) : Rat) = 1 := rfl
  have e2 : ((2 : Int) : Rat) = 2 := rfl
  rw [e1, e2]; grind
theorem half_sub {a : Rat} {n : Nat} (ha : jQ a n) : jQ (a - ((1 : Int) : Rat)) (n + 2) := by
  obtain ⟨z, hz, rfl⟩ := ha
  refine ⟨z - 2, bd_sub hz (by decide), ?_⟩
  rw [Rat.intCast_sub]
  have e1 : ((1 : Int) : Rat) = 1 := rfl
  have e2 : ((2 : Int) : Rat) = 2 := rfl
  rw [e1, e2]; grind
theorem sp_at {p : Pt} (h : spP p) (i : Nat) : jQ (p.at i) 9 := by
  match i with
  | 0 => exact h.1
  | 1 => exact h.2.1
  | _ + 2 => exact h.2.2
theorem lohi_half (s : Pl) {ps : List Pt} (h : ∀ q, q < ps.length → spP (gp ps q)) (h0 : 0 < ps.length) : ∀ m, m ≤ ps.length → (jQ (loT2 s ps m).x 9 ∧ jQ (loT2 s ps m).y 9) ∧ (jQ (hiT2 s ps m).x 9 ∧ jQ (hiT2 s ps m).y 9)
  | 0, _ => ⟨⟨sp_at (h 0 h0) _, sp_at (h 0 h0) _⟩, sp_at (h 0 h0) _, sp_at (h 0 h0) _⟩
  | m + 1, hm => by
    obtain ⟨⟨a, b⟩, c, d⟩ := lohi_half s h h0 m (by omega)
    have e := h m (by omega)
    exact ⟨⟨half_min a (sp_at e _), half_min b (sp_at e _)⟩, half_max c (sp_at e _), half_max d (sp_at e _)⟩
def unitP (i : Nat) (q : Rat) : Pl := (i3 (if i = 0 then 1 else 0) (if i = 1 then 1 else 0) (if i = 2 then 1 else 0), q)
theorem unit_hgt {i : Nat} (hi : i < 3) (q : Rat) (p : Pt) : hgt (unitP i q) p = p.at i - q := by
  have e0 : ((0 : Int) : Rat) = 0 := rfl
  have e1 : ((1 : Int) : Rat) = 1 := rfl
  match i, hi with
  | 0, _ => simp [hgt, unitP, i3, wR, T3.at, e0, e1]; grind
  | 1, _ => simp [hgt, unitP, i3, wR, T3.at, e0, e1]; grind
  | 2, _ => simp [hgt, unitP, i3, wR, T3.at, e0, e1]; grind
theorem unit_sm {i : Nat} {q : Rat} (hq : jQ q 11) : smN (unitP i q) := by
  obtain ⟨z, hz, rfl⟩ := hq
  refine ⟨_, _, _, z, ⟨?_, ?_, ?_, Nat.le_trans hz (by decide)⟩, rfl⟩ <;> (unfold bdI; split <;> decide)
theorem unit_cross {n : Pt} {i : Nat} {q : Rat} (hk : ¬ n.at (axK n) = 0) (hi : i < 3) (h : ¬ i = axK n) : ¬ yW n (unitP i q).1 = zT := by
  intro e
  obtain ⟨e1, e2, e3⟩ := t3z.1 e
  have z0 : ((0 : Int) : Rat) = 0 := rfl
  have z1 : ((1 : Int) : Rat) = 1 := rfl
  have hk3 := axK_lt n
  have hc : (i = 0 ∧ axK n = 1) ∨ (i = 0 ∧ axK n = 2) ∨ (i = 1 ∧ axK n = 0) ∨ (i = 1 ∧ axK n = 2) ∨ (i = 2 ∧ axK n = 0) ∨ (i = 2 ∧ axK n = 1) := by omega
  obtain ⟨x, y, z⟩ := n
  rcases hc with ⟨rfl, k⟩ | ⟨rfl, k⟩ | ⟨rfl, k⟩ | ⟨rfl, k⟩ | ⟨rfl, k⟩ | ⟨rfl, k⟩ <;> rw [k] at hk <;> simp [yW, unitP, i3, T3.at, z0, z1] at hk e1 e2 e3 <;> grind
theorem sqr_edge {s : Pl} {x0 y0 x1 y1 : Rat} (hn : ¬ s.1 = zT) (h1 : jQ x0 11) (h2 : jQ y0 11) (h3 : jQ x1 11) (h4 : jQ y1 11) : edgP s (sqrL s x0 y0 x1 y1) := by
  have hk : ¬ s.1.at (axK s.1) = 0 := fun e => hn ((ax_zero _).1 e)
  have hi := axI_lt s.1
  have hj := axJ_lt s.1
  have hik : ¬ axI s.1 = axK s.1 := by rcases ax_perm s.1 with h | h | h | h | h | h <;> omega
  have hjk : ¬ axJ s.1 = axK s.1 := by rcases ax_perm s.1 with h | h | h | h | h | h <;> omega
  have px : ∀ x y : Rat, (qF s (T3.mk x y (0 : Rat))).at (axI s.1) = x := fun x y => congrArg Prod.fst (pt2_lift hk)
  have py : ∀ x y : Rat, (qF s (T3.mk x y (0 : Rat))).at (axJ s.1) = y := fun x y => congrArg Prod.snd (pt2_lift hk)
  have hx : ∀ x y q : Rat, x = q → hgt (unitP (axI s.1) q) (qF s (T3.mk x y (0 : Rat))) = 0 := fun x y q e => by rw [unit_hgt hi, px, e]; grind
  have hy : ∀ x y q : Rat, y = q → hgt (unitP (axJ s.1) q) (qF s (T3.mk x y (0 : Rat))) = 0 := fun x y q e => by rw [unit_hgt hj, py, e]; grind
  intro m hm
  have hm' : m < 4 := hm
  have hc : m = 0 ∨ m = 1 ∨ m = 2 ∨ m = 3 := by omega
  rcases hc with rfl | rfl | rfl | rfl
  · exact ⟨_, unit_sm h2, unit_cross hk hj hjk, hy x0 y0 y0 rfl, hy x1 y0 y0 rfl⟩
  · exact ⟨_, unit_sm h3, unit_cross hk hi hik, hx x1 y0 x1 rfl, hx x1 y1 x1 rfl⟩
  · exact ⟨_, unit_sm h4, unit_cross hk hj hjk, hy x1 y1 y1 rfl, hy x0 y1 y1 rfl⟩
  · exact ⟨_, unit_sm h1, unit_cross hk hi hik, hx x0 y1 x0 rfl, (show hgt _ (gp (sqrL s x0 y0 x1 y1) ((3 + 1) % 4)) = 0 from hx x0 y0 x0 rfl)⟩
theorem aro_edge {s : Pl} {ps : List Pt} (hl : ¬ ps.length = 0) (hn : ¬ s.1 = zT) (h : ∀ q, q < ps.length → spP (gp ps q)) : edgP s (aroZ s ps) := by
  unfold aroZ
  rw [if_neg (fun e => e.elim hl hn)]
  obtain ⟨⟨a, b⟩, c, d⟩ := lohi_half s h (Nat.pos_of_ne_zero hl) ps.length (Nat.le_refl _)
  exact sqr_edge hn (half_sub a) (half_sub b) (half_add c) (half_add d)
theorem sm_sq0 : smN (i3 0 0 1, (0 : Rat)) := ⟨0, 0, 1, 0, ⟨by decide, by decide, by decide, by decide⟩, by rw [Prod.mk.injEq]; exact ⟨rfl, by decide +kernel⟩⟩
theorem sq0_edge : edgP (i3 0 0 1, (0 : Rat)) sq0 := by
  have hz : ¬ (i3 0 0 1) = zT := fun e => absurd (congrArg T3.z e) (by decide +kernel)
  have hn : ¬ (i3 0 0 1).at (axK (i3 0 0 1)) = 0 := fun e => hz ((ax_zero _).1 e)
  have ek : axK (i3 0 0 1) = 2 := if_pos (by decide +kernel)
  have hf : ∀ z : Int, bdI z 11 → jQ ((z : Rat) / 2) 11 := fun z h => ⟨z, h, rfl⟩
  intro m hm
  have hm' : m < 4 := hm
  have hc : m = 0 ∨ m = 1 ∨ m = 2 ∨ m = 3 := by omega
  rcases hc with rfl | rfl | rfl | rfl
  · exact ⟨_, unit_sm (i := 1) (hf 0 (by decide)), unit_cross hn (by decide) (by rw [ek]; decide), by decide +kernel, by decide +kernel⟩
  · exact ⟨_, unit_sm (i := 0) (hf 4 (by decide)), unit_cross hn (by decide) (by rw [ek]; decide), by decide +kernel, by decide +kernel⟩
  · exact ⟨_, unit_sm (i := 1) (hf 4 (by decide)), unit_cross hn (by decide) (by rw [ek]; decide), by decide +kernel, by decide +kernel⟩
  · exact ⟨_, unit_sm (i := 0) (hf 0 (by decide)), unit_cross hn (by decide) (by rw [ek]; decide), by decide +kernel, by decide +kernel⟩
def smP (pl : Pl) (l : List Pt) : Prop := (qJ pl l ∧ smN pl) ∧ edgP pl l
theorem smP.sh {pl : Pl} {l : List Pt} (h : smP pl l) : ∀ p, p ∈ l → sh3 2 p := edge_short h.1.1 h.1.2 h.2
theorem cutB_sm {pl c : Pl} {l : List Pt} (h : smP pl l) (hc : smN c) (h0 : ¬ qA c l = []) : smP pl (qA c l) := ⟨⟨(cutB_valid c h.1.1).resolve_right h0, h.1.2⟩, cutB_edge h.1.1 h.2 hc⟩
theorem cutF_sm {pl c : Pl} {l : List Pt} (h : smP pl l) (hc : smN c) (h0 : ¬ uW c l = []) : smP pl (uW c l) := ⟨⟨(cutF_valid c h.1.1).resolve_right h0, h.1.2⟩, cutF_edge h.1.1 h.2 hc⟩
end Bk
namespace Bk
set_option linter.unusedVariables false
set_option linter.unusedSimpArgs false
open Classical
def vecTo (l : List Pt) : Nat → Pt
  | 0 => zT
  | m + 1 => addT (vecTo l m) (yW (qW (gp l (m + 1)) (gp l 0)) (qW (gp l (m + 2)) (gp l 0)))
def vecZ (l : List Pt) : Pt := vecTo l (l.length - 2)
def smT (k : Rat) (n : Pt) : Pt := T3.mk (k * n.x) (k * n.y) (k * n.z)
theorem addT_assoc (a b c : Pt) : addT (addT a b) c = addT a (addT b c) := by unfold addT; rw [T3.mk.injEq]; grind
theorem addT_zero (a : Pt) : addT a zT = a := by unfold addT; rw [t3_eq]; grind
theorem zero_addT (a : Pt) : addT zT a = a := by unfold addT; rw [t3_eq]; grind
theorem smT_add (k l : Rat) (n : Pt) : addT (smT k n) (smT l n) = smT (k + l) n := by unfold addT smT; rw [T3.mk.injEq]; grind
theorem smT_zero (n : Pt) : smT 0 n = zT := by unfold smT; rw [t3_eq]; grind
theorem vec_core {x y z w u1 u2 u3 v1 v2 v3 : Rat} (h : w * z = 1) (hu : x * u1 + y * u2 + z * u3 = 0) (hv : x * v1 + y * v2 + z * v3 = 0) : u2 * v3 - u3 * v2 = w * (u1 * v2 - u2 * v1) * x ∧ u3 * v1 - u1 * v3 = w * (u1 * v2 - u2 * v1) * y ∧ u1 * v2 - u2 * v1 = w * (u1 * v2 - u2 * v1) * z := by
  refine ⟨?_, ?_, ?_⟩
  · have e : u2 * v3 - u3 * v2 = w * (u2 * (z * v3) - (z * u3) * v2) := by grind
    rw [e, show z * v3 = -(x * v1 + y * v2) by grind, show z * u3 = -(x * u1 + y * u2) by grind]; grind
  · have e : u3 * v1 - u1 * v3 = w * ((z * u3) * v1 - u1 * (z * v3)) := by grind
    rw [e, show z * v3 = -(x * v1 + y * v2) by grind, show z * u3 = -(x * u1 + y * u2) by grind]; grind
  · grind
theorem vec_ex {pl : Pl} (hn : ¬ pl.1 = zT) : ∃ k : Rat, ∀ a b c, sdZ pl a = 0 → sdZ pl b = 0 → sdZ pl c = 0 → yW (qW b a) (qW c a) = smT (k * cr (pt2 pl a) (pt2 pl b) (pt2 pl c)) pl.1 := by
  have hk : ¬ pl.1.at (axK pl.1) = 0 := fun e => hn ((ax_zero _).1 e)
  have hinv : 1 / pl.1.at (axK pl.1) * pl.1.at (axK pl.1) = 1 := Rat.div_mul_cancel hk
  have hdiff : ∀ {a b : Pt}, sdZ pl a = 0 → sdZ pl b = 0 → pl.1.x * (b.x - a.x) + pl.1.y * (b.y - a.y) + pl.1.z * (b.z - a.z) = 0 := fun {a b} ha hb => by
    rw [gA] at ha hb
    unfold hgt wR at ha hb
    grind
  have hp : ∀ p : Pt, pt2 pl p = (p.at (axI pl.1), p.at (axJ pl.1)) := fun p => rfl
  refine Classical.byContradiction fun hno => ?_
  have mk : ∀ k : Rat, (∀ a b c, sdZ pl a = 0 → sdZ pl b = 0 → sdZ pl c = 0 → yW (qW b a) (qW c a) = smT (k * cr (pt2 pl a) (pt2 pl b) (pt2 pl c)) pl.1) → False := fun k h => hno ⟨k, h⟩
  clear hno
  rcases ax_cases pl.1 with h | h | h | h | h | h | h
  · obtain ⟨_, e1, e2, e3⟩ := h
    rw [e3] at hk hinv
    refine mk ((1 / pl.1.at (axK pl.1))) fun a b c ha hb hc => ?_
    have hu := hdiff ha hb
    have hv := hdiff ha hc
    rw [hp, hp, hp, e1, e2, e3]
    simp only [T3.at] at *
    have key := vec_core (x := pl.1.x) (y := pl.1.y) (z := pl.1.z) (w := 1 / pl.1.z) (u1 := b.x - a.x) (u2 := b.y - a.y) (u3 := b.z - a.z) (v1 := c.x - a.x) (v2 := c.y - a.y) (v3 := c.z - a.z) hinv (by grind) (by grind)
    generalize 1 / pl.1.z = w at *
    unfold yW qW smT cr
    rw [T3.mk.injEq]
    simp only
    refine ⟨?_, ?_, ?_⟩ <;> grind
  · obtain ⟨_, e1, e2, e3⟩ := h
    rw [e3] at hk hinv
    refine mk (-(1 / pl.1.at (axK pl.1))) fun a b c ha hb hc => ?_
    have hu := hdiff ha hb
    have hv := hdiff ha hc
    rw [hp, hp, hp, e1, e2, e3]
    simp only [T3.at] at *
    have key := vec_core (x := pl.1.x) (y := pl.1.y) (z := pl.1.z) (w := 1 / pl.1.z) (u1 := b.x - a.x) (u2 := b.y - a.y) (u3 := b.z - a.z) (v1 := c.x - a.x) (v2 := c.y - a.y) (v3 := c.z - a.z) hinv (by grind) (by grind)
    generalize 1 / pl.1.z = w at *
    unfold yW qW smT cr
    rw [T3.mk.injEq]
    simp only
    refine ⟨?_, ?_, ?_⟩ <;> grind
  · obtain ⟨_, _, e1, e2, e3⟩ := h
    rw [e3] at hk hinv
    refine mk ((1 / pl.1.at (axK pl.1))) fun a b c ha hb hc => ?_
    have hu := hdiff ha hb
    have hv := hdiff ha hc
    rw [hp, hp, hp, e1, e2, e3]
    simp only [T3.at] at *
    have key := vec_core (x := pl.1.z) (y := pl.1.x) (z := pl.1.y) (w := 1 / pl.1.y) (u1 := b.z - a.z) (u2 := b.x - a.x) (u3 := b.y - a.y) (v1 := c.z - a.z) (v2 := c.x - a.x) (v3 := c.y - a.y) hinv (by grind) (by grind)
    generalize 1 / pl.1.y = w at *
    unfold yW qW smT cr
    rw [T3.mk.injEq]
    simp only
    refine ⟨?_, ?_, ?_⟩ <;> grind
  · obtain ⟨_, _, e1, e2, e3⟩ := h
    rw [e3] at hk hinv
    refine mk (-(1 / pl.1.at (axK pl.1))) fun a b c ha hb hc => ?_
    have hu := hdiff ha hb
    have hv := hdiff ha hc
    rw [hp, hp, hp, e1, e2, e3]
    simp only [T3.at] at *
    have key := vec_core (x := pl.1.z) (y := pl.1.x) (z := pl.1.y) (w := 1 / pl.1.y) (u1 := b.z - a.z) (u2 := b.x - a.x) (u3 := b.y - a.y) (v1 := c.z - a.z) (v2 := c.x - a.x) (v3 := c.y - a.y) hinv (by grind) (by grind)
    generalize 1 / pl.1.y = w at *
    unfold yW qW smT cr
    rw [T3.mk.injEq]
    simp only
    refine ⟨?_, ?_, ?_⟩ <;> grind
  · obtain ⟨_, _, _, e1, e2, e3⟩ := h
    rw [e3] at hk hinv
    refine mk ((1 / pl.1.at (axK pl.1))) fun a b c ha hb hc => ?_
    have hu := hdiff ha hb
    have hv := hdiff ha hc
    rw [hp, hp, hp, e1, e2, e3]
    simp only [T3.at] at *
    have key := vec_core (x := pl.1.y) (y := pl.1.z) (z := pl.1.x) (w := 1 / pl.1.x) (u1 := b.y - a.y) (u2 := b.z - a.z) (u3 := b.x - a.x) (v1 := c.y - a.y) (v2 := c.z - a.z) (v3 := c.x - a.x) hinv (by grind) (by grind)
    generalize 1 / pl.1.x = w at *
    unfold yW qW smT cr
    rw [T3.mk.injEq]
    simp only
    refine ⟨?_, ?_, ?_⟩ <;> grind
  · obtain ⟨_, _, _, e1, e2, e3⟩ := h
    rw [e3] at hk hinv
    refine mk (-(1 / pl.1.at (axK pl.1))) fun a b c ha hb hc => ?_
    have hu := hdiff ha hb
    have hv := hdiff ha hc
    rw [hp, hp, hp, e1, e2, e3]
    simp only [T3.at] at *
    have key := vec_core (x := pl.1.y) (y := pl.1.z) (z := pl.1.x) (w := 1 / pl.1.x) (u1 := b.y - a.y) (u2 := b.z - a.z) (u3 := b.x - a.x) (v1 := c.y - a.y) (v2 := c.z - a.z) (v3 := c.x - a.x) hinv (by grind) (by grind)
    generalize 1 / pl.1.x = w at *
    unfold yW qW smT cr
    rw [T3.mk.injEq]
    simp only
    refine ⟨?_, ?_, ?_⟩ <;> grind
  · obtain ⟨h1, h2, h3, _⟩ := h
    exact hn (t3z.2 ⟨h3, h2, h1⟩)
def fanS (P : Nat → P2) : Nat → Rat
  | 0 => 0
  | m + 1 => fanS P m + cr (P 0) (P (m + 1)) (P (m + 2))
theorem fan_arO {P : Nat → P2} {n : Nat} : ∀ m, m + 2 ≤ n → arO P n (P 0) (m + 1) = fanS P m
  | 0, h => by
    show 0 + cr (P 0) (P 0) (P ((0 + 1) % n)) = 0
    unfold cr; grind
  | m + 1, h => by
    show arO P n (P 0) (m + 1) + cr (P 0) (P (m + 1)) (P ((m + 1 + 1) % n)) = fanS P m + _
    rw [fan_arO m (by omega), Nat.mod_eq_of_lt (show m + 1 + 1 < n by omega)]
theorem fan_ar {P : Nat → P2} {n : Nat} (h : 3 ≤ n) : arC P n n = fanS P (n - 2) := by
  have h1 := fan_arO (P := P) (n := n) (n - 2) (by omega)
  rw [← arO_all P n (P 0), show n = n - 2 + 1 + 1 by omega]
  show arO P (n - 2 + 1 + 1) (P 0) (n - 2 + 1) + cr (P 0) (P (n - 2 + 1)) (P ((n - 2 + 1 + 1) % (n - 2 + 1 + 1))) = _
  rw [Nat.mod_self, ← show n = n - 2 + 1 + 1 by omega, h1]
  show _ = fanS P (n - 2 + 1 + 1 - 2)
  rw [show n - 2 + 1 + 1 - 2 = n - 2 by omega]
  unfold cr; grind
theorem vec_fan {pl : Pl} {l : List Pt} {k : Rat} (h : qJ pl l) (hk : ∀ a b c, sdZ pl a = 0 → sdZ pl b = 0 → sdZ pl c = 0 → yW (qW b a) (qW c a) = smT (k * cr (pt2 pl a) (pt2 pl b) (pt2 pl c)) pl.1) : ∀ m, m + 2 ≤ l.length → vecTo l m = smT (k * fanS (lp2 pl l) m) pl.1
  | 0, _ => by show zT = _; rw [show k * fanS (lp2 pl l) 0 = 0 by show k * 0 = 0; grind, smT_zero]
  | m + 1, hm => by
    show addT (vecTo l m) _ = _
    rw [vec_fan h hk m (by omega), hk _ _ _ (h.2.1 0 (by omega)) (h.2.1 (m + 1) (by omega)) (h.2.1 (m + 2) (by omega)), smT_add]
    congr 1
    show _ = k * (fanS (lp2 pl l) m + cr (pt2 pl (gp l 0)) (pt2 pl (gp l (m + 1))) (pt2 pl (gp l (m + 2))))
    grind
theorem vec_conv {pl : Pl} {l : List Pt} {k : Rat} (h : qJ pl l) (hk : ∀ a b c, sdZ pl a = 0 → sdZ pl b = 0 → sdZ pl c = 0 → yW (qW b a) (qW c a) = smT (k * cr (pt2 pl a) (pt2 pl b) (pt2 pl c)) pl.1) : vecZ l = smT (k * arC (lp2 pl l) l.length l.length) pl.1 := by
  unfold vecZ
  rw [vec_fan h hk _ (by have := h.1.1; omega), fan_ar h.1.1]
theorem vec_nil : vecZ [] = zT := rfl
theorem arC_congr {P X : Nat → P2} {n : Nat} (h : ∀ q, q < n → P q = X q) : ∀ m, m ≤ n → arC P n m = arC X n m
  | 0, _ => rfl
  | m + 1, hm => by
    show arC P n m + cx (P m) (P ((m + 1) % n)) = arC X n m + cx (X m) (X ((m + 1) % n))
    rw [arC_congr h m (by omega), h m (by omega), h _ (Nat.mod_lt _ (by omega))]
theorem vec_cut {pl : Pl} {l : List Pt} (c : Pl) (h : qJ pl l) : addT (vecZ (qA c l)) (vecZ (uW c l)) = vecZ l := by
  by_cases ha : qP c l l.length
  · by_cases hb : qV c l l.length
    · obtain ⟨i, hi, h1⟩ := (beh_iff _).1 hb
      obtain ⟨j, hj, h2⟩ := (ahe_iff _).1 ha
      obtain ⟨k, hk⟩ := vec_ex h.1.2
      have vB := part_valid h (fun m => chgB) hi hj h1 h2
      have vF := part_valid h (fun m => chgF) hj hi (show sgF c l j < 0 by unfold sgF; omega) (show 0 < sgF c l i by unfold sgF; omega)
      have hs := area_sum (cfg_cut c h) hi hj h1 h2
      rw [(kF ha hb).1, (kF ha hb).2, bk_mks, fr_mks, vec_conv vB hk, vec_conv vF hk, vec_conv h hk, smT_add, List.length_map, List.length_map]
      congr 1
      rw [← hs, arC_congr (fun q hq => part_pt hq) _ (Nat.le_refl _), arC_congr (fun q hq => part_pt hq) _ (Nat.le_refl _)]
      have e : (fun m => -sgB c l m) = sgF c l := rfl
      rw [e]
      grind
    · rw [(cutF_all ha hb).1, (cutF_all ha hb).2, vec_nil, zero_addT]
  · rw [(kV ha).1, (kV ha).2, vec_nil, addT_zero]
noncomputable def neL (x : List Pt) : List (List Pt) := if 0 < x.length then [x] else []
noncomputable def two (c : Pl) (l : List Pt) : List (List Pt) := neL (qA c l) ++ neL (uW c l)
def vsum : List (List Pt) → Pt
  | [] => zT
  | x :: L => addT (vecZ x) (vsum L)
theorem vsum_app : ∀ A B, vsum (A ++ B) = addT (vsum A) (vsum B)
  | [], B => (zero_addT _).symm
  | x :: A, B => by show addT _ (vsum (A ++ B)) = _; rw [vsum_app A B, ← addT_assoc]; rfl
theorem vsum_ne (x : List Pt) : vsum (neL x) = vecZ x := by
  unfold neL
  split
  · show addT _ zT = _; rw [addT_zero]
  · rename_i h
    have : x = [] := List.eq_nil_of_length_eq_zero (by omega)
    rw [this]; rfl
theorem parts_flat (c : Pl) (L : List (List Pt)) : ∀ m, m ≤ L.length → kP c L m = (L.take m).flatMap (two c)
  | 0, _ => by rw [List.take_zero]; rfl
  | m + 1, h => by
    have hd : L.getD m [] = L[m] := by rw [List.getD_eq_getElem?_getD, List.getElem?_eq_getElem (by omega)]; rfl
    rw [List.take_succ_eq_append_getElem (by omega), List.flatMap_append, ← parts_flat c L m (by omega), List.flatMap_cons, List.flatMap_nil, List.append_nil, ← hd]
    show _ ++ _ ++ _ = _ ++ (neL _ ++ neL _)
    rw [List.append_assoc]; rfl
theorem split_flat (l : List Pt) (ps : List Pl) (m : Nat) : xN l ps (m + 1) = (xN l ps m).flatMap (two (gpl ps m)) := by
  show kP _ _ _ = _
  rw [parts_flat _ _ _ (Nat.le_refl _), List.take_length]
theorem two_mem {c : Pl} {l x : List Pt} (h : x ∈ two c l) : (x = qA c l ∨ x = uW c l) ∧ ¬ x = [] := by
  unfold two neL at h
  rcases List.mem_append.1 h with h | h
  · split at h
    · rename_i k; rw [List.mem_singleton] at h; exact ⟨.inl h, fun e => by rw [← h, e] at k; exact absurd k (by decide)⟩
    · exact absurd h List.not_mem_nil
  · split at h
    · rename_i k; rw [List.mem_singleton] at h; exact ⟨.inr h, fun e => by rw [← h, e] at k; exact absurd k (by decide)⟩
    · exact absurd h List.not_mem_nil
theorem two_sm {pl c : Pl} {l x : List Pt} (h : smP pl l) (hc : smN c) (hx : x ∈ two c l) : smP pl x := by
  obtain ⟨h1, h2⟩ := two_mem hx
  rcases h1 with rfl | rfl
  · exact cutB_sm h hc h2
  · exact cutF_sm h hc h2
theorem split_sm {pl : Pl} {l : List Pt} {ps : List Pl} (h : smP pl l) (hp : ∀ c, c ∈ ps → smN c) : ∀ m, m ≤ ps.length → ∀ x, x ∈ xN l ps m → smP pl x
  | 0, _, x, hx => by rw [List.mem_singleton.1 hx]; exact h
  | m + 1, hm, x, hx => by
    rw [split_flat, List.mem_flatMap] at hx
    obtain ⟨y, hy, hx⟩ := hx
    refine two_sm (split_sm h hp m (by omega) y hy) (hp _ ?_) hx
    show ps.getD m _ ∈ ps
    rw [List.getD_eq_getElem?_getD, List.getElem?_eq_getElem (by omega)]
    exact List.getElem_mem (by omega)
theorem vsum_two {pl c : Pl} {L : List (List Pt)} (h : ∀ x, x ∈ L → qJ pl x) : vsum (L.flatMap (two c)) = vsum L := by
  induction L with
  | nil => rfl
  | cons x L ih =>
    rw [List.flatMap_cons, vsum_app, ih fun y hy => h y (.tail _ hy)]
    show addT (vsum (neL _ ++ neL _)) _ = addT (vecZ x) (vsum L)
    rw [vsum_app, vsum_ne, vsum_ne, vec_cut c (h x (.head _))]
theorem split_vsum {pl : Pl} {l : List Pt} {ps : List Pl} (h : smP pl l) (hp : ∀ c, c ∈ ps → smN c) : ∀ m, m ≤ ps.length → vsum (xN l ps m) = vecZ l
  | 0, _ => by show addT _ zT = _; rw [addT_zero]
  | m + 1, hm => by rw [split_flat, vsum_two fun x hx => (split_sm h hp m (by omega) x hx).1.1, split_vsum h hp m (by omega)]
def vsTo (L : List (List Pt)) : Nat → Pt
  | 0 => zT
  | m + 1 => addT (vsTo L m) (vecZ (L.getD m []))
theorem vs_to (L : List (List Pt)) : ∀ m, m ≤ L.length → vsTo L m = vsum (L.take m)
  | 0, _ => by rw [List.take_zero]; rfl
  | m + 1, h => by
    have hd : L.getD m [] = L[m] := by rw [List.getD_eq_getElem?_getD, List.getElem?_eq_getElem (by omega)]; rfl
    rw [List.take_succ_eq_append_getElem (by omega), vsum_app, ← vs_to L m (by omega)]
    show addT _ _ = addT _ (addT _ zT)
    rw [addT_zero, hd]
def sepP (pl : Pl) (A B : List Pt) : Prop := ∃ c, (∃ p, sdZ pl p = 0 ∧ ¬ hgt c p = 0) ∧ (∀ p, p ∈ A → hgt c p ≤ 0) ∧ ∀ p, p ∈ B → 0 ≤ hgt c p
def subP (A B : List Pt) : Prop := ∀ c, (∀ p, p ∈ B → hgt c p ≤ 0) → ∀ p, p ∈ A → hgt c p ≤ 0
theorem sub_ge {A B : List Pt} (h : subP A B) {c : Pl} (hb : ∀ p, p ∈ B → 0 ≤ hgt c p) : ∀ p, p ∈ A → 0 ≤ hgt c p := fun p hp => by
  have := h (ngP c) (fun q hq => by rw [hgt_ng]; have := hb q hq; grind) p hp
  rw [hgt_ng] at this; grind
theorem sep_sub {pl : Pl} {A B A' B' : List Pt} (h : sepP pl A B) (ha : subP A' A) (hb : subP B' B) : sepP pl A' B' := by
  obtain ⟨c, h1, h2, h3⟩ := h
  exact ⟨c, h1, ha c h2, sub_ge hb h3⟩
theorem mk_pts {s : Nat → Int} {c : Pl} {l : List Pt} {p : Pt} (h : p ∈ (mks s l.length l.length).map (mk3 c l)) : (∃ q, q < l.length ∧ p = gp l q ∧ s q ≤ 0) ∨ ∃ q, q < l.length ∧ chg s l.length q ∧ p = btw c (gp l q) (nx l q) := by
  obtain ⟨⟨q, b⟩, hM, rfl⟩ := List.mem_map.1 h
  obtain ⟨h1, h2⟩ := kC.1 hM
  cases b with
  | false => exact .inl ⟨q, h1, rfl, h2⟩
  | true => exact .inr ⟨q, h1, h2, rfl⟩
theorem cutB_pts {c : Pl} {l : List Pt} {p : Pt} (h : p ∈ qA c l) : (∃ q, q < l.length ∧ p = gp l q ∧ sdZ c p ≤ 0) ∨ ∃ q, q < l.length ∧ xP c l q ∧ p = btw c (gp l q) (nx l q) := by
  by_cases ha : qP c l l.length
  · by_cases hb : qV c l l.length
    · rw [(kF ha hb).1, bk_mks] at h
      rcases mk_pts h with ⟨q, h1, rfl, h2⟩ | ⟨q, h1, h2, h3⟩
      · exact .inl ⟨q, h1, rfl, h2⟩
      · exact .inr ⟨q, h1, chgB.1 h2, h3⟩
    · rw [(cutF_all ha hb).1] at h; exact absurd h List.not_mem_nil
  · rw [(kV ha).1] at h
    obtain ⟨q, h1, rfl⟩ := mem_gp' h
    exact .inl ⟨q, h1, rfl, Int.not_lt.1 fun e => ha ((ahe_iff _).2 ⟨q, h1, e⟩)⟩
theorem cutF_pts {c : Pl} {l : List Pt} {p : Pt} (h : p ∈ uW c l) : (∃ q, q < l.length ∧ p = gp l q ∧ 0 ≤ sdZ c p) ∨ ∃ q, q < l.length ∧ xP c l q ∧ p = btw c (gp l q) (nx l q) := by
  by_cases ha : qP c l l.length
  · by_cases hb : qV c l l.length
    · rw [(kF ha hb).2, fr_mks] at h
      rcases mk_pts h with ⟨q, h1, rfl, h2⟩ | ⟨q, h1, h2, h3⟩
      · exact .inl ⟨q, h1, rfl, by unfold sgF at h2; omega⟩
      · exact .inr ⟨q, h1, chgF.1 h2, h3⟩
    · rw [(cutF_all ha hb).2] at h
      obtain ⟨q, h1, rfl⟩ := mem_gp' h
      exact .inl ⟨q, h1, rfl, Int.not_lt.1 fun e => hb ((beh_iff _).2 ⟨q, h1, e⟩)⟩
  · rw [(kV ha).2] at h; exact absurd h List.not_mem_nil
theorem pts_sub {c : Pl} {l x : List Pt} (h : ∀ p, p ∈ x → (∃ q, q < l.length ∧ p = gp l q) ∨ ∃ q, q < l.length ∧ xP c l q ∧ p = btw c (gp l q) (nx l q)) : subP x l := by
  intro d hd p hp
  rcases h p hp with ⟨q, h1, rfl⟩ | ⟨q, h1, h2, rfl⟩
  · exact hd _ (mem_gp h1)
  · obtain ⟨h3, h4⟩ := (cut_t h2).1
    have a := hd _ (mem_gp h1)
    have b := hd _ (mem_gp (show (q + 1) % l.length < l.length from Nat.mod_lt _ (by omega)))
    unfold btw
    rw [hgt_lerp]
    have b' : hgt d (nx l q) ≤ 0 := b
    generalize cutT c (gp l q) (nx l q) = t at *
    have u1 := Rat.mul_nonneg (a := 1 - t) (b := -hgt d (gp l q)) (by grind) (by grind)
    have u2 := Rat.mul_nonneg (a := t) (b := -hgt d (nx l q)) (by grind) (by grind)
    grind
theorem cutB_sub (c : Pl) (l : List Pt) : subP (qA c l) l := pts_sub (c := c) fun p hp => (cutB_pts hp).imp (fun ⟨q, a, b, _⟩ => ⟨q, a, b⟩) id
theorem cutF_sub (c : Pl) (l : List Pt) : subP (uW c l) l := pts_sub (c := c) fun p hp => (cutF_pts hp).imp (fun ⟨q, a, b, _⟩ => ⟨q, a, b⟩) id
theorem cutB_le {c : Pl} {l : List Pt} {p : Pt} (h : p ∈ qA c l) : hgt c p ≤ 0 := by
  rcases cutB_pts h with ⟨q, _, _, h2⟩ | ⟨q, _, h2, rfl⟩
  · exact sd_le.1 h2
  · rw [(cut_t h2).2]; exact Rat.le_refl
theorem cutF_ge {c : Pl} {l : List Pt} {p : Pt} (h : p ∈ uW c l) : 0 ≤ hgt c p := by
  rcases cutF_pts h with ⟨q, _, _, h2⟩ | ⟨q, _, h2, rfl⟩
  · exact sd_ge.1 h2
  · rw [(cut_t h2).2]; exact Rat.le_refl
theorem cut_sep {pl c : Pl} {l : List Pt} (h : qJ pl l) (h1 : ¬ qA c l = []) (h2 : ¬ uW c l = []) : sepP pl (qA c l) (uW c l) := by
  by_cases ha : qP c l l.length
  · by_cases hb : qV c l l.length
    · obtain ⟨i, hi, h3⟩ := (beh_iff _).1 hb
      have := sd_neg.1 h3
      exact ⟨c, ⟨gp l i, h.2.1 i hi, by grind⟩, fun p hp => cutB_le hp, fun p hp => cutF_ge hp⟩
    · exact absurd (cutF_all ha hb).1 h1
  · exact absurd (kV ha).2 h2
theorem two_sub {c : Pl} {l x : List Pt} (h : x ∈ two c l) : subP x l := by
  rcases (two_mem h).1 with rfl | rfl
  · exact cutB_sub c l
  · exact cutF_sub c l
theorem two_pair {pl c : Pl} {l : List Pt} (h : qJ pl l) : (two c l).Pairwise (sepP pl) := by
  unfold two neL
  split
  · rename_i k1
    split
    · rename_i k2
      refine List.pairwise_cons.2 ⟨fun x hx => ?_, List.pairwise_singleton _ _⟩
      rw [List.mem_singleton.1 hx]
      exact cut_sep h (fun e => by rw [e] at k1; exact absurd k1 (by decide)) (fun e => by rw [e] at k2; exact absurd k2 (by decide))
    · exact List.pairwise_singleton _ _
  · split
    · exact List.pairwise_singleton _ _
    · exact List.Pairwise.nil
theorem split_sep {pl : Pl} {l : List Pt} {ps : List Pl} (h : smP pl l) (hp : ∀ c, c ∈ ps → smN c) : ∀ m, m ≤ ps.length → (xN l ps m).Pairwise (sepP pl)
  | 0, _ => List.pairwise_singleton _ _
  | m + 1, hm => by
    rw [split_flat, List.pairwise_flatMap]
    refine ⟨fun x hx => two_pair (split_sm h hp m (by omega) x hx).1.1, (split_sep h hp m (by omega)).imp ?_⟩
    intro A B hab x hx y hy
    exact sep_sub hab (two_sub hx) (two_sub hy)
theorem conv_some {pl c : Pl} {l : List Pt} (h : qJ pl l) (hc : ∃ p, sdZ pl p = 0 ∧ ¬ hgt c p = 0) : ∃ m, m < l.length ∧ ¬ hgt c (gp l m) = 0 := by
  refine Classical.byContradiction fun hno => ?_
  have z : ∀ m, m < l.length → hgt c (gp l m) = 0 := fun m hm => Classical.byContradiction fun e => hno ⟨m, hm, e⟩
  obtain ⟨p, hp, hne⟩ := hc
  have h3 := h.1.1
  have w : ∀ m, m < l.length → afZ (afC pl c) (pt2 pl (gp l m)) = 0 := fun m hm => by rw [af_hgt h.1.2 (h.2.1 m hm)]; exact z m hm
  have hb := bary (afC pl c) (pt2 pl (gp l 0)) (pt2 pl (gp l 1)) (pt2 pl (gp l 2)) (pt2 pl p)
  rw [w 0 (by omega), w 1 (by omega), w 2 (by omega), af_hgt h.1.2 hp] at hb
  have ht : 0 < cr (pt2 pl (gp l 0)) (pt2 pl (gp l 1)) (pt2 pl (gp l 2)) := valid_tri h 0 1 2 (by decide) (by decide) (by omega)
  rcases Rat.mul_eq_zero.1 (show cr (pt2 pl (gp l 0)) (pt2 pl (gp l 1)) (pt2 pl (gp l 2)) * hgt c p = 0 by rw [hb]; grind) with k | k
  · grind
  · exact hne k
theorem cen_neg {pl c : Pl} {l : List Pt} (h : qJ pl l) (hc : ∃ p, sdZ pl p = 0 ∧ ¬ hgt c p = 0) (hl : ∀ m, m < l.length → hgt c (gp l m) ≤ 0) : hgt c (cenZ l) < 0 := by
  obtain ⟨m, hm, hne⟩ := conv_some h hc
  have h0 : ¬ l.length = 0 := by omega
  have h1 := (hsum_le hl l.length (Nat.le_refl _)).2 ⟨m, hm, by have := hl m hm; grind⟩
  rw [← cen_hgt c h0] at h1
  have := nat_pos h0
  refine Rat.not_le.1 fun e => ?_
  have := Rat.mul_nonneg (Rat.le_of_lt this) e
  grind
theorem cen_le {c : Pl} {l : List Pt} (h0 : ¬ l.length = 0) (hl : ∀ m, m < l.length → hgt c (gp l m) ≤ 0) : hgt c (cenZ l) ≤ 0 := by
  have h1 := (hsum_le hl l.length (Nat.le_refl _)).1
  rw [← cen_hgt c h0] at h1
  have := nat_pos h0
  refine Rat.not_lt.1 fun e => ?_
  have := Rat.mul_pos this e
  grind
theorem cen_in {pl : Pl} {l : List Pt} (h : qJ pl l) : inP pl l (cenZ l) := by
  have h3 := h.1.1
  refine ⟨fun m hm => ?_, by omega⟩
  rw [sd_pos, Rat.not_lt]
  refine cen_le (by omega) fun q hq => ?_
  rw [← Rat.not_lt, ← sd_pos, upr_or h.1.2 (h.2.1 m hm) (conv_nx h hm) (h.2.1 q hq)]
  exact edge_nonneg (valid_tri h) hm hq
theorem cen_out {pl : Pl} {A B : List Pt} (hA : qJ pl A) (hB : qJ pl B) (h : sepP pl A B) : ¬ inP pl B (cenZ A) ∧ ¬ inP pl A (cenZ B) := by
  obtain ⟨c, h1, h2, h3⟩ := h
  constructor
  · intro e
    have k1 := cen_neg hA h1 fun m hm => h2 _ (mem_gp hm)
    have k2 := conv_side hB (cen_on hA) e fun m hm => h3 _ (mem_gp hm)
    grind
  · intro e
    have hc : ∃ p, sdZ pl p = 0 ∧ ¬ hgt (ngP c) p = 0 := by
      obtain ⟨p, a, b⟩ := h1
      exact ⟨p, a, by rw [hgt_ng]; grind⟩
    have k1 := cen_neg hB hc fun m hm => by rw [hgt_ng]; have := h3 _ (mem_gp hm); grind
    have k2 := conv_side' hA (cen_on hB) e fun m hm => h2 _ (mem_gp hm)
    rw [hgt_ng] at k1
    grind
theorem gd_mem {L : List (List Pt)} {m : Nat} (h : m < L.length) : L.getD m [] ∈ L := by
  rw [List.getD_eq_getElem?_getD, List.getElem?_eq_getElem h]; exact List.getElem_mem h
theorem tiles_in {pl : Pl} {L : List (List Pt)} (hL : ∀ x, x ∈ L → qJ pl x) (hs : L.Pairwise (sepP pl)) {i k : Nat} (hi : i < L.length) (hk : k < L.length) : inP pl (L.getD k []) (cenZ (L.getD i [])) ↔ i = k := by
  have e : ∀ {q}, q < L.length → L.getD q [] ∈ L := fun {q} hq => by rw [List.getD_eq_getElem?_getD, List.getElem?_eq_getElem hq]; exact List.getElem_mem hq
  have g : ∀ {q} (hq : q < L.length), L.getD q [] = L[q] := fun {q} hq => by rw [List.getD_eq_getElem?_getD, List.getElem?_eq_getElem hq]; rfl
  constructor
  · intro h
    rcases Nat.lt_trichotomy i k with h1 | h1 | h1
    · have := List.pairwise_iff_getElem.1 hs i k hi hk h1
      rw [← g hi, ← g hk] at this
      exact absurd h (cen_out (hL _ (e hi)) (hL _ (e hk)) this).1
    · exact h1
    · have := List.pairwise_iff_getElem.1 hs k i hk hi h1
      rw [← g hi, ← g hk] at this
      exact absurd h (cen_out (hL _ (e hk)) (hL _ (e hi)) this).2
  · rintro rfl
    exact cen_in (hL _ (e hi))
theorem splitZ_all {pl : Pl} {l : List Pt} {ps : List Pl} (h : smP pl l) (hp : ∀ c, c ∈ ps → smN c) : (∀ x, x ∈ wS l ps → smP pl x) ∧ (wS l ps).Pairwise (sepP pl) ∧ vsum (wS l ps) = vecZ l := by
  have h0 : ¬ l.length = 0 := by have := h.1.1.1.1; omega
  unfold wS
  rw [if_neg h0]
  exact ⟨split_sm h hp _ (Nat.le_refl _), split_sep h hp _ (Nat.le_refl _), split_vsum h hp _ (Nat.le_refl _)⟩
theorem splitZ_vs {pl : Pl} {l : List Pt} {ps : List Pl} (h : smP pl l) (hp : ∀ c, c ∈ ps → smN c) : vsTo (wS l ps) (wS l ps).length = vecZ l := by
  rw [vs_to _ _ (Nat.le_refl _), List.take_length, (splitZ_all h hp).2.2]
end Bk
namespace Go.Proofs.YtghhjjmjpeehdaaGreat
open Bk Go Tryz
set_option linter.unusedVariables false
set_option linter.unusedSimpArgs false
set_option maxRecDepth 10000
theorem o_law_polysm {w0 w : World} {h0 h : Mem} {b k : Nat} {vl : Value} {xs : List Int} (hl : Is h vl xs) (hk : k ≤ xs.length) {L : List Res} (hs : St w0 h0 (.var b 65 [vl, vI ↑k] :: L) h w) :
    Calls Tryz.prog 12 #[vP b 0] w (RetMut w0 h0 h L (fun g r q' => ∃ k' : Nat, ∃ u0 u1 : Value, ∃ m : List (T3 Rat), ∃ s : (T3 Rat) × Rat, q' = .var b 65 [vl, vI ↑k'] ∧ k' ≤ xs.length ∧ (smP s m ∧ m.length ≤ 32) ∧ r = .tuple #[u0, u1] ∧ (rpS (rpT (rpQ 2))).Is g u0 m ∧ (rpP (rpT (rpQ 2)) (rpQ 2)).Is g u1 s)) := by
 have hlen := hl.lt63
 refine kW (n := 46) (e := [(0, vP b 0)]) (vs := [vP b 0]) func12 rfl rfl (bL rfl) hs ⟨rfl, trivial⟩ (zC (zA (asg rfl rfl (zI (yR (ρ := (rpP (rpT (rpQ 2)) (rpQ 2))) (X := (zT, (0 : Rat))) info34 rfl rfl (zr_p (wO (wB (by decide))) (wB (by decide)))) rfl rfl rfl ?_))))
 intro v3 q3 hq3
 obtain ⟨b3, cs3, rfl, rfl, rb3⟩ := hq3
 refine zD (zB (zC (zA (mv rfl rfl ?_))))
 refine uO (A := [_]) (vs := [_]) call13 ⟨rfl, trivial⟩ (fun X w hs => o_dice_plane hl (by first | omega | exact Nat.zero_le _) hs) rfl ?_
 intro v11 g11 q11 hg11 hr11
 obtain ⟨k11, p11, rfl, hk11, hx11, hr11⟩ := hr11
 refine zI (yR (ρ := (rpP (rpT (rpQ 2)) (rpQ 2))) (X := (zT, (0 : Rat))) info34 rfl rfl (zr_p (wO (wB (by decide))) (wB (by decide)))) rfl rfl rfl ?_
 intro v4 q4 hq4
 obtain ⟨b4, cs4, rfl, rfl, rb4⟩ := hq4
 refine wW (A := []) (F := fun c_ => (rpP (rpT (rpQ 2)) (rpQ 2)).R g11 c_ p11) (yJ sizeOf34 (Pc.here _) rfl rfl rfl rb4 hr11 rfl) ?_
 intro cs_1 rb_2
 refine zD (zB (zC ?_))
 refine gc_draw1 (A := [_, _]) 12 [] [(0, .q), (1, .q), (3, .q), (2, .c), (4, .c), (5, .c), (6, .c), (7, .q), (8, .q), (9, .q), (10, .q), (11, .q)] xH nX (chk_of [0, 0, 2, 0, 12, 20, 49, 64, 128, 128, 511, 2047] [4095, 4095, 4093, 4095, 4087, 4075, 4062, 4031, 3967, 3967, 3839, 3583] (by kernel_rfl)) nX (yP (F := fun v_ => (rpP (rpT (rpQ 2)) (rpQ 2)).Is g11 v_ p11) rfl (zE kH (Pc.here _) rfl rfl rb_2 rfl) (yD mh0) rfl ?_)
 intro v13 r13
 refine yH rfl rfl rfl (yH rfl rfl rfl ?_)
 refine w_c rfl ?_
 replace hl := hl.mono hg11
 refine s_call_mut (A := [_, _]) (vs := [_]) call33 ⟨rfl, trivial⟩ (fun X w hs => o_dice_spot hl (by first | omega | exact Nat.zero_le _) hs) rfl (wV (by first | (simp; done) | grind)) ?_
 intro v15 g15 q15 hg15 hr15
 obtain ⟨k15, p15, rfl, hk15, hx15, hr15⟩ := hr15
 refine w_c rfl ?_
 replace hl := hl.mono hg15
 refine s_call_mut (A := [_, _]) (vs := [_]) call33 ⟨rfl, trivial⟩ (fun X w hs => o_dice_spot hl (by first | omega | exact Nat.zero_le _) hs) rfl (wV (by first | (simp; done) | grind)) ?_
 intro v17 g17 q17 hg17 hr17
 obtain ⟨k17, p17, rfl, hk17, hx17, hr17⟩ := hr17
 refine w_c rfl ?_
 replace hr15 := hr15.mono hg17
 refine s_new (fun X => wA (ρ := (rpT (rpQ 2))) (m := 2) (xs := [p15, p17]) (ps' := [(0, _), (1, _)]) underlying27 yL rfl rfl rfl (wO (wB (by decide))) e4z (yZ rfl (Pc.arr (Pc.here _) zT 0 (by decide)) hr15 (yZ rfl (Pc.arr (Pc.here _) zT 1 (by decide)) hr17 wH)) (show 2 * 9 ≤ 16777216 from by decide) p9N) rfl ?_
 intro v18 q18 hq18
 obtain ⟨cs18, rfl, rl18⟩ := hq18
 refine w_c rfl (vT (A := []) (ρ := (rpT (rpQ 2))) rl18 (vW (by first | (simp; done) | grind)) ?_)
 intro h1 hh1 rs_3
 replace r13 := r13.mono ((hg15.trans hg17).trans hh1)
 refine zY (vs := [_, _]) call37 e2z (fun w hs => o_r6_around hs r13 rs_3 (by decide) (by decide) (by decide)) rfl ?_
 intro v19 h2 hh2 r19
 obtain ⟨v19_0, rfl, r19_0⟩ := r19
 change (rpS (rpT (rpQ (3 * 2 + 2 + 4 * 2 + 45)))).Is h2 v19_0 (aroZ p11 [p15, p17]) at r19_0
 replace r19_0 := Rp.Is.le r19_0 (Le.s (Le.t (Le.q (l := 61) (by omega))))
 refine yH rfl rfl rfl (yK rfl (fun _ _ => zL (vs := [_, _]) rfl rfl) rfl (yK rfl (fun _ _ => zL (vs := [_, _]) rfl rfl) rfl (uG rfl rfl rfl (uG rfl rfl rfl (xB (zJ (e' := [(0, _), (3, _), (4, _), (5, _), (6, _)]) e5z (zB (zC (zC (zA (mv rfl rfl (gv (gB rfl) rfl (zD ?_)))))))))))))
 refine zB ?_
 refine zN rfl (fun hc23 => ?_) (fun hc23 => ?_)
 ·
  refine zC (zA ?_)
  refine zO (vs := []) rfl rfl rfl rfl call43 trivial (fun w hs => o_law_square hs ) ?_
  intro v24 h3 hh3 r24
  change (rpS (rpT (rpQ 2))).Is h3 v24 sq0 at r24
  refine zO (vs := [vI (0), vI (0), vI (1)]) rfl rfl rfl rfl call44 e3z (fun w hs => o_made_at3 hs (by decide) (by decide) (by decide) (by decide) (by decide) (by decide)) ?_
  intro v25 h4 hh4 r25
  change (rpT (rpQ 2)).Is h4 v25 (T3.mk (((0 : Int) : Int) : Rat) (((0 : Int) : Int) : Rat) (((1 : Int) : Int) : Rat)) at r25
  refine xX (F := fun v_ => (rpP (rpT (rpQ 2)) (rpQ 1)).Is h4 v_ ((T3.mk (((0 : Int) : Int) : Rat) (((0 : Int) : Int) : Rat) (((1 : Int) : Int) : Rat)), (0 : Rat))) (ox_build (ps' := [(0, _)]) underlying34 info34 rfl rfl (places34 underlying34) e2z rfl (zr_p (wO (wB (by decide))) (wB (by decide))) (yZ rfl (Pc.fst (Pc.here _)) r25 wH)) vQ rfl ?_
  intro v26 r26
  refine asg rfl rfl ?_
  replace rb3 := rb3.mono ((((((hg11.trans hg15).trans hg17).trans hh1).trans hh2).trans hh3).trans hh4)
  refine wW (A := [_]) (F := fun c_ => (rpP (rpT (rpQ 2)) (rpQ 2)).R h4 c_ ((T3.mk (((0 : Int) : Int) : Rat) (((0 : Int) : Int) : Rat) (((1 : Int) : Int) : Rat)), (0 : Rat))) (yJ sizeOf34 (Pc.here _) rfl rfl rfl rb3 (r26.le (Le.p (Le.refl _) (Le.q (l := 2) (by decide)))) rfl) ?_
  intro cs_4 rb_5
  refine zD (zB (zQ (zV (uZ (rv_o (t := 3) kH mh1 rfl rb_5) ?_))))
  intro w_6 hvw_6 rr_7
  refine gq_res_own (fun E S => run_res2 rfl (rv_tmp rfl) hvw_6 E S) ?_
  replace r24 := r24.mono hh4
  exact ⟨_, (.cons _ (.cons _ (List.Sublist.refl _))), ((((((hg11.trans hg15).trans hg17).trans hh1).trans hh2).trans hh3).trans hh4), _, _, _, _, _, rfl, by omega, (by first | exact ⟨⟨⟨sq0_conv, sm_sq0⟩, sq0_edge⟩, by decide⟩ | exact ⟨hsm, by omega⟩), rfl, r24, rr_7⟩
 have hnz : ¬ p11.1 = zT := fun e => (Classical.not_not.1 hc23) (.inr e)
 have hsp : ∀ q, q < [p15, p17].length → spP (gp [p15, p17] q) := fun q hq => by have hq' : q = 0 ∨ q = 1 := (by have : q < 2 := hq; omega); rcases hq' with rfl | rfl; exact hx15; exact hx17
 refine zK (zB (zC (zC (zA (mv rfl rfl ?_)))))
 replace hl := hl.mono ((hg17.trans hh1).trans hh2)
 refine uO (A := [_, _]) (vs := [_, vI (4)]) call22 e2z (fun X w hs => dice_next hl (by first | omega | exact Nat.zero_le _) (by omega) (by omega) hs) rfl ?_
 intro v28 g28 q28 hg28 hr28
 obtain ⟨k28, z28, rfl, hk28, rfl, hz28, hy28⟩ := hr28
 refine asg rfl rfl (zD (zB (zP ?_)))
 refine wE (ι := Nat × List (T3 Rat) × Value × Nat × Mem) (fun (n, lv, u5_8, kd_10, ma) => MLe g28 ma ∧ ((rpS (rpT (rpQ 2))).Is ma u5_8 lv ∧ kd_10 ≤ xs.length ∧ ((n = 3 ∧ lv.length ≤ 4) ∨ (n ≤ 2 ∧ lv.length ≤ 8) ∨ (n ≤ 1 ∧ lv.length ≤ 16) ∨ (n = 0 ∧ lv.length ≤ 32)) ∧ smP p11 lv)) (fun (n, lv, u5_8, kd_10, ma) => [(0, vP b 0), (3, vP b3 0), (4, vP b4 0), (5, u5_8), (7, vI ↑n)]) (fun (n, lv, u5_8, kd_10, ma) => (.var b4 34 cs_1 :: .var b3 34 cs3 :: .var b 65 [vl, vI ↑kd_10] :: L)) (fun (n, lv, u5_8, kd_10, ma) => ma) (fun (n, lv, u5_8, kd_10, ma) => n) (z28.toNat, (aroZ p11 [p15, p17]), v19_0, k28, g28) ?_ ⟨?_, ?_, ?_, ?_, ?_, trivial⟩ rfl rfl ?_
 ·
  refine ⟨MLe.refl _, ?_⟩
  replace r19_0 := r19_0.mono hg28
  refine ⟨(l_tight r19_0 (smP.sh ⟨⟨(aro_conv (by simp) hnz).1, hx11⟩, aro_edge (by simp) hnz hsp⟩)), (by omega), ?_⟩
  exact ⟨by have := (aro_conv (s := p11) (ps := [p15, p17]) (by simp) hnz).2; omega, ⟨⟨(aro_conv (by simp) hnz).1, hx11⟩, aro_edge (by simp) hnz hsp⟩⟩
 · exact rfl
 · exact rfl
 · exact rfl
 · exact rfl
 · exact congrArg (fun z => some (vI z)) (by omega)
 intro x hx
 obtain ⟨n, lv, u5_8, kd_10, ma⟩ := x
 obtain ⟨hmma, hinv⟩ := hx
 show GC _ _ _ _ _ _ [(0, vP b 0), (3, vP b3 0), (4, vP b4 0), (5, u5_8), (7, vI ↑n)] (.var b4 34 cs_1 :: .var b3 34 cs3 :: .var b 65 [vl, vI ↑kd_10] :: L) ma
 obtain ⟨ru_9, hkd_11, hinv⟩ := hinv
 obtain ⟨hnk, hsm⟩ := hinv
 refine zC (zC (zA (mv rfl rfl (gv (uH (q := 0) rfl rfl) rfl (zD (zB ?_))))))
 refine zN rfl (fun hc30 => ?_) (fun hc30 => ?_)
 ·
  refine zK (zB (zC (zP (zC (zA (mv rfl rfl (mv rfl rfl ?_)))))))
  replace hl := hl.mono (hg28.trans hmma)
  refine uO (A := [_, _]) (vs := [_]) call13 ⟨rfl, trivial⟩ (fun X w hs => o_dice_plane hl (by first | omega | exact Nat.zero_le _) hs) rfl ?_
  intro v36 g36 q36 hg36 hr36
  obtain ⟨k36, p36, rfl, hk36, hx36, hr36⟩ := hr36
  replace ru_9 := ru_9.mono hg36
  refine zO (vs := [_, _]) rfl rfl rfl rfl call15 e2z (fun w hs => o_r6_cut hs ru_9 hr36 (by decide) (by decide) (by decide) (by omega)) ?_
  intro v37 h3 hh3 r37
  obtain ⟨v37_0, v37_1, rfl, r37_0, r37_1⟩ := r37
  change (rpS (rpT (rpQ (12 * 2 + 3 * 2 + 9 * 2 + 62)))).Is h3 v37_0 (qA p36 lv) at r37_0
  replace r37_0 := Rp.Is.le r37_0 (Le.s (Le.t (Le.q (l := 110) (by omega))))
  change (rpS (rpT (rpQ (12 * 2 + 3 * 2 + 9 * 2 + 62)))).Is h3 v37_1 (uW p36 lv) at r37_1
  replace r37_1 := Rp.Is.le r37_1 (Le.s (Le.t (Le.q (l := 110) (by omega))))
  refine mv rfl rfl (gv (zL (vs := [_, _]) rfl rfl) rfl (gv (zL (vs := [_, _]) rfl rfl) rfl (asg rfl rfl (asg rfl rfl (zD (zJ (e' := [(0, _), (3, _), (4, _), (5, _), (7, _), (8, _)]) e6 (zB (zC (zA (mv rfl rfl (gv (wI underlying27 rfl r37_0) rfl (gv (uH (q := 0) rfl rfl) rfl (zD ?_)))))))))))))
  refine zB ?_
  refine zN rfl (fun hc42 => ?_) (fun hc42 => ?_)
  ·
   refine zA (mv rfl rfl (asg rfl rfl (zD (xC (zB (zA (mv rfl rfl (gv (xO (q := 1) rfl rfl (by omega) (by omega)) rfl (asg rfl rfl (zD ?_))))))))))
   refine yV ((n - 1), (qA p36 lv), v37_0, k36, h3) ?_ ?_ ⟨rfl, rfl, rfl, rfl, ?_, trivial⟩ rfl rfl
   ·
    refine ⟨((hmma.trans hg36).trans hh3), ?_⟩
    refine ⟨(l_tight r37_0 (smP.sh (cutB_sm hsm hx36 (fun e => by rw [e] at hc42; exact absurd hc42 (by decide))))), (by omega), ?_⟩
    exact ⟨by have := cutB_len p36 lv; omega, (cutB_sm hsm hx36 (fun e => by rw [e] at hc42; exact absurd hc42 (by decide)))⟩
   ·
    dsimp only
    omega
   · exact congrArg (fun z => some (vI z)) (by omega)
  refine zK (xC (zB (zA (mv rfl rfl (gv (xO (q := 1) rfl rfl (by omega) (by omega)) rfl (asg rfl rfl (zD ?_)))))))
  refine yV ((n - 1), lv, u5_8, k36, h3) ?_ ?_ ⟨rfl, rfl, rfl, rfl, ?_, trivial⟩ rfl rfl
  ·
   refine ⟨((hmma.trans hg36).trans hh3), ?_⟩
   replace ru_9 := ru_9.mono hh3
   refine ⟨ru_9, (by omega), ?_⟩
   exact ⟨by omega, hsm⟩
  ·
   dsimp only
   omega
  · exact congrArg (fun z => some (vI z)) (by omega)
 refine xG (yB (yB (xF (zB (zC ?_)))))
 refine yF 3 _ [] [(0, .q), (1, .q), (2, .q), (3, .t)] xH nX (by kernel_rfl) nX (fun r hr => hr) (yH rfl rfl rfl ?_)
 replace rb_2 := rb_2.mono (((((hg15.trans hg17).trans hh1).trans hh2).trans hg28).trans hmma)
 refine yP (F := fun v_ => (rpP (rpT (rpQ 2)) (rpQ 2)).Is ma v_ p11) rfl (zE kH (Pc.here _) rfl rfl rb_2 rfl) (yD mh0) rfl ?_
 intro v45 r45
 refine uG rfl rfl rfl ?_
 replace rb3 := rb3.mono ((((((hg11.trans hg15).trans hg17).trans hh1).trans hh2).trans hg28).trans hmma)
 refine xR (A := [_]) (F := fun c_ => (rpP (rpT (rpQ 2)) (rpQ 2)).R ma c_ p11) rfl (yJ sizeOf34 (Pc.here _) rfl rfl rfl rb3 r45 rfl) ?_
 intro cs_12 rb_13
 refine xB (zB (zQ (uZ (rv_o (t := 3) kH mh1 rfl rb_13) ?_)))
 intro w_14 hvw_14 rr_15
 refine gq_res_own (fun E S => run_res2 rfl (rv_tmp rfl) hvw_14 E S) ?_
 exact ⟨_, (.cons _ (.cons _ (List.Sublist.refl _))), ((((((hg11.trans hg15).trans hg17).trans hh1).trans hh2).trans hg28).trans hmma), _, _, _, _, _, rfl, by omega, (by first | exact ⟨⟨⟨sq0_conv, sm_sq0⟩, sq0_edge⟩, by decide⟩ | exact ⟨hsm, by omega⟩), rfl, ru_9, rr_15⟩
theorem o_r6_centre_l {w0 : World} {h0 : Mem}  (hs : MLe h0 (mem w0)) {k : Nat} {vl : Value} {l : (List (T3 Rat))} (rl : (rpS (rpT (rpQ k))).Is h0 vl l) (hcd0 : k ≤ 100000) (hcd1 : l.length ≤ 256)  :
    Calls Tryz.prog 18 #[vl] w0 (Ret w0 h0 (fun h r => (rpT (rpQ (300 * k + 1000))).Is h r (cenZ l))) := by
 refine zM (n := 33) (e := [(0, vl)]) (vs := [vl]) func18 rfl rfl (bL rfl) hs ⟨rfl, trivial⟩ (zC (zA (zI (yR (ρ := (rpT (rpQ 2))) (X := zT) yL rfl rfl (wO (wB (by decide)))) rfl rfl rfl ?_)))
 intro v2 q2 hq2
 obtain ⟨b2, cs2, rfl, rfl, rb2⟩ := hq2
 refine zD (zB (zC (zC (zA (mv rfl rfl (gv (wI underlying27 rfl rl) rfl (gv (xU (q := 0) rfl rfl) rfl (zD (zB ?_)))))))))
 refine zN rfl (fun hc9 => ?_) (fun hc9 => ?_)
 ·
  have hz : l.length = 0 := by omega
  refine zC (zA (xX (F := fun v_ => (rpT (rpQ 1)).Is h0 v_ zT) (wP (ps' := []) underlying32 yL rfl rfl sizeOf30 trivial rfl (wO (wB (by decide))) wH) vQ rfl ?_))
  intro v10 r10
  refine wW (A := []) (F := fun c_ => (rpT (rpQ 2)).R h0 c_ zT) (yJ sizeOf32 (Pc.here _) rfl rfl rfl rb2 (r10.le (Le.t (Le.q (l := 2) (by decide)))) rfl) ?_
  intro cs_16 rb_17
  refine zD (zB (zQ (zV (uZ (rv_o (t := 2) xJ mh0 rfl rb_17) ?_))))
  intro w_18 hvw_18 rr_19
  refine xQ (fun E S => yS rfl hvw_18 E S) ?_
  exact (Rp.Is.cast (Rp.Is.le rr_19 (Le.t (Le.q (l := 300 * k + 1000) (by omega)))) (by exact (if_pos hz).symm))
 have hz : ¬ l.length = 0 := by omega
 refine zK (zB (zC (zA (xX (F := fun v_ => (rpT (rpQ 1)).Is h0 v_ zT) (wP (ps' := []) underlying32 yL rfl rfl sizeOf30 trivial rfl (wO (wB (by decide))) wH) vQ rfl ?_))))
 intro v11 r11
 refine zI (yR (ρ := (rpT (rpQ 1))) (X := zT) yL rfl rfl (wO (wB (by decide)))) rfl rfl rfl ?_
 intro v3 q3 hq3
 obtain ⟨b3, cs3, rfl, rfl, rb3⟩ := hq3
 refine wW (A := []) (F := fun c_ => (rpT (rpQ 1)).R h0 c_ zT) (yJ sizeOf32 (Pc.here _) rfl rfl rfl rb3 r11 rfl) ?_
 intro cs_20 rb_21
 refine zD (zB (zC (zC (zA (asg (v := vI (0)) rfl rfl (zD (zB (zP ?_))))))))
 refine wE (ι := Nat × Nat × List Value × Mem) (fun (i, q, cs_22, ma) => MLe h0 ma ∧ ((rpT (rpQ q)).R ma cs_22 (sumT l i) ∧ i ≤ l.length ∧ q ≤ (k + 1) * i + 1)) (fun (i, q, cs_22, ma) => [(0, vl), (2, vP b2 0), (3, vP b3 0), (4, vI ↑i)]) (fun (i, q, cs_22, ma) => [.var b3 32 cs_22, .var b2 32 cs2]) (fun (i, q, cs_22, ma) => ma) (fun (i, q, cs_22, ma) => l.length - i) (0, 1, cs_20, h0) ?_ e4z rfl rfl ?_
 ·
  refine ⟨MLe.refl _, ?_⟩
  refine ⟨rb_21, ?_⟩
  exact ⟨by omega, by omega⟩
 intro x hx
 obtain ⟨i, q, cs_22, ma⟩ := x
 obtain ⟨hmma, hinv⟩ := hx
 show GC _ _ _ _ _ _ [(0, vl), (2, vP b2 0), (3, vP b3 0), (4, vI ↑i)] [.var b3 32 cs_22, .var b2 32 cs2] ma
 obtain ⟨rb_23, hinv⟩ := hinv
 obtain ⟨hi1, hq1⟩ := hinv
 have hq2 := Nat.mul_le_mul_left (k + 1) (show i ≤ 256 by omega)
 refine zC (zC (zA (mv rfl rfl (mv rfl rfl ?_))))
 replace rl := rl.mono hmma
 refine gv (wI underlying27 rfl rl) rfl (gv (zW rfl rfl) rfl (zD (zB ?_)))
 refine zN rfl (fun hc15 => ?_) (fun hc15 => ?_)
 ·
  refine zK (zB (zC (zP ?_)))
  refine yF 6 _ [] [(0, .q), (1, .q), (2, .q), (3, .q), (4, .q), (5, .c), (6, .t)] xH nX (by kernel_rfl) nX (fun r hr => hr) (yP (F := fun v_ => (rpT (rpQ q)).Is ma v_ (sumT l i)) rfl (zE xJ (Pc.here _) rfl rfl rb_23 rfl) (yD mh0) rfl ?_)
  intro v18 r18
  refine yH rfl rfl rfl (yH rfl rfl rfl (yP (F := fun v_ => AtP (rpT (rpQ k)) ma v_ (l.getD i zT)) rfl (vJ zT i underlying27 xJ rfl rfl rl rfl (by omega) p9N) vQ rfl ?_))
  intro v21 r21
  refine yP (F := fun v_ => (rpT (rpQ k)).Is ma v_ (l.getD i zT)) rfl (wG xJ rfl r21) vQ rfl ?_
  intro v22 r22
  refine w_c rfl ?_
  refine zY (vs := [_, _]) call19 e2z (fun w hs => o_s4_add hs r18 r22 (by omega)) rfl ?_
  intro v23 h1 hh1 r23
  change (rpT (rpQ (q + k + 1))).Is h1 v23 (T3.mk ((sumT l i).x + (l.getD i zT).x) ((sumT l i).y + (l.getD i zT).y) ((sumT l i).z + (l.getD i zT).z)) at r23
  replace r23 := Rp.Is.le r23 (Le.t (Le.q (l := k + q + 1) (by omega)))
  replace rb_23 := rb_23.mono hh1
  have rw_24 := (Le.t (Le.q (l := k + q + 1) (by omega))).R rb_23
  refine xR (A := []) (F := fun c_ => (rpT (rpQ (k + q + 1))).R h1 c_ (T3.mk ((sumT l i).x + (l.getD i zT).x) ((sumT l i).y + (l.getD i zT).y) ((sumT l i).z + (l.getD i zT).z))) rfl (yJ sizeOf32 (Pc.here _) rfl rfl rfl rw_24 r23 rfl) ?_
  intro cs_25 rb_26
  refine xB (xC (zJ (e' := [(0, _), (2, _), (3, _), (4, _)]) e4z (zB (zA (mv rfl rfl (gv (zS (q := 1) rfl rfl (by omega) (by omega)) rfl (asg rfl rfl (zD ?_))))))))
  refine yV ((i + 1), (q + (k + 1)), cs_25, h1) ?_ ?_ e4z rfl rfl
  ·
   refine ⟨(hmma.trans hh1), ?_⟩
   refine ⟨(Rp.castR (Le.R (Le.t (Le.q (l := q + (k + 1)) (by omega))) rb_26) rfl), ?_⟩
   exact ⟨by omega, by rw [Nat.mul_succ]; omega⟩
  dsimp only
  omega
 have ei : i = l.length := by omega
 have hq2 := Nat.mul_le_mul_left (k + 1) (show i ≤ 256 by omega)
 refine xG (yB (yB (xF (zB (zC (zA (mv rfl rfl (gv (wI underlying27 rfl rl) rfl ?_))))))))
 refine zO (vs := [vI (1), _]) rfl rfl rfl rfl call52 e2z (fun w hs => o_rref_make hs (by decide) (by decide) (by omega) (by omega)) ?_
 intro v27 h1 hh1 r27
 obtain ⟨v27_0, rfl, r27_0⟩ := r27
 change (rpQ 2).Is h1 v27_0 (qR (1 : Int) (↑(l).length : Int)) at r27_0
 refine mv rfl rfl (gv (zL (vs := [_, _]) rfl rfl) rfl (gv (zL (vs := [_, _]) rfl rfl) rfl (zI (yR (ρ := (rpQ 2)) (X := (0 : Rat)) wT rfl rfl (wB (by decide))) rfl rfl rfl ?_)))
 intro v5 q5 hq5
 obtain ⟨b5, cs5, rfl, rfl, rb5⟩ := hq5
 refine wW (A := []) (F := fun c_ => (rpQ 2).R h1 c_ (qR (1 : Int) (↑(l).length : Int))) (yJ sizeOf30 (Pc.here _) rfl rfl rfl rb5 r27_0 rfl) ?_
 intro cs_27 rb_28
 refine asg rfl rfl (zD (zJ (e' := [(2, _), (3, _), (5, _)]) e3z (zB (zC (zA (xX (F := fun v_ => (rpQ 2).Is h1 v_ (qR (1 : Int) (↑(l).length : Int))) (zE xS (Pc.here _) rfl rfl rb_28 rfl) (yD mh0) rfl ?_))))))
 intro v30 r30
 replace rb_23 := rb_23.mono hh1
 refine xX (F := fun v_ => (rpT (rpQ q)).Is h1 v_ (sumT l i)) (zE xJ (Pc.here _) rfl rfl rb_23 rfl) (yD mh1) rfl ?_
 intro v31 r31
 refine zO (vs := [_, _]) rfl rfl rfl rfl call20 e2z (fun w hs => o_s4_scale hs r30 r31 (by omega)) ?_
 intro v32 h2 hh2 r32
 change (rpT (rpQ (q + 2))).Is h2 v32 (T3.mk ((qR (1 : Int) (↑(l).length : Int)) * (sumT l i).x) ((qR (1 : Int) (↑(l).length : Int)) * (sumT l i).y) ((qR (1 : Int) (↑(l).length : Int)) * (sumT l i).z)) at r32
 replace rb2 := rb2.mono ((hmma.trans hh1).trans hh2)
 have rw_29 := (Le.t (Le.q (l := q + 2) (by omega))).R rb2
 refine wW (A := [_, _]) (F := fun c_ => (rpT (rpQ (q + 2))).R h2 c_ (T3.mk ((qR (1 : Int) (↑(l).length : Int)) * (sumT l i).x) ((qR (1 : Int) (↑(l).length : Int)) * (sumT l i).y) ((qR (1 : Int) (↑(l).length : Int)) * (sumT l i).z))) (yJ sizeOf32 (Pc.here _) rfl rfl rfl rw_29 r32 rfl) ?_
 intro cs_30 rb_31
 refine zD (zB (zQ (uZ (rv_o (t := 2) xJ mh2 rfl rb_31) ?_)))
 intro w_32 hvw_32 rr_33
 refine xQ (fun E S => yS rfl hvw_32 E S) ?_
 exact (Rp.Is.cast (Rp.Is.le rr_33 (Le.t (Le.q (l := 300 * k + 1000) (by omega)))) (by rw [ei]; exact (if_neg hz).symm))
theorem o_law_vec {w0 : World} {h0 : Mem}  (hs : MLe h0 (mem w0)) {k : Nat} {vl : Value} {l : (List (T3 Rat))} (rl : (rpS (rpT (rpQ k))).Is h0 vl l) (hcd0 : k ≤ 10000) (hcd1 : l.length ≤ 256)  :
    Calls Tryz.prog 28 #[vl] w0 (Ret w0 h0 (fun h r => (rpT (rpQ (13000 * k + 13000))).Is h r (vecZ l))) := by
 refine zM (n := 34) (e := [(0, vl)]) (vs := [vl]) func28 rfl rfl (bL rfl) hs ⟨rfl, trivial⟩ (zC (zA (zI (yR (ρ := (rpT (rpQ 1))) (X := zT) yL rfl rfl (wO (wB (by decide)))) rfl rfl rfl ?_)))
 intro v2 q2 hq2
 obtain ⟨b2, cs2, rfl, rfl, rb2⟩ := hq2
 refine zD (zB (zC (zA (xX (F := fun v_ => (rpT (rpQ 1)).Is h0 v_ zT) (wP (ps' := []) underlying32 yL rfl rfl sizeOf30 trivial rfl (wO (wB (by decide))) wH) vQ rfl ?_))))
 intro v5 r5
 refine zI (yR (ρ := (rpT (rpQ 1))) (X := zT) yL rfl rfl (wO (wB (by decide)))) rfl rfl rfl ?_
 intro v3 q3 hq3
 obtain ⟨b3, cs3, rfl, rfl, rb3⟩ := hq3
 refine wW (A := []) (F := fun c_ => (rpT (rpQ 1)).R h0 c_ zT) (yJ sizeOf32 (Pc.here _) rfl rfl rfl rb3 r5 rfl) ?_
 intro cs_34 rb_35
 refine zD (zB (zC (zC (zA (asg (v := vI (1)) rfl rfl (zD (zB (zP ?_))))))))
 refine wE (ι := Nat × Nat × List Value × Mem) (fun (i, q, cs_36, ma) => MLe h0 ma ∧ ((rpT (rpQ q)).R ma cs_36 (vecTo l i) ∧ (i + 2 ≤ l.length ∨ i = 0) ∧ q ≤ (48 * k + 48) * i + 1)) (fun (i, q, cs_36, ma) => [(0, vl), (2, vP b2 0), (3, vP b3 0), (4, vI (↑i + 1))]) (fun (i, q, cs_36, ma) => [.var b3 32 cs_36, .var b2 32 cs2]) (fun (i, q, cs_36, ma) => ma) (fun (i, q, cs_36, ma) => l.length - i) (0, 1, cs_34, h0) ?_ ⟨?_, ?_, ?_, ?_, trivial⟩ rfl rfl ?_
 ·
  refine ⟨MLe.refl _, ?_⟩
  refine ⟨rb_35, ?_⟩
  exact ⟨by omega, by omega⟩
 · exact rfl
 · exact rfl
 · exact rfl
 · exact congrArg (fun z => some (vI z)) (by omega)
 intro x hx
 obtain ⟨i, q, cs_36, ma⟩ := x
 obtain ⟨hmma, hinv⟩ := hx
 show GC _ _ _ _ _ _ [(0, vl), (2, vP b2 0), (3, vP b3 0), (4, vI (↑i + 1))] [.var b3 32 cs_36, .var b2 32 cs2] ma
 obtain ⟨rb_37, hinv⟩ := hinv
 obtain ⟨hi1, hq1⟩ := hinv
 have hq2 := Nat.mul_le_mul_left (48 * k + 48) (show i ≤ 256 by omega)
 refine zC (zC (zA (mv rfl rfl (gv (zS (q := 1) rfl rfl (by omega) (by omega)) rfl (mv rfl rfl ?_)))))
 replace rl := rl.mono hmma
 refine gv (wI underlying27 rfl rl) rfl (gv (zW rfl rfl) rfl (zD (zB ?_)))
 refine zN rfl (fun hc10 => ?_) (fun hc10 => ?_)
 ·
  refine zK (zB (zC (zP ?_)))
  refine yF 20 _ [] [(0, .q), (1, .q), (2, .q), (3, .q), (4, .q), (5, .q), (6, .q), (7, .q), (9, .q), (10, .q), (11, .q), (12, .q), (13, .q), (14, .q), (15, .q), (16, .q), (8, .c), (17, .c), (18, .c), (19, .c), (20, .t)] xH nX (chk_of [0, 0, 0, 6, 8, 0, 32, 64, 144, 0, 0, 1024, 2560, 4096, 0, 16384, 32768, 73984, 131328, 262145, 1048575] [2097151, 2097151, 2097151, 2097145, 2097143, 2097151, 2097119, 2097087, 2097007, 2097151, 2097151, 2096127, 2094591, 2093055, 2097151, 2080767, 2064383, 2023423, 1965823, 1835006, 1572863] (by kernel_rfl)) nX (fun r hr => hr) (yP (F := fun v_ => (rpT (rpQ q)).Is ma v_ (vecTo l i)) rfl (zE xJ (Pc.here _) rfl rfl rb_37 rfl) (yD mh0) rfl ?_)
  intro v13 r13
  refine yH rfl rfl rfl (yH rfl rfl rfl (yP (F := fun v_ => AtP (rpT (rpQ k)) ma v_ (l.getD (i + 1) zT)) rfl (vJ zT (i + 1) underlying27 xJ rfl rfl rl (by omega) (by omega) p9N) vQ rfl ?_))
  intro v16 r16
  refine yP (F := fun v_ => (rpT (rpQ k)).Is ma v_ (l.getD (i + 1) zT)) rfl (wG xJ rfl r16) vQ rfl ?_
  intro v17 r17
  refine yH rfl rfl rfl (yP (F := fun v_ => AtP (rpT (rpQ k)) ma v_ (l.getD 0 zT)) rfl (vJ (q := 0) zT 0 underlying27 xJ rfl rfl rl rfl (by omega) p9N) vQ rfl ?_)
  intro v19 r19
  refine yP (F := fun v_ => (rpT (rpQ k)).Is ma v_ (l.getD 0 zT)) rfl (wG xJ rfl r19) vQ rfl ?_
  intro v20 r20
  refine yH rfl rfl rfl (yH rfl rfl rfl (yK rfl (fun _ _ => zS (q := 1) rfl rfl (by omega) (by omega)) rfl (yP (F := fun v_ => AtP (rpT (rpQ k)) ma v_ (l.getD (i + 2) zT)) rfl (vJ zT (i + 2) underlying27 xJ rfl rfl rl (by omega) (by omega) p9N) vQ rfl ?_)))
  intro v25 r25
  refine yP (F := fun v_ => (rpT (rpQ k)).Is ma v_ (l.getD (i + 2) zT)) rfl (wG xJ rfl r25) vQ rfl ?_
  intro v26 r26
  refine yH rfl rfl rfl (yP (F := fun v_ => AtP (rpT (rpQ k)) ma v_ (l.getD 0 zT)) rfl (vJ (q := 0) zT 0 underlying27 xJ rfl rfl rl rfl (by omega) p9N) vQ rfl ?_)
  intro v28 r28
  refine yP (F := fun v_ => (rpT (rpQ k)).Is ma v_ (l.getD 0 zT)) rfl (wG xJ rfl r28) vQ rfl ?_
  intro v29 r29
  refine w_c rfl ?_
  refine zY (vs := [_, _]) call23 e2z (fun w hs => o_s4_sub hs r17 r20 (by omega)) rfl ?_
  intro v21 h1 hh1 r21
  change (rpT (rpQ (k + k + 1))).Is h1 v21 (T3.mk ((l.getD (i + 1) zT).x - (l.getD 0 zT).x) ((l.getD (i + 1) zT).y - (l.getD 0 zT).y) ((l.getD (i + 1) zT).z - (l.getD 0 zT).z)) at r21
  replace r21 := Rp.Is.le r21 (Le.t (Le.q (l := 2 * k + 1) (by omega)))
  refine w_c rfl ?_
  replace r26 := r26.mono hh1
  replace r29 := r29.mono hh1
  refine zY (vs := [_, _]) call23 e2z (fun w hs => o_s4_sub hs r26 r29 (by omega)) rfl ?_
  intro v30 h2 hh2 r30
  change (rpT (rpQ (k + k + 1))).Is h2 v30 (T3.mk ((l.getD (i + 2) zT).x - (l.getD 0 zT).x) ((l.getD (i + 2) zT).y - (l.getD 0 zT).y) ((l.getD (i + 2) zT).z - (l.getD 0 zT).z)) at r30
  replace r30 := Rp.Is.le r30 (Le.t (Le.q (l := 2 * k + 1) (by omega)))
  refine w_c rfl ?_
  replace r21 := r21.mono hh2
  refine zY (vs := [_, _]) call61 e2z (fun w hs => o_r4_cross hs r21 r30 (by omega)) rfl ?_
  intro v31 h3 hh3 r31
  change (rpT (rpQ (2 * (2 * k + 1) + 2 * (2 * k + 1) + 3))).Is h3 v31 (yW (T3.mk ((l.getD (i + 1) zT).x - (l.getD 0 zT).x) ((l.getD (i + 1) zT).y - (l.getD 0 zT).y) ((l.getD (i + 1) zT).z - (l.getD 0 zT).z)) (T3.mk ((l.getD (i + 2) zT).x - (l.getD 0 zT).x) ((l.getD (i + 2) zT).y - (l.getD 0 zT).y) ((l.getD (i + 2) zT).z - (l.getD 0 zT).z))) at r31
  replace r31 := Rp.Is.le r31 (Le.t (Le.q (l := 8 * k + 7) (by omega)))
  refine w_c rfl ?_
  replace r13 := r13.mono ((hh1.trans hh2).trans hh3)
  refine zY (vs := [_, _]) call19 e2z (fun w hs => o_s4_add hs r13 r31 (by omega)) rfl ?_
  intro v32 h4 hh4 r32
  change (rpT (rpQ (q + (8 * k + 7) + 1))).Is h4 v32 (T3.mk ((vecTo l i).x + (yW (T3.mk ((l.getD (i + 1) zT).x - (l.getD 0 zT).x) ((l.getD (i + 1) zT).y - (l.getD 0 zT).y) ((l.getD (i + 1) zT).z - (l.getD 0 zT).z)) (T3.mk ((l.getD (i + 2) zT).x - (l.getD 0 zT).x) ((l.getD (i + 2) zT).y - (l.getD 0 zT).y) ((l.getD (i + 2) zT).z - (l.getD 0 zT).z))).x) ((vecTo l i).y + (yW (T3.mk ((l.getD (i + 1) zT).x - (l.getD 0 zT).x) ((l.getD (i + 1) zT).y - (l.getD 0 zT).y) ((l.getD (i + 1) zT).z - (l.getD 0 zT).z)) (T3.mk ((l.getD (i + 2) zT).x - (l.getD 0 zT).x) ((l.getD (i + 2) zT).y - (l.getD 0 zT).y) ((l.getD (i + 2) zT).z - (l.getD 0 zT).z))).y) ((vecTo l i).z + (yW (T3.mk ((l.getD (i + 1) zT).x - (l.getD 0 zT).x) ((l.getD (i + 1) zT).y - (l.getD 0 zT).y) ((l.getD (i + 1) zT).z - (l.getD 0 zT).z)) (T3.mk ((l.getD (i + 2) zT).x - (l.getD 0 zT).x) ((l.getD (i + 2) zT).y - (l.getD 0 zT).y) ((l.getD (i + 2) zT).z - (l.getD 0 zT).z))).z)) at r32
  replace r32 := Rp.Is.le r32 (Le.t (Le.q (l := 8 * k + q + 8) (by omega)))
  replace rb_37 := rb_37.mono (((hh1.trans hh2).trans hh3).trans hh4)
  have rw_38 := (Le.t (Le.q (l := 8 * k + q + 8) (by omega))).R rb_37
  refine xR (A := []) (F := fun c_ => (rpT (rpQ (8 * k + q + 8))).R h4 c_ (T3.mk ((vecTo l i).x + (yW (T3.mk ((l.getD (i + 1) zT).x - (l.getD 0 zT).x) ((l.getD (i + 1) zT).y - (l.getD 0 zT).y) ((l.getD (i + 1) zT).z - (l.getD 0 zT).z)) (T3.mk ((l.getD (i + 2) zT).x - (l.getD 0 zT).x) ((l.getD (i + 2) zT).y - (l.getD 0 zT).y) ((l.getD (i + 2) zT).z - (l.getD 0 zT).z))).x) ((vecTo l i).y + (yW (T3.mk ((l.getD (i + 1) zT).x - (l.getD 0 zT).x) ((l.getD (i + 1) zT).y - (l.getD 0 zT).y) ((l.getD (i + 1) zT).z - (l.getD 0 zT).z)) (T3.mk ((l.getD (i + 2) zT).x - (l.getD 0 zT).x) ((l.getD (i + 2) zT).y - (l.getD 0 zT).y) ((l.getD (i + 2) zT).z - (l.getD 0 zT).z))).y) ((vecTo l i).z + (yW (T3.mk ((l.getD (i + 1) zT).x - (l.getD 0 zT).x) ((l.getD (i + 1) zT).y - (l.getD 0 zT).y) ((l.getD (i + 1) zT).z - (l.getD 0 zT).z)) (T3.mk ((l.getD (i + 2) zT).x - (l.getD 0 zT).x) ((l.getD (i + 2) zT).y - (l.getD 0 zT).y) ((l.getD (i + 2) zT).z - (l.getD 0 zT).z))).z))) rfl (yJ sizeOf32 (Pc.here _) rfl rfl rfl rw_38 r32 rfl) ?_
  intro cs_39 rb_40
  refine xB (xC (zJ (e' := [(0, _), (2, _), (3, _), (4, _)]) e4z (zB (zA (mv rfl rfl (gv (zS (q := 1) rfl rfl (by omega) (by omega)) rfl (asg rfl rfl (zD ?_))))))))
  refine yV ((i + 1), (q + (48 * k + 48)), cs_39, h4) ?_ ?_ ⟨rfl, rfl, rfl, ?_, trivial⟩ rfl rfl
  ·
   refine ⟨((((hmma.trans hh1).trans hh2).trans hh3).trans hh4), ?_⟩
   refine ⟨(Rp.castR (Le.R (Le.t (Le.q (l := q + (48 * k + 48)) (by omega))) rb_40) rfl), ?_⟩
   exact ⟨by omega, by rw [Nat.mul_succ]; omega⟩
  ·
   dsimp only
   omega
  · exact congrArg (fun z => some (vI z)) (by omega)
 have ei : i = l.length - 2 := by omega
 have hq2 := Nat.mul_le_mul_left (48 * k + 48) (show i ≤ 256 by omega)
 refine xG (yB (yB (xF (zB (zC (zA (xX (F := fun v_ => (rpT (rpQ q)).Is ma v_ (vecTo l i)) (zE xJ (Pc.here _) rfl rfl rb_37 rfl) (yD mh0) rfl ?_)))))))
 intro v33 r33
 replace rb2 := rb2.mono hmma
 have rw_41 := (Le.t (Le.q (l := q + 1) (by omega))).R rb2
 refine wW (A := [_]) (F := fun c_ => (rpT (rpQ (q + 1))).R ma c_ (vecTo l i)) (yJ sizeOf32 (Pc.here _) rfl rfl rfl rw_41 (r33.le (Le.t (Le.q (l := q + 1) (by omega)))) rfl) ?_
 intro cs_42 rb_43
 refine zD (zB (zQ (uZ (rv_o (t := 2) xJ mh1 rfl rb_43) ?_)))
 intro w_44 hvw_44 rr_45
 refine xQ (fun E S => yS rfl hvw_44 E S) ?_
 exact (Rp.Is.cast (Rp.Is.le rr_45 (Le.t (Le.q (l := 13000 * k + 13000) (by omega)))) (by rw [ei]; rfl))
end Go.Proofs.YtghhjjmjpeehdaaGreat
namespace Go.Proofs.YtghhjjmjpeehdaaGreat
open Bk Go Tryz
set_option linter.unusedVariables false
set_option linter.unusedSimpArgs false
set_option maxRecDepth 10000
theorem law26_convextiles {w0 : World} {h0 : Mem}  (hs : MLe h0 (mem w0)) {vl : Value} {xsl : List Int} (hl : Is h0 vl xsl) :
    Calls Tryz.prog 5 #[vl] w0 (Ret w0 h0 (fun _ r => r = .bool true)) := by
 have hlenl := hl.lt63
 refine zM (n := 81) (e := [(0, vl)]) (vs := [vl]) func5 rfl rfl (bL rfl) hs ⟨rfl, trivial⟩ (zC (zA (asg rfl rfl (zD (zB (zC (zC (zA (mv rfl rfl ?_)))))))))
 refine zO (vs := [_]) rfl rfl rfl rfl call9 ⟨rfl, trivial⟩ (fun w hs => made_light hs hl) ?_
 intro v12 h1 hh1 hr12
 subst hr12
 refine gv (gB rfl) rfl (zD (zB ?_))
 refine zN rfl (fun hc13 => ?_) (fun hc13 => ?_)
 ·
  refine zC (zA ?_)
  refine zO (vs := []) rfl rfl rfl rfl call10 trivial (fun w hs => law26_sane hs) ?_
  intro v14 h2 hh2 hr14
  subst hr14
  refine asg rfl rfl (zD (zB (zQ (zV (yC rfl rfl ?_)))))
  rfl
 refine zK (zB (zC (zA (mv rfl rfl ?_))))
 replace hl := hl.mono hh1
 refine gl_call_own (vs := [_]) rfl rfl rfl rfl call11 ⟨rfl, trivial⟩ (fun w hs => made_roll hs hl) ?_
 intro v16 h2 L16 hh2 hr16
 obtain ⟨b16, rfl, rfl⟩ := hr16
 refine asg rfl rfl (zD (zB (zC (zA (mv rfl rfl ?_)))))
 replace hl := hl.mono hh2
 refine uO (A := []) (vs := [_]) call12 ⟨rfl, trivial⟩ (fun X w hs => o_law_polysm hl (by first | omega | exact Nat.zero_le _) hs) rfl ?_
 intro v19 g19 q19 hg19 hr19
 obtain ⟨k19, u19_0, u19_1, p19, s19, rfl, hk19, hx19, rfl, ra19, rb19⟩ := hr19
 refine mv rfl rfl (gv (zL (vs := [_, _]) rfl rfl) rfl (gv (zL (vs := [_, _]) rfl rfl) rfl (zI (yR (ρ := (rpP (rpT (rpQ 1)) (rpQ 1))) (X := (zT, (0 : Rat))) info34 rfl rfl (zr_p (wO (wB (by decide))) (wB (by decide)))) rfl rfl rfl ?_)))
 intro v5 q5 hq5
 obtain ⟨b5, cs5, rfl, rfl, rb5⟩ := hq5
 refine asg rfl rfl ?_
 have rw_1 := (Le.p (Le.t (Le.q (l := 2) (by decide))) (Le.q (l := 2) (by decide))).R rb5
 refine wW (A := []) (F := fun c_ => (rpP (rpT (rpQ 2)) (rpQ 2)).R g19 c_ s19) (yJ sizeOf34 (Pc.here _) rfl rfl rfl rw_1 rb19 rfl) ?_
 intro cs_2 rb_3
 refine zD (zJ (e' := [(3, _), (5, _), (4, _)]) e3z (zB (zC (zA (mv rfl rfl (mv rfl rfl ?_))))))
 replace hl := hl.mono hg19
 refine uO (A := [_]) (vs := [_]) call13 ⟨rfl, trivial⟩ (fun X w hs => o_dice_plane hl (by first | omega | exact Nat.zero_le _) hs) rfl ?_
 intro v24 g24 q24 hg24 hr24
 obtain ⟨k24, p24, rfl, hk24, hx24, hr24⟩ := hr24
 refine mv rfl rfl ?_
 replace hl := hl.mono hg24
 refine uO (A := [_]) (vs := [_]) call13 ⟨rfl, trivial⟩ (fun X w hs => o_dice_plane hl (by first | omega | exact Nat.zero_le _) hs) rfl ?_
 intro v26 g26 q26 hg26 hr26
 obtain ⟨k26, p26, rfl, hk26, hx26, hr26⟩ := hr26
 refine mv rfl rfl ?_
 replace hl := hl.mono hg26
 refine uO (A := [_]) (vs := [_]) call13 ⟨rfl, trivial⟩ (fun X w hs => o_dice_plane hl (by first | omega | exact Nat.zero_le _) hs) rfl ?_
 intro v28 g28 q28 hg28 hr28
 obtain ⟨k28, p28, rfl, hk28, hx28, hr28⟩ := hr28
 replace hr24 := hr24.mono (hg26.trans hg28)
 replace hr26 := hr26.mono hg28
 refine zI (wA (ρ := (rpP (rpT (rpQ 2)) (rpQ 2))) (m := 3) (xs := [p24, p26, p28]) (ps' := [(0, _), (1, _), (2, _)]) underlying52 info34 rfl rfl rfl (zr_p (wO (wB (by decide))) (wB (by decide))) e6 (yZ rfl (Pc.arr (Pc.here _) (zT, (0 : Rat)) 0 (by decide)) hr24 (yZ rfl (Pc.arr (Pc.here _) (zT, (0 : Rat)) 1 (by decide)) hr26 (yZ rfl (Pc.arr (Pc.here _) (zT, (0 : Rat)) 2 (by decide)) hr28 wH))) (show 3 * 12 ≤ 16777216 from by decide) (show 0 < 12 from by decide)) rfl rfl rfl ?_
 intro v29 q29 hq29
 obtain ⟨cs29, rfl, rl29⟩ := hq29
 have hps : ∀ c, c ∈ [p24, p26, p28] → smN c := by intro c hc; simp only [List.mem_cons, List.not_mem_nil, or_false] at hc; rcases hc with rfl | rfl | rfl <;> assumption
 have hal := splitZ_all hx19.1 hps
 have hsl := splitZ_len (l := p19) (ps := [p24, p26, p28]) (show 3 ≤ 3 by decide)
 have hsm := splitZ_mem (l := p19) (ps := [p24, p26, p28]) (show 3 ≤ 3 by decide)
 have hgl := getD_le (L := (wS p19 [p24, p26, p28])) (n := 256) (fun x hx => Nat.le_trans (hsm x hx) (by have := hx19.2; omega))
 have hcv : ∀ x, x ∈ (wS p19 [p24, p26, p28]) → qJ s19 x := fun x hx => (hal.1 x hx).1.1
 refine qN (A := []) (ρ := (rpP (rpT (rpQ 2)) (rpQ 2))) rl29 ?_
 intro h3 hh3 rs_4
 replace ra19 := ra19.mono (((hg24.trans hg26).trans hg28).trans hh3)
 refine zO (vs := [_, _]) rfl rfl rfl rfl call27 e2z (fun w hs => o_cx_split hs ra19 rs_4 (by decide) (by first | omega | exact Nat.le_trans hx19.2 (by decide) | decide | exact Nat.le_refl 3) (by first | omega | exact Nat.le_trans hx19.2 (by decide) | decide | exact Nat.le_refl 3)) ?_
 intro v30 h4 hh4 r30
 change (rpS (rpS (rpT (rpQ 250000004)))).Is h4 v30 (wS p19 [p24, p26, p28]) at r30
 replace r30 : (rpS (rpS (rpT (rpQ 2)))).Is h4 v30 (wS p19 [p24, p26, p28]) := ll_tight r30 (fun x hx => (hal.1 x hx).sh)
 refine asg rfl rfl (zD (zJ (e' := [(5, _), (4, _), (6, _)]) e3z (zB (zC (zA (xX (F := fun v_ => (rpT (rpQ 1)).Is h4 v_ zT) (wP (ps' := []) underlying32 yL rfl rfl sizeOf30 trivial rfl (wO (wB (by decide))) wH) vQ rfl ?_))))))
 intro v31 r31
 refine zI (yR (ρ := (rpT (rpQ 1))) (X := zT) yL rfl rfl (wO (wB (by decide)))) rfl rfl rfl ?_
 intro v7 q7 hq7
 obtain ⟨b7, cs7, rfl, rfl, rb7⟩ := hq7
 refine wW (A := []) (F := fun c_ => (rpT (rpQ 1)).R h4 c_ zT) (yJ sizeOf32 (Pc.here _) rfl rfl rfl rb7 r31 rfl) ?_
 intro cs_5 rb_6
 refine zD (zB (zC (zC (zA (mv rfl rfl (gv (wI underlying50 rfl r30) rfl (mv (v := vI (0)) rfl rfl (zD (zB (zP ?_))))))))))
 refine wE (ι := Nat × Nat × List Value × Nat × Mem) (fun (i, q, cs_7, kd_9, ma) => MLe h4 ma ∧ ((rpT (rpQ q)).R ma cs_7 (vsTo (wS p19 [p24, p26, p28]) i) ∧ kd_9 ≤ xsl.length ∧ i ≤ (wS p19 [p24, p26, p28]).length ∧ q ≤ 117100 * i + 1)) (fun (i, q, cs_7, kd_9, ma) => [(4, u19_0), (5, vP b5 0), (6, v30), (7, vP b7 0), (33, vI (↑(wS p19 [p24, p26, p28]).length : Int)), (34, vI ↑i)]) (fun (i, q, cs_7, kd_9, ma) => [.var b7 32 cs_7, .var b5 34 cs_2, .var b16 65 [vl, vI ↑kd_9]]) (fun (i, q, cs_7, kd_9, ma) => ma) (fun (i, q, cs_7, kd_9, ma) => (wS p19 [p24, p26, p28]).length - i) (0, 1, cs_5, k28, h4) ?_ e6 rfl rfl ?_
 ·
  refine ⟨MLe.refl _, ?_⟩
  refine ⟨rb_6, (by omega), ?_⟩
  exact ⟨by omega, by omega⟩
 intro x hx
 obtain ⟨i, q, cs_7, kd_9, ma⟩ := x
 obtain ⟨hmma, hinv⟩ := hx
 show GC _ _ _ _ _ _ [(4, u19_0), (5, vP b5 0), (6, v30), (7, vP b7 0), (33, vI (↑(wS p19 [p24, p26, p28]).length : Int)), (34, vI ↑i)] [.var b7 32 cs_7, .var b5 34 cs_2, .var b16 65 [vl, vI ↑kd_9]] ma
 obtain ⟨rb_8, hkd_10, hinv⟩ := hinv
 obtain ⟨hi1, hq1⟩ := hinv
 have hgi := hgl i
 refine zC (zA (gv (zW rfl rfl) rfl (zD (zB (zC ?_)))))
 refine zN rfl (fun hc35 => ?_) (fun hc35 => ?_)
 ·
  refine zK (zB (zC (zP (zC (zA (mv rfl rfl (asg rfl rfl (zD (zB (zC ?_))))))))))
  refine yF 7 _ [] [(0, .q), (1, .q), (2, .q), (3, .q), (4, .q), (5, .c), (6, .c), (7, .t)] xH nX (by kernel_rfl) nX (fun r hr => hr) (yP (F := fun v_ => (rpT (rpQ q)).Is ma v_ (vsTo (wS p19 [p24, p26, p28]) i)) rfl (zE xJ (Pc.here _) rfl rfl rb_8 rfl) (yD mh0) rfl ?_)
  intro v37 r37
  refine yH rfl rfl rfl (yH rfl rfl rfl ?_)
  replace r30 := r30.mono hmma
  refine yP (F := fun v_ => AtP (rpS (rpT (rpQ 2))) ma v_ ((wS p19 [p24, p26, p28]).getD i [])) rfl (vJ [] i underlying50 ty27 rfl rfl r30 rfl (by omega) p1N) vQ rfl ?_
  intro v40 r40
  refine yP (F := fun v_ => (rpS (rpT (rpQ 2))).Is ma v_ ((wS p19 [p24, p26, p28]).getD i [])) rfl (wG ty27 rfl r40) vQ rfl ?_
  intro v41 r41
  refine w_c rfl ?_
  refine zY (vs := [_]) call28 ⟨rfl, trivial⟩ (fun w hs => o_law_vec hs r41 (by decide) (by omega)) rfl ?_
  intro v42 h5 hh5 r42
  change (rpT (rpQ (13000 * 2 + 13000))).Is h5 v42 (vecZ ((wS p19 [p24, p26, p28]).getD i [])) at r42
  replace r42 := Rp.Is.le r42 (Le.t (Le.q (l := 39000) (by omega)))
  refine w_c rfl ?_
  replace r37 := r37.mono hh5
  refine zY (vs := [_, _]) call19 e2z (fun w hs => o_s4_add hs r37 r42 (by omega)) rfl ?_
  intro v43 h6 hh6 r43
  change (rpT (rpQ (q + 39000 + 1))).Is h6 v43 (T3.mk ((vsTo (wS p19 [p24, p26, p28]) i).x + (vecZ ((wS p19 [p24, p26, p28]).getD i [])).x) ((vsTo (wS p19 [p24, p26, p28]) i).y + (vecZ ((wS p19 [p24, p26, p28]).getD i [])).y) ((vsTo (wS p19 [p24, p26, p28]) i).z + (vecZ ((wS p19 [p24, p26, p28]).getD i [])).z)) at r43
  replace r43 := Rp.Is.le r43 (Le.t (Le.q (l := q + 39001) (by omega)))
  replace rb_8 := rb_8.mono (hh5.trans hh6)
  have rw_11 := (Le.t (Le.q (l := q + 39001) (by omega))).R rb_8
  refine xR (A := []) (F := fun c_ => (rpT (rpQ (q + 39001))).R h6 c_ (T3.mk ((vsTo (wS p19 [p24, p26, p28]) i).x + (vecZ ((wS p19 [p24, p26, p28]).getD i [])).x) ((vsTo (wS p19 [p24, p26, p28]) i).y + (vecZ ((wS p19 [p24, p26, p28]).getD i [])).y) ((vsTo (wS p19 [p24, p26, p28]) i).z + (vecZ ((wS p19 [p24, p26, p28]).getD i [])).z))) rfl (yJ sizeOf32 (Pc.here _) rfl rfl rfl rw_11 r43 rfl) ?_
  intro cs_12 rb_13
  refine xB (zB (zC (zA (mv rfl rfl (mv rfl rfl ?_)))))
  replace r30 := r30.mono (hh5.trans hh6)
  refine xX (F := fun v_ => AtP (rpS (rpT (rpQ 2))) h6 v_ ((wS p19 [p24, p26, p28]).getD i [])) (vJ [] i underlying50 ty27 rfl rfl r30 rfl (by omega) p1N) vQ rfl ?_
  intro v46 r46
  refine xX (F := fun v_ => (rpS (rpT (rpQ 2))).Is h6 v_ ((wS p19 [p24, p26, p28]).getD i [])) (wG ty27 rfl r46) vQ rfl ?_
  intro v47 r47
  refine zO (vs := [_]) rfl rfl rfl rfl call18 ⟨rfl, trivial⟩ (fun w hs => o_r6_centre_l hs r47 (by decide) (by omega)) ?_
  intro v48 h7 hh7 r48
  change (rpT (rpQ (300 * 2 + 1000))).Is h7 v48 (cenZ ((wS p19 [p24, p26, p28]).getD i [])) at r48
  replace r48 := Rp.Is.le r48 (Le.t (Le.q (l := 1600) (by omega)))
  refine zI (yR (ρ := (rpT (rpQ 1600))) (X := zT) yL rfl rfl (wO (wB (by decide)))) rfl rfl rfl ?_
  intro v9 q9 hq9
  obtain ⟨b9, cs9, rfl, rfl, rb9⟩ := hq9
  refine wW (A := []) (F := fun c_ => (rpT (rpQ 1600)).R h7 c_ (cenZ ((wS p19 [p24, p26, p28]).getD i []))) (yJ sizeOf32 (Pc.here _) rfl rfl rfl rb9 r48 rfl) ?_
  intro cs_14 rb_15
  refine zD (zJ (e' := [(4, _), (5, _), (6, _), (7, _), (33, _), (34, _), (8, _), (9, _)]) e8 (zB (zC (zC ?_))))
  refine yF 7 _ [] [(0, .q), (1, .q), (2, .q), (3, .q), (4, .q), (5, .c), (6, .q)] xH nX (by kernel_rfl) nX (fun r hr => hr) (yH rfl rfl rfl (yH rfl rfl rfl ?_))
  replace r30 := r30.mono hh7
  refine yP (F := fun v_ => AtP (rpS (rpT (rpQ 2))) h7 v_ ((wS p19 [p24, p26, p28]).getD i [])) rfl (vJ [] i underlying50 ty27 rfl rfl r30 rfl (by omega) p1N) vQ rfl ?_
  intro v51 r51
  refine yP (F := fun v_ => (rpS (rpT (rpQ 2))).Is h7 v_ ((wS p19 [p24, p26, p28]).getD i [])) rfl (wG ty27 rfl r51) vQ rfl ?_
  intro v52 r52
  replace rb_3 := rb_3.mono ((((((((hg24.trans hg26).trans hg28).trans hh3).trans hh4).trans hmma).trans hh5).trans hh6).trans hh7)
  refine yP (F := fun v_ => (rpP (rpT (rpQ 2)) (rpQ 2)).Is h7 v_ s19) rfl (zE kH (Pc.here _) rfl rfl rb_3 rfl) (yD mh2) rfl ?_
  intro v53 r53
  refine w_c rfl ?_
  refine zY (vs := [_, _]) call17 e2z (fun w hs => o_r6_valid hs r52 r53 (by decide) (by decide) (by decide) (by first | omega | decide)) rfl ?_
  intro v54 h8 hh8 r54
  obtain rfl : v54 = .bool true := by rw [show v54 = vB (qJ s19 ((wS p19 [p24, p26, p28]).getD i [])) from r54, xL (by exact hcv _ (gd_mem (by omega)))]
  refine yK rfl (fun _ _ => ov_not_b rfl) rfl (xB (zB (qQ rfl (zK (zB (zC (zA (mv rfl rfl ?_))))))))
  replace r30 := r30.mono hh8
  refine gv (wI underlying50 rfl r30) rfl (mv (v := vI (0)) rfl rfl (zD (zB (zP ?_))))
  refine wE (ι := Nat × Nat × Mem) (fun (k, kd_16, mb) => MLe h8 mb ∧ (kd_16 ≤ xsl.length ∧ k ≤ (wS p19 [p24, p26, p28]).length)) (fun (k, kd_16, mb) => [(4, u19_0), (5, vP b5 0), (6, v30), (7, vP b7 0), (8, vI ↑i), (9, vP b9 0), (33, vI (↑(wS p19 [p24, p26, p28]).length : Int)), (34, vI ↑i), (57, vI (↑(wS p19 [p24, p26, p28]).length : Int)), (58, vI ↑k)]) (fun (k, kd_16, mb) => [.var b9 32 cs_14, .var b7 32 cs_12, .var b5 34 cs_2, .var b16 65 [vl, vI ↑kd_16]]) (fun (k, kd_16, mb) => mb) (fun (k, kd_16, mb) => (wS p19 [p24, p26, p28]).length - k) (0, kd_9, h8) ?_ e10 rfl rfl ?_
  ·
   refine ⟨MLe.refl _, ?_⟩
   refine ⟨(by omega), ?_⟩
   exact (by omega)
  intro x hx
  obtain ⟨k, kd_16, mb⟩ := x
  obtain ⟨hmmb, hinv⟩ := hx
  show GC _ _ _ _ _ _ [(4, u19_0), (5, vP b5 0), (6, v30), (7, vP b7 0), (8, vI ↑i), (9, vP b9 0), (33, vI (↑(wS p19 [p24, p26, p28]).length : Int)), (34, vI ↑i), (57, vI (↑(wS p19 [p24, p26, p28]).length : Int)), (58, vI ↑k)] [.var b9 32 cs_14, .var b7 32 cs_12, .var b5 34 cs_2, .var b16 65 [vl, vI ↑kd_16]] mb
  obtain ⟨hkd_17, hinv⟩ := hinv
  have hk1 := hinv
  have hgk := hgl k
  refine zC (zA (gv (zW rfl rfl) rfl (zD (zB (zC ?_)))))
  refine zN rfl (fun hc59 => ?_) (fun hc59 => ?_)
  ·
   refine zK (zB (zC (zP (zC (zA (mv rfl rfl (asg rfl rfl (zD (zB (zC ?_))))))))))
   refine yF 11 _ [] [(0, .q), (1, .q), (2, .q), (3, .q), (4, .q), (5, .q), (7, .q), (8, .q), (9, .q), (6, .c), (10, .q)] xH nX (by kernel_rfl) nX (fun r hr => hr) (yH rfl rfl rfl (yH rfl rfl rfl ?_))
   replace r30 := r30.mono hmmb
   refine yP (F := fun v_ => AtP (rpS (rpT (rpQ 2))) mb v_ ((wS p19 [p24, p26, p28]).getD k [])) rfl (vJ [] k underlying50 ty27 rfl rfl r30 rfl (by omega) p1N) vQ rfl ?_
   intro v63 r63
   refine yP (F := fun v_ => (rpS (rpT (rpQ 2))).Is mb v_ ((wS p19 [p24, p26, p28]).getD k [])) rfl (wG ty27 rfl r63) vQ rfl ?_
   intro v64 r64
   replace rb_15 := rb_15.mono (hh8.trans hmmb)
   refine yP (F := fun v_ => (rpT (rpQ 1600)).Is mb v_ (cenZ ((wS p19 [p24, p26, p28]).getD i []))) rfl (zE xJ (Pc.here _) rfl rfl rb_15 rfl) (yD mh0) rfl ?_
   intro v65 r65
   replace rb_3 := rb_3.mono (hh8.trans hmmb)
   refine yP (F := fun v_ => (rpP (rpT (rpQ 2)) (rpQ 2)).Is mb v_ s19) rfl (zE kH (Pc.here _) rfl rfl rb_3 rfl) (yD mh2) rfl ?_
   intro v66 r66
   refine yH rfl rfl rfl (yH rfl rfl rfl (yK rfl (fun _ _ => xU rfl rfl) rfl ?_))
   refine w_c rfl ?_
   refine zY (vs := [_, _, _]) call26 e3z (fun w hs => o_law_in hs r64 r65 r66 (by decide) (by decide) (by decide) (by decide) (by omega)) rfl ?_
   intro v67 h9 hh9 r67
   obtain rfl : v67 = vB (inP s19 ((wS p19 [p24, p26, p28]).getD k []) (cenZ ((wS p19 [p24, p26, p28]).getD i []))) := r67
   refine yK rfl (fun _ _ => OpV.fa (by exact fun e => e ((tiles_in hcv hal.2.1 (by omega) (by omega)).trans (by constructor <;> intro h <;> omega))) (ov_neq_b underlying4 rfl rfl)) rfl (xB (zJ (e' := [(4, _), (5, _), (6, _), (7, _), (8, _), (9, _), (33, _), (34, _), (57, _), (58, _), (71, _)]) e11 (zB (qQ rfl (zK (xC (zB (zA (gv (zS (q := 1) rfl rfl (by omega) (by omega)) rfl (mv rfl rfl (zD ?_)))))))))))
   refine yV ((k + 1), kd_16, h9) ?_ ?_ e10 rfl rfl
   ·
    refine ⟨(hmmb.trans hh9), ?_⟩
    refine ⟨(by omega), ?_⟩
    exact (by omega)
   dsimp only
   omega
  refine xG (yB (yB (xF (xC (zB (zA (gv (zS (q := 1) rfl rfl (by omega) (by omega)) rfl (mv rfl rfl (zD (wQ (A := []) ?_))))))))))
  refine yV ((i + 1), (q + 117100), cs_12, kd_16, mb) ?_ ?_ e6 rfl rfl
  ·
   refine ⟨(((((hmma.trans hh5).trans hh6).trans hh7).trans hh8).trans hmmb), ?_⟩
   replace rb_13 := rb_13.mono ((hh7.trans hh8).trans hmmb)
   refine ⟨(Rp.castR (Le.R (Le.t (Le.q (l := q + 117100) (by omega))) rb_13) rfl), (by omega), ?_⟩
   exact ⟨by omega, by omega⟩
  dsimp only
  omega
 have ei : i = (wS p19 [p24, p26, p28]).length := by omega
 refine xG (yB (yB (xF (zB (zC ?_)))))
 refine yF 8 _ [] [(0, .q), (1, .q), (2, .c), (3, .c), (4, .q), (5, .c), (6, .q), (7, .q)] xH nX (by kernel_rfl) nX (fun r hr => hr) (yP (F := fun v_ => (rpT (rpQ q)).Is ma v_ (vsTo (wS p19 [p24, p26, p28]) i)) rfl (zE xJ (Pc.here _) rfl rfl rb_8 rfl) (yD mh0) rfl ?_)
 intro v74 r74
 refine yH rfl rfl rfl ?_
 refine w_c rfl ?_
 replace ra19 := ra19.mono (hh4.trans hmma)
 refine zY (vs := [_]) call28 ⟨rfl, trivial⟩ (fun w hs => o_law_vec hs ra19 (by decide) (by first | omega | exact Nat.le_trans hx19.2 (by decide) | decide | exact Nat.le_refl 3)) rfl ?_
 intro v76 h5 hh5 r76
 change (rpT (rpQ (13000 * 2 + 13000))).Is h5 v76 (vecZ p19) at r76
 replace r76 := Rp.Is.le r76 (Le.t (Le.q (l := 39000) (by omega)))
 refine w_c rfl ?_
 replace r74 := r74.mono hh5
 refine zY (vs := [_, _]) call29 e2z (fun w hs => o_r4_same hs r74 r76 (by omega)) rfl ?_
 intro v77 h6 hh6 r77
 obtain rfl : v77 = .bool true := by rw [show v77 = vB ((vsTo (wS p19 [p24, p26, p28]) i) = (vecZ p19)) from r77, xL (by exact (by rw [ei]; exact splitZ_vs hx19.1 hps))]
 refine yH rfl rfl rfl ?_
 refine w_c rfl (s_on rfl rfl ?_)
 refine zY (vs := []) call10 trivial (fun w hs => law26_sane hs) rfl ?_
 intro v79 h7 hh7 hr79
 subst hr79
 refine yK rfl (fun _ _ => xM rfl rfl) rfl (uG rfl rfl rfl (xB (zJ (e' := [(2, _)]) ⟨rfl, trivial⟩ (zB (zQ (yC rfl rfl ?_))))))
 rfl
end Go.Proofs.YtghhjjmjpeehdaaGreat
