/- Texts that the proof needs, part 5. -/
import Derived.Test.YtghhjjmjpeehdaaGreatK4
namespace Go.Proofs.YtghhjjmjpeehdaaGreat
open Bk Go
set_option linter.unusedVariables false
set_option linter.unusedSimpArgs false
set_option maxRecDepth 10000
theorem w9 {w0 : World} {h0 : Mem} (hs : MLe h0 (mem w0)) {k l : Nat} {va : Value} {a : (T3 Rat)} (ra : (rpT (rpQ k)).Is h0 va a) {vb : Value} {b : (T3 Rat)} (rb : (rpT (rpQ l)).Is h0 vb b) (hcd0 : k + l ≤ 1000000000) : Calls Tryz.prog 19 #[va, vb] w0 (Ret w0 h0 (fun h r => (rpT (rpQ (k + l + 1))).Is h r (T3.mk (a.x + b.x) (a.y + b.y) (a.z + b.z)))) := by
  obtain ⟨a1, a2, a3⟩ := z5 ra
  obtain ⟨b1, b2, b3⟩ := z5 rb
  exact (o_r4_add hs ra rb hcd0).mono (jI fun h r x => mL x (by have := rY a.x b.x; show lq (a.x + b.x) ≤ _; omega) (by have := rY a.y b.y; show lq (a.y + b.y) ≤ _; omega) (by have := rY a.z b.z; show lq (a.z + b.z) ≤ _; omega))
theorem mZ {w0 : World} {h0 : Mem} (hs : MLe h0 (mem w0)) {k l : Nat} {va : Value} {a : (T3 Rat)} (ra : (rpT (rpQ k)).Is h0 va a) {vb : Value} {b : (T3 Rat)} (rb : (rpT (rpQ l)).Is h0 vb b) (hcd0 : k + l ≤ 1000000000) : Calls Tryz.prog 23 #[va, vb] w0 (Ret w0 h0 (fun h r => (rpT (rpQ (k + l + 1))).Is h r (T3.mk (a.x - b.x) (a.y - b.y) (a.z - b.z)))) := by
  obtain ⟨a1, a2, a3⟩ := z5 ra
  obtain ⟨b1, b2, b3⟩ := z5 rb
  exact (o_r4_sub hs ra rb hcd0).mono (jI fun h r x => mL x (by have := oR a.x b.x; show lq (a.x - b.x) ≤ _; omega) (by have := oR a.y b.y; show lq (a.y - b.y) ≤ _; omega) (by have := oR a.z b.z; show lq (a.z - b.z) ≤ _; omega))
theorem oA {w0 : World} {h0 : Mem} (hs : MLe h0 (mem w0)) {l k : Nat} {vq : Value} {q : Rat} (rq : (rpQ l).Is h0 vq q) {va : Value} {a : (T3 Rat)} (ra : (rpT (rpQ k)).Is h0 va a) (hcd0 : k + l ≤ 1000000000) : Calls Tryz.prog 20 #[vq, va] w0 (Ret w0 h0 (fun h r => (rpT (rpQ (k + l))).Is h r (T3.mk (q * a.x) (q * a.y) (q * a.z)))) := by
  obtain ⟨a1, a2, a3⟩ := z5 ra
  have hq := (of_q rq).2
  exact (o_r4_scale hs rq ra hcd0).mono (jI fun h r x => mL x (by have := oS q a.x; show lq (q * a.x) ≤ _; omega) (by have := oS q a.y; show lq (q * a.y) ≤ _; omega) (by have := oS q a.z; show lq (q * a.z) ≤ _; omega))
theorem o_each_add {w0 : World} {h0 : Mem}  (hs : MLe h0 (mem w0)) {k l : Nat} {va : Value} {a : (T3 Rat)} (ra : (rpT (rpQ k)).Is h0 va a) {vb : Value} {b : (T3 Rat)} (rb : (rpT (rpQ l)).Is h0 vb b) (hcd0 : k + l ≤ 10000000000)  :
    Calls Tryz.prog 115 #[va, vb, vF 71 []] w0 (Ret w0 h0 (fun h r => (rpT (rpQ (k + l + 1 + 1))).Is h r (T3.mk (a.x + b.x) (a.y + b.y) (a.z + b.z)))) := by
 refine zP (n := 24) (e := [(0, va), (1, vb), (2, vF 71 [])]) (vs := [va, vb, vF 71 []]) Tryz.func115 rfl rfl (Nat.le_of_ble_eq_true rfl) hs ⟨rfl, rfl, rfl, trivial⟩ (zC (zA (zK (yY (ρ := (rpT (rpQ k))) rfl ra) rfl rfl rfl ?_)))
 intro v3 q3 hq3
 obtain ⟨b3, cs3, rfl, rfl, rb3⟩ := hq3
 refine zK (yY (ρ := (rpT (rpQ l))) rfl rb) rfl rfl rfl ?_
 intro v4 q4 hq4
 obtain ⟨b4, cs4, rfl, rfl, rb4⟩ := hq4
 refine zK (yZ (ρ := (rpT (rpQ (k + l + 1 + 1)))) (X := (T3.mk (0 : Rat) 0 0)) yB rfl rfl (wI (wD (by omega)))) rfl rfl rfl ?_
 intro v6 q6 hq6
 obtain ⟨b6, cs6, rfl, rfl, rb6⟩ := hq6
 refine zD (zB (zC (zA (zK (yZ (ρ := (rpT (rpQ (k + l + 1 + 1)))) (X := (T3.mk (0 : Rat) 0 0)) yB rfl rfl (wI (wD (by omega)))) rfl rfl rfl ?_))))
 intro v7 q7 hq7
 obtain ⟨b7, cs7, rfl, rfl, rb7⟩ := hq7
 refine zD (zB (zC (zC (zA (mv (v := vI (0)) rfl rfl (zD (zB (zS (jS (zC (zA (gv (OpV.tr (by decide) (zW (q := 3) rfl rfl)) rfl (zD ?_)))))))))))))
 refine zB (zC (xR rfl (zL (zB (zC (zS (zC (zA (mv rfl rfl (asg rfl rfl (zD (zB ?_))))))))))))
 refine yI 10 _ [] [(0, .q), (1, .q), (2, .q), (3, .q), (4, .q), (5, .q), (6, .q), (7, .q), (8, .c), (9, .q), (10, .t)] xI (fun x hx => by cases hx) (by kernel_rfl) (fun x hx => by cases hx) (fun r hr => hr) (w_q rfl (fun h' L' hh hR => zG rfl) rfl (w_q rfl (fun h' L' hh hR => zG rfl) rfl (w_q rfl (fun h' L' hh hR => zG rfl) rfl (w_q rfl (fun h' L' hh hR => (zH (sz := 3) 0 Tryz.underlying32 Tryz.sizeOf30 rfl rfl rfl (by decide)).cv (show _ = vP b3 0 from congrArg (vP b3) (by rfl))) rfl (yR (F := fun v_ => (rpQ k).Is h0 v_ a.x) rfl (zE wA (Pc.tx (Pc.here _)) rfl rfl rb3 rfl) (yF (.tail _ (.tail _ (.tail _ (.head _))))) rfl ?_)))))
 intro v16u1 r16u1
 refine w_q rfl (fun h' L' hh hR => zG rfl) rfl (w_q rfl (fun h' L' hh hR => (zH (sz := 3) 0 Tryz.underlying32 Tryz.sizeOf30 rfl rfl rfl (by decide)).cv (show _ = vP b4 0 from congrArg (vP b4) (by rfl))) rfl (yR (F := fun v_ => (rpQ l).Is h0 v_ b.x) rfl (zE wA (Pc.tx (Pc.here _)) rfl rfl rb4 rfl) (yF (.tail _ (.tail _ (.head _)))) rfl ?_))
 intro v19u1 r19u1
 refine w_c rfl (tS (fM (vs := [_, _]) Tryz.call71 rfl ⟨rfl, rfl, trivial⟩) rfl (fun w hs => tZ hs r16u1 r19u1 (by omega)) ?_)
 intro v20u1 h1 hh1 r20u1
 change (rpQ (k + l + 1)).Is h1 v20u1 (a.x + b.x) at r20u1
 refine w_q rfl (fun h' L' hh hR => (zH (sz := 3) 0 Tryz.underlying32 Tryz.sizeOf30 rfl rfl rfl (by decide)).cv (show _ = vP b7 0 from congrArg (vP b7) (by rfl))) rfl ?_
 replace rb7 := rb7.mono hh1
 refine wF (A := []) (F := fun c_ => (rpT (rpQ (k + l + 1 + 1))).R h1 c_ (T3.mk (a.x + b.x) (0 : Rat) (0 : Rat))) rfl (yG Tryz.sizeOf30 (Pc.tx (Pc.here _)) rfl rfl rfl rb7 (r20u1.le (Le.q (l := k + l + 1 + 1) (by omega))) rfl) ?_
 intro cs_1 rb_2
 refine xB (yV (zJ (e' := [(2, _), (3, _), (4, _), (6, _), (7, _), (9, _)]) ⟨rfl, rfl, rfl, rfl, rfl, rfl, trivial⟩ (zB (zA (gv ((zQ (q := 1) rfl rfl (by omega) (by omega)).cv (show _ = vI (1) from rfl)) rfl (mv rfl rfl (zD (xU (zC (zA (gv (OpV.tr (by decide) (zW (q := 3) rfl rfl)) rfl (zD (zB ?_)))))))))))))
 refine zC (xR rfl (zL (zB (zC (zS (zC (zA (mv rfl rfl (asg rfl rfl (zD (zB ?_)))))))))))
 refine yI 10 _ [] [(0, .q), (1, .q), (2, .q), (3, .q), (4, .q), (5, .q), (6, .q), (7, .q), (8, .c), (9, .q), (10, .t)] xI (fun x hx => by cases hx) (by kernel_rfl) (fun x hx => by cases hx) (fun r hr => hr) (w_q rfl (fun h' L' hh hR => zG rfl) rfl (w_q rfl (fun h' L' hh hR => zG rfl) rfl (w_q rfl (fun h' L' hh hR => zG rfl) rfl (w_q rfl (fun h' L' hh hR => (zH (sz := 3) 1 Tryz.underlying32 Tryz.sizeOf30 rfl rfl rfl (by decide)).cv (show _ = vP b3 3 from congrArg (vP b3) (by rfl))) rfl ?_))))
 replace rb3 := rb3.mono hh1
 refine yR (F := fun v_ => (rpQ k).Is h1 v_ a.y) rfl (zE wA (Pc.ty (Pc.here _)) rfl rfl rb3 rfl) (yF (.tail _ (.tail _ (.tail _ (.head _))))) rfl ?_
 intro v16u2 r16u2
 refine w_q rfl (fun h' L' hh hR => zG rfl) rfl (w_q rfl (fun h' L' hh hR => (zH (sz := 3) 1 Tryz.underlying32 Tryz.sizeOf30 rfl rfl rfl (by decide)).cv (show _ = vP b4 3 from congrArg (vP b4) (by rfl))) rfl ?_)
 replace rb4 := rb4.mono hh1
 refine yR (F := fun v_ => (rpQ l).Is h1 v_ b.y) rfl (zE wA (Pc.ty (Pc.here _)) rfl rfl rb4 rfl) (yF (.tail _ (.tail _ (.head _)))) rfl ?_
 intro v19u2 r19u2
 refine w_c rfl (tS (fM (vs := [_, _]) Tryz.call71 rfl ⟨rfl, rfl, trivial⟩) rfl (fun w hs => tZ hs r16u2 r19u2 (by omega)) ?_)
 intro v20u2 h2 hh2 r20u2
 change (rpQ (k + l + 1)).Is h2 v20u2 (a.y + b.y) at r20u2
 refine w_q rfl (fun h' L' hh hR => (zH (sz := 3) 1 Tryz.underlying32 Tryz.sizeOf30 rfl rfl rfl (by decide)).cv (show _ = vP b7 3 from congrArg (vP b7) (by rfl))) rfl ?_
 replace rb_2 := rb_2.mono hh2
 refine wF (A := []) (F := fun c_ => (rpT (rpQ (k + l + 1 + 1))).R h2 c_ (T3.mk (a.x + b.x) (a.y + b.y) (0 : Rat))) rfl (yG Tryz.sizeOf30 (Pc.ty (Pc.here _)) rfl rfl rfl rb_2 (r20u2.le (Le.q (l := k + l + 1 + 1) (by omega))) rfl) ?_
 intro cs_3 rb_4
 refine xB (yV (zJ (e' := [(2, _), (3, _), (4, _), (6, _), (7, _), (9, _)]) ⟨rfl, rfl, rfl, rfl, rfl, rfl, trivial⟩ (zB (zA (gv ((zQ (q := 1) rfl rfl (by omega) (by omega)).cv (show _ = vI (2) from rfl)) rfl (mv rfl rfl (zD (xU (zC (zA (gv (OpV.tr (by decide) (zW (q := 3) rfl rfl)) rfl (zD (zB ?_)))))))))))))
 refine zC (xR rfl (zL (zB (zC (zS (zC (zA (mv rfl rfl (asg rfl rfl (zD (zB ?_)))))))))))
 refine yI 10 _ [] [(0, .q), (1, .q), (2, .q), (3, .q), (4, .q), (5, .q), (6, .q), (7, .q), (8, .c), (9, .q), (10, .t)] xI (fun x hx => by cases hx) (by kernel_rfl) (fun x hx => by cases hx) (fun r hr => hr) (w_q rfl (fun h' L' hh hR => zG rfl) rfl (w_q rfl (fun h' L' hh hR => zG rfl) rfl (w_q rfl (fun h' L' hh hR => zG rfl) rfl (w_q rfl (fun h' L' hh hR => (zH (sz := 3) 2 Tryz.underlying32 Tryz.sizeOf30 rfl rfl rfl (by decide)).cv (show _ = vP b3 6 from congrArg (vP b3) (by rfl))) rfl ?_))))
 replace rb3 := rb3.mono hh2
 refine yR (F := fun v_ => (rpQ k).Is h2 v_ a.z) rfl (zE wA (Pc.tz (Pc.here _)) rfl rfl rb3 rfl) (yF (.tail _ (.tail _ (.tail _ (.head _))))) rfl ?_
 intro v16u3 r16u3
 refine w_q rfl (fun h' L' hh hR => zG rfl) rfl (w_q rfl (fun h' L' hh hR => (zH (sz := 3) 2 Tryz.underlying32 Tryz.sizeOf30 rfl rfl rfl (by decide)).cv (show _ = vP b4 6 from congrArg (vP b4) (by rfl))) rfl ?_)
 replace rb4 := rb4.mono hh2
 refine yR (F := fun v_ => (rpQ l).Is h2 v_ b.z) rfl (zE wA (Pc.tz (Pc.here _)) rfl rfl rb4 rfl) (yF (.tail _ (.tail _ (.head _)))) rfl ?_
 intro v19u3 r19u3
 refine w_c rfl (tS (fM (vs := [_, _]) Tryz.call71 rfl ⟨rfl, rfl, trivial⟩) rfl (fun w hs => tZ hs r16u3 r19u3 (by omega)) ?_)
 intro v20u3 h3 hh3 r20u3
 change (rpQ (k + l + 1)).Is h3 v20u3 (a.z + b.z) at r20u3
 refine w_q rfl (fun h' L' hh hR => (zH (sz := 3) 2 Tryz.underlying32 Tryz.sizeOf30 rfl rfl rfl (by decide)).cv (show _ = vP b7 6 from congrArg (vP b7) (by rfl))) rfl ?_
 replace rb_4 := rb_4.mono hh3
 refine wF (A := []) (F := fun c_ => (rpT (rpQ (k + l + 1 + 1))).R h3 c_ (T3.mk (a.x + b.x) (a.y + b.y) (a.z + b.z))) rfl (yG Tryz.sizeOf30 (Pc.tz (Pc.here _)) rfl rfl rfl rb_4 (r20u3.le (Le.q (l := k + l + 1 + 1) (by omega))) rfl) ?_
 intro cs_5 rb_6
 refine xB (yV (zJ (e' := [(2, _), (3, _), (4, _), (6, _), (7, _), (9, _)]) ⟨rfl, rfl, rfl, rfl, rfl, rfl, trivial⟩ (zB (zA (gv ((zQ (q := 1) rfl rfl (by omega) (by omega)).cv (show _ = vI (3) from rfl)) rfl (mv rfl rfl (zD (xU (zC (zA (gv (OpV.fa (by decide) (zW (q := 3) rfl rfl)) rfl (zD (zB ?_)))))))))))))
 refine zC (vX rfl (xQ (yE (yE (xO (zB (zC (zA (wG (F := fun v_ => (rpT (rpQ (k + l + 1 + 1))).Is h3 v_ (T3.mk (a.x + b.x) (a.y + b.y) (a.z + b.z))) (zE xG (Pc.here _) rfl rfl rb_6 rfl) (yF (.head _)) rfl ?_)))))))))
 intro v23u4 r23u4
 replace rb6 := rb6.mono ((hh1.trans hh2).trans hh3)
 refine wE (A := [_]) (F := fun c_ => (rpT (rpQ (k + l + 1 + 1))).R h3 c_ (T3.mk (a.x + b.x) (a.y + b.y) (a.z + b.z))) (yG Tryz.sizeOf32 (Pc.here _) rfl rfl rfl rb6 r23u4 rfl) ?_
 intro cs_7 rb_8
 refine zD (zB (zR (uG (gF (t := 6) xG (.tail _ (.head _)) rfl rb_8) ?_)))
 intro w_9 hvw_9 rr_10
 refine xX (fun E S => yP rfl hvw_9 E S) ?_
 exact rr_10
theorem o_each_sub {w0 : World} {h0 : Mem}  (hs : MLe h0 (mem w0)) {k l : Nat} {va : Value} {a : (T3 Rat)} (ra : (rpT (rpQ k)).Is h0 va a) {vb : Value} {b : (T3 Rat)} (rb : (rpT (rpQ l)).Is h0 vb b) (hcd0 : k + l ≤ 10000000000)  :
    Calls Tryz.prog 115 #[va, vb, vF 70 []] w0 (Ret w0 h0 (fun h r => (rpT (rpQ (k + l + 1 + 1))).Is h r (T3.mk (a.x - b.x) (a.y - b.y) (a.z - b.z)))) := by
 refine zP (n := 24) (e := [(0, va), (1, vb), (2, vF 70 [])]) (vs := [va, vb, vF 70 []]) Tryz.func115 rfl rfl (Nat.le_of_ble_eq_true rfl) hs ⟨rfl, rfl, rfl, trivial⟩ (zC (zA (zK (yY (ρ := (rpT (rpQ k))) rfl ra) rfl rfl rfl ?_)))
 intro v3 q3 hq3
 obtain ⟨b3, cs3, rfl, rfl, rb3⟩ := hq3
 refine zK (yY (ρ := (rpT (rpQ l))) rfl rb) rfl rfl rfl ?_
 intro v4 q4 hq4
 obtain ⟨b4, cs4, rfl, rfl, rb4⟩ := hq4
 refine zK (yZ (ρ := (rpT (rpQ (k + l + 1 + 1)))) (X := (T3.mk (0 : Rat) 0 0)) yB rfl rfl (wI (wD (by omega)))) rfl rfl rfl ?_
 intro v6 q6 hq6
 obtain ⟨b6, cs6, rfl, rfl, rb6⟩ := hq6
 refine zD (zB (zC (zA (zK (yZ (ρ := (rpT (rpQ (k + l + 1 + 1)))) (X := (T3.mk (0 : Rat) 0 0)) yB rfl rfl (wI (wD (by omega)))) rfl rfl rfl ?_))))
 intro v7 q7 hq7
 obtain ⟨b7, cs7, rfl, rfl, rb7⟩ := hq7
 refine zD (zB (zC (zC (zA (mv (v := vI (0)) rfl rfl (zD (zB (zS (jS (zC (zA (gv (OpV.tr (by decide) (zW (q := 3) rfl rfl)) rfl (zD ?_)))))))))))))
 refine zB (zC (xR rfl (zL (zB (zC (zS (zC (zA (mv rfl rfl (asg rfl rfl (zD (zB ?_))))))))))))
 refine yI 10 _ [] [(0, .q), (1, .q), (2, .q), (3, .q), (4, .q), (5, .q), (6, .q), (7, .q), (8, .c), (9, .q), (10, .t)] xI (fun x hx => by cases hx) (by kernel_rfl) (fun x hx => by cases hx) (fun r hr => hr) (w_q rfl (fun h' L' hh hR => zG rfl) rfl (w_q rfl (fun h' L' hh hR => zG rfl) rfl (w_q rfl (fun h' L' hh hR => zG rfl) rfl (w_q rfl (fun h' L' hh hR => (zH (sz := 3) 0 Tryz.underlying32 Tryz.sizeOf30 rfl rfl rfl (by decide)).cv (show _ = vP b3 0 from congrArg (vP b3) (by rfl))) rfl (yR (F := fun v_ => (rpQ k).Is h0 v_ a.x) rfl (zE wA (Pc.tx (Pc.here _)) rfl rfl rb3 rfl) (yF (.tail _ (.tail _ (.tail _ (.head _))))) rfl ?_)))))
 intro v16u5 r16u5
 refine w_q rfl (fun h' L' hh hR => zG rfl) rfl (w_q rfl (fun h' L' hh hR => (zH (sz := 3) 0 Tryz.underlying32 Tryz.sizeOf30 rfl rfl rfl (by decide)).cv (show _ = vP b4 0 from congrArg (vP b4) (by rfl))) rfl (yR (F := fun v_ => (rpQ l).Is h0 v_ b.x) rfl (zE wA (Pc.tx (Pc.here _)) rfl rfl rb4 rfl) (yF (.tail _ (.tail _ (.head _)))) rfl ?_))
 intro v19u5 r19u5
 refine w_c rfl (tS (fM (vs := [_, _]) Tryz.call70 rfl ⟨rfl, rfl, trivial⟩) rfl (fun w hs => gT hs r16u5 r19u5 (by omega)) ?_)
 intro v20u5 h1 hh1 r20u5
 change (rpQ (k + l + 1)).Is h1 v20u5 (a.x - b.x) at r20u5
 refine w_q rfl (fun h' L' hh hR => (zH (sz := 3) 0 Tryz.underlying32 Tryz.sizeOf30 rfl rfl rfl (by decide)).cv (show _ = vP b7 0 from congrArg (vP b7) (by rfl))) rfl ?_
 replace rb7 := rb7.mono hh1
 refine wF (A := []) (F := fun c_ => (rpT (rpQ (k + l + 1 + 1))).R h1 c_ (T3.mk (a.x - b.x) (0 : Rat) (0 : Rat))) rfl (yG Tryz.sizeOf30 (Pc.tx (Pc.here _)) rfl rfl rfl rb7 (r20u5.le (Le.q (l := k + l + 1 + 1) (by omega))) rfl) ?_
 intro cs_11 rb_12
 refine xB (yV (zJ (e' := [(2, _), (3, _), (4, _), (6, _), (7, _), (9, _)]) ⟨rfl, rfl, rfl, rfl, rfl, rfl, trivial⟩ (zB (zA (gv ((zQ (q := 1) rfl rfl (by omega) (by omega)).cv (show _ = vI (1) from rfl)) rfl (mv rfl rfl (zD (xU (zC (zA (gv (OpV.tr (by decide) (zW (q := 3) rfl rfl)) rfl (zD (zB ?_)))))))))))))
 refine zC (xR rfl (zL (zB (zC (zS (zC (zA (mv rfl rfl (asg rfl rfl (zD (zB ?_)))))))))))
 refine yI 10 _ [] [(0, .q), (1, .q), (2, .q), (3, .q), (4, .q), (5, .q), (6, .q), (7, .q), (8, .c), (9, .q), (10, .t)] xI (fun x hx => by cases hx) (by kernel_rfl) (fun x hx => by cases hx) (fun r hr => hr) (w_q rfl (fun h' L' hh hR => zG rfl) rfl (w_q rfl (fun h' L' hh hR => zG rfl) rfl (w_q rfl (fun h' L' hh hR => zG rfl) rfl (w_q rfl (fun h' L' hh hR => (zH (sz := 3) 1 Tryz.underlying32 Tryz.sizeOf30 rfl rfl rfl (by decide)).cv (show _ = vP b3 3 from congrArg (vP b3) (by rfl))) rfl ?_))))
 replace rb3 := rb3.mono hh1
 refine yR (F := fun v_ => (rpQ k).Is h1 v_ a.y) rfl (zE wA (Pc.ty (Pc.here _)) rfl rfl rb3 rfl) (yF (.tail _ (.tail _ (.tail _ (.head _))))) rfl ?_
 intro v16u6 r16u6
 refine w_q rfl (fun h' L' hh hR => zG rfl) rfl (w_q rfl (fun h' L' hh hR => (zH (sz := 3) 1 Tryz.underlying32 Tryz.sizeOf30 rfl rfl rfl (by decide)).cv (show _ = vP b4 3 from congrArg (vP b4) (by rfl))) rfl ?_)
 replace rb4 := rb4.mono hh1
 refine yR (F := fun v_ => (rpQ l).Is h1 v_ b.y) rfl (zE wA (Pc.ty (Pc.here _)) rfl rfl rb4 rfl) (yF (.tail _ (.tail _ (.head _)))) rfl ?_
 intro v19u6 r19u6
 refine w_c rfl (tS (fM (vs := [_, _]) Tryz.call70 rfl ⟨rfl, rfl, trivial⟩) rfl (fun w hs => gT hs r16u6 r19u6 (by omega)) ?_)
 intro v20u6 h2 hh2 r20u6
 change (rpQ (k + l + 1)).Is h2 v20u6 (a.y - b.y) at r20u6
 refine w_q rfl (fun h' L' hh hR => (zH (sz := 3) 1 Tryz.underlying32 Tryz.sizeOf30 rfl rfl rfl (by decide)).cv (show _ = vP b7 3 from congrArg (vP b7) (by rfl))) rfl ?_
 replace rb_12 := rb_12.mono hh2
 refine wF (A := []) (F := fun c_ => (rpT (rpQ (k + l + 1 + 1))).R h2 c_ (T3.mk (a.x - b.x) (a.y - b.y) (0 : Rat))) rfl (yG Tryz.sizeOf30 (Pc.ty (Pc.here _)) rfl rfl rfl rb_12 (r20u6.le (Le.q (l := k + l + 1 + 1) (by omega))) rfl) ?_
 intro cs_13 rb_14
 refine xB (yV (zJ (e' := [(2, _), (3, _), (4, _), (6, _), (7, _), (9, _)]) ⟨rfl, rfl, rfl, rfl, rfl, rfl, trivial⟩ (zB (zA (gv ((zQ (q := 1) rfl rfl (by omega) (by omega)).cv (show _ = vI (2) from rfl)) rfl (mv rfl rfl (zD (xU (zC (zA (gv (OpV.tr (by decide) (zW (q := 3) rfl rfl)) rfl (zD (zB ?_)))))))))))))
 refine zC (xR rfl (zL (zB (zC (zS (zC (zA (mv rfl rfl (asg rfl rfl (zD (zB ?_)))))))))))
 refine yI 10 _ [] [(0, .q), (1, .q), (2, .q), (3, .q), (4, .q), (5, .q), (6, .q), (7, .q), (8, .c), (9, .q), (10, .t)] xI (fun x hx => by cases hx) (by kernel_rfl) (fun x hx => by cases hx) (fun r hr => hr) (w_q rfl (fun h' L' hh hR => zG rfl) rfl (w_q rfl (fun h' L' hh hR => zG rfl) rfl (w_q rfl (fun h' L' hh hR => zG rfl) rfl (w_q rfl (fun h' L' hh hR => (zH (sz := 3) 2 Tryz.underlying32 Tryz.sizeOf30 rfl rfl rfl (by decide)).cv (show _ = vP b3 6 from congrArg (vP b3) (by rfl))) rfl ?_))))
 replace rb3 := rb3.mono hh2
 refine yR (F := fun v_ => (rpQ k).Is h2 v_ a.z) rfl (zE wA (Pc.tz (Pc.here _)) rfl rfl rb3 rfl) (yF (.tail _ (.tail _ (.tail _ (.head _))))) rfl ?_
 intro v16u7 r16u7
 refine w_q rfl (fun h' L' hh hR => zG rfl) rfl (w_q rfl (fun h' L' hh hR => (zH (sz := 3) 2 Tryz.underlying32 Tryz.sizeOf30 rfl rfl rfl (by decide)).cv (show _ = vP b4 6 from congrArg (vP b4) (by rfl))) rfl ?_)
 replace rb4 := rb4.mono hh2
 refine yR (F := fun v_ => (rpQ l).Is h2 v_ b.z) rfl (zE wA (Pc.tz (Pc.here _)) rfl rfl rb4 rfl) (yF (.tail _ (.tail _ (.head _)))) rfl ?_
 intro v19u7 r19u7
 refine w_c rfl (tS (fM (vs := [_, _]) Tryz.call70 rfl ⟨rfl, rfl, trivial⟩) rfl (fun w hs => gT hs r16u7 r19u7 (by omega)) ?_)
 intro v20u7 h3 hh3 r20u7
 change (rpQ (k + l + 1)).Is h3 v20u7 (a.z - b.z) at r20u7
 refine w_q rfl (fun h' L' hh hR => (zH (sz := 3) 2 Tryz.underlying32 Tryz.sizeOf30 rfl rfl rfl (by decide)).cv (show _ = vP b7 6 from congrArg (vP b7) (by rfl))) rfl ?_
 replace rb_14 := rb_14.mono hh3
 refine wF (A := []) (F := fun c_ => (rpT (rpQ (k + l + 1 + 1))).R h3 c_ (T3.mk (a.x - b.x) (a.y - b.y) (a.z - b.z))) rfl (yG Tryz.sizeOf30 (Pc.tz (Pc.here _)) rfl rfl rfl rb_14 (r20u7.le (Le.q (l := k + l + 1 + 1) (by omega))) rfl) ?_
 intro cs_15 rb_16
 refine xB (yV (zJ (e' := [(2, _), (3, _), (4, _), (6, _), (7, _), (9, _)]) ⟨rfl, rfl, rfl, rfl, rfl, rfl, trivial⟩ (zB (zA (gv ((zQ (q := 1) rfl rfl (by omega) (by omega)).cv (show _ = vI (3) from rfl)) rfl (mv rfl rfl (zD (xU (zC (zA (gv (OpV.fa (by decide) (zW (q := 3) rfl rfl)) rfl (zD (zB ?_)))))))))))))
 refine zC (vX rfl (xQ (yE (yE (xO (zB (zC (zA (wG (F := fun v_ => (rpT (rpQ (k + l + 1 + 1))).Is h3 v_ (T3.mk (a.x - b.x) (a.y - b.y) (a.z - b.z))) (zE xG (Pc.here _) rfl rfl rb_16 rfl) (yF (.head _)) rfl ?_)))))))))
 intro v23u8 r23u8
 replace rb6 := rb6.mono ((hh1.trans hh2).trans hh3)
 refine wE (A := [_]) (F := fun c_ => (rpT (rpQ (k + l + 1 + 1))).R h3 c_ (T3.mk (a.x - b.x) (a.y - b.y) (a.z - b.z))) (yG Tryz.sizeOf32 (Pc.here _) rfl rfl rfl rb6 r23u8 rfl) ?_
 intro cs_17 rb_18
 refine zD (zB (zR (uG (gF (t := 6) xG (.tail _ (.head _)) rfl rb_18) ?_)))
 intro w_19 hvw_19 rr_20
 refine xX (fun E S => yP rfl hvw_19 E S) ?_
 exact rr_20
theorem o_each_mul {w0 : World} {h0 : Mem}  (hs : MLe h0 (mem w0)) {k l : Nat} {va : Value} {a : (T3 Rat)} (ra : (rpT (rpQ k)).Is h0 va a) {vb : Value} {b : (T3 Rat)} (rb : (rpT (rpQ l)).Is h0 vb b) (hcd0 : k + l ≤ 10000000000)  :
    Calls Tryz.prog 115 #[va, vb, vF 103 []] w0 (Ret w0 h0 (fun h r => (rpT (rpQ (k + l + 1))).Is h r (T3.mk (a.x * b.x) (a.y * b.y) (a.z * b.z)))) := by
 refine zP (n := 24) (e := [(0, va), (1, vb), (2, vF 103 [])]) (vs := [va, vb, vF 103 []]) Tryz.func115 rfl rfl (Nat.le_of_ble_eq_true rfl) hs ⟨rfl, rfl, rfl, trivial⟩ (zC (zA (zK (yY (ρ := (rpT (rpQ k))) rfl ra) rfl rfl rfl ?_)))
 intro v3 q3 hq3
 obtain ⟨b3, cs3, rfl, rfl, rb3⟩ := hq3
 refine zK (yY (ρ := (rpT (rpQ l))) rfl rb) rfl rfl rfl ?_
 intro v4 q4 hq4
 obtain ⟨b4, cs4, rfl, rfl, rb4⟩ := hq4
 refine zK (yZ (ρ := (rpT (rpQ (k + l + 1)))) (X := (T3.mk (0 : Rat) 0 0)) yB rfl rfl (wI (wD (by omega)))) rfl rfl rfl ?_
 intro v6 q6 hq6
 obtain ⟨b6, cs6, rfl, rfl, rb6⟩ := hq6
 refine zD (zB (zC (zA (zK (yZ (ρ := (rpT (rpQ (k + l + 1)))) (X := (T3.mk (0 : Rat) 0 0)) yB rfl rfl (wI (wD (by omega)))) rfl rfl rfl ?_))))
 intro v7 q7 hq7
 obtain ⟨b7, cs7, rfl, rfl, rb7⟩ := hq7
 refine zD (zB (zC (zC (zA (mv (v := vI (0)) rfl rfl (zD (zB (zS (jS (zC (zA (gv (OpV.tr (by decide) (zW (q := 3) rfl rfl)) rfl (zD ?_)))))))))))))
 refine zB (zC (xR rfl (zL (zB (zC (zS (zC (zA (mv rfl rfl (asg rfl rfl (zD (zB ?_))))))))))))
 refine yI 10 _ [] [(0, .q), (1, .q), (2, .q), (3, .q), (4, .q), (5, .q), (6, .q), (7, .q), (8, .c), (9, .q), (10, .t)] xI (fun x hx => by cases hx) (by kernel_rfl) (fun x hx => by cases hx) (fun r hr => hr) (w_q rfl (fun h' L' hh hR => zG rfl) rfl (w_q rfl (fun h' L' hh hR => zG rfl) rfl (w_q rfl (fun h' L' hh hR => zG rfl) rfl (w_q rfl (fun h' L' hh hR => (zH (sz := 3) 0 Tryz.underlying32 Tryz.sizeOf30 rfl rfl rfl (by decide)).cv (show _ = vP b3 0 from congrArg (vP b3) (by rfl))) rfl (yR (F := fun v_ => (rpQ k).Is h0 v_ a.x) rfl (zE wA (Pc.tx (Pc.here _)) rfl rfl rb3 rfl) (yF (.tail _ (.tail _ (.tail _ (.head _))))) rfl ?_)))))
 intro v16u9 r16u9
 refine w_q rfl (fun h' L' hh hR => zG rfl) rfl (w_q rfl (fun h' L' hh hR => (zH (sz := 3) 0 Tryz.underlying32 Tryz.sizeOf30 rfl rfl rfl (by decide)).cv (show _ = vP b4 0 from congrArg (vP b4) (by rfl))) rfl (yR (F := fun v_ => (rpQ l).Is h0 v_ b.x) rfl (zE wA (Pc.tx (Pc.here _)) rfl rfl rb4 rfl) (yF (.tail _ (.tail _ (.head _)))) rfl ?_))
 intro v19u9 r19u9
 refine w_c rfl (tS (fM (vs := [_, _]) Tryz.call103 rfl ⟨rfl, rfl, trivial⟩) rfl (fun w hs => fX hs r16u9 r19u9 (by omega)) ?_)
 intro v20u9 h1 hh1 r20u9
 change (rpQ (k + l)).Is h1 v20u9 (a.x * b.x) at r20u9
 refine w_q rfl (fun h' L' hh hR => (zH (sz := 3) 0 Tryz.underlying32 Tryz.sizeOf30 rfl rfl rfl (by decide)).cv (show _ = vP b7 0 from congrArg (vP b7) (by rfl))) rfl ?_
 replace rb7 := rb7.mono hh1
 refine wF (A := []) (F := fun c_ => (rpT (rpQ (k + l + 1))).R h1 c_ (T3.mk (a.x * b.x) (0 : Rat) (0 : Rat))) rfl (yG Tryz.sizeOf30 (Pc.tx (Pc.here _)) rfl rfl rfl rb7 (r20u9.le (Le.q (l := k + l + 1) (by omega))) rfl) ?_
 intro cs_21 rb_22
 refine xB (yV (zJ (e' := [(2, _), (3, _), (4, _), (6, _), (7, _), (9, _)]) ⟨rfl, rfl, rfl, rfl, rfl, rfl, trivial⟩ (zB (zA (gv ((zQ (q := 1) rfl rfl (by omega) (by omega)).cv (show _ = vI (1) from rfl)) rfl (mv rfl rfl (zD (xU (zC (zA (gv (OpV.tr (by decide) (zW (q := 3) rfl rfl)) rfl (zD (zB ?_)))))))))))))
 refine zC (xR rfl (zL (zB (zC (zS (zC (zA (mv rfl rfl (asg rfl rfl (zD (zB ?_)))))))))))
 refine yI 10 _ [] [(0, .q), (1, .q), (2, .q), (3, .q), (4, .q), (5, .q), (6, .q), (7, .q), (8, .c), (9, .q), (10, .t)] xI (fun x hx => by cases hx) (by kernel_rfl) (fun x hx => by cases hx) (fun r hr => hr) (w_q rfl (fun h' L' hh hR => zG rfl) rfl (w_q rfl (fun h' L' hh hR => zG rfl) rfl (w_q rfl (fun h' L' hh hR => zG rfl) rfl (w_q rfl (fun h' L' hh hR => (zH (sz := 3) 1 Tryz.underlying32 Tryz.sizeOf30 rfl rfl rfl (by decide)).cv (show _ = vP b3 3 from congrArg (vP b3) (by rfl))) rfl ?_))))
 replace rb3 := rb3.mono hh1
 refine yR (F := fun v_ => (rpQ k).Is h1 v_ a.y) rfl (zE wA (Pc.ty (Pc.here _)) rfl rfl rb3 rfl) (yF (.tail _ (.tail _ (.tail _ (.head _))))) rfl ?_
 intro v16u10 r16u10
 refine w_q rfl (fun h' L' hh hR => zG rfl) rfl (w_q rfl (fun h' L' hh hR => (zH (sz := 3) 1 Tryz.underlying32 Tryz.sizeOf30 rfl rfl rfl (by decide)).cv (show _ = vP b4 3 from congrArg (vP b4) (by rfl))) rfl ?_)
 replace rb4 := rb4.mono hh1
 refine yR (F := fun v_ => (rpQ l).Is h1 v_ b.y) rfl (zE wA (Pc.ty (Pc.here _)) rfl rfl rb4 rfl) (yF (.tail _ (.tail _ (.head _)))) rfl ?_
 intro v19u10 r19u10
 refine w_c rfl (tS (fM (vs := [_, _]) Tryz.call103 rfl ⟨rfl, rfl, trivial⟩) rfl (fun w hs => fX hs r16u10 r19u10 (by omega)) ?_)
 intro v20u10 h2 hh2 r20u10
 change (rpQ (k + l)).Is h2 v20u10 (a.y * b.y) at r20u10
 refine w_q rfl (fun h' L' hh hR => (zH (sz := 3) 1 Tryz.underlying32 Tryz.sizeOf30 rfl rfl rfl (by decide)).cv (show _ = vP b7 3 from congrArg (vP b7) (by rfl))) rfl ?_
 replace rb_22 := rb_22.mono hh2
 refine wF (A := []) (F := fun c_ => (rpT (rpQ (k + l + 1))).R h2 c_ (T3.mk (a.x * b.x) (a.y * b.y) (0 : Rat))) rfl (yG Tryz.sizeOf30 (Pc.ty (Pc.here _)) rfl rfl rfl rb_22 (r20u10.le (Le.q (l := k + l + 1) (by omega))) rfl) ?_
 intro cs_23 rb_24
 refine xB (yV (zJ (e' := [(2, _), (3, _), (4, _), (6, _), (7, _), (9, _)]) ⟨rfl, rfl, rfl, rfl, rfl, rfl, trivial⟩ (zB (zA (gv ((zQ (q := 1) rfl rfl (by omega) (by omega)).cv (show _ = vI (2) from rfl)) rfl (mv rfl rfl (zD (xU (zC (zA (gv (OpV.tr (by decide) (zW (q := 3) rfl rfl)) rfl (zD (zB ?_)))))))))))))
 refine zC (xR rfl (zL (zB (zC (zS (zC (zA (mv rfl rfl (asg rfl rfl (zD (zB ?_)))))))))))
 refine yI 10 _ [] [(0, .q), (1, .q), (2, .q), (3, .q), (4, .q), (5, .q), (6, .q), (7, .q), (8, .c), (9, .q), (10, .t)] xI (fun x hx => by cases hx) (by kernel_rfl) (fun x hx => by cases hx) (fun r hr => hr) (w_q rfl (fun h' L' hh hR => zG rfl) rfl (w_q rfl (fun h' L' hh hR => zG rfl) rfl (w_q rfl (fun h' L' hh hR => zG rfl) rfl (w_q rfl (fun h' L' hh hR => (zH (sz := 3) 2 Tryz.underlying32 Tryz.sizeOf30 rfl rfl rfl (by decide)).cv (show _ = vP b3 6 from congrArg (vP b3) (by rfl))) rfl ?_))))
 replace rb3 := rb3.mono hh2
 refine yR (F := fun v_ => (rpQ k).Is h2 v_ a.z) rfl (zE wA (Pc.tz (Pc.here _)) rfl rfl rb3 rfl) (yF (.tail _ (.tail _ (.tail _ (.head _))))) rfl ?_
 intro v16u11 r16u11
 refine w_q rfl (fun h' L' hh hR => zG rfl) rfl (w_q rfl (fun h' L' hh hR => (zH (sz := 3) 2 Tryz.underlying32 Tryz.sizeOf30 rfl rfl rfl (by decide)).cv (show _ = vP b4 6 from congrArg (vP b4) (by rfl))) rfl ?_)
 replace rb4 := rb4.mono hh2
 refine yR (F := fun v_ => (rpQ l).Is h2 v_ b.z) rfl (zE wA (Pc.tz (Pc.here _)) rfl rfl rb4 rfl) (yF (.tail _ (.tail _ (.head _)))) rfl ?_
 intro v19u11 r19u11
 refine w_c rfl (tS (fM (vs := [_, _]) Tryz.call103 rfl ⟨rfl, rfl, trivial⟩) rfl (fun w hs => fX hs r16u11 r19u11 (by omega)) ?_)
 intro v20u11 h3 hh3 r20u11
 change (rpQ (k + l)).Is h3 v20u11 (a.z * b.z) at r20u11
 refine w_q rfl (fun h' L' hh hR => (zH (sz := 3) 2 Tryz.underlying32 Tryz.sizeOf30 rfl rfl rfl (by decide)).cv (show _ = vP b7 6 from congrArg (vP b7) (by rfl))) rfl ?_
 replace rb_24 := rb_24.mono hh3
 refine wF (A := []) (F := fun c_ => (rpT (rpQ (k + l + 1))).R h3 c_ (T3.mk (a.x * b.x) (a.y * b.y) (a.z * b.z))) rfl (yG Tryz.sizeOf30 (Pc.tz (Pc.here _)) rfl rfl rfl rb_24 (r20u11.le (Le.q (l := k + l + 1) (by omega))) rfl) ?_
 intro cs_25 rb_26
 refine xB (yV (zJ (e' := [(2, _), (3, _), (4, _), (6, _), (7, _), (9, _)]) ⟨rfl, rfl, rfl, rfl, rfl, rfl, trivial⟩ (zB (zA (gv ((zQ (q := 1) rfl rfl (by omega) (by omega)).cv (show _ = vI (3) from rfl)) rfl (mv rfl rfl (zD (xU (zC (zA (gv (OpV.fa (by decide) (zW (q := 3) rfl rfl)) rfl (zD (zB ?_)))))))))))))
 refine zC (vX rfl (xQ (yE (yE (xO (zB (zC (zA (wG (F := fun v_ => (rpT (rpQ (k + l + 1))).Is h3 v_ (T3.mk (a.x * b.x) (a.y * b.y) (a.z * b.z))) (zE xG (Pc.here _) rfl rfl rb_26 rfl) (yF (.head _)) rfl ?_)))))))))
 intro v23u12 r23u12
 replace rb6 := rb6.mono ((hh1.trans hh2).trans hh3)
 refine wE (A := [_]) (F := fun c_ => (rpT (rpQ (k + l + 1))).R h3 c_ (T3.mk (a.x * b.x) (a.y * b.y) (a.z * b.z))) (yG Tryz.sizeOf32 (Pc.here _) rfl rfl rfl rb6 r23u12 rfl) ?_
 intro cs_27 rb_28
 refine zD (zB (zR (uG (gF (t := 6) xG (.tail _ (.head _)) rfl rb_28) ?_)))
 intro w_29 hvw_29 rr_30
 refine xX (fun E S => yP rfl hvw_29 E S) ?_
 exact rr_30
theorem o_v_add {w0 : World} {h0 : Mem}  (hs : MLe h0 (mem w0)) {k l : Nat} {va : Value} {a : (T3 Rat)} (ra : (rpT (rpQ k)).Is h0 va a) {vb : Value} {b : (T3 Rat)} (rb : (rpT (rpQ l)).Is h0 vb b) (hcd0 : k + l ≤ 10000000000)  :
    Calls Tryz.prog 80 #[va, vb] w0 (Ret w0 h0 (fun h r => (rpT (rpQ (k + l + 2))).Is h r (T3.mk (a.x + b.x) (a.y + b.y) (a.z + b.z)))) := by
 refine zP (n := 8) (e := [(0, va), (1, vb)]) (vs := [va, vb]) Tryz.func80 rfl rfl (Nat.le_of_ble_eq_true rfl) hs ⟨rfl, rfl, trivial⟩ (zC (zA (zK (yY (ρ := (rpT (rpQ k))) rfl ra) rfl rfl rfl ?_)))
 intro v2 q2 hq2
 obtain ⟨b2, cs2, rfl, rfl, rb2⟩ := hq2
 refine zK (yY (ρ := (rpT (rpQ l))) rfl rb) rfl rfl rfl ?_
 intro v3 q3 hq3
 obtain ⟨b3, cs3, rfl, rfl, rb3⟩ := hq3
 refine zK (yZ (ρ := (rpT (rpQ (k + l + 2)))) (X := (T3.mk (0 : Rat) 0 0)) yB rfl rfl (wI (wD (by omega)))) rfl rfl rfl ?_
 intro v4 q4 hq4
 obtain ⟨b4, cs4, rfl, rfl, rb4⟩ := hq4
 refine zD (zB (zC (zA (wG (F := fun v_ => (rpT (rpQ k)).Is h0 v_ a) (zE xG (Pc.here _) rfl rfl rb2 rfl) (yF (.tail _ (.tail _ (.head _)))) rfl ?_))))
 intro v5 r5
 refine wG (F := fun v_ => (rpT (rpQ l)).Is h0 v_ b) (zE xG (Pc.here _) rfl rfl rb3 rfl) (yF (.tail _ (.head _))) rfl ?_
 intro v6 r6
 refine zM (vs := [_, _, _]) rfl rfl rfl rfl Tryz.call115 ⟨rfl, rfl, rfl, trivial⟩ (fun w hs => o_each_add hs r5 r6 (by omega)) ?_
 intro v7 h1 hh1 r7
 change (rpT (rpQ (k + l + 1 + 1))).Is h1 v7 (T3.mk (a.x + b.x) (a.y + b.y) (a.z + b.z)) at r7
 replace r7 := Rp.Is.le r7 (Le.t (Le.q (l := k + l + 2) (by omega)))
 replace rb4 := rb4.mono hh1
 refine wE (A := []) (F := fun c_ => (rpT (rpQ (k + l + 2))).R h1 c_ (T3.mk (a.x + b.x) (a.y + b.y) (a.z + b.z))) (yG Tryz.sizeOf32 (Pc.here _) rfl rfl rfl rb4 r7 rfl) ?_
 intro cs_31 rb_32
 refine zD (zB (zR (uG (gF (t := 4) xG (.head _) rfl rb_32) ?_)))
 intro w_33 hvw_33 rr_34
 refine xX (fun E S => yP rfl hvw_33 E S) ?_
 exact rr_34
theorem o_v_sub {w0 : World} {h0 : Mem}  (hs : MLe h0 (mem w0)) {k l : Nat} {va : Value} {a : (T3 Rat)} (ra : (rpT (rpQ k)).Is h0 va a) {vb : Value} {b : (T3 Rat)} (rb : (rpT (rpQ l)).Is h0 vb b) (hcd0 : k + l ≤ 10000000000)  :
    Calls Tryz.prog 78 #[va, vb] w0 (Ret w0 h0 (fun h r => (rpT (rpQ (k + l + 2))).Is h r (T3.mk (a.x - b.x) (a.y - b.y) (a.z - b.z)))) := by
 refine zP (n := 8) (e := [(0, va), (1, vb)]) (vs := [va, vb]) Tryz.func78 rfl rfl (Nat.le_of_ble_eq_true rfl) hs ⟨rfl, rfl, trivial⟩ (zC (zA (zK (yY (ρ := (rpT (rpQ k))) rfl ra) rfl rfl rfl ?_)))
 intro v2 q2 hq2
 obtain ⟨b2, cs2, rfl, rfl, rb2⟩ := hq2
 refine zK (yY (ρ := (rpT (rpQ l))) rfl rb) rfl rfl rfl ?_
 intro v3 q3 hq3
 obtain ⟨b3, cs3, rfl, rfl, rb3⟩ := hq3
 refine zK (yZ (ρ := (rpT (rpQ (k + l + 2)))) (X := (T3.mk (0 : Rat) 0 0)) yB rfl rfl (wI (wD (by omega)))) rfl rfl rfl ?_
 intro v4 q4 hq4
 obtain ⟨b4, cs4, rfl, rfl, rb4⟩ := hq4
 refine zD (zB (zC (zA (wG (F := fun v_ => (rpT (rpQ k)).Is h0 v_ a) (zE xG (Pc.here _) rfl rfl rb2 rfl) (yF (.tail _ (.tail _ (.head _)))) rfl ?_))))
 intro v5 r5
 refine wG (F := fun v_ => (rpT (rpQ l)).Is h0 v_ b) (zE xG (Pc.here _) rfl rfl rb3 rfl) (yF (.tail _ (.head _))) rfl ?_
 intro v6 r6
 refine zM (vs := [_, _, _]) rfl rfl rfl rfl Tryz.call115 ⟨rfl, rfl, rfl, trivial⟩ (fun w hs => o_each_sub hs r5 r6 (by omega)) ?_
 intro v7 h1 hh1 r7
 change (rpT (rpQ (k + l + 1 + 1))).Is h1 v7 (T3.mk (a.x - b.x) (a.y - b.y) (a.z - b.z)) at r7
 replace r7 := Rp.Is.le r7 (Le.t (Le.q (l := k + l + 2) (by omega)))
 replace rb4 := rb4.mono hh1
 refine wE (A := []) (F := fun c_ => (rpT (rpQ (k + l + 2))).R h1 c_ (T3.mk (a.x - b.x) (a.y - b.y) (a.z - b.z))) (yG Tryz.sizeOf32 (Pc.here _) rfl rfl rfl rb4 r7 rfl) ?_
 intro cs_35 rb_36
 refine zD (zB (zR (uG (gF (t := 4) xG (.head _) rfl rb_36) ?_)))
 intro w_37 hvw_37 rr_38
 refine xX (fun E S => yP rfl hvw_37 E S) ?_
 exact rr_38
theorem o_v_scale {w0 : World} {h0 : Mem}  (hs : MLe h0 (mem w0)) {l k : Nat} {vq : Value} {q : Rat} (rq : (rpQ l).Is h0 vq q) {va : Value} {a : (T3 Rat)} (ra : (rpT (rpQ k)).Is h0 va a) (hcd0 : k + l ≤ 1000000000)  :
    Calls Tryz.prog 82 #[vq, va] w0 (Ret w0 h0 (fun h r => (rpT (rpQ (k + l + 2))).Is h r (T3.mk (q * a.x) (q * a.y) (q * a.z)))) := by
 refine zP (n := 11) (e := [(0, vq), (1, va)]) (vs := [vq, va]) Tryz.func82 rfl rfl (Nat.le_of_ble_eq_true rfl) hs ⟨rfl, rfl, trivial⟩ (zC (zA (zK (yY (ρ := (rpQ l)) rfl rq) rfl rfl rfl ?_)))
 intro v2 q2 hq2
 obtain ⟨b2, cs2, rfl, rfl, rb2⟩ := hq2
 refine zK (yY (ρ := (rpT (rpQ k))) rfl ra) rfl rfl rfl ?_
 intro v3 q3 hq3
 obtain ⟨b3, cs3, rfl, rfl, rb3⟩ := hq3
 refine zK (yZ (ρ := (rpT (rpQ (k + l + 2)))) (X := (T3.mk (0 : Rat) 0 0)) yB rfl rfl (wI (wD (by omega)))) rfl rfl rfl ?_
 intro v4 q4 hq4
 obtain ⟨b4, cs4, rfl, rfl, rb4⟩ := hq4
 refine zD (zB (zC (zA (wG (F := fun v_ => (rpQ l).Is h0 v_ q) (zE wA (Pc.here _) rfl rfl rb2 rfl) (yF (.tail _ (.tail _ (.head _)))) rfl ?_))))
 intro v5 r5
 refine wG (F := fun v_ => (rpQ l).Is h0 v_ q) (zE wA (Pc.here _) rfl rfl rb2 rfl) (yF (.tail _ (.tail _ (.head _)))) rfl ?_
 intro v6 r6
 refine wG (F := fun v_ => (rpQ l).Is h0 v_ q) (zE wA (Pc.here _) rfl rfl rb2 rfl) (yF (.tail _ (.tail _ (.head _)))) rfl ?_
 intro v7 r7
 refine wG (F := fun v_ => (rpT (rpQ (l + 1))).Is h0 v_ (T3.mk q q q)) (wV (ps' := [(0, _), (1, _), (2, _)]) Tryz.underlying32 yB rfl rfl Tryz.sizeOf30 ⟨rfl, rfl, rfl, rfl, rfl, rfl, trivial⟩ rfl (wI (wD (by omega))) (yU rfl (Pc.tx (Pc.here _)) (r5.le (Le.q (l := l + 1) (by omega))) (yU rfl (Pc.ty (Pc.here _)) (r6.le (Le.q (l := l + 1) (by omega))) (yU rfl (Pc.tz (Pc.here _)) (r7.le (Le.q (l := l + 1) (by omega))) xY)))) uH rfl ?_
 intro v8 r8
 refine wG (F := fun v_ => (rpT (rpQ k)).Is h0 v_ a) (zE xG (Pc.here _) rfl rfl rb3 rfl) (yF (.tail _ (.head _))) rfl ?_
 intro v9 r9
 refine zM (vs := [_, _, _]) rfl rfl rfl rfl Tryz.call115 ⟨rfl, rfl, rfl, trivial⟩ (fun w hs => o_each_mul hs r8 r9 (by omega)) ?_
 intro v10 h1 hh1 r10
 change (rpT (rpQ ((l + 1) + k + 1))).Is h1 v10 (T3.mk (q * a.x) (q * a.y) (q * a.z)) at r10
 replace r10 := Rp.Is.le r10 (Le.t (Le.q (l := k + l + 2) (by omega)))
 replace rb4 := rb4.mono hh1
 refine wE (A := []) (F := fun c_ => (rpT (rpQ (k + l + 2))).R h1 c_ (T3.mk (q * a.x) (q * a.y) (q * a.z))) (yG Tryz.sizeOf32 (Pc.here _) rfl rfl rfl rb4 r10 rfl) ?_
 intro cs_39 rb_40
 refine zD (zJ (e' := [(4, _)]) ⟨rfl, trivial⟩ (zB (zR (uG (gF (t := 4) xG (.head _) rfl rb_40) ?_))))
 intro w_41 hvw_41 rr_42
 refine xX (fun E S => yP rfl hvw_41 E S) ?_
 exact rr_42
theorem o_v_dot {w0 : World} {h0 : Mem}  (hs : MLe h0 (mem w0)) {k l : Nat} {va : Value} {a : (T3 Rat)} (ra : (rpT (rpQ k)).Is h0 va a) {vb : Value} {b : (T3 Rat)} (rb : (rpT (rpQ l)).Is h0 vb b) (hcd0 : k + l ≤ 1000000000)  :
    Calls Tryz.prog 79 #[va, vb] w0 (Ret w0 h0 (fun h r => (rpQ (3 * k + 3 * l + 9)).Is h r (jP a b))) := by
 refine zP (n := 21) (e := [(0, va), (1, vb)]) (vs := [va, vb]) Tryz.func79 rfl rfl (Nat.le_of_ble_eq_true rfl) hs ⟨rfl, rfl, trivial⟩ (zC (zA (zK (yY (ρ := (rpT (rpQ k))) rfl ra) rfl rfl rfl ?_)))
 intro v2 q2 hq2
 obtain ⟨b2, cs2, rfl, rfl, rb2⟩ := hq2
 refine zK (yY (ρ := (rpT (rpQ l))) rfl rb) rfl rfl rfl ?_
 intro v3 q3 hq3
 obtain ⟨b3, cs3, rfl, rfl, rb3⟩ := hq3
 refine zK (yZ (ρ := (rpQ (3 * k + 3 * l + 9))) (X := (0 : Rat)) wP rfl rfl (wD (by omega))) rfl rfl rfl ?_
 intro v4 q4 hq4
 obtain ⟨b4, cs4, rfl, rfl, rb4⟩ := hq4
 refine zD (zB (zC (zA (zK (yZ (ρ := (rpQ 1)) (X := (0 : Rat)) wP rfl rfl (wD (by decide))) rfl rfl rfl ?_))))
 intro v5 q5 hq5
 obtain ⟨b5, cs5, rfl, rfl, rb5⟩ := hq5
 refine zD (zB (zC (zC (zA (mv (v := vI (0)) rfl rfl (zD (zB (zS (jS (zC (zA (gv (OpV.tr (by decide) (zW (q := 3) rfl rfl)) rfl (zD ?_)))))))))))))
 refine zB (zC (xR rfl (zL (zB (zC (zS (zC (zA (mv rfl rfl (asg rfl rfl (zD (zB ?_))))))))))))
 refine yI 9 _ [] [(0, .q), (1, .q), (2, .q), (3, .q), (4, .q), (5, .q), (6, .q), (7, .c), (8, .c), (9, .t)] xI (fun x hx => by cases hx) (by kernel_rfl) (fun x hx => by cases hx) (fun r hr => hr) (yR (F := fun v_ => (rpQ 1).Is h0 v_ (0 : Rat)) rfl (zE wA (Pc.here _) rfl rfl rb5 rfl) (yF (.head _)) rfl ?_)
 intro v10u13 r10u13
 refine w_q rfl (fun h' L' hh hR => zG rfl) rfl (w_q rfl (fun h' L' hh hR => (zH (sz := 3) 0 Tryz.underlying32 Tryz.sizeOf30 rfl rfl rfl (by decide)).cv (show _ = vP b2 0 from congrArg (vP b2) (by rfl))) rfl (yR (F := fun v_ => (rpQ k).Is h0 v_ a.x) rfl (zE wA (Pc.tx (Pc.here _)) rfl rfl rb2 rfl) (yF (.tail _ (.tail _ (.tail _ (.head _))))) rfl ?_))
 intro v13u13 r13u13
 refine w_q rfl (fun h' L' hh hR => zG rfl) rfl (w_q rfl (fun h' L' hh hR => (zH (sz := 3) 0 Tryz.underlying32 Tryz.sizeOf30 rfl rfl rfl (by decide)).cv (show _ = vP b3 0 from congrArg (vP b3) (by rfl))) rfl (yR (F := fun v_ => (rpQ l).Is h0 v_ b.x) rfl (zE wA (Pc.tx (Pc.here _)) rfl rfl rb3 rfl) (yF (.tail _ (.tail _ (.head _)))) rfl ?_))
 intro v16u13 r16u13
 refine w_c rfl ?_
 refine yD (vs := [_, _]) Tryz.call103 ⟨rfl, rfl, trivial⟩ (fun w hs => fX hs r13u13 r16u13 (by omega)) rfl ?_
 intro v17u13 h1 hh1 r17u13
 change (rpQ (k + l)).Is h1 v17u13 (a.x * b.x) at r17u13
 refine w_c rfl ?_
 replace r10u13 := r10u13.mono hh1
 refine yD (vs := [_, _]) Tryz.call71 ⟨rfl, rfl, trivial⟩ (fun w hs => tZ hs r10u13 r17u13 (by omega)) rfl ?_
 intro v18u13 h2 hh2 r18u13
 change (rpQ (1 + (k + l) + 1)).Is h2 v18u13 ((0 : Rat) + (a.x * b.x)) at r18u13
 replace r18u13 := Rp.Is.le r18u13 (Le.q (l := k + l + 2) (by omega))
 replace rb5 := rb5.mono (hh1.trans hh2)
 have rw_43 := (Le.q (l := k + l + 2) (by omega)).R rb5
 refine wF (A := []) (F := fun c_ => (rpQ (k + l + 2)).R h2 c_ ((0 : Rat) + (a.x * b.x))) rfl (yG Tryz.sizeOf30 (Pc.here _) rfl rfl rfl rw_43 r18u13 rfl) ?_
 intro cs_44 rb_45
 refine xB (yV (zJ (e' := [(2, _), (3, _), (4, _), (5, _), (7, _)]) ⟨rfl, rfl, rfl, rfl, rfl, trivial⟩ (zB (zA (gv ((zQ (q := 1) rfl rfl (by omega) (by omega)).cv (show _ = vI (1) from rfl)) rfl (mv rfl rfl (zD (xU (zC (zA (gv (OpV.tr (by decide) (zW (q := 3) rfl rfl)) rfl (zD (zB ?_)))))))))))))
 refine zC (xR rfl (zL (zB (zC (zS (zC (zA (mv rfl rfl (asg rfl rfl (zD (zB ?_)))))))))))
 refine yI 9 _ [] [(0, .q), (1, .q), (2, .q), (3, .q), (4, .q), (5, .q), (6, .q), (7, .c), (8, .c), (9, .t)] xI (fun x hx => by cases hx) (by kernel_rfl) (fun x hx => by cases hx) (fun r hr => hr) (yR (F := fun v_ => (rpQ (k + l + 2)).Is h2 v_ ((0 : Rat) + (a.x * b.x))) rfl (zE wA (Pc.here _) rfl rfl rb_45 rfl) (yF (.head _)) rfl ?_)
 intro v10u14 r10u14
 refine w_q rfl (fun h' L' hh hR => zG rfl) rfl (w_q rfl (fun h' L' hh hR => (zH (sz := 3) 1 Tryz.underlying32 Tryz.sizeOf30 rfl rfl rfl (by decide)).cv (show _ = vP b2 3 from congrArg (vP b2) (by rfl))) rfl ?_)
 replace rb2 := rb2.mono (hh1.trans hh2)
 refine yR (F := fun v_ => (rpQ k).Is h2 v_ a.y) rfl (zE wA (Pc.ty (Pc.here _)) rfl rfl rb2 rfl) (yF (.tail _ (.tail _ (.tail _ (.head _))))) rfl ?_
 intro v13u14 r13u14
 refine w_q rfl (fun h' L' hh hR => zG rfl) rfl (w_q rfl (fun h' L' hh hR => (zH (sz := 3) 1 Tryz.underlying32 Tryz.sizeOf30 rfl rfl rfl (by decide)).cv (show _ = vP b3 3 from congrArg (vP b3) (by rfl))) rfl ?_)
 replace rb3 := rb3.mono (hh1.trans hh2)
 refine yR (F := fun v_ => (rpQ l).Is h2 v_ b.y) rfl (zE wA (Pc.ty (Pc.here _)) rfl rfl rb3 rfl) (yF (.tail _ (.tail _ (.head _)))) rfl ?_
 intro v16u14 r16u14
 refine w_c rfl ?_
 refine yD (vs := [_, _]) Tryz.call103 ⟨rfl, rfl, trivial⟩ (fun w hs => fX hs r13u14 r16u14 (by omega)) rfl ?_
 intro v17u14 h3 hh3 r17u14
 change (rpQ (k + l)).Is h3 v17u14 (a.y * b.y) at r17u14
 refine w_c rfl ?_
 replace r10u14 := r10u14.mono hh3
 refine yD (vs := [_, _]) Tryz.call71 ⟨rfl, rfl, trivial⟩ (fun w hs => tZ hs r10u14 r17u14 (by omega)) rfl ?_
 intro v18u14 h4 hh4 r18u14
 change (rpQ ((k + l + 2) + (k + l) + 1)).Is h4 v18u14 (((0 : Rat) + (a.x * b.x)) + (a.y * b.y)) at r18u14
 replace r18u14 := Rp.Is.le r18u14 (Le.q (l := 2 * k + 2 * l + 3) (by omega))
 replace rb_45 := rb_45.mono (hh3.trans hh4)
 have rw_46 := (Le.q (l := 2 * k + 2 * l + 3) (by omega)).R rb_45
 refine wF (A := []) (F := fun c_ => (rpQ (2 * k + 2 * l + 3)).R h4 c_ (((0 : Rat) + (a.x * b.x)) + (a.y * b.y))) rfl (yG Tryz.sizeOf30 (Pc.here _) rfl rfl rfl rw_46 r18u14 rfl) ?_
 intro cs_47 rb_48
 refine xB (yV (zJ (e' := [(2, _), (3, _), (4, _), (5, _), (7, _)]) ⟨rfl, rfl, rfl, rfl, rfl, trivial⟩ (zB (zA (gv ((zQ (q := 1) rfl rfl (by omega) (by omega)).cv (show _ = vI (2) from rfl)) rfl (mv rfl rfl (zD (xU (zC (zA (gv (OpV.tr (by decide) (zW (q := 3) rfl rfl)) rfl (zD (zB ?_)))))))))))))
 refine zC (xR rfl (zL (zB (zC (zS (zC (zA (mv rfl rfl (asg rfl rfl (zD (zB ?_)))))))))))
 refine yI 9 _ [] [(0, .q), (1, .q), (2, .q), (3, .q), (4, .q), (5, .q), (6, .q), (7, .c), (8, .c), (9, .t)] xI (fun x hx => by cases hx) (by kernel_rfl) (fun x hx => by cases hx) (fun r hr => hr) (yR (F := fun v_ => (rpQ (2 * k + 2 * l + 3)).Is h4 v_ (((0 : Rat) + (a.x * b.x)) + (a.y * b.y))) rfl (zE wA (Pc.here _) rfl rfl rb_48 rfl) (yF (.head _)) rfl ?_)
 intro v10u15 r10u15
 refine w_q rfl (fun h' L' hh hR => zG rfl) rfl (w_q rfl (fun h' L' hh hR => (zH (sz := 3) 2 Tryz.underlying32 Tryz.sizeOf30 rfl rfl rfl (by decide)).cv (show _ = vP b2 6 from congrArg (vP b2) (by rfl))) rfl ?_)
 replace rb2 := rb2.mono (hh3.trans hh4)
 refine yR (F := fun v_ => (rpQ k).Is h4 v_ a.z) rfl (zE wA (Pc.tz (Pc.here _)) rfl rfl rb2 rfl) (yF (.tail _ (.tail _ (.tail _ (.head _))))) rfl ?_
 intro v13u15 r13u15
 refine w_q rfl (fun h' L' hh hR => zG rfl) rfl (w_q rfl (fun h' L' hh hR => (zH (sz := 3) 2 Tryz.underlying32 Tryz.sizeOf30 rfl rfl rfl (by decide)).cv (show _ = vP b3 6 from congrArg (vP b3) (by rfl))) rfl ?_)
 replace rb3 := rb3.mono (hh3.trans hh4)
 refine yR (F := fun v_ => (rpQ l).Is h4 v_ b.z) rfl (zE wA (Pc.tz (Pc.here _)) rfl rfl rb3 rfl) (yF (.tail _ (.tail _ (.head _)))) rfl ?_
 intro v16u15 r16u15
 refine w_c rfl ?_
 refine yD (vs := [_, _]) Tryz.call103 ⟨rfl, rfl, trivial⟩ (fun w hs => fX hs r13u15 r16u15 (by omega)) rfl ?_
 intro v17u15 h5 hh5 r17u15
 change (rpQ (k + l)).Is h5 v17u15 (a.z * b.z) at r17u15
 refine w_c rfl ?_
 replace r10u15 := r10u15.mono hh5
 refine yD (vs := [_, _]) Tryz.call71 ⟨rfl, rfl, trivial⟩ (fun w hs => tZ hs r10u15 r17u15 (by omega)) rfl ?_
 intro v18u15 h6 hh6 r18u15
 change (rpQ ((2 * k + 2 * l + 3) + (k + l) + 1)).Is h6 v18u15 ((((0 : Rat) + (a.x * b.x)) + (a.y * b.y)) + (a.z * b.z)) at r18u15
 replace r18u15 := Rp.Is.le r18u15 (Le.q (l := 3 * k + 3 * l + 4) (by omega))
 replace rb_48 := rb_48.mono (hh5.trans hh6)
 have rw_49 := (Le.q (l := 3 * k + 3 * l + 4) (by omega)).R rb_48
 refine wF (A := []) (F := fun c_ => (rpQ (3 * k + 3 * l + 4)).R h6 c_ ((((0 : Rat) + (a.x * b.x)) + (a.y * b.y)) + (a.z * b.z))) rfl (yG Tryz.sizeOf30 (Pc.here _) rfl rfl rfl rw_49 r18u15 rfl) ?_
 intro cs_50 rb_51
 refine xB (yV (zJ (e' := [(2, _), (3, _), (4, _), (5, _), (7, _)]) ⟨rfl, rfl, rfl, rfl, rfl, trivial⟩ (zB (zA (gv ((zQ (q := 1) rfl rfl (by omega) (by omega)).cv (show _ = vI (3) from rfl)) rfl (mv rfl rfl (zD (xU (zC (zA (gv (OpV.fa (by decide) (zW (q := 3) rfl rfl)) rfl (zD (zB ?_)))))))))))))
 refine zC (vX rfl (xQ (yE (yE (xO (zB (zC (zA (wG (F := fun v_ => (rpQ (3 * k + 3 * l + 4)).Is h6 v_ ((((0 : Rat) + (a.x * b.x)) + (a.y * b.y)) + (a.z * b.z))) (zE wA (Pc.here _) rfl rfl rb_51 rfl) (yF (.head _)) rfl ?_)))))))))
 intro v20u16 r20u16
 replace rb4 := rb4.mono (((((hh1.trans hh2).trans hh3).trans hh4).trans hh5).trans hh6)
 refine wE (A := [_]) (F := fun c_ => (rpQ (3 * k + 3 * l + 9)).R h6 c_ ((((0 : Rat) + (a.x * b.x)) + (a.y * b.y)) + (a.z * b.z))) (yG Tryz.sizeOf30 (Pc.here _) rfl rfl rfl rb4 (r20u16.le (Le.q (l := 3 * k + 3 * l + 9) (by omega))) rfl) ?_
 intro cs_52 rb_53
 refine zD (zB (zR (uG (gF (t := 4) wA (.tail _ (.head _)) rfl rb_53) ?_)))
 intro w_54 hvw_54 rr_55
 refine xX (fun E S => yP rfl hvw_54 E S) ?_
 exact (Rp.Is.cast rr_55 (by unfold jP; grind))
theorem o_v_same {w0 : World} {h0 : Mem}  (hs : MLe h0 (mem w0)) {k l : Nat} {va : Value} {a : (T3 Rat)} (ra : (rpT (rpQ k)).Is h0 va a) {vb : Value} {b : (T3 Rat)} (rb : (rpT (rpQ l)).Is h0 vb b) (hcd0 : k + l ≤ 10000000000)  :
    Calls Tryz.prog 97 #[va, vb] w0 (Ret w0 h0 (fun _ r => r = vB (a = b))) := by
 refine zP (n := 18) (e := [(0, va), (1, vb)]) (vs := [va, vb]) Tryz.func97 rfl rfl (Nat.le_of_ble_eq_true rfl) hs ⟨rfl, rfl, trivial⟩ (zC (zA (zK (yY (ρ := (rpT (rpQ k))) rfl ra) rfl rfl rfl ?_)))
 intro v2 q2 hq2
 obtain ⟨b2, cs2, rfl, rfl, rb2⟩ := hq2
 refine zK (yY (ρ := (rpT (rpQ l))) rfl rb) rfl rfl rfl ?_
 intro v3 q3 hq3
 obtain ⟨b3, cs3, rfl, rfl, rb3⟩ := hq3
 refine asg rfl rfl (zD (zB (zC (zC (zA (mv (v := vI (0)) rfl rfl (zD (zB (zS (jS (zC (zA (gv (OpV.tr (by decide) (zW (q := 3) rfl rfl)) rfl ?_)))))))))))))
 refine zD (zB (zC (xR rfl (zL (zB (zC (zS (zC (zA (mv rfl rfl (asg rfl rfl (zD (zB ?_)))))))))))))
 refine zC ?_
 refine yI 8 _ [] [(0, .q), (1, .q), (2, .q), (3, .q), (4, .q), (5, .q), (6, .c), (7, .q)] xI (fun x hx => by cases hx) (by kernel_rfl) (fun x hx => by cases hx) (fun r hr => hr) (w_q rfl (fun h' L' hh hR => zG rfl) rfl (w_q rfl (fun h' L' hh hR => (zH (sz := 3) 0 Tryz.underlying32 Tryz.sizeOf30 rfl rfl rfl (by decide)).cv (show _ = vP b2 0 from congrArg (vP b2) (by rfl))) rfl (yR (F := fun v_ => (rpQ k).Is h0 v_ a.x) rfl (zE wA (Pc.tx (Pc.here _)) rfl rfl rb2 rfl) (yF (.tail _ (.head _))) rfl ?_)))
 intro v11u21 r11u21
 refine w_q rfl (fun h' L' hh hR => zG rfl) rfl (w_q rfl (fun h' L' hh hR => (zH (sz := 3) 0 Tryz.underlying32 Tryz.sizeOf30 rfl rfl rfl (by decide)).cv (show _ = vP b3 0 from congrArg (vP b3) (by rfl))) rfl (yR (F := fun v_ => (rpQ l).Is h0 v_ b.x) rfl (zE wA (Pc.tx (Pc.here _)) rfl rfl rb3 rfl) (yF (.head _)) rfl ?_))
 intro v14u21 r14u21
 refine w_c rfl ?_
 refine yD (vs := [_, _]) Tryz.call122 ⟨rfl, rfl, trivial⟩ (fun w hs => bQ hs r11u21 r14u21 (by omega)) rfl ?_
 intro v15u21 h1 hh1 r15u21
 obtain rfl : v15u21 = vB (a.x = b.x) := r15u21
 refine w_q rfl (fun h' L' hh hR => kS rfl) rfl (xB (zJ (e' := [(2, _), (3, _), (6, _), (16, _)]) ⟨rfl, rfl, rfl, rfl, trivial⟩ (zB ?_)))
 refine zO rfl (fun hc16 => ?_) (fun hc16 => ?_)
 ·
  refine zC (zA (asg rfl rfl (zD (zB (zR (wY (zX (zX (wY (zX (yJ rfl rfl ?_)))))))))))
  first | exact (xS (by rw [pT]; grind)).symm | exact (yX (by rw [pT]; grind)).symm
 refine zL (yV (zB (zA (gv ((zQ (q := 1) rfl rfl (by omega) (by omega)).cv (show _ = vI (1) from rfl)) rfl (mv rfl rfl (zD (xU (zC (zA (gv (OpV.tr (by decide) (zW (q := 3) rfl rfl)) rfl (zD (zB (zC ?_)))))))))))))
 refine xR rfl (zL (zB (zC (zS (zC (zA (mv rfl rfl (asg rfl rfl (zD (zB (zC ?_)))))))))))
 refine yI 8 _ [] [(0, .q), (1, .q), (2, .q), (3, .q), (4, .q), (5, .q), (6, .c), (7, .q)] xI (fun x hx => by cases hx) (by kernel_rfl) (fun x hx => by cases hx) (fun r hr => hr) (w_q rfl (fun h' L' hh hR => zG rfl) rfl (w_q rfl (fun h' L' hh hR => (zH (sz := 3) 1 Tryz.underlying32 Tryz.sizeOf30 rfl rfl rfl (by decide)).cv (show _ = vP b2 3 from congrArg (vP b2) (by rfl))) rfl ?_))
 replace rb2 := rb2.mono hh1
 refine yR (F := fun v_ => (rpQ k).Is h1 v_ a.y) rfl (zE wA (Pc.ty (Pc.here _)) rfl rfl rb2 rfl) (yF (.tail _ (.head _))) rfl ?_
 intro v11u22 r11u22
 refine w_q rfl (fun h' L' hh hR => zG rfl) rfl (w_q rfl (fun h' L' hh hR => (zH (sz := 3) 1 Tryz.underlying32 Tryz.sizeOf30 rfl rfl rfl (by decide)).cv (show _ = vP b3 3 from congrArg (vP b3) (by rfl))) rfl ?_)
 replace rb3 := rb3.mono hh1
 refine yR (F := fun v_ => (rpQ l).Is h1 v_ b.y) rfl (zE wA (Pc.ty (Pc.here _)) rfl rfl rb3 rfl) (yF (.head _)) rfl ?_
 intro v14u22 r14u22
 refine w_c rfl ?_
 refine yD (vs := [_, _]) Tryz.call122 ⟨rfl, rfl, trivial⟩ (fun w hs => bQ hs r11u22 r14u22 (by omega)) rfl ?_
 intro v15u22 h2 hh2 r15u22
 obtain rfl : v15u22 = vB (a.y = b.y) := r15u22
 refine w_q rfl (fun h' L' hh hR => kS rfl) rfl (xB (zJ (e' := [(2, _), (3, _), (6, _), (16, _)]) ⟨rfl, rfl, rfl, rfl, trivial⟩ (zB ?_)))
 refine zO rfl (fun hc16 => ?_) (fun hc16 => ?_)
 ·
  refine zC (zA (asg rfl rfl (zD (zB (zR (wY (zX (zX (wY (zX (yJ rfl rfl ?_)))))))))))
  first | exact (xS (by rw [pT]; grind)).symm | exact (yX (by rw [pT]; grind)).symm
 refine zL (yV (zB (zA (gv ((zQ (q := 1) rfl rfl (by omega) (by omega)).cv (show _ = vI (2) from rfl)) rfl (mv rfl rfl (zD (xU (zC (zA (gv (OpV.tr (by decide) (zW (q := 3) rfl rfl)) rfl (zD (zB (zC ?_)))))))))))))
 refine xR rfl (zL (zB (zC (zS (zC (zA (mv rfl rfl (asg rfl rfl (zD (zB (zC ?_)))))))))))
 refine yI 8 _ [] [(0, .q), (1, .q), (2, .q), (3, .q), (4, .q), (5, .q), (6, .c), (7, .q)] xI (fun x hx => by cases hx) (by kernel_rfl) (fun x hx => by cases hx) (fun r hr => hr) (w_q rfl (fun h' L' hh hR => zG rfl) rfl (w_q rfl (fun h' L' hh hR => (zH (sz := 3) 2 Tryz.underlying32 Tryz.sizeOf30 rfl rfl rfl (by decide)).cv (show _ = vP b2 6 from congrArg (vP b2) (by rfl))) rfl ?_))
 replace rb2 := rb2.mono hh2
 refine yR (F := fun v_ => (rpQ k).Is h2 v_ a.z) rfl (zE wA (Pc.tz (Pc.here _)) rfl rfl rb2 rfl) (yF (.tail _ (.head _))) rfl ?_
 intro v11u23 r11u23
 refine w_q rfl (fun h' L' hh hR => zG rfl) rfl (w_q rfl (fun h' L' hh hR => (zH (sz := 3) 2 Tryz.underlying32 Tryz.sizeOf30 rfl rfl rfl (by decide)).cv (show _ = vP b3 6 from congrArg (vP b3) (by rfl))) rfl ?_)
 replace rb3 := rb3.mono hh2
 refine yR (F := fun v_ => (rpQ l).Is h2 v_ b.z) rfl (zE wA (Pc.tz (Pc.here _)) rfl rfl rb3 rfl) (yF (.head _)) rfl ?_
 intro v14u23 r14u23
 refine w_c rfl ?_
 refine yD (vs := [_, _]) Tryz.call122 ⟨rfl, rfl, trivial⟩ (fun w hs => bQ hs r11u23 r14u23 (by omega)) rfl ?_
 intro v15u23 h3 hh3 r15u23
 obtain rfl : v15u23 = vB (a.z = b.z) := r15u23
 refine w_q rfl (fun h' L' hh hR => kS rfl) rfl (xB (zJ (e' := [(2, _), (3, _), (6, _), (16, _)]) ⟨rfl, rfl, rfl, rfl, trivial⟩ (zB ?_)))
 refine zO rfl (fun hc16 => ?_) (fun hc16 => ?_)
 ·
  refine zC (zA (asg rfl rfl (zD (zB (zR (wY (zX (zX (wY (zX (yJ rfl rfl ?_)))))))))))
  first | exact (xS (by rw [pT]; grind)).symm | exact (yX (by rw [pT]; grind)).symm
 refine zL (yV (zB (zA (gv ((zQ (q := 1) rfl rfl (by omega) (by omega)).cv (show _ = vI (3) from rfl)) rfl (mv rfl rfl (zD (xU (zC (zA (gv (OpV.fa (by decide) (zW (q := 3) rfl rfl)) rfl (zD (zB (zC ?_)))))))))))))
 refine vX rfl (xQ (yE (yE (xO (zB (zC (zA (asg rfl rfl (zD (zB (zR (yJ rfl rfl ?_))))))))))))
 first | exact (xS (by rw [pT]; grind)).symm | exact (yX (by rw [pT]; grind)).symm
theorem o_v_zero {w0 : World} {h0 : Mem}  (hs : MLe h0 (mem w0)) {k : Nat} {va : Value} {a : (T3 Rat)} (ra : (rpT (rpQ k)).Is h0 va a) (hcd0 : k ≤ 1000000000)  :
    Calls Tryz.prog 63 #[va] w0 (Ret w0 h0 (fun _ r => r = vB (a = (T3.mk (0 : Rat) 0 0)))) := by
 refine zP (n := 6) (e := [(0, va)]) (vs := [va]) Tryz.func63 rfl rfl (Nat.le_of_ble_eq_true rfl) hs ⟨rfl, trivial⟩ (zC (zA (zK (yY (ρ := (rpT (rpQ k))) rfl ra) rfl rfl rfl ?_)))
 intro v1 q1 hq1
 obtain ⟨b1, cs1, rfl, rfl, rb1⟩ := hq1
 refine asg rfl rfl (zD (zB (zC (zA (wG (F := fun v_ => (rpT (rpQ k)).Is h0 v_ a) (zE xG (Pc.here _) rfl rfl rb1 rfl) (yF (.head _)) rfl ?_)))))
 intro v3 r3
 refine wG (F := fun v_ => (rpT (rpQ 1)).Is h0 v_ (T3.mk (0 : Rat) 0 0)) (wV (ps' := []) Tryz.underlying32 yB rfl rfl Tryz.sizeOf30 trivial rfl (wI (wD (by decide))) xY) uH rfl ?_
 intro v4 r4
 refine zM (vs := [_, _]) rfl rfl rfl rfl Tryz.call97 ⟨rfl, rfl, trivial⟩ (fun w hs => o_v_same hs r3 r4 (by omega)) ?_
 intro v5 h1 hh1 r5
 obtain rfl : v5 = vB (a = (T3.mk (0 : Rat) 0 0)) := r5
 refine asg rfl rfl (zD (zB (zR (yJ rfl rfl ?_))))
 rfl
theorem aM {w0 : World} {h0 : Mem}  (hs : MLe h0 (mem w0)) {m l k : Nat} {vs : Value} {s : ((T3 Rat) × Rat)} (rs : (rpP (rpT (rpQ m)) (rpQ l)).Is h0 vs s) {vp : Value} {p : (T3 Rat)} (rp : (rpT (rpQ k)).Is h0 vp p) (hcd0 : k ≤ 100000000) (hcd1 : l ≤ 100000000) (hcd2 : m ≤ 100000000)  :
    Calls Tryz.prog 99 #[vs, vp] w0 (Ret w0 h0 (fun _ r => r = vI (sdZ s p))) := by
 refine zP (n := 12) (e := [(0, vs), (1, vp)]) (vs := [vs, vp]) Tryz.func99 rfl rfl (Nat.le_of_ble_eq_true rfl) hs ⟨rfl, rfl, trivial⟩ (zC (zA (zK (yY (ρ := (rpP (rpT (rpQ m)) (rpQ l))) rfl rs) rfl rfl rfl ?_)))
 intro v2 q2 hq2
 obtain ⟨b2, cs2, rfl, rfl, rb2⟩ := hq2
 refine zK (yY (ρ := (rpT (rpQ k))) rfl rp) rfl rfl rfl ?_
 intro v3 q3 hq3
 obtain ⟨b3, cs3, rfl, rfl, rb3⟩ := hq3
 refine asg (v := vI (0)) rfl rfl (zD (zB (zC ?_)))
 refine yI 8 _ [] [(0, .q), (1, .q), (2, .q), (4, .q), (5, .q), (3, .c), (6, .c), (7, .q)] xI (fun x hx => by cases hx) (by kernel_rfl) (fun x hx => by cases hx) (fun r hr => hr) (w_q rfl (fun h' L' hh hR => (zI Tryz.underlying34 rfl Tryz.sizeOf32 rfl).cv (show _ = vP b2 0 from congrArg (vP b2) (by rfl))) rfl (yR (F := fun v_ => (rpT (rpQ m)).Is h0 v_ s.1) rfl (zE xG (Pc.fst (Pc.here _)) rfl rfl rb2 rfl) (yF (.tail _ (.head _))) rfl ?_))
 intro v6 r6
 refine yR (F := fun v_ => (rpT (rpQ k)).Is h0 v_ p) rfl (zE xG (Pc.here _) rfl rfl rb3 rfl) (yF (.head _)) rfl ?_
 intro v7 r7
 refine w_q rfl (fun h' L' hh hR => (zI Tryz.underlying34 rfl Tryz.sizeOf30 rfl).cv (show _ = vP b2 9 from congrArg (vP b2) (by rfl))) rfl (yR (F := fun v_ => (rpQ l).Is h0 v_ s.2) rfl (zE wA (Pc.snd (Pc.here _)) rfl rfl rb2 rfl) (yF (.tail _ (.head _))) rfl ?_)
 intro v10 r10
 refine w_c rfl ?_
 refine yD (vs := [_, _]) Tryz.call79 ⟨rfl, rfl, trivial⟩ (fun w hs => o_v_dot hs r6 r7 (by omega)) rfl ?_
 intro v8 h1 hh1 r8
 change (rpQ (3 * m + 3 * k + 9)).Is h1 v8 (jP s.1 p) at r8
 replace r8 := Rp.Is.le r8 (Le.q (l := 3 * k + 3 * m + 9) (by omega))
 refine w_c rfl ?_
 replace r10 := r10.mono hh1
 refine yD (vs := [_, _]) Tryz.call104 ⟨rfl, rfl, trivial⟩ (fun w hs => iM hs r8 r10 (by omega)) rfl ?_
 intro v11 h2 hh2 r11
 obtain rfl : v11 = vI (kF (jP s.1 p) s.2) := r11
 have hcr11 := tG (jP s.1 p) s.2
 refine w_q rfl (fun h' L' hh hR => zY rfl) rfl (xB (zJ (e' := [(4, _)]) ⟨rfl, trivial⟩ (zB (zR (yJ rfl rfl ?_)))))
 exact congrArg vI (side_cmp s p)
theorem lT {w0 : World} {h0 : Mem}  (hs : MLe h0 (mem w0)) {m l k : Nat} {vs : Value} {s : ((T3 Rat) × Rat)} (rs : (rpP (rpT (rpQ m)) (rpQ l)).Is h0 vs s) {vp : Value} {p : (T3 Rat)} (rp : (rpT (rpQ k)).Is h0 vp p) (hcd0 : k ≤ 100000000) (hcd1 : l ≤ 100000000) (hcd2 : m ≤ 100000000)  :
    Calls Tryz.prog 25 #[vs, vp] w0 (Ret w0 h0 (fun _ r => r = vI (sdZ s p))) := by
 refine zP (n := 13) (e := [(0, vs), (1, vp)]) (vs := [vs, vp]) Tryz.func25 rfl rfl (Nat.le_of_ble_eq_true rfl) hs ⟨rfl, rfl, trivial⟩ (zC (zA (zK (yY (ρ := (rpP (rpT (rpQ m)) (rpQ l))) rfl rs) rfl rfl rfl ?_)))
 intro v2 q2 hq2
 obtain ⟨b2, cs2, rfl, rfl, rb2⟩ := hq2
 refine zK (yY (ρ := (rpT (rpQ k))) rfl rp) rfl rfl rfl ?_
 intro v3 q3 hq3
 obtain ⟨b3, cs3, rfl, rfl, rb3⟩ := hq3
 refine asg (v := vI (0)) rfl rfl (zD (zB (zC ?_)))
 refine yI 9 _ [] [(0, .q), (1, .q), (2, .q), (4, .q), (5, .q), (3, .c), (6, .c), (7, .c), (8, .q)] xI (fun x hx => by cases hx) (by kernel_rfl) (fun x hx => by cases hx) (fun r hr => hr) (w_q rfl (fun h' L' hh hR => (zI Tryz.underlying34 rfl Tryz.sizeOf32 rfl).cv (show _ = vP b2 0 from congrArg (vP b2) (by rfl))) rfl (yR (F := fun v_ => (rpT (rpQ m)).Is h0 v_ s.1) rfl (zE xG (Pc.fst (Pc.here _)) rfl rfl rb2 rfl) (yF (.tail _ (.head _))) rfl ?_))
 intro v6 r6
 refine yR (F := fun v_ => (rpT (rpQ k)).Is h0 v_ p) rfl (zE xG (Pc.here _) rfl rfl rb3 rfl) (yF (.head _)) rfl ?_
 intro v7 r7
 refine w_q rfl (fun h' L' hh hR => (zI Tryz.underlying34 rfl Tryz.sizeOf30 rfl).cv (show _ = vP b2 9 from congrArg (vP b2) (by rfl))) rfl (yR (F := fun v_ => (rpQ l).Is h0 v_ s.2) rfl (zE wA (Pc.snd (Pc.here _)) rfl rfl rb2 rfl) (yF (.tail _ (.head _))) rfl ?_)
 intro v10 r10
 refine w_c rfl ?_
 refine yD (vs := [_, _]) Tryz.call57 ⟨rfl, rfl, trivial⟩ (fun w hs => aO hs r6 r7 (by omega)) rfl ?_
 intro v8 h1 hh1 r8
 change (rpQ (3 * m + 3 * k + 9)).Is h1 v8 (jP s.1 p) at r8
 replace r8 := Rp.Is.le r8 (Le.q (l := 3 * k + 3 * m + 9) (by omega))
 refine w_c rfl ?_
 replace r10 := r10.mono hh1
 refine yD (vs := [_, _]) Tryz.call56 ⟨rfl, rfl, trivial⟩ (fun w hs => qZ hs r8 r10 (by omega)) rfl ?_
 intro v11 h2 hh2 r11
 change (rpQ ((3 * k + 3 * m + 9) + l + 1)).Is h2 v11 ((jP s.1 p) - s.2) at r11
 replace r11 := Rp.Is.le r11 (Le.q (l := 3 * k + l + 3 * m + 10) (by omega))
 refine w_c rfl ?_
 refine yD (vs := [_]) Tryz.call50 ⟨rfl, trivial⟩ (fun w hs => gK hs r11 (by omega)) rfl ?_
 intro v12 h3 hh3 r12
 obtain rfl : v12 = vI (uY ((jP s.1 p) - s.2)) := r12
 have hsr12 := vY ((jP s.1 p) - s.2)
 refine w_q rfl (fun h' L' hh hR => zY rfl) rfl (xB (zJ (e' := [(4, _)]) ⟨rfl, trivial⟩ (zB (zR (yJ rfl rfl ?_)))))
 rfl
theorem iP {w0 : World} {h0 : Mem}  (hs : MLe h0 (mem w0)) {m l k : Nat} {vs : Value} {s : ((T3 Rat) × Rat)} (rs : (rpP (rpT (rpQ m)) (rpQ l)).Is h0 vs s) {vp : Value} {p : (T3 Rat)} (rp : (rpT (rpQ k)).Is h0 vp p) (hcd0 : k ≤ 100000000) (hcd1 : l ≤ 100000000) (hcd2 : m ≤ 100000000)  :
    Calls Tryz.prog 64 #[vs, vp] w0 (Ret w0 h0 (fun _ r => r = vI (sdZ s p))) := by
 refine zP (n := 61) (e := [(0, vs), (1, vp)]) (vs := [vs, vp]) Tryz.func64 rfl rfl (Nat.le_of_ble_eq_true rfl) hs ⟨rfl, rfl, trivial⟩ (zC (zA (zK (yY (ρ := (rpP (rpT (rpQ m)) (rpQ l))) rfl rs) rfl rfl rfl ?_)))
 intro v2 q2 hq2
 obtain ⟨b2, cs2, rfl, rfl, rb2⟩ := hq2
 refine zK (yY (ρ := (rpT (rpQ k))) rfl rp) rfl rfl rfl ?_
 intro v3 q3 hq3
 obtain ⟨b3, cs3, rfl, rfl, rb3⟩ := hq3
 refine asg (v := vI (0)) rfl rfl (zD (zB (zC (zA (asg (v := vI (0)) rfl rfl (zD (zB (zC (zC (zA (mv (v := vI (0)) rfl rfl (zD (zB ?_)))))))))))))
 refine zS (jS (zC (zA (gv (OpV.tr (by decide) (zW (q := 3) rfl rfl)) rfl (zD (zB (zC (xR rfl (zL (zB (zC (zS (zC ?_)))))))))))))
 refine zA (mv rfl rfl (asg rfl rfl (zD (zB (zC (zA (mv rfl rfl (gv ((zI Tryz.underlying34 rfl Tryz.sizeOf32 rfl).cv (show _ = vP b2 0 from congrArg (vP b2) (by rfl))) rfl (gv ((zH (sz := 3) 0 Tryz.underlying32 Tryz.sizeOf30 rfl rfl rfl (by decide)).cv (show _ = vP b2 0 from congrArg (vP b2) (by rfl))) rfl (wG (F := fun v_ => (rpQ m).Is h0 v_ s.1.x) (zE wA (Pc.fst (Pc.tx (Pc.here _))) rfl rfl rb2 rfl) (yF (.tail _ (.head _))) rfl ?_))))))))))
 intro v20u25 r20u25
 refine zM (vs := [_]) rfl rfl rfl rfl Tryz.call98 ⟨rfl, trivial⟩ (fun w hs => kT hs r20u25) ?_
 intro v21u25 h1 hh1 r21u25
 obtain rfl := r21u25
 refine mv rfl rfl (gv (zN (vs := [_, _]) rfl rfl) rfl (gv (zN (vs := [_, _]) rfl rfl) rfl (asg rfl rfl (asg rfl rfl (zD (zJ (e' := [(2, _), (3, _), (5, _), (13, _), (6, _), (7, _), (8, _)]) ⟨rfl, rfl, rfl, rfl, rfl, rfl, rfl, trivial⟩ (zB (zC (zA (mv rfl rfl (gv ((zH (sz := 3) 0 Tryz.underlying32 Tryz.sizeOf30 rfl rfl rfl (by decide)).cv (show _ = vP b3 0 from congrArg (vP b3) (by rfl))) rfl ?_)))))))))))
 replace rb3 := rb3.mono hh1
 refine wG (F := fun v_ => (rpQ k).Is h1 v_ p.x) (zE wA (Pc.tx (Pc.here _)) rfl rfl rb3 rfl) (yF (.head _)) rfl ?_
 intro v27u25 r27u25
 refine zM (vs := [_]) rfl rfl rfl rfl Tryz.call98 ⟨rfl, trivial⟩ (fun w hs => kT hs r27u25) ?_
 intro v28u25 h2 hh2 r28u25
 obtain rfl := r28u25
 refine mv rfl rfl (gv (zN (vs := [_, _]) rfl rfl) rfl (gv (zN (vs := [_, _]) rfl rfl) rfl (asg rfl rfl (asg rfl rfl (zD (zB (zC (zC (zA (mv rfl rfl (gv (kS rfl) rfl ?_)))))))))))
 refine vO (ι := Unit) 4 (fun _ => True) (fun _ => [(36, vB ((¬ (smB s.1.x)) ∨ (¬ (smB p.x)))), (2, vP b2 0), (3, vP b3 0), (5, vI (0)), (13, vI (0)), (7, vI (smZ s.1.x)), (9, vI (smZ p.x))]) (fun _ => [.var b3 32 cs3, .var b2 34 cs2]) (fun _ => h2) ?_ ?_
 ·
  refine wM (¬ (smB s.1.x)) (fun hg => ?_) (fun hg => ?_)
  ·
   refine xH (zG (v := .bool true) (congrArg some (xS hg))) rfl rfl rfl (yL rfl rfl rfl rfl rfl rfl (yL rfl rfl rfl rfl rfl rfl (gv (xK rfl rfl) rfl (zD ?_))))
   refine yN () trivial ⟨?_, rfl, rfl, rfl, rfl, rfl, rfl, trivial⟩ rfl rfl
   exact congrArg some (qR hg)
  refine xH (zG (v := .bool false) (congrArg some (yX hg))) rfl rfl rfl (xA rfl rfl rfl (mv rfl rfl (xA rfl rfl rfl (gv (kS rfl) rfl (gv (wB rfl rfl) rfl (zD ?_))))))
  refine yN () trivial ⟨?_, rfl, rfl, rfl, rfl, rfl, rfl, trivial⟩ rfl rfl
  exact congrArg some (qS hg)
 intro _ _
 show GL _ _ _ _ _ _ _ [(36, vB ((¬ (smB s.1.x)) ∨ (¬ (smB p.x)))), (2, vP b2 0), (3, vP b3 0), (5, vI (0)), (13, vI (0)), (7, vI (smZ s.1.x)), (9, vI (smZ p.x))] [.var b3 32 cs3, .var b2 34 cs2] h2
 refine zD (zB ?_)
 refine zO rfl (fun hc36 => ?_) (fun hc36 => ?_)
 ·
  refine zC (zA ?_)
  replace rb2 := rb2.mono (hh1.trans hh2)
  refine wG (F := fun v_ => (rpP (rpT (rpQ m)) (rpQ l)).Is h2 v_ s) (zE kE (Pc.here _) rfl rfl rb2 rfl) (yF (.tail _ (.head _))) rfl ?_
  intro v37u25 r37u25
  replace rb3 := rb3.mono hh2
  refine wG (F := fun v_ => (rpT (rpQ k)).Is h2 v_ p) (zE xG (Pc.here _) rfl rfl rb3 rfl) (yF (.head _)) rfl ?_
  intro v38u25 r38u25
  refine zM (vs := [_, _]) rfl rfl rfl rfl Tryz.call99 ⟨rfl, rfl, trivial⟩ (fun w hs => aM hs r37u25 r38u25 (by omega) (by omega) (by omega)) ?_
  intro v39u25 h3 hh3 r39u25
  obtain rfl : v39u25 = vI (sdZ s p) := r39u25
  have hsd39u25 := kY s p
  refine asg rfl rfl (zD (zJ (e' := [(4, _)]) ⟨rfl, trivial⟩ (zB (zR (zX (wY (zX (zX (wY (zX (yJ rfl rfl ?_)))))))))))
  rfl
 obtain ⟨hsm, hpr⟩ := hT hc36
 refine zL (zB (zA (mv rfl rfl (mv rfl rfl (mv rfl rfl (gv (jQ rfl rfl (by omega) (by omega)) rfl (gv (zQ rfl rfl (by omega) (by omega)) rfl (asg rfl rfl (zD (yV (zB (zA (gv ((zQ (q := 1) rfl rfl (by omega) (by omega)).cv (show _ = vI (1) from rfl)) rfl ?_)))))))))))))
 refine mv rfl rfl (zD (xU (zC (zA (gv (OpV.tr (by decide) (zW (q := 3) rfl rfl)) rfl (zD (zB (zC (xR rfl (zL (zJ (e' := [(2, _), (3, _), (5, _), (13, _)]) ⟨rfl, rfl, rfl, rfl, trivial⟩ (zB (zC ?_)))))))))))))
 refine zS (zC (zA (mv rfl rfl (asg rfl rfl (zD (zB (zC (zA (mv rfl rfl (gv ((zI Tryz.underlying34 rfl Tryz.sizeOf32 rfl).cv (show _ = vP b2 0 from congrArg (vP b2) (by rfl))) rfl (gv ((zH (sz := 3) 1 Tryz.underlying32 Tryz.sizeOf30 rfl rfl rfl (by decide)).cv (show _ = vP b2 3 from congrArg (vP b2) (by rfl))) rfl ?_)))))))))))
 replace rb2 := rb2.mono (hh1.trans hh2)
 refine wG (F := fun v_ => (rpQ m).Is h2 v_ s.1.y) (zE wA (Pc.fst (Pc.ty (Pc.here _))) rfl rfl rb2 rfl) (yF (.tail _ (.head _))) rfl ?_
 intro v20u26 r20u26
 refine zM (vs := [_]) rfl rfl rfl rfl Tryz.call98 ⟨rfl, trivial⟩ (fun w hs => kT hs r20u26) ?_
 intro v21u26 h3 hh3 r21u26
 obtain rfl := r21u26
 refine mv rfl rfl (gv (zN (vs := [_, _]) rfl rfl) rfl (gv (zN (vs := [_, _]) rfl rfl) rfl (asg rfl rfl (asg rfl rfl (zD (zB (zC (zA (mv rfl rfl (gv ((zH (sz := 3) 1 Tryz.underlying32 Tryz.sizeOf30 rfl rfl rfl (by decide)).cv (show _ = vP b3 3 from congrArg (vP b3) (by rfl))) rfl ?_))))))))))
 replace rb3 := rb3.mono (hh2.trans hh3)
 refine wG (F := fun v_ => (rpQ k).Is h3 v_ p.y) (zE wA (Pc.ty (Pc.here _)) rfl rfl rb3 rfl) (yF (.head _)) rfl ?_
 intro v27u26 r27u26
 refine zM (vs := [_]) rfl rfl rfl rfl Tryz.call98 ⟨rfl, trivial⟩ (fun w hs => kT hs r27u26) ?_
 intro v28u26 h4 hh4 r28u26
 obtain rfl := r28u26
 refine mv rfl rfl (gv (zN (vs := [_, _]) rfl rfl) rfl (gv (zN (vs := [_, _]) rfl rfl) rfl (asg rfl rfl (asg rfl rfl (zD (zJ (e' := [(2, _), (3, _), (5, _), (13, _), (7, _), (8, _), (9, _), (10, _)]) ⟨rfl, rfl, rfl, rfl, rfl, rfl, rfl, rfl, trivial⟩ (zB (zC (zC (zA (mv rfl rfl (gv (kS rfl) rfl ?_))))))))))))
 refine vO (ι := Unit) 4 (fun _ => True) (fun _ => [(36, vB ((¬ (smB s.1.y)) ∨ (¬ (smB p.y)))), (2, vP b2 0), (3, vP b3 0), (5, vI ((0 : Int) + ((smZ s.1.x) * (smZ p.x)))), (13, vI (1)), (7, vI (smZ s.1.y)), (9, vI (smZ p.y))]) (fun _ => [.var b3 32 cs3, .var b2 34 cs2]) (fun _ => h4) ?_ ?_
 ·
  refine wM (¬ (smB s.1.y)) (fun hg => ?_) (fun hg => ?_)
  ·
   refine xH (zG (v := .bool true) (congrArg some (xS hg))) rfl rfl rfl (yL rfl rfl rfl rfl rfl rfl (yL rfl rfl rfl rfl rfl rfl (gv (xK rfl rfl) rfl (zD ?_))))
   refine yN () trivial ⟨?_, rfl, rfl, rfl, rfl, rfl, rfl, trivial⟩ rfl rfl
   exact congrArg some (qR hg)
  refine xH (zG (v := .bool false) (congrArg some (yX hg))) rfl rfl rfl (xA rfl rfl rfl (mv rfl rfl (xA rfl rfl rfl (gv (kS rfl) rfl (gv (wB rfl rfl) rfl (zD ?_))))))
  refine yN () trivial ⟨?_, rfl, rfl, rfl, rfl, rfl, rfl, trivial⟩ rfl rfl
  exact congrArg some (qS hg)
 intro _ _
 show GL _ _ _ _ _ _ _ [(36, vB ((¬ (smB s.1.y)) ∨ (¬ (smB p.y)))), (2, vP b2 0), (3, vP b3 0), (5, vI ((0 : Int) + ((smZ s.1.x) * (smZ p.x)))), (13, vI (1)), (7, vI (smZ s.1.y)), (9, vI (smZ p.y))] [.var b3 32 cs3, .var b2 34 cs2] h4
 refine zD (zB ?_)
 refine zO rfl (fun hc36 => ?_) (fun hc36 => ?_)
 ·
  refine zC (zA ?_)
  replace rb2 := rb2.mono (hh3.trans hh4)
  refine wG (F := fun v_ => (rpP (rpT (rpQ m)) (rpQ l)).Is h4 v_ s) (zE kE (Pc.here _) rfl rfl rb2 rfl) (yF (.tail _ (.head _))) rfl ?_
  intro v37u26 r37u26
  replace rb3 := rb3.mono hh4
  refine wG (F := fun v_ => (rpT (rpQ k)).Is h4 v_ p) (zE xG (Pc.here _) rfl rfl rb3 rfl) (yF (.head _)) rfl ?_
  intro v38u26 r38u26
  refine zM (vs := [_, _]) rfl rfl rfl rfl Tryz.call99 ⟨rfl, rfl, trivial⟩ (fun w hs => aM hs r37u26 r38u26 (by omega) (by omega) (by omega)) ?_
  intro v39u26 h5 hh5 r39u26
  obtain rfl : v39u26 = vI (sdZ s p) := r39u26
  have hsd39u26 := kY s p
  refine asg rfl rfl (zD (zJ (e' := [(4, _)]) ⟨rfl, trivial⟩ (zB (zR (zX (wY (zX (zX (wY (zX (yJ rfl rfl ?_)))))))))))
  rfl
 obtain ⟨hsm, hpr⟩ := hT hc36
 refine zL (zB (zA (mv rfl rfl (mv rfl rfl (mv rfl rfl (gv (jQ rfl rfl (by omega) (by omega)) rfl (gv (zQ rfl rfl (by omega) (by omega)) rfl (asg rfl rfl (zD (yV (zB (zA (gv ((zQ (q := 1) rfl rfl (by omega) (by omega)).cv (show _ = vI (2) from rfl)) rfl ?_)))))))))))))
 refine mv rfl rfl (zD (xU (zC (zA (gv (OpV.tr (by decide) (zW (q := 3) rfl rfl)) rfl (zD (zB (zC (xR rfl (zL (zJ (e' := [(2, _), (3, _), (5, _), (13, _)]) ⟨rfl, rfl, rfl, rfl, trivial⟩ (zB (zC ?_)))))))))))))
 refine zS (zC (zA (mv rfl rfl (asg rfl rfl (zD (zB (zC (zA (mv rfl rfl (gv ((zI Tryz.underlying34 rfl Tryz.sizeOf32 rfl).cv (show _ = vP b2 0 from congrArg (vP b2) (by rfl))) rfl (gv ((zH (sz := 3) 2 Tryz.underlying32 Tryz.sizeOf30 rfl rfl rfl (by decide)).cv (show _ = vP b2 6 from congrArg (vP b2) (by rfl))) rfl ?_)))))))))))
 replace rb2 := rb2.mono (hh3.trans hh4)
 refine wG (F := fun v_ => (rpQ m).Is h4 v_ s.1.z) (zE wA (Pc.fst (Pc.tz (Pc.here _))) rfl rfl rb2 rfl) (yF (.tail _ (.head _))) rfl ?_
 intro v20u27 r20u27
 refine zM (vs := [_]) rfl rfl rfl rfl Tryz.call98 ⟨rfl, trivial⟩ (fun w hs => kT hs r20u27) ?_
 intro v21u27 h5 hh5 r21u27
 obtain rfl := r21u27
 refine mv rfl rfl (gv (zN (vs := [_, _]) rfl rfl) rfl (gv (zN (vs := [_, _]) rfl rfl) rfl (asg rfl rfl (asg rfl rfl (zD (zB (zC (zA (mv rfl rfl (gv ((zH (sz := 3) 2 Tryz.underlying32 Tryz.sizeOf30 rfl rfl rfl (by decide)).cv (show _ = vP b3 6 from congrArg (vP b3) (by rfl))) rfl ?_))))))))))
 replace rb3 := rb3.mono (hh4.trans hh5)
 refine wG (F := fun v_ => (rpQ k).Is h5 v_ p.z) (zE wA (Pc.tz (Pc.here _)) rfl rfl rb3 rfl) (yF (.head _)) rfl ?_
 intro v27u27 r27u27
 refine zM (vs := [_]) rfl rfl rfl rfl Tryz.call98 ⟨rfl, trivial⟩ (fun w hs => kT hs r27u27) ?_
 intro v28u27 h6 hh6 r28u27
 obtain rfl := r28u27
 refine mv rfl rfl (gv (zN (vs := [_, _]) rfl rfl) rfl (gv (zN (vs := [_, _]) rfl rfl) rfl (asg rfl rfl (asg rfl rfl (zD (zJ (e' := [(2, _), (3, _), (5, _), (13, _), (7, _), (8, _), (9, _), (10, _)]) ⟨rfl, rfl, rfl, rfl, rfl, rfl, rfl, rfl, trivial⟩ (zB (zC (zC (zA (mv rfl rfl (gv (kS rfl) rfl ?_))))))))))))
 refine vO (ι := Unit) 4 (fun _ => True) (fun _ => [(36, vB ((¬ (smB s.1.z)) ∨ (¬ (smB p.z)))), (2, vP b2 0), (3, vP b3 0), (5, vI (((0 : Int) + ((smZ s.1.x) * (smZ p.x))) + ((smZ s.1.y) * (smZ p.y)))), (13, vI (2)), (7, vI (smZ s.1.z)), (9, vI (smZ p.z))]) (fun _ => [.var b3 32 cs3, .var b2 34 cs2]) (fun _ => h6) ?_ ?_
 ·
  refine wM (¬ (smB s.1.z)) (fun hg => ?_) (fun hg => ?_)
  ·
   refine xH (zG (v := .bool true) (congrArg some (xS hg))) rfl rfl rfl (yL rfl rfl rfl rfl rfl rfl (yL rfl rfl rfl rfl rfl rfl (gv (xK rfl rfl) rfl (zD ?_))))
   refine yN () trivial ⟨?_, rfl, rfl, rfl, rfl, rfl, rfl, trivial⟩ rfl rfl
   exact congrArg some (qR hg)
  refine xH (zG (v := .bool false) (congrArg some (yX hg))) rfl rfl rfl (xA rfl rfl rfl (mv rfl rfl (xA rfl rfl rfl (gv (kS rfl) rfl (gv (wB rfl rfl) rfl (zD ?_))))))
  refine yN () trivial ⟨?_, rfl, rfl, rfl, rfl, rfl, rfl, trivial⟩ rfl rfl
  exact congrArg some (qS hg)
 intro _ _
 show GL _ _ _ _ _ _ _ [(36, vB ((¬ (smB s.1.z)) ∨ (¬ (smB p.z)))), (2, vP b2 0), (3, vP b3 0), (5, vI (((0 : Int) + ((smZ s.1.x) * (smZ p.x))) + ((smZ s.1.y) * (smZ p.y)))), (13, vI (2)), (7, vI (smZ s.1.z)), (9, vI (smZ p.z))] [.var b3 32 cs3, .var b2 34 cs2] h6
 refine zD (zB ?_)
 refine zO rfl (fun hc36 => ?_) (fun hc36 => ?_)
 ·
  refine zC (zA ?_)
  replace rb2 := rb2.mono (hh5.trans hh6)
  refine wG (F := fun v_ => (rpP (rpT (rpQ m)) (rpQ l)).Is h6 v_ s) (zE kE (Pc.here _) rfl rfl rb2 rfl) (yF (.tail _ (.head _))) rfl ?_
  intro v37u27 r37u27
  replace rb3 := rb3.mono hh6
  refine wG (F := fun v_ => (rpT (rpQ k)).Is h6 v_ p) (zE xG (Pc.here _) rfl rfl rb3 rfl) (yF (.head _)) rfl ?_
  intro v38u27 r38u27
  refine zM (vs := [_, _]) rfl rfl rfl rfl Tryz.call99 ⟨rfl, rfl, trivial⟩ (fun w hs => aM hs r37u27 r38u27 (by omega) (by omega) (by omega)) ?_
  intro v39u27 h7 hh7 r39u27
  obtain rfl : v39u27 = vI (sdZ s p) := r39u27
  have hsd39u27 := kY s p
  refine asg rfl rfl (zD (zJ (e' := [(4, _)]) ⟨rfl, trivial⟩ (zB (zR (zX (wY (zX (zX (wY (zX (yJ rfl rfl ?_)))))))))))
  rfl
 obtain ⟨hsm, hpr⟩ := hT hc36
 refine zL (zB (zA (mv rfl rfl (mv rfl rfl (mv rfl rfl (gv (jQ rfl rfl (by omega) (by omega)) rfl (gv (zQ rfl rfl (by omega) (by omega)) rfl (asg rfl rfl (zD (yV (zB (zA (gv ((zQ (q := 1) rfl rfl (by omega) (by omega)).cv (show _ = vI (3) from rfl)) rfl ?_)))))))))))))
 refine mv rfl rfl (zD (xU (zC (zA (gv (OpV.fa (by decide) (zW (q := 3) rfl rfl)) rfl (zD (zB (zC (vX rfl (xQ (yE (yE (xO ?_)))))))))))))
 refine zJ (e' := [(2, _), (3, _), (5, _)]) ⟨rfl, rfl, rfl, trivial⟩ (zB (zC (zA (gv ((zI Tryz.underlying34 rfl Tryz.sizeOf30 rfl).cv (show _ = vP b2 9 from congrArg (vP b2) (by rfl))) rfl ?_))))
 replace rb2 := rb2.mono (hh5.trans hh6)
 refine wG (F := fun v_ => (rpQ l).Is h6 v_ s.2) (zE wA (Pc.snd (Pc.here _)) rfl rfl rb2 rfl) (yF (.tail _ (.head _))) rfl ?_
 intro v48u28 r48u28
 refine zM (vs := [_]) rfl rfl rfl rfl Tryz.call98 ⟨rfl, trivial⟩ (fun w hs => kT hs r48u28) ?_
 intro v49u28 h7 hh7 r49u28
 obtain rfl := r49u28
 refine mv rfl rfl (gv (zN (vs := [_, _]) rfl rfl) rfl (gv (zN (vs := [_, _]) rfl rfl) rfl (asg rfl rfl (asg rfl rfl (zD (zB (zC (zC (zA (mv rfl rfl (gv (kS rfl) rfl (zD (zB ?_)))))))))))))
 refine zO rfl (fun hc53 => ?_) (fun hc53 => ?_)
 ·
  refine wH (e' := [(2, _), (3, _)]) ⟨rfl, rfl, trivial⟩ (zC (zA ?_))
  replace rb2 := rb2.mono hh7
  refine wG (F := fun v_ => (rpP (rpT (rpQ m)) (rpQ l)).Is h7 v_ s) (zE kE (Pc.here _) rfl rfl rb2 rfl) (yF (.tail _ (.head _))) rfl ?_
  intro v54u28 r54u28
  replace rb3 := rb3.mono (hh6.trans hh7)
  refine wG (F := fun v_ => (rpT (rpQ k)).Is h7 v_ p) (zE xG (Pc.here _) rfl rfl rb3 rfl) (yF (.head _)) rfl ?_
  intro v55u28 r55u28
  refine zM (vs := [_, _]) rfl rfl rfl rfl Tryz.call99 ⟨rfl, rfl, trivial⟩ (fun w hs => aM hs r54u28 r55u28 (by omega) (by omega) (by omega)) ?_
  intro v56u28 h8 hh8 r56u28
  obtain rfl : v56u28 = vI (sdZ s p) := r56u28
  have hsd56u28 := kY s p
  refine asg rfl rfl (zD (zB (zR (zX (yJ rfl rfl ?_)))))
  rfl
 have hsb := Classical.not_not.1 hc53
 have hsd := gZ hsb
 refine wH (e' := [(5, _), (11, _)]) ⟨rfl, rfl, trivial⟩ (zL (zB (zC (zA (mv rfl rfl (mv rfl rfl (gv (xT rfl rfl (by omega) (by omega)) rfl ?_)))))))
 refine zM (vs := [_]) rfl rfl rfl rfl Tryz.call100 ⟨rfl, trivial⟩ (fun w hs => iO hs (by omega) (by omega)) ?_
 intro v60u28 h8 hh8 r60u28
 obtain rfl : v60u28 = vI (eN (((((0 : Int) + ((smZ s.1.x) * (smZ p.x))) + ((smZ s.1.y) * (smZ p.y))) + ((smZ s.1.z) * (smZ p.z))) - (smZ s.2))) := r60u28
 refine asg rfl rfl (zD (zB (zR (yJ rfl rfl ?_))))
 exact congrArg vI (side_sum (by assumption) (by assumption) (by assumption) hsb)
end Go.Proofs.YtghhjjmjpeehdaaGreat
namespace Bk
set_option linter.unusedVariables false
set_option linter.unusedSimpArgs false
open Classical
noncomputable def yLoT (a b : Pt) : Pt := if 0 < kF a.y b.y then b else a
noncomputable def yHiT (a b : Pt) : Pt := if 0 < kF a.y b.y then a else b
noncomputable def whTo (L : List (List Pt)) (p : P2) (i j : Nat) : Nat → Int
  | 0 => -1
  | m + 1 => if insZ (L.getD m []) p i j = 1 then -(whTo L p i j m) else whTo L p i j m
noncomputable def whZ (L : List (List Pt)) (p : P2) (i j : Nat) : Int := if ∃ m, m < L.length ∧ insZ (L.getD m []) p i j = 0 then 0 else whTo L p i j L.length
end Bk
namespace Bk
set_option linter.unusedVariables false
set_option linter.unusedSimpArgs false
open Classical
def cutsP (a b : List Pt) (i j p q : Nat) : Prop := 1 < touch2 (nP a i j p) (nO a i j p) (nP b i j q) (nO b i j q)
def crossesP (a b : List Pt) (i j : Nat) : Prop := ∃ p q, p < a.length ∧ q < b.length ∧ cutsP a b i j p q
theorem aL {Q : Nat → Prop} {q : Nat} (h : ∀ v, v < q → Q v) (h1 : Q q) : ∀ v, v < q + 1 → Q v := fun v hv => by
  rcases Nat.lt_succ_iff_lt_or_eq.1 hv with h2 | h2
  · exact h v h2
  · subst h2; exact h1
noncomputable def mid2 (u v : P2) : P2 := (midQ u.1 v.1, midQ u.2 v.2)
noncomputable def t0 (c l : List Pt) (i j : Nat) : Nat → Int
  | 0 => 0
  | m + 1 => if insZ c (mid2 (nP l i j m) (nO l i j m)) i j = 1 then t0 c l i j m + 1 else t0 c l i j m
def arZ (l : List Pt) (i j : Nat) : Rat := eG l i j l.length
noncomputable def wiZ (c l : List Pt) (i j : Nat) : Int := t0 c l i j l.length
abbrev gl (L : List (List Pt)) (m : Nat) : List Pt := L.getD m []
def betP (L : List (List Pt)) (i j k m : Nat) (best : Int) : Prop :=
  (0 < uY (arZ (gl L m) i j) ∧ wiZ (gl L m) (gl L k) i j = ↑(gl L k).length) ∧ (best < 0 ∨ kF (arZ (gl L m) i j) (arZ (gl L best.toNat) i j) < 0)
noncomputable def parTo (L : List (List Pt)) (i j k : Nat) : Nat → Int
  | 0 => -1
  | m + 1 => if betP L i j k m (parTo L i j k m) then ↑m else parTo L i j k m
noncomputable def pZ (L : List (List Pt)) (i j k : Nat) : Int := if 0 < uY (arZ (gl L k) i j) then -1 else parTo L i j k L.length
def sibP (L : List (List Pt)) (i j a b : Nat) : Prop := ((¬ b = a ∧ 0 ≤ pZ L i j a) ∧ pZ L i j b = pZ L i j a) ∧ 0 < wiZ (gl L b) (gl L a) i j
def lostP (L : List (List Pt)) (i j k : Nat) : Prop := ¬ 0 < uY (arZ (gl L k) i j) ∧ parTo L i j k L.length < 0
noncomputable def nestE (L : List (List Pt)) (i j : Nat) : Int :=
  if 16 < L.length ∨ ∃ m, m < L.length ∧ 64 < (gl L m).length then 2
  else if ∃ m, m < L.length ∧ ¬ simP (gl L m) i j then 8
  else if ∃ a b, a < b ∧ b < L.length ∧ crossesP (gl L a) (gl L b) i j then 32
  else if (∃ k, k < L.length ∧ lostP L i j k) ∨ ∃ a b, a < L.length ∧ b < L.length ∧ sibP L i j a b then 33 else 0
noncomputable def nestL (L : List (List Pt)) (i j : Nat) : List Int := if nestE L i j = 0 then (List.range L.length).map (pZ L i j) else []
theorem g0 {α : Type} {l : List α} {k q : Nat} {x d : α} (hk : k < l.length) : (l.set k x).getD q d = if q = k then x else l.getD q d := by
  rw [List.getD_eq_getElem?_getD, List.getD_eq_getElem?_getD, List.getElem?_set]
  by_cases h : k = q
  · rw [if_pos h, if_pos hk, if_pos h.symm]; rfl
  · rw [if_neg h, if_neg (fun e => h e.symm)]
theorem y6 {α : Type} {l : List α} {k : Nat} {x d : α} {f : Nat → α} (hk : k < l.length) (h : ∀ q, q < k → l.getD q d = f q) (hx : x = f k) : ∀ q, q < k + 1 → (l.set k x).getD q d = f q := fun q hq => by
  rw [g0 hk]
  split
  · rename_i e; rw [e, hx]
  · exact h q (by omega)
theorem set_at {α : Type} {l : List α} {k : Nat} {x d : α} (hk : k < l.length) : (l.set k x).getD k d = x := by rw [g0 hk, if_pos rfl]
end Bk
namespace Go.Proofs.YtghhjjmjpeehdaaGreat
open Bk Go
set_option linter.unusedVariables false
set_option linter.unusedSimpArgs false
set_option maxRecDepth 10000
theorem j1 {w0 : World} {h0 : Mem}  (hs : MLe h0 (mem w0)) {k : Nat} {vp : Value} {p : (T3 Rat)} (rp : (rpT (rpQ k)).Is h0 vp p) (hcd0 : k ≤ 2000000000)  :
    Calls Tryz.prog 86 #[vp] w0 (Ret w0 h0 (fun h r => (rpT (rpQ (k + 1))).Is h r p)) := by
 refine zP (n := 13) (e := [(0, vp)]) (vs := [vp]) Tryz.func86 rfl rfl (Nat.le_of_ble_eq_true rfl) hs ⟨rfl, trivial⟩ (zC (zA (zK (yY (ρ := (rpT (rpQ k))) rfl rp) rfl rfl rfl ?_)))
 intro v1 q1 hq1
 obtain ⟨b1, cs1, rfl, rfl, rb1⟩ := hq1
 refine zK (yZ (ρ := (rpT (rpQ (k + 1)))) (X := (T3.mk (0 : Rat) 0 0)) yB rfl rfl (wI (wD (by omega)))) rfl rfl rfl ?_
 intro v2 q2 hq2
 obtain ⟨b2, cs2, rfl, rfl, rb2⟩ := hq2
 refine zD (zB (zC ?_))
 refine yI 10 _ [] [(0, .q), (1, .q), (3, .q), (4, .q), (6, .q), (7, .q), (2, .c), (5, .c), (8, .c), (9, .q), (10, .t)] xI (fun x hx => by cases hx) (by kernel_rfl) (fun x hx => by cases hx) (fun r hr => hr) (w_q rfl (fun h' L' hh hR => (zH (sz := 3) (q := 0) 0 Tryz.underlying32 Tryz.sizeOf30 rfl rfl rfl (by decide)).cv (show _ = vP b1 0 from congrArg (vP b1) (by rfl))) rfl (yR (F := fun v_ => (rpQ k).Is h0 v_ p.x) rfl (zE wA (Pc.tx (Pc.here _)) rfl rfl rb1 rfl) (yF (.tail _ (.head _))) rfl ?_))
 intro v4 r4
 refine w_q rfl (fun h' L' hh hR => (zH (sz := 3) (q := 1) 1 Tryz.underlying32 Tryz.sizeOf30 rfl rfl rfl (by decide)).cv (show _ = vP b1 3 from congrArg (vP b1) (by rfl))) rfl (yR (F := fun v_ => (rpQ k).Is h0 v_ p.y) rfl (zE wA (Pc.ty (Pc.here _)) rfl rfl rb1 rfl) (yF (.tail _ (.head _))) rfl ?_)
 intro v7 r7
 refine w_q rfl (fun h' L' hh hR => (zH (sz := 3) (q := 2) 2 Tryz.underlying32 Tryz.sizeOf30 rfl rfl rfl (by decide)).cv (show _ = vP b1 6 from congrArg (vP b1) (by rfl))) rfl (yR (F := fun v_ => (rpQ k).Is h0 v_ p.z) rfl (zE wA (Pc.tz (Pc.here _)) rfl rfl rb1 rfl) (yF (.tail _ (.head _))) rfl ?_)
 intro v10 r10
 refine w_c rfl ?_
 refine yD (vs := [_]) Tryz.call111 ⟨rfl, trivial⟩ (fun w hs => lX hs r4 (by omega)) rfl ?_
 intro v5 h1 hh1 r5
 change (rpQ k).Is h1 v5 p.x at r5
 refine w_c rfl ?_
 replace r7 := r7.mono hh1
 refine yD (vs := [_]) Tryz.call111 ⟨rfl, trivial⟩ (fun w hs => lX hs r7 (by omega)) rfl ?_
 intro v8 h2 hh2 r8
 change (rpQ k).Is h2 v8 p.y at r8
 refine w_c rfl ?_
 replace r10 := r10.mono (hh1.trans hh2)
 refine yD (vs := [_]) Tryz.call111 ⟨rfl, trivial⟩ (fun w hs => lX hs r10 (by omega)) rfl ?_
 intro v11 h3 hh3 r11
 change (rpQ k).Is h3 v11 p.z at r11
 replace r5 := r5.mono (hh2.trans hh3)
 replace r8 := r8.mono hh3
 refine yR (F := fun v_ => (rpT (rpQ (k + 1))).Is h3 v_ (T3.mk p.x p.y p.z)) rfl (wV (ps' := [(0, _), (1, _), (2, _)]) Tryz.underlying32 yB rfl rfl Tryz.sizeOf30 ⟨rfl, rfl, rfl, rfl, rfl, rfl, trivial⟩ rfl (wI (wD (by omega))) (yU rfl (Pc.tx (Pc.here _)) (r5.le (Le.q (l := k + 1) (by omega))) (yU rfl (Pc.ty (Pc.here _)) (r8.le (Le.q (l := k + 1) (by omega))) (yU rfl (Pc.tz (Pc.here _)) (r11.le (Le.q (l := k + 1) (by omega))) xY)))) uH rfl ?_
 intro v12 r12
 replace rb2 := rb2.mono ((hh1.trans hh2).trans hh3)
 refine wF (A := []) (F := fun c_ => (rpT (rpQ (k + 1))).R h3 c_ (T3.mk p.x p.y p.z)) rfl (yG Tryz.sizeOf32 (Pc.here _) rfl rfl rfl rb2 r12 rfl) ?_
 intro cs_1 rb_2
 refine xB (zJ (e' := [(2, _)]) ⟨rfl, trivial⟩ (zB (zR (uG (gF (t := 2) xG (.head _) rfl rb_2) ?_))))
 intro w_3 hvw_3 rr_4
 refine xX (fun E S => yP rfl hvw_3 E S) ?_
 exact rr_4
theorem dH {w0 : World} {h0 : Mem}  (hs : MLe h0 (mem w0)) {k : Nat} {vl : Value} {l : (List (T3 Rat))} (rl : (rpS (rpT (rpQ k))).Is h0 vl l) (hcd0 : k ≤ 1000000000) (hcd1 : l.length ≤ 100000)  :
    Calls Tryz.prog 85 #[vl, vF 86 []] w0 (Ret w0 h0 (fun h r => (rpS (rpT (rpQ (k + 2)))).Is h r l)) := by
 have hll := s_lt rl
 refine zP (n := 28) (e := [(0, vl), (1, vF 86 [])]) (vs := [vl, vF 86 []]) Tryz.func85 rfl rfl (Nat.le_of_ble_eq_true rfl) hs ⟨rfl, rfl, trivial⟩ (zC (zA (asg rfl rfl (zD (zB (zC (zC (zA (mv rfl rfl (gv (mW Tryz.underlying27 rfl (s_one3 rl)) rfl (zD (zB ?_))))))))))))
 refine zO rfl (fun hc9 => ?_) (fun hc9 => ?_)
 ·
  have hnil := nil_of rl (show 0 < 9 from by decide) hc9
  refine zC (zA (asg rfl rfl (zD (zB (zR (zX (yJ rfl rfl ?_)))))))
  exact (Rp.Is.cast (cI _) (by exact hnil.symm))
 refine zL (zB (zC (zA (mv rfl rfl (gv (vT Tryz.underlying27 rfl rl) rfl (zK (iQ (ρ := (rpT (rpQ (k + 2)))) (X := (T3.mk (0 : Rat) 0 0)) (by' := 168) l.length Tryz.underlying27 yB rfl rfl rfl rfl (wI (wD (by omega))) rfl rfl (by rfl) (by rfl) (by omega) (by omega)) rfl rfl rfl ?_))))))
 intro v12 q12 hq12
 obtain ⟨cs12, rfl, rl12⟩ := hq12
 refine asg rfl rfl (zD (zB (zC (zC (zA (mv rfl rfl (gv (vT Tryz.underlying27 rfl rl) rfl (mv (v := vI (0)) rfl rfl (zD (zB (zS ?_)))))))))))
 refine wR (ι := Nat × List (T3 Rat) × Value × List Value × Mem) (fun (i, OU, s5_5, cs_6, ma) => MLe h0 ma ∧ (RL (rpT (rpQ (k + 2))) ma cs_6 OU ∧ (i ≤ l.length ∧ OU.length = l.length) ∧ ∀ u, u < i → OU.getD u (T3.mk (0 : Rat) 0 0) = l.getD u (T3.mk (0 : Rat) 0 0))) (fun (i, OU, s5_5, cs_6, ma) => [(1, vF 86 []), (5, s5_5), (13, vl), (14, vI (↑(l).length : Int)), (15, vI ↑i)]) (fun (i, OU, s5_5, cs_6, ma) => [.gs 32 9 s5_5 OU.length cs_6]) (fun (i, OU, s5_5, cs_6, ma) => ma) (fun (i, OU, s5_5, cs_6, ma) => l.length - i) (0, (List.replicate l.length (T3.mk (0 : Rat) 0 0)), v12, cs12, h0) ?_ ⟨rfl, rfl, rfl, rfl, rfl, trivial⟩ rfl rfl ?_
 ·
  refine ⟨MLe.refl _, ?_⟩
  refine ⟨rl12, ?_⟩
  exact ⟨⟨by omega, List.length_replicate⟩, fun u h => by omega⟩
 intro x hx
 obtain ⟨i, OU, s5_5, cs_6, ma⟩ := x
 obtain ⟨hmma, hinv⟩ := hx
 show GC _ _ _ _ _ _ [(1, vF 86 []), (5, s5_5), (13, vl), (14, vI (↑(l).length : Int)), (15, vI ↑i)] [.gs 32 9 s5_5 OU.length cs_6] ma
 obtain ⟨rl_7, hinv⟩ := hinv
 obtain ⟨⟨hi1, hi2⟩, hi3⟩ := hinv
 refine zC (zA (gv (zW rfl rfl) rfl (zD (zB (zC ?_)))))
 refine zO rfl (fun hc16 => ?_) (fun hc16 => ?_)
 ·
  refine zL (zB (zC (zS (zC (zA (mv rfl rfl ?_))))))
  replace rl := rl.mono hmma
  refine wG (F := fun v_ => AtP (rpT (rpQ k)) ma v_ (l.getD i (T3.mk (0 : Rat) 0 0))) (uR (T3.mk (0 : Rat) 0 0) i Tryz.underlying27 xG rfl rfl rl rfl (by omega) (show 0 < 9 from by decide)) uH rfl ?_
  intro v18 r18
  refine wG (F := fun v_ => (rpT (rpQ k)).Is ma v_ (l.getD i (T3.mk (0 : Rat) 0 0))) (vM xG rfl r18) uH rfl ?_
  intro v19 r19
  refine zK (yZ (ρ := (rpT (rpQ (k + 1)))) (X := (T3.mk (0 : Rat) 0 0)) yB rfl rfl (wI (wD (by omega)))) rfl rfl rfl ?_
  intro v7 q7 hq7
  obtain ⟨b7, cs7, rfl, rfl, rb7⟩ := hq7
  refine asg rfl rfl (wE (A := []) (F := fun c_ => (rpT (rpQ (k + 1))).R ma c_ (l.getD i (T3.mk (0 : Rat) 0 0))) (yG Tryz.sizeOf32 (Pc.here _) rfl rfl rfl rb7 (r19.le (Le.t (Le.q (l := k + 1) (by omega)))) rfl) ?_)
  intro cs_8 rb_9
  refine zD (zB (zA (mv rfl rfl (mv rfl rfl (mv rfl rfl (wG (F := fun v_ => (rpT (rpQ (k + 1))).Is ma v_ (l.getD i (T3.mk (0 : Rat) 0 0))) (zE xG (Pc.here _) rfl rfl rb_9 rfl) (yF (.head _)) rfl ?_))))))
  intro v23 r23
  refine gl_enter (fM (vs := [_]) Tryz.call86 rfl ⟨rfl, trivial⟩) rfl rfl rfl (fun w hs => j1 hs r23 (by first | omega | exact (mem_getD (by omega) (by assumption)))) ?_
  intro v24 h1 hh1 r24
  change (rpT (rpQ ((k + 1) + 1))).Is h1 v24 (l.getD i (T3.mk (0 : Rat) 0 0)) at r24
  replace r24 := Rp.Is.le r24 (Le.t (Le.q (l := k + 2) (by omega)))
  refine gv ((vE i (.tail _ (.head _)) Tryz.underlying27 Tryz.sizeOf32 rfl rfl rfl (by first | omega | (simp only [List.length_append, List.length_cons, List.length_nil, List.length_replicate, List.length_set]; omega)) (show 0 < 9 from by decide)).cv (show _ = xD 1 s5_5 ((i * 9 + 0)) from congrArg (xD 1 s5_5) (by rfl))) rfl ?_
  replace rl_7 := rl_7.mono hh1
  refine oW (A := [_]) (F := fun c_ => RL (rpT (rpQ (k + 2))) h1 c_ (OU.set i (l.getD i (T3.mk (0 : Rat) 0 0)))) (mF Tryz.sizeOf32 (Pc.arr (Pc.here _) (T3.mk (0 : Rat) 0 0) i (by first | omega | (simp only [List.length_append, List.length_cons, List.length_nil, List.length_replicate, List.length_set]; omega))) rfl (show 0 < 9 from by decide) rfl rfl rl_7 r24 rfl) ?_
  intro cs_10 rl_11
  refine zD (yV (zJ (e' := [(1, _), (5, _), (13, _), (14, _), (15, _)]) ⟨rfl, rfl, rfl, rfl, rfl, trivial⟩ (zB (zA (gv (zQ (q := 1) rfl rfl (by omega) (by omega)) rfl (mv rfl rfl (zD (xC (A := []) ?_))))))))
  refine yQ ((i + 1), (OU.set i (l.getD i (T3.mk (0 : Rat) 0 0))), s5_5, cs_10, h1) ?_ ?_ ⟨rfl, rfl, rfl, rfl, rfl, trivial⟩ rfl rfl
  ·
   refine ⟨(hmma.trans hh1), ?_⟩
   refine ⟨rl_11, ?_⟩
   exact ⟨⟨by omega, by rw [List.length_set]; exact hi2⟩, y6 (f := fun u => l.getD u (T3.mk (0 : Rat) 0 0)) (by omega) hi3 rfl⟩
  dsimp only
  omega
 have hall := list_same hi2 (fun u hu => hi3 u (by omega))
 refine xQ (yE (yE (xO (zB (zC (zA (mv rfl rfl (asg rfl rfl (zD (zB (zR (kC (A := []) (ρ := (rpT (rpQ (k + 2)))) rl_7 ?_))))))))))))
 intro h1 hh1 rs_12
 refine yJ rfl rfl ?_
 exact (Rp.Is.cast rs_12 (by exact hall))
theorem aP {w0 : World} {h0 : Mem}  (hs : MLe h0 (mem w0)) {k : Nat} {vl : Value} {l : (List (T3 Rat))} (rl : (rpS (rpT (rpQ k))).Is h0 vl l) (hcd0 : k ≤ 1000000000) (hcd1 : l.length ≤ 100000)  :
    Calls Tryz.prog 48 #[vl] w0 (Ret w0 h0 (fun h r => (rpS (rpT (rpQ (k + 2)))).Is h r l)) := by
 refine zP (n := 5) (e := [(0, vl)]) (vs := [vl]) Tryz.func48 rfl rfl (Nat.le_of_ble_eq_true rfl) hs ⟨rfl, trivial⟩ (zC (zA (asg rfl rfl (zD (zB (zC (zA (mv rfl rfl ?_))))))))
 refine zM (vs := [_, _]) rfl rfl rfl rfl Tryz.call85 ⟨rfl, rfl, trivial⟩ (fun w hs => dH hs rl (by omega) (by omega)) ?_
 intro v4 h1 hh1 r4
 change (rpS (rpT (rpQ (k + 2)))).Is h1 v4 l at r4
 refine asg rfl rfl (zD (zB (zR (yJ rfl rfl ?_))))
 exact r4
theorem nN {w0 : World} {h0 : Mem}  (hs : MLe h0 (mem w0)) {m l k : Nat} {vs : Value} {s : ((T3 Rat) × Rat)} (rs : (rpP (rpT (rpQ m)) (rpQ l)).Is h0 vs s) {vp : Value} {p : (T3 Rat)} (rp : (rpT (rpQ k)).Is h0 vp p) (hcd0 : k ≤ 100000000) (hcd1 : l ≤ 100000000) (hcd2 : m ≤ 100000000)  :
    Calls Tryz.prog 117 #[vs, vp] w0 (Ret w0 h0 (fun h r => (rpQ (3 * k + l + 3 * m + 12)).Is h r (hgt s p))) := by
 refine zP (n := 12) (e := [(0, vs), (1, vp)]) (vs := [vs, vp]) Tryz.func117 rfl rfl (Nat.le_of_ble_eq_true rfl) hs ⟨rfl, rfl, trivial⟩ (zC (zA (zK (yY (ρ := (rpP (rpT (rpQ m)) (rpQ l))) rfl rs) rfl rfl rfl ?_)))
 intro v2 q2 hq2
 obtain ⟨b2, cs2, rfl, rfl, rb2⟩ := hq2
 refine zK (yY (ρ := (rpT (rpQ k))) rfl rp) rfl rfl rfl ?_
 intro v3 q3 hq3
 obtain ⟨b3, cs3, rfl, rfl, rb3⟩ := hq3
 refine zK (yZ (ρ := (rpQ (3 * k + l + 3 * m + 12))) (X := (0 : Rat)) wP rfl rfl (wD (by omega))) rfl rfl rfl ?_
 intro v4 q4 hq4
 obtain ⟨b4, cs4, rfl, rfl, rb4⟩ := hq4
 refine zD (zB (zC ?_))
 refine yI 7 _ [] [(0, .q), (1, .q), (2, .q), (4, .q), (5, .q), (3, .c), (6, .c), (7, .t)] xI (fun x hx => by cases hx) (by kernel_rfl) (fun x hx => by cases hx) (fun r hr => hr) (w_q rfl (fun h' L' hh hR => (zI Tryz.underlying34 rfl Tryz.sizeOf32 rfl).cv (show _ = vP b2 0 from congrArg (vP b2) (by rfl))) rfl (yR (F := fun v_ => (rpT (rpQ m)).Is h0 v_ s.1) rfl (zE xG (Pc.fst (Pc.here _)) rfl rfl rb2 rfl) (yF (.tail _ (.tail _ (.head _)))) rfl ?_))
 intro v6 r6
 refine yR (F := fun v_ => (rpT (rpQ k)).Is h0 v_ p) rfl (zE xG (Pc.here _) rfl rfl rb3 rfl) (yF (.tail _ (.head _))) rfl ?_
 intro v7 r7
 refine w_q rfl (fun h' L' hh hR => (zI Tryz.underlying34 rfl Tryz.sizeOf30 rfl).cv (show _ = vP b2 9 from congrArg (vP b2) (by rfl))) rfl (yR (F := fun v_ => (rpQ l).Is h0 v_ s.2) rfl (zE wA (Pc.snd (Pc.here _)) rfl rfl rb2 rfl) (yF (.tail _ (.tail _ (.head _)))) rfl ?_)
 intro v10 r10
 refine w_c rfl ?_
 refine yD (vs := [_, _]) Tryz.call79 ⟨rfl, rfl, trivial⟩ (fun w hs => o_v_dot hs r6 r7 (by omega)) rfl ?_
 intro v8 h1 hh1 r8
 change (rpQ (3 * m + 3 * k + 9)).Is h1 v8 (jP s.1 p) at r8
 replace r8 := Rp.Is.le r8 (Le.q (l := 3 * k + 3 * m + 9) (by omega))
 refine w_c rfl ?_
 replace r10 := r10.mono hh1
 refine yD (vs := [_, _]) Tryz.call70 ⟨rfl, rfl, trivial⟩ (fun w hs => gT hs r8 r10 (by omega)) rfl ?_
 intro v11 h2 hh2 r11
 change (rpQ ((3 * k + 3 * m + 9) + l + 1)).Is h2 v11 ((jP s.1 p) - s.2) at r11
 replace r11 := Rp.Is.le r11 (Le.q (l := 3 * k + l + 3 * m + 10) (by omega))
 replace rb4 := rb4.mono (hh1.trans hh2)
 refine wF (A := []) (F := fun c_ => (rpQ (3 * k + l + 3 * m + 12)).R h2 c_ ((jP s.1 p) - s.2)) rfl (yG Tryz.sizeOf30 (Pc.here _) rfl rfl rfl rb4 (r11.le (Le.q (l := 3 * k + l + 3 * m + 12) (by omega))) rfl) ?_
 intro cs_19 rb_20
 refine xB (zJ (e' := [(4, _)]) ⟨rfl, trivial⟩ (zB (zR (uG (gF (t := 4) wA (.head _) rfl rb_20) ?_))))
 intro w_21 hvw_21 rr_22
 refine xX (fun E S => yP rfl hvw_21 E S) ?_
 exact rr_22
theorem oE {w0 : World} {h0 : Mem}  (hs : MLe h0 (mem w0)) {m l k : Nat} {vs : Value} {s : ((T3 Rat) × Rat)} (rs : (rpP (rpT (rpQ m)) (rpQ l)).Is h0 vs s) {vp : Value} {p : (T3 Rat)} (rp : (rpT (rpQ k)).Is h0 vp p) (hcd0 : k ≤ 100000000) (hcd1 : l ≤ 100000000) (hcd2 : m ≤ 100000000)  :
    Calls Tryz.prog 87 #[vs, vp] w0 (Ret w0 h0 (fun h r => (rpQ (3 * k + l + 3 * m + 12)).Is h r (hgt s p))) := by
 refine zP (n := 12) (e := [(0, vs), (1, vp)]) (vs := [vs, vp]) Tryz.func87 rfl rfl (Nat.le_of_ble_eq_true rfl) hs ⟨rfl, rfl, trivial⟩ (zC (zA (zK (yY (ρ := (rpP (rpT (rpQ m)) (rpQ l))) rfl rs) rfl rfl rfl ?_)))
 intro v2 q2 hq2
 obtain ⟨b2, cs2, rfl, rfl, rb2⟩ := hq2
 refine zK (yY (ρ := (rpT (rpQ k))) rfl rp) rfl rfl rfl ?_
 intro v3 q3 hq3
 obtain ⟨b3, cs3, rfl, rfl, rb3⟩ := hq3
 refine zK (yZ (ρ := (rpQ (3 * k + l + 3 * m + 12))) (X := (0 : Rat)) wP rfl rfl (wD (by omega))) rfl rfl rfl ?_
 intro v4 q4 hq4
 obtain ⟨b4, cs4, rfl, rfl, rb4⟩ := hq4
 refine zD (zB (zC ?_))
 refine yI 7 _ [] [(0, .q), (1, .q), (2, .q), (4, .q), (5, .q), (3, .c), (6, .c), (7, .t)] xI (fun x hx => by cases hx) (by kernel_rfl) (fun x hx => by cases hx) (fun r hr => hr) (w_q rfl (fun h' L' hh hR => (zI Tryz.underlying34 rfl Tryz.sizeOf32 rfl).cv (show _ = vP b2 0 from congrArg (vP b2) (by rfl))) rfl (yR (F := fun v_ => (rpT (rpQ m)).Is h0 v_ s.1) rfl (zE xG (Pc.fst (Pc.here _)) rfl rfl rb2 rfl) (yF (.tail _ (.tail _ (.head _)))) rfl ?_))
 intro v6 r6
 refine yR (F := fun v_ => (rpT (rpQ k)).Is h0 v_ p) rfl (zE xG (Pc.here _) rfl rfl rb3 rfl) (yF (.tail _ (.head _))) rfl ?_
 intro v7 r7
 refine w_q rfl (fun h' L' hh hR => (zI Tryz.underlying34 rfl Tryz.sizeOf30 rfl).cv (show _ = vP b2 9 from congrArg (vP b2) (by rfl))) rfl (yR (F := fun v_ => (rpQ l).Is h0 v_ s.2) rfl (zE wA (Pc.snd (Pc.here _)) rfl rfl rb2 rfl) (yF (.tail _ (.tail _ (.head _)))) rfl ?_)
 intro v10 r10
 refine w_c rfl ?_
 refine yD (vs := [_, _]) Tryz.call57 ⟨rfl, rfl, trivial⟩ (fun w hs => aO hs r6 r7 (by omega)) rfl ?_
 intro v8 h1 hh1 r8
 change (rpQ (3 * m + 3 * k + 9)).Is h1 v8 (jP s.1 p) at r8
 replace r8 := Rp.Is.le r8 (Le.q (l := 3 * k + 3 * m + 9) (by omega))
 refine w_c rfl ?_
 replace r10 := r10.mono hh1
 refine yD (vs := [_, _]) Tryz.call56 ⟨rfl, rfl, trivial⟩ (fun w hs => qZ hs r8 r10 (by omega)) rfl ?_
 intro v11 h2 hh2 r11
 change (rpQ ((3 * k + 3 * m + 9) + l + 1)).Is h2 v11 ((jP s.1 p) - s.2) at r11
 replace r11 := Rp.Is.le r11 (Le.q (l := 3 * k + l + 3 * m + 10) (by omega))
 replace rb4 := rb4.mono (hh1.trans hh2)
 refine wF (A := []) (F := fun c_ => (rpQ (3 * k + l + 3 * m + 12)).R h2 c_ ((jP s.1 p) - s.2)) rfl (yG Tryz.sizeOf30 (Pc.here _) rfl rfl rfl rb4 (r11.le (Le.q (l := 3 * k + l + 3 * m + 12) (by omega))) rfl) ?_
 intro cs_23 rb_24
 refine xB (zJ (e' := [(4, _)]) ⟨rfl, trivial⟩ (zB (zR (uG (gF (t := 4) wA (.head _) rfl rb_24) ?_))))
 intro w_25 hvw_25 rr_26
 refine xX (fun E S => yP rfl hvw_25 E S) ?_
 exact rr_26
theorem sR {w0 : World} {h0 : Mem}  (hs : MLe h0 (mem w0)) {m l k : Nat} {vs : Value} {s : ((T3 Rat) × Rat)} (rs : (rpP (rpT (rpQ m)) (rpQ l)).Is h0 vs s) {vp : Value} {p : (T3 Rat)} (rp : (rpT (rpQ k)).Is h0 vp p) {vq : Value} {q : (T3 Rat)} (rq : (rpT (rpQ k)).Is h0 vq q) (hcd0 : k ≤ 60000000) (hcd1 : l ≤ 1000000) (hcd2 : m ≤ 1000000)  :
    Calls Tryz.prog 84 #[vs, vp, vq] w0 (Ret w0 h0 (fun h r => (rpT (rpQ (12 * k + 3 * l + 9 * m + 50))).Is h r (btw s p q))) := by
 refine zP (n := 32) (e := [(0, vs), (1, vp), (2, vq)]) (vs := [vs, vp, vq]) Tryz.func84 rfl rfl (Nat.le_of_ble_eq_true rfl) hs ⟨rfl, rfl, rfl, trivial⟩ (zC (zA (zK (yY (ρ := (rpP (rpT (rpQ m)) (rpQ l))) rfl rs) rfl rfl rfl ?_)))
 intro v3 q3 hq3
 obtain ⟨b3, cs3, rfl, rfl, rb3⟩ := hq3
 refine zK (yY (ρ := (rpT (rpQ k))) rfl rp) rfl rfl rfl ?_
 intro v4 q4 hq4
 obtain ⟨b4, cs4, rfl, rfl, rb4⟩ := hq4
 refine zK (yY (ρ := (rpT (rpQ k))) rfl rq) rfl rfl rfl ?_
 intro v5 q5 hq5
 obtain ⟨b5, cs5, rfl, rfl, rb5⟩ := hq5
 refine zK (yZ (ρ := (rpT (rpQ (12 * k + 3 * l + 9 * m + 50)))) (X := (T3.mk (0 : Rat) 0 0)) yB rfl rfl (wI (wD (by omega)))) rfl rfl rfl ?_
 intro v6 q6 hq6
 obtain ⟨b6, cs6, rfl, rfl, rb6⟩ := hq6
 refine zD (zB (zC ?_))
 refine yI 8 _ [(6, (7, 30, [.bool false, .slice none 0 0, .slice none 0 0])), (7, (8, 30, [.bool false, .slice none 0 0, .slice none 0 0]))] [(0, .q), (1, .q), (3, .q), (4, .q), (2, .c), (5, .c), (6, .a), (7, .a), (8, .t), (9, .t)] xI (jG.cons rfl (uT wP rfl rfl) (jG.cons rfl (uT wP rfl rfl) jG.nil)) (by kernel_rfl) (uV rfl rfl (uV rfl rfl jY)) (fun r hr => hr) (yR (F := fun v_ => (rpP (rpT (rpQ m)) (rpQ l)).Is h0 v_ s) rfl (zE kE (Pc.here _) rfl rfl rb3 rfl) (yF (.tail _ (.tail _ (.tail _ (.head _))))) rfl ?_)
 intro v11 r11
 refine yR (F := fun v_ => (rpT (rpQ k)).Is h0 v_ p) rfl (zE xG (Pc.here _) rfl rfl rb4 rfl) (yF (.tail _ (.tail _ (.head _)))) rfl ?_
 intro v12 r12
 refine yR (F := fun v_ => (rpP (rpT (rpQ m)) (rpQ l)).Is h0 v_ s) rfl (zE kE (Pc.here _) rfl rfl rb3 rfl) (yF (.tail _ (.tail _ (.tail _ (.head _))))) rfl ?_
 intro v14 r14
 refine yR (F := fun v_ => (rpT (rpQ k)).Is h0 v_ q) rfl (zE xG (Pc.here _) rfl rfl rb5 rfl) (yF (.tail _ (.head _))) rfl ?_
 intro v15 r15
 refine w_c rfl ?_
 refine yD (vs := [_, _]) Tryz.call117 ⟨rfl, rfl, trivial⟩ (fun w hs => nN hs r11 r12 (by omega) (by omega) (by omega)) rfl ?_
 intro v13 h1 hh1 r13
 change (rpQ (3 * k + l + 3 * m + 12)).Is h1 v13 (hgt s p) at r13
 refine w_c rfl ?_
 replace r14 := r14.mono hh1
 replace r15 := r15.mono hh1
 refine yD (vs := [_, _]) Tryz.call117 ⟨rfl, rfl, trivial⟩ (fun w hs => nN hs r14 r15 (by omega) (by omega) (by omega)) rfl ?_
 intro v16 h2 hh2 r16
 change (rpQ (3 * k + l + 3 * m + 12)).Is h2 v16 (hgt s q) at r16
 refine w_a rfl (fun b7 => ?_)
 have rb7 : (rpQ (3 * k + l + 3 * m + 12)).R h2 [.bool false, .slice none 0 0, .slice none 0 0] (0 : Rat) := (wD (by omega))
 refine w_a rfl (fun b8 => ?_)
 have rb8 : (rpQ (3 * k + l + 3 * m + 12)).R h2 [.bool false, .slice none 0 0, .slice none 0 0] (0 : Rat) := (wD (by omega))
 replace r13 := r13.mono hh2
 refine wF (A := [_]) (F := fun c_ => (rpQ (3 * k + l + 3 * m + 12)).R h2 c_ (hgt s p)) rfl (yG Tryz.sizeOf30 (Pc.here _) rfl rfl rfl rb7 r13 rfl) ?_
 intro cs_27 rb_28
 refine wF (A := []) (F := fun c_ => (rpQ (3 * k + l + 3 * m + 12)).R h2 c_ (hgt s q)) rfl (yG Tryz.sizeOf30 (Pc.here _) rfl rfl rfl rb8 r16 rfl) ?_
 intro cs_29 rb_30
 refine xB (zJ (e' := [(4, _), (5, _), (6, _), (7, _), (8, _)]) ⟨rfl, rfl, rfl, rfl, rfl, trivial⟩ (zB (zC ?_)))
 refine yI 11 _ [(8, (9, 30, [.bool false, .slice none 0 0, .slice none 0 0]))] [(0, .q), (1, .q), (2, .q), (3, .c), (4, .c), (5, .q), (6, .q), (7, .q), (8, .a), (9, .c), (10, .q)] xI (jG.cons rfl (uT wP rfl rfl) jG.nil) (by kernel_rfl) (uV rfl rfl jY) (fun r hr => hr) (yR (F := fun v_ => (rpQ (3 * k + l + 3 * m + 12)).Is h2 v_ (hgt s p)) rfl (zE wA (Pc.here _) rfl rfl rb_28 rfl) (yF (.tail _ (.head _))) rfl ?_)
 intro v18 r18
 refine yR (F := fun v_ => (rpQ (3 * k + l + 3 * m + 12)).Is h2 v_ (hgt s p)) rfl (zE wA (Pc.here _) rfl rfl rb_28 rfl) (yF (.tail _ (.head _))) rfl ?_
 intro v19 r19
 refine yR (F := fun v_ => (rpQ (3 * k + l + 3 * m + 12)).Is h2 v_ (hgt s q)) rfl (zE wA (Pc.here _) rfl rfl rb_30 rfl) (yF (.head _)) rfl ?_
 intro v20 r20
 refine w_c rfl ?_
 refine yD (vs := [_, _]) Tryz.call70 ⟨rfl, rfl, trivial⟩ (fun w hs => gT hs r19 r20 (by omega)) rfl ?_
 intro v21 h3 hh3 r21
 change (rpQ ((3 * k + l + 3 * m + 12) + (3 * k + l + 3 * m + 12) + 1)).Is h3 v21 ((hgt s p) - (hgt s q)) at r21
 replace r21 := Rp.Is.le r21 (Le.q (l := 6 * k + 2 * l + 6 * m + 25) (by omega))
 refine w_c rfl ?_
 replace r18 := r18.mono hh3
 refine yD (vs := [_, _]) Tryz.call110 ⟨rfl, rfl, trivial⟩ (fun w hs => o_rat_quo hs r18 r21 (by omega)) rfl ?_
 intro v22 h4 hh4 r22
 obtain ⟨v22_0, rfl, r22_0⟩ := r22
 change (rpQ ((3 * k + l + 3 * m + 12) + (6 * k + 2 * l + 6 * m + 25))).Is h4 v22_0 (if ((hgt s p) - (hgt s q)) = 0 then 0 else (hgt s p) / ((hgt s p) - (hgt s q))) at r22_0
 replace r22_0 := Rp.Is.le r22_0 (Le.q (l := 9 * k + 3 * l + 9 * m + 37) (by omega))
 refine w_q rfl (fun h' L' hh hR => zG rfl) rfl (w_q rfl (fun h' L' hh hR => zN (vs := [_, _]) rfl rfl) rfl (w_q rfl (fun h' L' hh hR => zN (vs := [_, _]) rfl rfl) rfl ?_))
 refine w_a rfl (fun b9 => ?_)
 have rb9 : (rpQ (9 * k + 3 * l + 9 * m + 40)).R h4 [.bool false, .slice none 0 0, .slice none 0 0] (0 : Rat) := (wD (by omega))
 refine w_c rfl (tB (A := []) (F := fun c_ => (rpQ (9 * k + 3 * l + 9 * m + 40)).R h4 c_ (if ((hgt s p) - (hgt s q)) = 0 then 0 else (hgt s p) / ((hgt s p) - (hgt s q)))) (yG Tryz.sizeOf30 (Pc.here _) rfl rfl rfl rb9 (r22_0.le (Le.q (l := 9 * k + 3 * l + 9 * m + 40) (by omega))) rfl) (xF (by first | (simp; done) | grind)) ?_)
 intro cs_31 rb_32
 refine w_q rfl (fun h' L' hh hR => zY rfl) rfl (xB (zJ (e' := [(4, _), (5, _), (6, _), (9, _)]) ⟨rfl, rfl, rfl, rfl, trivial⟩ (zB (zC ?_))))
 refine yI 7 _ [] [(0, .q), (1, .q), (2, .q), (3, .q), (4, .c), (5, .c), (6, .c), (7, .t)] xI (fun x hx => by cases hx) (by kernel_rfl) (fun x hx => by cases hx) (fun r hr => hr) ?_
 replace rb4 := rb4.mono (((hh1.trans hh2).trans hh3).trans hh4)
 refine yR (F := fun v_ => (rpT (rpQ k)).Is h4 v_ p) rfl (zE xG (Pc.here _) rfl rfl rb4 rfl) (yF (.tail _ (.tail _ (.tail _ (.tail _ (.tail _ (.head _))))))) rfl ?_
 intro v25 r25
 refine yR (F := fun v_ => (rpQ (9 * k + 3 * l + 9 * m + 40)).Is h4 v_ (if ((hgt s p) - (hgt s q)) = 0 then 0 else (hgt s p) / ((hgt s p) - (hgt s q)))) rfl (zE wA (Pc.here _) rfl rfl rb_32 rfl) (yF (.head _)) rfl ?_
 intro v26 r26
 replace rb5 := rb5.mono (((hh1.trans hh2).trans hh3).trans hh4)
 refine yR (F := fun v_ => (rpT (rpQ k)).Is h4 v_ q) rfl (zE xG (Pc.here _) rfl rfl rb5 rfl) (yF (.tail _ (.tail _ (.tail _ (.tail _ (.head _)))))) rfl ?_
 intro v27 r27
 refine yR (F := fun v_ => (rpT (rpQ k)).Is h4 v_ p) rfl (zE xG (Pc.here _) rfl rfl rb4 rfl) (yF (.tail _ (.tail _ (.tail _ (.tail _ (.tail _ (.head _))))))) rfl ?_
 intro v28 r28
 refine w_c rfl ?_
 refine yD (vs := [_, _]) Tryz.call78 ⟨rfl, rfl, trivial⟩ (fun w hs => o_v_sub hs r27 r28 (by omega)) rfl ?_
 intro v29 h5 hh5 r29
 change (rpT (rpQ (k + k + 2))).Is h5 v29 (T3.mk (q.x - p.x) (q.y - p.y) (q.z - p.z)) at r29
 replace r29 := Rp.Is.le r29 (Le.t (Le.q (l := 2 * k + 2) (by omega)))
 refine w_c rfl ?_
 replace r26 := r26.mono hh5
 refine yD (vs := [_, _]) Tryz.call82 ⟨rfl, rfl, trivial⟩ (fun w hs => o_v_scale hs r26 r29 (by omega)) rfl ?_
 intro v30 h6 hh6 r30
 change (rpT (rpQ ((2 * k + 2) + (9 * k + 3 * l + 9 * m + 40) + 2))).Is h6 v30 (T3.mk ((if ((hgt s p) - (hgt s q)) = 0 then 0 else (hgt s p) / ((hgt s p) - (hgt s q))) * (q.x - p.x)) ((if ((hgt s p) - (hgt s q)) = 0 then 0 else (hgt s p) / ((hgt s p) - (hgt s q))) * (q.y - p.y)) ((if ((hgt s p) - (hgt s q)) = 0 then 0 else (hgt s p) / ((hgt s p) - (hgt s q))) * (q.z - p.z))) at r30
 replace r30 := Rp.Is.le r30 (Le.t (Le.q (l := 11 * k + 3 * l + 9 * m + 44) (by omega)))
 refine w_c rfl ?_
 replace r25 := r25.mono (hh5.trans hh6)
 refine yD (vs := [_, _]) Tryz.call80 ⟨rfl, rfl, trivial⟩ (fun w hs => o_v_add hs r25 r30 (by omega)) rfl ?_
 intro v31 h7 hh7 r31
 change (rpT (rpQ (k + (11 * k + 3 * l + 9 * m + 44) + 2))).Is h7 v31 (T3.mk (p.x + ((if ((hgt s p) - (hgt s q)) = 0 then 0 else (hgt s p) / ((hgt s p) - (hgt s q))) * (q.x - p.x))) (p.y + ((if ((hgt s p) - (hgt s q)) = 0 then 0 else (hgt s p) / ((hgt s p) - (hgt s q))) * (q.y - p.y))) (p.z + ((if ((hgt s p) - (hgt s q)) = 0 then 0 else (hgt s p) / ((hgt s p) - (hgt s q))) * (q.z - p.z)))) at r31
 replace r31 := Rp.Is.le r31 (Le.t (Le.q (l := 12 * k + 3 * l + 9 * m + 46) (by omega)))
 replace rb6 := rb6.mono ((((((hh1.trans hh2).trans hh3).trans hh4).trans hh5).trans hh6).trans hh7)
 refine wF (A := [_, _, _]) (F := fun c_ => (rpT (rpQ (12 * k + 3 * l + 9 * m + 50))).R h7 c_ (T3.mk (p.x + ((if ((hgt s p) - (hgt s q)) = 0 then 0 else (hgt s p) / ((hgt s p) - (hgt s q))) * (q.x - p.x))) (p.y + ((if ((hgt s p) - (hgt s q)) = 0 then 0 else (hgt s p) / ((hgt s p) - (hgt s q))) * (q.y - p.y))) (p.z + ((if ((hgt s p) - (hgt s q)) = 0 then 0 else (hgt s p) / ((hgt s p) - (hgt s q))) * (q.z - p.z))))) rfl (yG Tryz.sizeOf32 (Pc.here _) rfl rfl rfl rb6 (r31.le (Le.t (Le.q (l := 12 * k + 3 * l + 9 * m + 50) (by omega)))) rfl) ?_
 intro cs_33 rb_34
 refine xB (zJ (e' := [(6, _)]) ⟨rfl, trivial⟩ (zB (zR (uG (gF (t := 6) xG (.tail _ (.tail _ (.tail _ (.head _)))) rfl rb_34) ?_))))
 intro w_35 hvw_35 rr_36
 refine xX (fun E S => yP rfl hvw_35 E S) ?_
 exact rr_36
theorem tT {w0 : World} {h0 : Mem}  (hs : MLe h0 (mem w0)) {k m l : Nat} {vp : Value} {p : (T3 Rat)} (rp : (rpT (rpQ k)).Is h0 vp p) {vq : Value} {q : (T3 Rat)} (rq : (rpT (rpQ k)).Is h0 vq q) {vs : Value} {s : ((T3 Rat) × Rat)} (rs : (rpP (rpT (rpQ m)) (rpQ l)).Is h0 vs s) (hcd0 : k ≤ 60000000) (hcd1 : l ≤ 1000000) (hcd2 : m ≤ 1000000)  :
    Calls Tryz.prog 49 #[vp, vq, vs] w0 (Ret w0 h0 (fun h r => (rpT (rpQ (12 * k + 3 * l + 9 * m + 50))).Is h r (btw s p q))) := by
 refine zP (n := 32) (e := [(0, vp), (1, vq), (2, vs)]) (vs := [vp, vq, vs]) Tryz.func49 rfl rfl (Nat.le_of_ble_eq_true rfl) hs ⟨rfl, rfl, rfl, trivial⟩ (zC (zA (zK (yY (ρ := (rpT (rpQ k))) rfl rp) rfl rfl rfl ?_)))
 intro v3 q3 hq3
 obtain ⟨b3, cs3, rfl, rfl, rb3⟩ := hq3
 refine zK (yY (ρ := (rpT (rpQ k))) rfl rq) rfl rfl rfl ?_
 intro v4 q4 hq4
 obtain ⟨b4, cs4, rfl, rfl, rb4⟩ := hq4
 refine zK (yY (ρ := (rpP (rpT (rpQ m)) (rpQ l))) rfl rs) rfl rfl rfl ?_
 intro v5 q5 hq5
 obtain ⟨b5, cs5, rfl, rfl, rb5⟩ := hq5
 refine zK (yZ (ρ := (rpT (rpQ (12 * k + 3 * l + 9 * m + 50)))) (X := (T3.mk (0 : Rat) 0 0)) yB rfl rfl (wI (wD (by omega)))) rfl rfl rfl ?_
 intro v6 q6 hq6
 obtain ⟨b6, cs6, rfl, rfl, rb6⟩ := hq6
 refine zD (zB (zC ?_))
 refine yI 8 _ [(6, (7, 30, [.bool false, .slice none 0 0, .slice none 0 0])), (7, (8, 30, [.bool false, .slice none 0 0, .slice none 0 0]))] [(0, .q), (1, .q), (3, .q), (4, .q), (2, .c), (5, .c), (6, .a), (7, .a), (8, .t), (9, .t)] xI (jG.cons rfl (uT wP rfl rfl) (jG.cons rfl (uT wP rfl rfl) jG.nil)) (by kernel_rfl) (uV rfl rfl (uV rfl rfl jY)) (fun r hr => hr) (yR (F := fun v_ => (rpP (rpT (rpQ m)) (rpQ l)).Is h0 v_ s) rfl (zE kE (Pc.here _) rfl rfl rb5 rfl) (yF (.tail _ (.head _))) rfl ?_)
 intro v11 r11
 refine yR (F := fun v_ => (rpT (rpQ k)).Is h0 v_ p) rfl (zE xG (Pc.here _) rfl rfl rb3 rfl) (yF (.tail _ (.tail _ (.tail _ (.head _))))) rfl ?_
 intro v12 r12
 refine yR (F := fun v_ => (rpP (rpT (rpQ m)) (rpQ l)).Is h0 v_ s) rfl (zE kE (Pc.here _) rfl rfl rb5 rfl) (yF (.tail _ (.head _))) rfl ?_
 intro v14 r14
 refine yR (F := fun v_ => (rpT (rpQ k)).Is h0 v_ q) rfl (zE xG (Pc.here _) rfl rfl rb4 rfl) (yF (.tail _ (.tail _ (.head _)))) rfl ?_
 intro v15 r15
 refine w_c rfl ?_
 refine yD (vs := [_, _]) Tryz.call87 ⟨rfl, rfl, trivial⟩ (fun w hs => oE hs r11 r12 (by omega) (by omega) (by omega)) rfl ?_
 intro v13 h1 hh1 r13
 change (rpQ (3 * k + l + 3 * m + 12)).Is h1 v13 (hgt s p) at r13
 refine w_c rfl ?_
 replace r14 := r14.mono hh1
 replace r15 := r15.mono hh1
 refine yD (vs := [_, _]) Tryz.call87 ⟨rfl, rfl, trivial⟩ (fun w hs => oE hs r14 r15 (by omega) (by omega) (by omega)) rfl ?_
 intro v16 h2 hh2 r16
 change (rpQ (3 * k + l + 3 * m + 12)).Is h2 v16 (hgt s q) at r16
 refine w_a rfl (fun b7 => ?_)
 have rb7 : (rpQ (3 * k + l + 3 * m + 12)).R h2 [.bool false, .slice none 0 0, .slice none 0 0] (0 : Rat) := (wD (by omega))
 refine w_a rfl (fun b8 => ?_)
 have rb8 : (rpQ (3 * k + l + 3 * m + 12)).R h2 [.bool false, .slice none 0 0, .slice none 0 0] (0 : Rat) := (wD (by omega))
 replace r13 := r13.mono hh2
 refine wF (A := [_]) (F := fun c_ => (rpQ (3 * k + l + 3 * m + 12)).R h2 c_ (hgt s p)) rfl (yG Tryz.sizeOf30 (Pc.here _) rfl rfl rfl rb7 r13 rfl) ?_
 intro cs_37 rb_38
 refine wF (A := []) (F := fun c_ => (rpQ (3 * k + l + 3 * m + 12)).R h2 c_ (hgt s q)) rfl (yG Tryz.sizeOf30 (Pc.here _) rfl rfl rfl rb8 r16 rfl) ?_
 intro cs_39 rb_40
 refine xB (zJ (e' := [(3, _), (4, _), (6, _), (7, _), (8, _)]) ⟨rfl, rfl, rfl, rfl, rfl, trivial⟩ (zB (zC ?_)))
 refine yI 11 _ [(8, (9, 30, [.bool false, .slice none 0 0, .slice none 0 0]))] [(0, .q), (1, .q), (2, .q), (3, .c), (4, .c), (5, .q), (6, .q), (7, .q), (8, .a), (9, .c), (10, .q)] xI (jG.cons rfl (uT wP rfl rfl) jG.nil) (by kernel_rfl) (uV rfl rfl jY) (fun r hr => hr) (yR (F := fun v_ => (rpQ (3 * k + l + 3 * m + 12)).Is h2 v_ (hgt s p)) rfl (zE wA (Pc.here _) rfl rfl rb_38 rfl) (yF (.tail _ (.head _))) rfl ?_)
 intro v18 r18
 refine yR (F := fun v_ => (rpQ (3 * k + l + 3 * m + 12)).Is h2 v_ (hgt s p)) rfl (zE wA (Pc.here _) rfl rfl rb_38 rfl) (yF (.tail _ (.head _))) rfl ?_
 intro v19 r19
 refine yR (F := fun v_ => (rpQ (3 * k + l + 3 * m + 12)).Is h2 v_ (hgt s q)) rfl (zE wA (Pc.here _) rfl rfl rb_40 rfl) (yF (.head _)) rfl ?_
 intro v20 r20
 refine w_c rfl ?_
 refine yD (vs := [_, _]) Tryz.call56 ⟨rfl, rfl, trivial⟩ (fun w hs => qZ hs r19 r20 (by omega)) rfl ?_
 intro v21 h3 hh3 r21
 change (rpQ ((3 * k + l + 3 * m + 12) + (3 * k + l + 3 * m + 12) + 1)).Is h3 v21 ((hgt s p) - (hgt s q)) at r21
 replace r21 := Rp.Is.le r21 (Le.q (l := 6 * k + 2 * l + 6 * m + 25) (by omega))
 refine w_c rfl ?_
 replace r18 := r18.mono hh3
 refine yD (vs := [_, _]) Tryz.call88 ⟨rfl, rfl, trivial⟩ (fun w hs => oB hs r18 r21 (by omega)) rfl ?_
 intro v22 h4 hh4 r22
 obtain ⟨v22_0, rfl, r22_0⟩ := r22
 change (rpQ ((3 * k + l + 3 * m + 12) + (6 * k + 2 * l + 6 * m + 25))).Is h4 v22_0 (if ((hgt s p) - (hgt s q)) = 0 then 0 else (hgt s p) / ((hgt s p) - (hgt s q))) at r22_0
 replace r22_0 := Rp.Is.le r22_0 (Le.q (l := 9 * k + 3 * l + 9 * m + 37) (by omega))
 refine w_q rfl (fun h' L' hh hR => zG rfl) rfl (w_q rfl (fun h' L' hh hR => zN (vs := [_, _]) rfl rfl) rfl (w_q rfl (fun h' L' hh hR => zN (vs := [_, _]) rfl rfl) rfl ?_))
 refine w_a rfl (fun b9 => ?_)
 have rb9 : (rpQ (9 * k + 3 * l + 9 * m + 40)).R h4 [.bool false, .slice none 0 0, .slice none 0 0] (0 : Rat) := (wD (by omega))
 refine w_c rfl (tB (A := []) (F := fun c_ => (rpQ (9 * k + 3 * l + 9 * m + 40)).R h4 c_ (if ((hgt s p) - (hgt s q)) = 0 then 0 else (hgt s p) / ((hgt s p) - (hgt s q)))) (yG Tryz.sizeOf30 (Pc.here _) rfl rfl rfl rb9 (r22_0.le (Le.q (l := 9 * k + 3 * l + 9 * m + 40) (by omega))) rfl) (xF (by first | (simp; done) | grind)) ?_)
 intro cs_41 rb_42
 refine w_q rfl (fun h' L' hh hR => zY rfl) rfl (xB (zJ (e' := [(3, _), (4, _), (6, _), (9, _)]) ⟨rfl, rfl, rfl, rfl, trivial⟩ (zB (zC ?_))))
 refine yI 7 _ [] [(0, .q), (1, .q), (2, .q), (3, .q), (4, .c), (5, .c), (6, .c), (7, .t)] xI (fun x hx => by cases hx) (by kernel_rfl) (fun x hx => by cases hx) (fun r hr => hr) ?_
 replace rb3 := rb3.mono (((hh1.trans hh2).trans hh3).trans hh4)
 refine yR (F := fun v_ => (rpT (rpQ k)).Is h4 v_ p) rfl (zE xG (Pc.here _) rfl rfl rb3 rfl) (yF (.tail _ (.tail _ (.tail _ (.tail _ (.tail _ (.tail _ (.head _)))))))) rfl ?_
 intro v25 r25
 refine yR (F := fun v_ => (rpQ (9 * k + 3 * l + 9 * m + 40)).Is h4 v_ (if ((hgt s p) - (hgt s q)) = 0 then 0 else (hgt s p) / ((hgt s p) - (hgt s q)))) rfl (zE wA (Pc.here _) rfl rfl rb_42 rfl) (yF (.head _)) rfl ?_
 intro v26 r26
 replace rb4 := rb4.mono (((hh1.trans hh2).trans hh3).trans hh4)
 refine yR (F := fun v_ => (rpT (rpQ k)).Is h4 v_ q) rfl (zE xG (Pc.here _) rfl rfl rb4 rfl) (yF (.tail _ (.tail _ (.tail _ (.tail _ (.tail _ (.head _))))))) rfl ?_
 intro v27 r27
 refine yR (F := fun v_ => (rpT (rpQ k)).Is h4 v_ p) rfl (zE xG (Pc.here _) rfl rfl rb3 rfl) (yF (.tail _ (.tail _ (.tail _ (.tail _ (.tail _ (.tail _ (.head _)))))))) rfl ?_
 intro v28 r28
 refine w_c rfl ?_
 refine yD (vs := [_, _]) Tryz.call23 ⟨rfl, rfl, trivial⟩ (fun w hs => mZ hs r27 r28 (by omega)) rfl ?_
 intro v29 h5 hh5 r29
 change (rpT (rpQ (k + k + 1))).Is h5 v29 (T3.mk (q.x - p.x) (q.y - p.y) (q.z - p.z)) at r29
 replace r29 := Rp.Is.le r29 (Le.t (Le.q (l := 2 * k + 1) (by omega)))
 refine w_c rfl ?_
 replace r26 := r26.mono hh5
 refine yD (vs := [_, _]) Tryz.call20 ⟨rfl, rfl, trivial⟩ (fun w hs => oA hs r26 r29 (by omega)) rfl ?_
 intro v30 h6 hh6 r30
 change (rpT (rpQ ((2 * k + 1) + (9 * k + 3 * l + 9 * m + 40)))).Is h6 v30 (T3.mk ((if ((hgt s p) - (hgt s q)) = 0 then 0 else (hgt s p) / ((hgt s p) - (hgt s q))) * (q.x - p.x)) ((if ((hgt s p) - (hgt s q)) = 0 then 0 else (hgt s p) / ((hgt s p) - (hgt s q))) * (q.y - p.y)) ((if ((hgt s p) - (hgt s q)) = 0 then 0 else (hgt s p) / ((hgt s p) - (hgt s q))) * (q.z - p.z))) at r30
 replace r30 := Rp.Is.le r30 (Le.t (Le.q (l := 11 * k + 3 * l + 9 * m + 41) (by omega)))
 refine w_c rfl ?_
 replace r25 := r25.mono (hh5.trans hh6)
 refine yD (vs := [_, _]) Tryz.call19 ⟨rfl, rfl, trivial⟩ (fun w hs => w9 hs r25 r30 (by omega)) rfl ?_
 intro v31 h7 hh7 r31
 change (rpT (rpQ (k + (11 * k + 3 * l + 9 * m + 41) + 1))).Is h7 v31 (T3.mk (p.x + ((if ((hgt s p) - (hgt s q)) = 0 then 0 else (hgt s p) / ((hgt s p) - (hgt s q))) * (q.x - p.x))) (p.y + ((if ((hgt s p) - (hgt s q)) = 0 then 0 else (hgt s p) / ((hgt s p) - (hgt s q))) * (q.y - p.y))) (p.z + ((if ((hgt s p) - (hgt s q)) = 0 then 0 else (hgt s p) / ((hgt s p) - (hgt s q))) * (q.z - p.z)))) at r31
 replace r31 := Rp.Is.le r31 (Le.t (Le.q (l := 12 * k + 3 * l + 9 * m + 42) (by omega)))
 replace rb6 := rb6.mono ((((((hh1.trans hh2).trans hh3).trans hh4).trans hh5).trans hh6).trans hh7)
 refine wF (A := [_, _, _]) (F := fun c_ => (rpT (rpQ (12 * k + 3 * l + 9 * m + 50))).R h7 c_ (T3.mk (p.x + ((if ((hgt s p) - (hgt s q)) = 0 then 0 else (hgt s p) / ((hgt s p) - (hgt s q))) * (q.x - p.x))) (p.y + ((if ((hgt s p) - (hgt s q)) = 0 then 0 else (hgt s p) / ((hgt s p) - (hgt s q))) * (q.y - p.y))) (p.z + ((if ((hgt s p) - (hgt s q)) = 0 then 0 else (hgt s p) / ((hgt s p) - (hgt s q))) * (q.z - p.z))))) rfl (yG Tryz.sizeOf32 (Pc.here _) rfl rfl rfl rb6 (r31.le (Le.t (Le.q (l := 12 * k + 3 * l + 9 * m + 50) (by omega)))) rfl) ?_
 intro cs_43 rb_44
 refine xB (zJ (e' := [(6, _)]) ⟨rfl, trivial⟩ (zB (zR (uG (gF (t := 6) xG (.tail _ (.tail _ (.tail _ (.head _)))) rfl rb_44) ?_))))
 intro w_45 hvw_45 rr_46
 refine xX (fun E S => yP rfl hvw_45 E S) ?_
 exact rr_46
end Go.Proofs.YtghhjjmjpeehdaaGreat
namespace Go.Proofs.YtghhjjmjpeehdaaGreat
open Bk Go
set_option linter.unusedVariables false
set_option linter.unusedSimpArgs false
set_option maxRecDepth 10000
set_option maxHeartbeats 1000000 in
theorem j2 {w0 : World} {h0 : Mem}  (hs : MLe h0 (mem w0)) {k n m : Nat} {vl : Value} {l : (List (T3 Rat))} (rl : (rpS (rpT (rpQ k))).Is h0 vl l) {vs : Value} {s : ((T3 Rat) × Rat)} (rs : (rpP (rpT (rpQ n)) (rpQ m)).Is h0 vs s) (hcd0 : k ≤ 50000000) (hcd1 : m ≤ 1000000) (hcd2 : n ≤ 1000000) (hcd3 : l.length ≤ 100000)  :
    Calls Tryz.prog 47 #[vl, vs] w0 (Ret w0 h0 (fun h r => ∃ u0 u1, r = .tuple #[u0, u1] ∧ (rpS (rpT (rpQ (12 * k + 3 * m + 9 * n + 62)))).Is h u0 (tO s l) ∧ (rpS (rpT (rpQ (12 * k + 3 * m + 9 * n + 62)))).Is h u1 (sM s l))) := by
 refine zP (n := 110) (e := [(0, vl), (1, vs)]) (vs := [vl, vs]) Tryz.func47 rfl rfl (Nat.le_of_ble_eq_true rfl) hs ⟨rfl, rfl, trivial⟩ (zC (zA (zK (yY (ρ := (rpP (rpT (rpQ n)) (rpQ m))) rfl rs) rfl rfl rfl ?_)))
 intro v3 q3 hq3
 obtain ⟨b3, cs3, rfl, rfl, rb3⟩ := hq3
 refine asg rfl rfl (asg rfl rfl (zD (zB (zC (zA (mv rfl rfl (gv (vT Tryz.underlying27 rfl rl) rfl (zK (iQ (ρ := rpI) (X := (0 : Int)) (by' := 8) l.length Tryz.underlying22 info3 rfl rfl rfl rfl eL rfl rfl (by rfl) (by rfl) (by omega) (by omega)) rfl rfl rfl ?_))))))))
 intro v17 q17 hq17
 obtain ⟨cs17, rfl, rl17⟩ := hq17
 refine asg rfl rfl (zD (zB (zC (zA (asg (v := vI (0)) rfl rfl (asg (v := vI (0)) rfl rfl (zD (zB (zC (zC (zA (mv rfl rfl (gv (vT Tryz.underlying27 rfl rl) rfl ?_)))))))))))))
 refine mv (v := vI (0)) rfl rfl (zD (zB (zS ?_)))
 refine wR (ι := Nat × List Int × Int × Int × Value × List Value × Mem) (fun (i, SD, lo, hi, s6_1, cs_2, ma) => MLe h0 ma ∧ (RL rpI ma cs_2 SD ∧ ((i ≤ l.length ∧ SD.length = l.length) ∧ ∀ u, u < i → SD.getD u (0 : Int) = sdZ s (gp l u)) ∧ ((lo < 0 ↔ qQ s l i) ∧ lo ≤ 0) ∧ ((0 < hi ↔ qJ s l i) ∧ 0 ≤ hi) ∧ -1 ≤ lo ∧ hi ≤ 1)) (fun (i, SD, lo, hi, s6_1, cs_2, ma) => [(0, vl), (3, vP b3 0), (4, .slice none 0 0), (5, .slice none 0 0), (6, s6_1), (7, vI lo), (8, vI hi), (18, vl), (19, vI (↑(l).length : Int)), (20, vI ↑i)]) (fun (i, SD, lo, hi, s6_1, cs_2, ma) => [.gs 3 1 s6_1 SD.length cs_2, .var b3 34 cs3]) (fun (i, SD, lo, hi, s6_1, cs_2, ma) => ma) (fun (i, SD, lo, hi, s6_1, cs_2, ma) => l.length - i) (0, (List.replicate l.length (0 : Int)), (0 : Int), (0 : Int), v17, cs17, h0) ?_ ⟨rfl, rfl, rfl, rfl, rfl, rfl, rfl, rfl, rfl, rfl, trivial⟩ rfl rfl ?_
 ·
  refine ⟨MLe.refl _, ?_⟩
  refine ⟨rl17, ?_⟩
  exact ⟨⟨⟨by omega, List.length_replicate⟩, fun u h => by omega⟩, ⟨⟨fun h => by omega, fun h => h.elim⟩, by omega⟩, ⟨⟨fun h => by omega, fun h => h.elim⟩, by omega⟩, by omega, by omega⟩
 intro x hx
 obtain ⟨i, SD, lo, hi, s6_1, cs_2, ma⟩ := x
 obtain ⟨hmma, hinv⟩ := hx
 show GC _ _ _ _ _ _ [(0, vl), (3, vP b3 0), (4, .slice none 0 0), (5, .slice none 0 0), (6, s6_1), (7, vI lo), (8, vI hi), (18, vl), (19, vI (↑(l).length : Int)), (20, vI ↑i)] [.gs 3 1 s6_1 SD.length cs_2, .var b3 34 cs3] ma
 obtain ⟨rl_3, hinv⟩ := hinv
 obtain ⟨⟨⟨hi1, hi2⟩, hi3⟩, hlo, hhi, hl1, hh1⟩ := hinv
 have hr0 := kY s (gp l i)
 refine zC (zA (gv (zW rfl rfl) rfl (zD (zB (zC ?_)))))
 refine zO rfl (fun hc21 => ?_) (fun hc21 => ?_)
 ·
  refine zL (zB (zC (zS (zC (zA (mv rfl rfl ?_))))))
  replace rl := rl.mono hmma
  refine wG (F := fun v_ => AtP (rpT (rpQ k)) ma v_ (l.getD i (T3.mk (0 : Rat) 0 0))) (uR (T3.mk (0 : Rat) 0 0) i Tryz.underlying27 xG rfl rfl rl rfl (by omega) (show 0 < 9 from by decide)) uH rfl ?_
  intro v23 r23
  refine wG (F := fun v_ => (rpT (rpQ k)).Is ma v_ (l.getD i (T3.mk (0 : Rat) 0 0))) (vM xG rfl r23) uH rfl ?_
  intro v24 r24
  refine zK (yZ (ρ := (rpT (rpQ (k + 1)))) (X := (T3.mk (0 : Rat) 0 0)) yB rfl rfl (wI (wD (by omega)))) rfl rfl rfl ?_
  intro v10 q10 hq10
  obtain ⟨b10, cs10, rfl, rfl, rb10⟩ := hq10
  refine asg rfl rfl (wE (A := []) (F := fun c_ => (rpT (rpQ (k + 1))).R ma c_ (l.getD i (T3.mk (0 : Rat) 0 0))) (yG Tryz.sizeOf32 (Pc.here _) rfl rfl rfl rb10 (r24.le (Le.t (Le.q (l := k + 1) (by omega)))) rfl) ?_)
  intro cs_4 rb_5
  refine zD (zB (zC (zA (mv rfl rfl (mv rfl rfl ?_)))))
  replace rb3 := rb3.mono hmma
  refine wG (F := fun v_ => (rpP (rpT (rpQ n)) (rpQ m)).Is ma v_ s) (zE kE (Pc.here _) rfl rfl rb3 rfl) (yF (.tail _ (.tail _ (.head _)))) rfl ?_
  intro v27 r27
  refine wG (F := fun v_ => (rpT (rpQ (k + 1))).Is ma v_ (l.getD i (T3.mk (0 : Rat) 0 0))) (zE xG (Pc.here _) rfl rfl rb_5 rfl) (yF (.head _)) rfl ?_
  intro v28 r28
  refine zM (vs := [_, _]) rfl rfl rfl rfl Tryz.call64 ⟨rfl, rfl, trivial⟩ (fun w hs => iP hs r27 r28 (by omega) (by omega) (by omega)) ?_
  intro v29 h1 hh1 r29
  obtain rfl : v29 = vI (sdZ s (l.getD i (T3.mk (0 : Rat) 0 0))) := r29
  have hsd29 := kY s (l.getD i (T3.mk (0 : Rat) 0 0))
  refine gv ((vE i (.tail _ (.head _)) Tryz.underlying22 Tryz.sizeOf3 rfl rfl rfl (by first | omega | (simp only [List.length_append, List.length_cons, List.length_nil, List.length_replicate, List.length_set]; omega)) (show 0 < 1 from by decide)).cv (show _ = xD 1 s6_1 ((i * 1 + 0)) from congrArg (xD 1 s6_1) (by rfl))) rfl ?_
  replace rl_3 := rl_3.mono hh1
  refine oW (A := [_]) (F := fun c_ => RL rpI h1 c_ (SD.set i (sdZ s (l.getD i (T3.mk (0 : Rat) 0 0))))) (mF Tryz.sizeOf3 (Pc.arr (Pc.here _) (0 : Int) i (by first | omega | (simp only [List.length_append, List.length_cons, List.length_nil, List.length_replicate, List.length_set]; omega))) rfl (show 0 < 1 from by decide) rfl rfl rl_3 (sP (by omega) (by omega)) rfl) ?_
  intro cs_6 rl_7
  refine zD (zJ (e' := [(0, _), (3, _), (4, _), (5, _), (6, _), (7, _), (8, _), (18, _), (19, _), (20, _), (9, _)]) ⟨rfl, rfl, rfl, rfl, rfl, rfl, rfl, rfl, rfl, rfl, rfl, trivial⟩ (zB ?_))
  refine yI 14 _ [] [(0, .q), (1, .q), (2, .q), (3, .q), (4, .q), (5, .q), (6, .q), (7, .q), (8, .q), (9, .q), (10, .q), (11, .q), (12, .q), (13, .q)] xI (fun x hx => by cases hx) (gD [0, 0, 0, 6, 8, 17, 0, 0, 0, 384, 512, 1088, 63, 8191] [16383, 16383, 16383, 16377, 16375, 16366, 16383, 16383, 16383, 15999, 15871, 15295, 16350, 14271] (by kernel_rfl)) (fun x hx => by cases hx) (fun r hr => hr) (w_q rfl (fun h' L' hh hR => zG rfl) rfl (w_q rfl (fun h' L' hh hR => zG rfl) rfl (w_q rfl (fun h' L' hh hR => zG rfl) rfl (w_q rfl (fun h' L' hh hR => (vE i (hR _ (.tail _ (.head _))) Tryz.underlying22 Tryz.sizeOf3 rfl rfl rfl (by first | omega | (simp only [List.length_append, List.length_cons, List.length_nil, List.length_replicate, List.length_set]; omega)) (show 0 < 1 from by decide)).cv (show _ = xD 1 s6_1 ((i * 1 + 0)) from congrArg (xD 1 s6_1) (by rfl))) rfl (yR (F := fun v_ => rpI.Is h1 v_ ((SD.set i (sdZ s (l.getD i (T3.mk (0 : Rat) 0 0)))).getD i (0 : Int))) rfl (uL ty3 (Pc.arr (Pc.here _) (0 : Int) i (by first | omega | (simp only [List.length_append, List.length_cons, List.length_nil, List.length_replicate, List.length_set]; omega))) rfl (show 0 < 1 from by decide) rfl rl_7 rfl) (yF (.tail _ (.head _))) rfl ?_)))))
  intro v35 r35
  obtain ⟨rfl, hl35, hu35⟩ := bC r35
  refine w_q rfl (fun h' L' hh hR => ov_min_i rfl rfl) rfl (w_q rfl (fun h' L' hh hR => zG rfl) rfl (w_q rfl (fun h' L' hh hR => zG rfl) rfl (w_q rfl (fun h' L' hh hR => zG rfl) rfl (w_q rfl (fun h' L' hh hR => (vE i (hR _ (.tail _ (.head _))) Tryz.underlying22 Tryz.sizeOf3 rfl rfl rfl (by first | omega | (simp only [List.length_append, List.length_cons, List.length_nil, List.length_replicate, List.length_set]; omega)) (show 0 < 1 from by decide)).cv (show _ = xD 1 s6_1 ((i * 1 + 0)) from congrArg (xD 1 s6_1) (by rfl))) rfl (yR (F := fun v_ => rpI.Is h1 v_ ((SD.set i (sdZ s (l.getD i (T3.mk (0 : Rat) 0 0)))).getD i (0 : Int))) rfl (uL ty3 (Pc.arr (Pc.here _) (0 : Int) i (by first | omega | (simp only [List.length_append, List.length_cons, List.length_nil, List.length_replicate, List.length_set]; omega))) rfl (show 0 < 1 from by decide) rfl rl_7 rfl) (yF (.tail _ (.head _))) rfl ?_)))))
  intro v41 r41
  obtain ⟨rfl, hl41, hu41⟩ := bC r41
  refine w_q rfl (fun h' L' hh hR => ov_max_i rfl rfl) rfl (w_q rfl (fun h' L' hh hR => zY rfl) rfl (w_q rfl (fun h' L' hh hR => zY rfl) rfl (xB (yV (zJ (e' := [(0, _), (3, _), (4, _), (5, _), (6, _), (18, _), (19, _), (20, _), (7, _), (8, _)]) ⟨rfl, rfl, rfl, rfl, rfl, rfl, rfl, rfl, rfl, rfl, trivial⟩ (zB (zA (gv (zQ (q := 1) rfl rfl (by omega) (by omega)) rfl (mv rfl rfl (zD (xC (A := []) ?_)))))))))))
  refine yQ ((i + 1), (SD.set i (sdZ s (l.getD i (T3.mk (0 : Rat) 0 0)))), (min lo (sdZ s (gp l i))), (max hi (sdZ s (gp l i))), s6_1, cs_6, h1) ?_ ?_ ⟨rfl, rfl, rfl, rfl, rfl, ?_, ?_, rfl, rfl, rfl, trivial⟩ rfl rfl
  ·
   refine ⟨(hmma.trans hh1), ?_⟩
   refine ⟨rl_7, ?_⟩
   exact ⟨⟨⟨by omega, by rw [List.length_set]; exact hi2⟩, y6 (f := fun u => sdZ s (gp l u)) (by omega) hi3 rfl⟩, mn_next hlo.1 hlo.2, mx_next hhi.1 hhi.2, by omega, by omega⟩
  ·
   dsimp only
   omega
  · exact congrArg (fun z => some (vI z)) (by rw [set_at (by omega)]; rfl)
  · exact congrArg (fun z => some (vI z)) (by rw [set_at (by omega)]; rfl)
 have ei : i = l.length := by omega
 have hS : ∀ u, u < l.length → SD.getD u (0 : Int) = sdZ s (gp l u) := fun u hu => hi3 u (by omega)
 rw [ei] at hlo hhi
 refine xQ (yE (yE (xO (zB (zC (zS (zC (zA (mv rfl rfl (gv (xZ (q := 0) rfl rfl) rfl (asg rfl rfl (zD (zB ?_)))))))))))))
 refine zO rfl (fun hc44 => ?_) (fun hc44 => ?_)
 ·
  refine wH (e' := [(0, _)]) ⟨rfl, trivial⟩ (zC (zA (mv rfl rfl (asg rfl rfl (asg rfl rfl (zD (zB (zR (wY (zX (vG rfl rfl rfl ?_)))))))))))
  replace rl := rl.mono hmma
  refine ⟨_, _, ?_, (Rp.Is.cast (Rp.Is.le rl (Le.s (Le.t (Le.q (l := 12 * k + 3 * m + 9 * n + 62) (by omega))))) (by exact (cP (by rw [← hhi.1]; omega)).1.symm)), (Rp.Is.cast (cI _) (by exact (cP (by rw [← hhi.1]; omega)).2.symm))⟩
  rfl
 refine zC (zA (mv rfl rfl (gv (xZ (q := 0) rfl rfl) rfl (asg rfl rfl (zD (zJ (e' := [(0, _), (3, _), (4, _), (5, _), (6, _), (48, _)]) ⟨rfl, rfl, rfl, rfl, rfl, rfl, trivial⟩ (zB ?_)))))))
 refine zO rfl (fun hc48 => ?_) (fun hc48 => ?_)
 ·
  refine zC (zA (mv rfl rfl (asg rfl rfl (asg rfl rfl (zD (zB (zR (wY (zX (vG rfl rfl rfl ?_))))))))))
  replace rl := rl.mono hmma
  refine ⟨_, _, ?_, (Rp.Is.cast (cI _) (by exact (oZ (by rw [← hhi.1]; omega) (by rw [← hlo.1]; omega)).1.symm)), (Rp.Is.cast (Rp.Is.le rl (Le.s (Le.t (Le.q (l := 12 * k + 3 * m + 9 * n + 62) (by omega))))) (by exact (oZ (by rw [← hhi.1]; omega) (by rw [← hlo.1]; omega)).2.symm))⟩
  rfl
 refine zL (yV (zB (zC (zC (zA (mv rfl rfl ?_))))))
 replace rl := rl.mono hmma
 refine gv (vT Tryz.underlying27 rfl rl) rfl (mv (v := vI (0)) rfl rfl (zD (zB (zS (bB 32 9 ?_)))))
 have rl_8 : RL (rpT (rpQ (12 * k + 3 * m + 9 * n + 62))) ma [] ([] : List (T3 Rat)) := RL.nil
 refine bB 32 9 ?_
 have rl_9 : RL (rpT (rpQ (12 * k + 3 * m + 9 * n + 62))) ma [] ([] : List (T3 Rat)) := RL.nil
 refine wR (ι := Nat × List (T3 Rat) × List (T3 Rat) × Value × List Value × Value × List Value × Mem) (fun (i, B, F, s4_10, cs_11, s5_13, cs_14, mb) => MLe ma mb ∧ (RL (rpT (rpQ (12 * k + 3 * m + 9 * n + 62))) mb cs_11 B ∧ RL (rpT (rpQ (12 * k + 3 * m + 9 * n + 62))) mb cs_14 F ∧ (i ≤ l.length ∧ B = cR s l i) ∧ F = bE s l i)) (fun (i, B, F, s4_10, cs_11, s5_13, cs_14, mb) => [(0, vl), (3, vP b3 0), (4, s4_10), (5, s5_13), (6, s6_1), (52, vl), (53, vI (↑(l).length : Int)), (54, vI ↑i)]) (fun (i, B, F, s4_10, cs_11, s5_13, cs_14, mb) => [.gs 32 9 s5_13 F.length cs_14, .gs 32 9 s4_10 B.length cs_11, .gs 3 1 s6_1 SD.length cs_2, .var b3 34 cs3]) (fun (i, B, F, s4_10, cs_11, s5_13, cs_14, mb) => mb) (fun (i, B, F, s4_10, cs_11, s5_13, cs_14, mb) => l.length - i) (0, [], [], (.slice none 0 0), [], (.slice none 0 0), [], ma) ?_ ⟨rfl, rfl, rfl, rfl, rfl, rfl, rfl, rfl, trivial⟩ rfl rfl ?_
 ·
  refine ⟨MLe.refl _, ?_⟩
  refine ⟨rl_8, rl_9, ?_⟩
  exact ⟨⟨by omega, rfl⟩, rfl⟩
 intro x hx
 obtain ⟨i, B, F, s4_10, cs_11, s5_13, cs_14, mb⟩ := x
 obtain ⟨hmmb, hinv⟩ := hx
 show GC _ _ _ _ _ _ [(0, vl), (3, vP b3 0), (4, s4_10), (5, s5_13), (6, s6_1), (52, vl), (53, vI (↑(l).length : Int)), (54, vI ↑i)] [.gs 32 9 s5_13 F.length cs_14, .gs 32 9 s4_10 B.length cs_11, .gs 3 1 s6_1 SD.length cs_2, .var b3 34 cs3] mb
 obtain ⟨rl_12, rl_15, hinv⟩ := hinv
 obtain ⟨⟨hi1, hB⟩, hF⟩ := hinv
 have hbl := dU s l i
 have hfl := dR s l i
 have hBl : B.length ≤ 2 * i := by rw [hB]; exact hbl
 have hFl : F.length ≤ 2 * i := by rw [hF]; exact hfl
 refine zC (zA (gv (zW rfl rfl) rfl (zD (zB (zC ?_)))))
 refine zO rfl (fun hc55 => ?_) (fun hc55 => ?_)
 ·
  have hd1 := hS i (by omega)
  have hd2 := hS ((i + 1) % l.length) (Nat.mod_lt _ (by omega))
  have hr1 := kY s (gp l i)
  have hr2 := kY s (gp l ((i + 1) % l.length))
  refine zL (zB (zC (zS (zC (zA (mv rfl rfl ?_))))))
  replace rl := rl.mono hmmb
  refine wG (F := fun v_ => AtP (rpT (rpQ k)) mb v_ (l.getD i (T3.mk (0 : Rat) 0 0))) (uR (T3.mk (0 : Rat) 0 0) i Tryz.underlying27 xG rfl rfl rl rfl (by omega) (show 0 < 9 from by decide)) uH rfl ?_
  intro v57 r57
  refine wG (F := fun v_ => (rpT (rpQ k)).Is mb v_ (l.getD i (T3.mk (0 : Rat) 0 0))) (vM xG rfl r57) uH rfl ?_
  intro v58 r58
  refine zK (yZ (ρ := (rpT (rpQ (k + 1)))) (X := (T3.mk (0 : Rat) 0 0)) yB rfl rfl (wI (wD (by omega)))) rfl rfl rfl ?_
  intro v12 q12 hq12
  obtain ⟨b12, cs12, rfl, rfl, rb12⟩ := hq12
  refine asg rfl rfl (wE (A := []) (F := fun c_ => (rpT (rpQ (k + 1))).R mb c_ (l.getD i (T3.mk (0 : Rat) 0 0))) (yG Tryz.sizeOf32 (Pc.here _) rfl rfl rfl rb12 (r58.le (Le.t (Le.q (l := k + 1) (by omega)))) rfl) ?_)
  intro cs_16 rb_17
  refine zD (zB (zC (zA (mv rfl rfl (gv (zQ (q := 1) rfl rfl (by omega) (by omega)) rfl (mv rfl rfl (gv (vT Tryz.underlying27 rfl rl) rfl (gv (qC rfl rfl (by omega) (by omega)) rfl (asg rfl rfl (zD (zB (zC (zC ?_)))))))))))))
  refine zA (mv rfl rfl (mv rfl rfl (gv ((vE i (.tail _ (.tail _ (.tail _ (.head _)))) Tryz.underlying22 Tryz.sizeOf3 rfl rfl rfl (by first | omega | (simp only [List.length_append, List.length_cons, List.length_nil, List.length_replicate, List.length_set]; omega)) (show 0 < 1 from by decide)).cv (show _ = xD 1 s6_1 ((i * 1 + 0)) from congrArg (xD 1 s6_1) (by rfl))) rfl ?_)))
  replace rl_3 := rl_3.mono hmmb
  refine wG (F := fun v_ => rpI.Is mb v_ (SD.getD i (0 : Int))) (uL ty3 (Pc.arr (Pc.here _) (0 : Int) i (by first | omega | (simp only [List.length_append, List.length_cons, List.length_nil, List.length_replicate, List.length_set]; omega))) rfl (show 0 < 1 from by decide) rfl rl_3 rfl) (yF (.tail _ (.tail _ (.tail _ (.head _))))) rfl ?_
  intro v67 r67
  obtain ⟨rfl, hl67, hu67⟩ := bC r67
  refine gv (sI (q := 0) rfl rfl) rfl (zD (zJ (e' := [(0, _), (3, _), (4, _), (5, _), (6, _), (52, _), (53, _), (54, _), (12, _), (11, _), (13, _), (68, _)]) ⟨rfl, rfl, rfl, rfl, rfl, rfl, rfl, rfl, rfl, rfl, rfl, rfl, trivial⟩ (zB ?_)))
  refine zO rfl (fun hc68 => ?_) (fun hc68 => ?_)
  ·
   have hp1 : sdZ s (gp l i) ≤ 0 := by rw [← hS i (by omega)]; exact hc68
   refine zA (mv rfl rfl (wG (F := fun v_ => (rpT (rpQ (k + 1))).Is mb v_ (l.getD i (T3.mk (0 : Rat) 0 0))) (zE xG (Pc.here _) rfl rfl rb_17 rfl) (yF (.head _)) rfl ?_))
   intro v70 r70
   refine zK (yW (ρ := (rpT (rpQ (k + 1)))) (m := 1) (xs := [(l.getD i (T3.mk (0 : Rat) 0 0))]) (ps' := [(0, _)]) Tryz.underlying27 yB rfl rfl rfl (wI (wD (by omega))) ⟨rfl, rfl, trivial⟩ (yU rfl (Pc.arr (Pc.here _) (T3.mk (0 : Rat) 0 0) 0 (by decide)) r70 xY) (show 1 * 9 ≤ 16777216 from by decide) (show 0 < 9 from by decide)) rfl rfl rfl ?_
   intro v71 q71 hq71
   obtain ⟨cs71, rfl, rl71⟩ := hq71
   refine kD (A := []) (ρ := (rpT (rpQ (k + 1)))) rl71 ?_
   intro h1 hh1 rs_18
   replace rl_12 := rl_12.mono hh1
   refine qN (A := [_, _]) (yM (ρ := (rpT (rpQ (12 * k + 3 * m + 9 * n + 62)))) (bytes := 168) Tryz.underlying27 yB rfl rfl rfl rfl (show 0 < 9 from by decide) rfl rfl rl_12 (rs_18.le (Le.s (Le.t (Le.q (l := 12 * k + 3 * m + 9 * n + 62) (by omega))))) (by first | omega | (simp only [List.length_append, List.length_cons, List.length_nil, List.length_replicate, List.length_set]; omega)) (by first | omega | (simp only [List.length_append, List.length_cons, List.length_nil, List.length_replicate, List.length_set]; omega))) rfl rfl rfl ?_
   intro v72 q72 hq72
   obtain ⟨cs72, rfl, rl72⟩ := hq72
   refine asg rfl rfl (zD (zB (zC (zC (zA (mv rfl rfl (mv rfl rfl (gv ((vE i (.tail _ (.tail _ (.tail _ (.head _)))) Tryz.underlying22 Tryz.sizeOf3 rfl rfl rfl (by first | omega | (simp only [List.length_append, List.length_cons, List.length_nil, List.length_replicate, List.length_set]; omega)) (show 0 < 1 from by decide)).cv (show _ = xD 1 s6_1 ((i * 1 + 0)) from congrArg (xD 1 s6_1) (by rfl))) rfl ?_))))))))
   replace rl_3 := rl_3.mono hh1
   refine wG (F := fun v_ => rpI.Is h1 v_ (SD.getD i (0 : Int))) (uL ty3 (Pc.arr (Pc.here _) (0 : Int) i (by first | omega | (simp only [List.length_append, List.length_cons, List.length_nil, List.length_replicate, List.length_set]; omega))) rfl (show 0 < 1 from by decide) rfl rl_3 rfl) (yF (.tail _ (.tail _ (.tail _ (.head _))))) rfl ?_
   intro v76 r76
   obtain ⟨rfl, hl76, hu76⟩ := bC r76
   refine gv (qL (q := 0) rfl rfl) rfl (zD (zB ?_))
   refine zO rfl (fun hc77 => ?_) (fun hc77 => ?_)
   ·
    have hp2 : 0 ≤ sdZ s (gp l i) := by rw [← hS i (by omega)]; exact hc77
    refine zA (mv rfl rfl ?_)
    replace rb_17 := rb_17.mono hh1
    refine wG (F := fun v_ => (rpT (rpQ (k + 1))).Is h1 v_ (l.getD i (T3.mk (0 : Rat) 0 0))) (zE xG (Pc.here _) rfl rfl rb_17 rfl) (yF (.head _)) rfl ?_
    intro v79 r79
    refine zK (yW (ρ := (rpT (rpQ (k + 1)))) (m := 1) (xs := [(l.getD i (T3.mk (0 : Rat) 0 0))]) (ps' := [(0, _)]) Tryz.underlying27 yB rfl rfl rfl (wI (wD (by omega))) ⟨rfl, rfl, trivial⟩ (yU rfl (Pc.arr (Pc.here _) (T3.mk (0 : Rat) 0 0) 0 (by decide)) r79 xY) (show 1 * 9 ≤ 16777216 from by decide) (show 0 < 9 from by decide)) rfl rfl rfl ?_
    intro v80 q80 hq80
    obtain ⟨cs80, rfl, rl80⟩ := hq80
    refine kD (A := []) (ρ := (rpT (rpQ (k + 1)))) rl80 ?_
    intro h2 hh2 rs_19
    replace rl_15 := rl_15.mono (hh1.trans hh2)
    refine qN (A := [_]) (yM (ρ := (rpT (rpQ (12 * k + 3 * m + 9 * n + 62)))) (bytes := 168) Tryz.underlying27 yB rfl rfl rfl rfl (show 0 < 9 from by decide) rfl rfl rl_15 (rs_19.le (Le.s (Le.t (Le.q (l := 12 * k + 3 * m + 9 * n + 62) (by omega))))) (by first | omega | (simp only [List.length_append, List.length_cons, List.length_nil, List.length_replicate, List.length_set]; omega)) (by first | omega | (simp only [List.length_append, List.length_cons, List.length_nil, List.length_replicate, List.length_set]; omega))) rfl rfl rfl ?_
    intro v81 q81 hq81
    obtain ⟨cs81, rfl, rl81⟩ := hq81
    refine asg rfl rfl (zD (zJ (e' := [(0, _), (3, _), (6, _), (52, _), (53, _), (54, _), (12, _), (11, _), (13, _), (4, _), (5, _)]) ⟨rfl, rfl, rfl, rfl, rfl, rfl, rfl, rfl, rfl, rfl, rfl, trivial⟩ (zB (zC ?_))))
    refine yI 10 _ [] [(0, .q), (1, .q), (2, .q), (3, .q), (4, .q), (5, .q), (6, .q), (7, .q), (8, .q), (9, .q)] xI (fun x hx => by cases hx) (by kernel_rfl) (fun x hx => by cases hx) (fun r hr => hr) (w_q rfl (fun h' L' hh hR => zG rfl) rfl (w_q rfl (fun h' L' hh hR => zG rfl) rfl (w_q rfl (fun h' L' hh hR => (vE i (hR _ (.tail _ (.tail _ (.tail _ (.head _))))) Tryz.underlying22 Tryz.sizeOf3 rfl rfl rfl (by first | omega | (simp only [List.length_append, List.length_cons, List.length_nil, List.length_replicate, List.length_set]; omega)) (show 0 < 1 from by decide)).cv (show _ = xD 1 s6_1 ((i * 1 + 0)) from congrArg (xD 1 s6_1) (by rfl))) rfl ?_)))
    replace rl_3 := rl_3.mono hh2
    refine yR (F := fun v_ => rpI.Is h2 v_ (SD.getD i (0 : Int))) rfl (uL ty3 (Pc.arr (Pc.here _) (0 : Int) i (by first | omega | (simp only [List.length_append, List.length_cons, List.length_nil, List.length_replicate, List.length_set]; omega))) rfl (show 0 < 1 from by decide) rfl rl_3 rfl) (yF (.tail _ (.tail _ (.tail _ (.head _))))) rfl ?_
    intro v85 r85
    obtain ⟨rfl, hl85, hu85⟩ := bC r85
    refine w_q rfl (fun h' L' hh hR => zG rfl) rfl (w_q rfl (fun h' L' hh hR => zG rfl) rfl (w_q rfl (fun h' L' hh hR => (vE ((i + 1) % l.length) (hR _ (.tail _ (.tail _ (.tail _ (.head _))))) Tryz.underlying22 Tryz.sizeOf3 rfl rfl (by first | rfl | (push_cast; rfl)) (by rw [hi2]; exact Nat.mod_lt _ (by omega)) (show 0 < 1 from by decide)).cv (show _ = xD 1 s6_1 ((((i + 1) % l.length) * 1 + 0)) from congrArg (xD 1 s6_1) (by rfl))) rfl (yR (F := fun v_ => rpI.Is h2 v_ (SD.getD ((i + 1) % l.length) (0 : Int))) rfl (uL ty3 (Pc.arr (Pc.here _) (0 : Int) ((i + 1) % l.length) (by rw [hi2]; exact Nat.mod_lt _ (by omega))) rfl (show 0 < 1 from by decide) rfl rl_3 rfl) (yF (.tail _ (.tail _ (.tail _ (.head _))))) rfl ?_)))
    intro v89 r89
    obtain ⟨rfl, hl89, hu89⟩ := bC r89
    refine w_q rfl (fun h' L' hh hR => jQ rfl rfl (by rw [hd1, hd2]; have := qI hr1 hr2; omega) (by rw [hd1, hd2]; have := qI hr1 hr2; omega)) rfl (w_q rfl (fun h' L' hh hR => zW (q := 0) rfl rfl) rfl (xB (zJ (e' := [(0, _), (3, _), (6, _), (52, _), (53, _), (54, _), (12, _), (13, _), (4, _), (5, _), (91, _)]) ⟨rfl, rfl, rfl, rfl, rfl, rfl, rfl, rfl, rfl, rfl, rfl, trivial⟩ (zB ?_))))
    refine zO rfl (fun hc91 => ?_) (fun hc91 => ?_)
    ·
     have hx1 : xP s l i := by have h := hc91; rw [hS i (by omega), hS ((i + 1) % l.length) (Nat.mod_lt _ (by omega))] at h; exact h
     refine zC ?_
     refine yI 8 _ [(7, (14, 32, [.bool false, .slice none 0 0, .slice none 0 0, .bool false, .slice none 0 0, .slice none 0 0, .bool false, .slice none 0 0, .slice none 0 0]))] [(0, .q), (1, .q), (2, .q), (3, .q), (4, .q), (5, .q), (6, .c), (7, .a), (8, .t)] xI (jG.cons rfl (uT yB rfl rfl) jG.nil) (by kernel_rfl) (uV rfl rfl jY) (fun r hr => hr) ?_
     replace rb3 := rb3.mono (((hmma.trans hmmb).trans hh1).trans hh2)
     refine yR (F := fun v_ => (rpP (rpT (rpQ n)) (rpQ m)).Is h2 v_ s) rfl (zE kE (Pc.here _) rfl rfl rb3 rfl) (yF (.tail _ (.tail _ (.tail _ (.tail _ (.head _)))))) rfl ?_
     intro v92 r92
     replace rb_17 := rb_17.mono hh2
     refine yR (F := fun v_ => (rpT (rpQ (k + 1))).Is h2 v_ (l.getD i (T3.mk (0 : Rat) 0 0))) rfl (zE xG (Pc.here _) rfl rfl rb_17 rfl) (yF (.head _)) rfl ?_
     intro v93 r93
     refine w_q rfl (fun h' L' hh hR => zG rfl) rfl (w_q rfl (fun h' L' hh hR => zG rfl) rfl ?_)
     replace rl := rl.mono (hh1.trans hh2)
     refine yR (F := fun v_ => AtP (rpT (rpQ k)) h2 v_ (l.getD ((i + 1) % l.length) (T3.mk (0 : Rat) 0 0))) rfl (uR (T3.mk (0 : Rat) 0 0) ((i + 1) % l.length) Tryz.underlying27 xG rfl rfl rl (by first | rfl | (push_cast; rfl)) (by exact Nat.mod_lt _ (by omega)) (show 0 < 9 from by decide)) uH rfl ?_
     intro v96 r96
     refine yR (F := fun v_ => (rpT (rpQ k)).Is h2 v_ (l.getD ((i + 1) % l.length) (T3.mk (0 : Rat) 0 0))) rfl (vM xG rfl r96) uH rfl ?_
     intro v97 r97
     refine w_c rfl ?_
     refine yD (vs := [_, _, _]) Tryz.call84 ⟨rfl, rfl, rfl, trivial⟩ (fun w hs => sR hs r92 r93 (r97.le (Le.t (Le.q (l := k + 1) (by omega)))) (by omega) (by omega) (by omega)) rfl ?_
     intro v98 h3 hh3 r98
     change (rpT (rpQ (12 * (k + 1) + 3 * m + 9 * n + 50))).Is h3 v98 (btw s (l.getD i (T3.mk (0 : Rat) 0 0)) (l.getD ((i + 1) % l.length) (T3.mk (0 : Rat) 0 0))) at r98
     replace r98 := Rp.Is.le r98 (Le.t (Le.q (l := 12 * k + 3 * m + 9 * n + 62) (by omega)))
     refine w_a rfl (fun b14 => ?_)
     have rb14 : (rpT (rpQ 1)).R h3 [.bool false, .slice none 0 0, .slice none 0 0, .bool false, .slice none 0 0, .slice none 0 0, .bool false, .slice none 0 0, .slice none 0 0] (T3.mk (0 : Rat) 0 0) := (wI (wD (by decide)))
     have rw_20 := (Le.t (Le.q (l := 12 * k + 3 * m + 9 * n + 62) (by omega))).R rb14
     refine wF (A := []) (F := fun c_ => (rpT (rpQ (12 * k + 3 * m + 9 * n + 62))).R h3 c_ (btw s (l.getD i (T3.mk (0 : Rat) 0 0)) (l.getD ((i + 1) % l.length) (T3.mk (0 : Rat) 0 0)))) rfl (yG Tryz.sizeOf32 (Pc.here _) rfl rfl rfl rw_20 r98 rfl) ?_
     intro cs_21 rb_22
     refine xB (zJ (e' := [(0, _), (3, _), (6, _), (52, _), (53, _), (54, _), (4, _), (5, _), (14, _)]) ⟨rfl, rfl, rfl, rfl, rfl, rfl, rfl, rfl, rfl, trivial⟩ (zB ?_))
     refine yI 10 [.var b14 32 cs_21, .var b12 32 cs_16, .gs 3 1 s6_1 SD.length cs_2, .var b3 34 cs3] [] [(0, .q), (1, .q), (4, .q), (5, .q), (2, .d 3 6), (7, .c), (8, .q), (9, .q)] xI (fun x hx => by cases hx) (by kernel_rfl) (fun x hx => by cases hx) (by intro r hr; simp only [List.mem_cons, List.mem_append, List.not_mem_nil, or_false] at hr ⊢ <;> grind) (w_q rfl (fun h' L' hh hR => zG rfl) rfl (yR (F := fun v_ => (rpT (rpQ (12 * k + 3 * m + 9 * n + 62))).Is h3 v_ (btw s (l.getD i (T3.mk (0 : Rat) 0 0)) (l.getD ((i + 1) % l.length) (T3.mk (0 : Rat) 0 0)))) rfl (zE xG (Pc.here _) rfl rfl rb_22 rfl) (yF (.head _)) rfl ?_))
     intro v100 r100
     refine w_q rfl (fun h' L' hh hR => zG rfl) rfl (yR (F := fun v_ => (rpT (rpQ (12 * k + 3 * m + 9 * n + 62))).Is h3 v_ (btw s (l.getD i (T3.mk (0 : Rat) 0 0)) (l.getD ((i + 1) % l.length) (T3.mk (0 : Rat) 0 0)))) rfl (zE xG (Pc.here _) rfl rfl rb_22 rfl) (yF (.head _)) rfl ?_)
     intro v104 r104
     refine w_d rfl rfl rfl ?_ ?_
     ·
      refine uU (fun X => yW (ρ := (rpT (rpQ (12 * k + 3 * m + 9 * n + 62)))) (m := 1) (xs := [btw s (l.getD i (T3.mk (0 : Rat) 0 0)) (l.getD ((i + 1) % l.length) (T3.mk (0 : Rat) 0 0))]) (ps' := [(0, _)]) Tryz.underlying27 yB rfl rfl rfl (wI (wD (by omega))) ⟨rfl, rfl, trivial⟩ (yU rfl (Pc.arr (Pc.here _) (T3.mk (0 : Rat) 0 0) 0 (by decide)) r100 xY) (show 1 * 9 ≤ 16777216 from by decide) (show 0 < 9 from by decide)) rfl ?_
      intro v101 q101 hq101
      obtain ⟨cs101, rfl, rl101⟩ := hq101
      refine ⟨?_, ?_⟩
      ·
       refine xL (A := []) (ρ := (rpT (rpQ (12 * k + 3 * m + 9 * n + 62)))) rl101 (xM (by first | (simp; done) | grind)) ?_
       intro h4 hh4 rs_23
       replace rl72 := rl72.mono ((hh2.trans hh3).trans hh4)
       refine uC (A := [_, _, _]) (fun X => yM (ρ := (rpT (rpQ (12 * k + 3 * m + 9 * n + 62)))) (bytes := 168) Tryz.underlying27 yB rfl rfl rfl rfl (show 0 < 9 from by decide) rfl rfl rl72 rs_23 (by first | omega | (simp only [List.length_append, List.length_cons, List.length_nil, List.length_replicate, List.length_set]; omega)) (by first | omega | (simp only [List.length_append, List.length_cons, List.length_nil, List.length_replicate, List.length_set]; omega))) rfl (xF (by first | (simp; done) | grind)) ?_
       intro v102 q102 hq102
       obtain ⟨cs102, rfl, rl102⟩ := hq102
       replace r104 := r104.mono hh4
       refine uU (fun X => yW (ρ := (rpT (rpQ (12 * k + 3 * m + 9 * n + 62)))) (m := 1) (xs := [btw s (l.getD i (T3.mk (0 : Rat) 0 0)) (l.getD ((i + 1) % l.length) (T3.mk (0 : Rat) 0 0))]) (ps' := [(0, _)]) Tryz.underlying27 yB rfl rfl rfl (wI (wD (by omega))) ⟨rfl, rfl, trivial⟩ (yU rfl (Pc.arr (Pc.here _) (T3.mk (0 : Rat) 0 0) 0 (by decide)) r104 xY) (show 1 * 9 ≤ 16777216 from by decide) (show 0 < 9 from by decide)) rfl ?_
       intro v105 q105 hq105
       obtain ⟨cs105, rfl, rl105⟩ := hq105
       refine w_c rfl (xL (A := []) (ρ := (rpT (rpQ (12 * k + 3 * m + 9 * n + 62)))) rl105 (xM (by first | (simp; done) | grind)) ?_)
       intro h5 hh5 rs_24
       replace rl81 := rl81.mono ((hh3.trans hh4).trans hh5)
       refine uC (A := [_, _]) (fun X => yM (ρ := (rpT (rpQ (12 * k + 3 * m + 9 * n + 62)))) (bytes := 168) Tryz.underlying27 yB rfl rfl rfl rfl (show 0 < 9 from by decide) rfl rfl rl81 rs_24 (by first | omega | (simp only [List.length_append, List.length_cons, List.length_nil, List.length_replicate, List.length_set]; omega)) (by first | omega | (simp only [List.length_append, List.length_cons, List.length_nil, List.length_replicate, List.length_set]; omega))) rfl (xF (by first | (simp; done) | grind)) ?_
       intro v106 q106 hq106
       obtain ⟨cs106, rfl, rl106⟩ := hq106
       refine w_q rfl (fun h' L' hh hR => zY rfl) rfl (w_q rfl (fun h' L' hh hR => zY rfl) rfl (xB (yV (zB (zA (gv (zQ (q := 1) rfl rfl (by omega) (by omega)) rfl (mv rfl rfl (zD (xC (A := []) (xC (A := []) ?_))))))))))
       refine yQ ((i + 1), ((B ++ [(l.getD i (T3.mk (0 : Rat) 0 0))]) ++ [btw s (l.getD i (T3.mk (0 : Rat) 0 0)) (l.getD ((i + 1) % l.length) (T3.mk (0 : Rat) 0 0))]), ((F ++ [(l.getD i (T3.mk (0 : Rat) 0 0))]) ++ [btw s (l.getD i (T3.mk (0 : Rat) 0 0)) (l.getD ((i + 1) % l.length) (T3.mk (0 : Rat) 0 0))]), v102, cs102, v106, cs106, h5) ?_ ?_ ⟨rfl, rfl, rfl, rfl, rfl, rfl, rfl, rfl, trivial⟩ rfl rfl
       ·
        refine ⟨(((((hmmb.trans hh1).trans hh2).trans hh3).trans hh4).trans hh5), ?_⟩
        replace rl102 := rl102.mono hh5
        refine ⟨rl102, rl106, ?_⟩
        exact ⟨⟨by omega, (by first | exact jF hB hp1 hx1 | exact gY hB hp1 hx1 | exact fF hB hp1 hx1 | exact fG hB hp1 hx1)⟩, (by first | exact jE hF hp2 hx1 | exact gX hF hp2 hx1 | exact fD hF hp2 hx1 | exact fE hF hp2 hx1)⟩
       dsimp only
       omega
      refine uU (fun X => yW (ρ := (rpT (rpQ (12 * k + 3 * m + 9 * n + 62)))) (m := 1) (xs := [btw s (l.getD i (T3.mk (0 : Rat) 0 0)) (l.getD ((i + 1) % l.length) (T3.mk (0 : Rat) 0 0))]) (ps' := [(0, _)]) Tryz.underlying27 yB rfl rfl rfl (wI (wD (by omega))) ⟨rfl, rfl, trivial⟩ (yU rfl (Pc.arr (Pc.here _) (T3.mk (0 : Rat) 0 0) 0 (by decide)) r104 xY) (show 1 * 9 ≤ 16777216 from by decide) (show 0 < 9 from by decide)) rfl ?_
      intro v105 q105 hq105
      obtain ⟨cs105, rfl, rl105⟩ := hq105
      refine xL (A := [_]) (ρ := (rpT (rpQ (12 * k + 3 * m + 9 * n + 62)))) rl101 (xM (by first | (simp; done) | grind)) ?_
      intro h4 hh4 rs_25
      replace rl72 := rl72.mono ((hh2.trans hh3).trans hh4)
      refine uC (A := [_, _, _, _]) (fun X => yM (ρ := (rpT (rpQ (12 * k + 3 * m + 9 * n + 62)))) (bytes := 168) Tryz.underlying27 yB rfl rfl rfl rfl (show 0 < 9 from by decide) rfl rfl rl72 rs_25 (by first | omega | (simp only [List.length_append, List.length_cons, List.length_nil, List.length_replicate, List.length_set]; omega)) (by first | omega | (simp only [List.length_append, List.length_cons, List.length_nil, List.length_replicate, List.length_set]; omega))) rfl (xF (by first | (simp; done) | grind)) ?_
      intro v102 q102 hq102
      obtain ⟨cs102, rfl, rl102⟩ := hq102
      refine w_c rfl ?_
      replace rl105 := rl105.mono hh4
      refine xL (A := []) (ρ := (rpT (rpQ (12 * k + 3 * m + 9 * n + 62)))) rl105 (xM (by first | (simp; done) | grind)) ?_
      intro h5 hh5 rs_26
      replace rl81 := rl81.mono ((hh3.trans hh4).trans hh5)
      refine uC (A := [_, _]) (fun X => yM (ρ := (rpT (rpQ (12 * k + 3 * m + 9 * n + 62)))) (bytes := 168) Tryz.underlying27 yB rfl rfl rfl rfl (show 0 < 9 from by decide) rfl rfl rl81 rs_26 (by first | omega | (simp only [List.length_append, List.length_cons, List.length_nil, List.length_replicate, List.length_set]; omega)) (by first | omega | (simp only [List.length_append, List.length_cons, List.length_nil, List.length_replicate, List.length_set]; omega))) rfl (xF (by first | (simp; done) | grind)) ?_
      intro v106 q106 hq106
      obtain ⟨cs106, rfl, rl106⟩ := hq106
      refine w_q rfl (fun h' L' hh hR => zY rfl) rfl (w_q rfl (fun h' L' hh hR => zY rfl) rfl (xB (yV (zB (zA (gv (zQ (q := 1) rfl rfl (by omega) (by omega)) rfl (mv rfl rfl (zD (xC (A := []) (xC (A := []) ?_))))))))))
      refine yQ ((i + 1), ((B ++ [(l.getD i (T3.mk (0 : Rat) 0 0))]) ++ [btw s (l.getD i (T3.mk (0 : Rat) 0 0)) (l.getD ((i + 1) % l.length) (T3.mk (0 : Rat) 0 0))]), ((F ++ [(l.getD i (T3.mk (0 : Rat) 0 0))]) ++ [btw s (l.getD i (T3.mk (0 : Rat) 0 0)) (l.getD ((i + 1) % l.length) (T3.mk (0 : Rat) 0 0))]), v102, cs102, v106, cs106, h5) ?_ ?_ ⟨rfl, rfl, rfl, rfl, rfl, rfl, rfl, rfl, trivial⟩ rfl rfl
      ·
       refine ⟨(((((hmmb.trans hh1).trans hh2).trans hh3).trans hh4).trans hh5), ?_⟩
       replace rl102 := rl102.mono hh5
       refine ⟨rl102, rl106, ?_⟩
       exact ⟨⟨by omega, (by first | exact jF hB hp1 hx1 | exact gY hB hp1 hx1 | exact fF hB hp1 hx1 | exact fG hB hp1 hx1)⟩, (by first | exact jE hF hp2 hx1 | exact gX hF hp2 hx1 | exact fD hF hp2 hx1 | exact fE hF hp2 hx1)⟩
      dsimp only
      omega
     refine uU (fun X => yW (ρ := (rpT (rpQ (12 * k + 3 * m + 9 * n + 62)))) (m := 1) (xs := [btw s (l.getD i (T3.mk (0 : Rat) 0 0)) (l.getD ((i + 1) % l.length) (T3.mk (0 : Rat) 0 0))]) (ps' := [(0, _)]) Tryz.underlying27 yB rfl rfl rfl (wI (wD (by omega))) ⟨rfl, rfl, trivial⟩ (yU rfl (Pc.arr (Pc.here _) (T3.mk (0 : Rat) 0 0) 0 (by decide)) r104 xY) (show 1 * 9 ≤ 16777216 from by decide) (show 0 < 9 from by decide)) rfl ?_
     intro v105 q105 hq105
     obtain ⟨cs105, rfl, rl105⟩ := hq105
     refine uU (fun X => yW (ρ := (rpT (rpQ (12 * k + 3 * m + 9 * n + 62)))) (m := 1) (xs := [btw s (l.getD i (T3.mk (0 : Rat) 0 0)) (l.getD ((i + 1) % l.length) (T3.mk (0 : Rat) 0 0))]) (ps' := [(0, _)]) Tryz.underlying27 yB rfl rfl rfl (wI (wD (by omega))) ⟨rfl, rfl, trivial⟩ (yU rfl (Pc.arr (Pc.here _) (T3.mk (0 : Rat) 0 0) 0 (by decide)) r100 xY) (show 1 * 9 ≤ 16777216 from by decide) (show 0 < 9 from by decide)) rfl ?_
     intro v101 q101 hq101
     obtain ⟨cs101, rfl, rl101⟩ := hq101
     refine xL (A := []) (ρ := (rpT (rpQ (12 * k + 3 * m + 9 * n + 62)))) rl101 (xM (by first | (simp; done) | grind)) ?_
     intro h4 hh4 rs_27
     replace rl72 := rl72.mono ((hh2.trans hh3).trans hh4)
     refine uC (A := [_, _, _, _]) (fun X => yM (ρ := (rpT (rpQ (12 * k + 3 * m + 9 * n + 62)))) (bytes := 168) Tryz.underlying27 yB rfl rfl rfl rfl (show 0 < 9 from by decide) rfl rfl rl72 rs_27 (by first | omega | (simp only [List.length_append, List.length_cons, List.length_nil, List.length_replicate, List.length_set]; omega)) (by first | omega | (simp only [List.length_append, List.length_cons, List.length_nil, List.length_replicate, List.length_set]; omega))) rfl (xF (by first | (simp; done) | grind)) ?_
     intro v102 q102 hq102
     obtain ⟨cs102, rfl, rl102⟩ := hq102
     refine w_c rfl ?_
     replace rl105 := rl105.mono hh4
     refine xL (A := []) (ρ := (rpT (rpQ (12 * k + 3 * m + 9 * n + 62)))) rl105 (xM (by first | (simp; done) | grind)) ?_
     intro h5 hh5 rs_28
     replace rl81 := rl81.mono ((hh3.trans hh4).trans hh5)
     refine uC (A := [_, _]) (fun X => yM (ρ := (rpT (rpQ (12 * k + 3 * m + 9 * n + 62)))) (bytes := 168) Tryz.underlying27 yB rfl rfl rfl rfl (show 0 < 9 from by decide) rfl rfl rl81 rs_28 (by first | omega | (simp only [List.length_append, List.length_cons, List.length_nil, List.length_replicate, List.length_set]; omega)) (by first | omega | (simp only [List.length_append, List.length_cons, List.length_nil, List.length_replicate, List.length_set]; omega))) rfl (xF (by first | (simp; done) | grind)) ?_
     intro v106 q106 hq106
     obtain ⟨cs106, rfl, rl106⟩ := hq106
     refine w_q rfl (fun h' L' hh hR => zY rfl) rfl (w_q rfl (fun h' L' hh hR => zY rfl) rfl (xB (yV (zB (zA (gv (zQ (q := 1) rfl rfl (by omega) (by omega)) rfl (mv rfl rfl (zD (xC (A := []) (xC (A := []) ?_))))))))))
     refine yQ ((i + 1), ((B ++ [(l.getD i (T3.mk (0 : Rat) 0 0))]) ++ [btw s (l.getD i (T3.mk (0 : Rat) 0 0)) (l.getD ((i + 1) % l.length) (T3.mk (0 : Rat) 0 0))]), ((F ++ [(l.getD i (T3.mk (0 : Rat) 0 0))]) ++ [btw s (l.getD i (T3.mk (0 : Rat) 0 0)) (l.getD ((i + 1) % l.length) (T3.mk (0 : Rat) 0 0))]), v102, cs102, v106, cs106, h5) ?_ ?_ ⟨rfl, rfl, rfl, rfl, rfl, rfl, rfl, rfl, trivial⟩ rfl rfl
     ·
      refine ⟨(((((hmmb.trans hh1).trans hh2).trans hh3).trans hh4).trans hh5), ?_⟩
      replace rl102 := rl102.mono hh5
      refine ⟨rl102, rl106, ?_⟩
      exact ⟨⟨by omega, (by first | exact jF hB hp1 hx1 | exact gY hB hp1 hx1 | exact fF hB hp1 hx1 | exact fG hB hp1 hx1)⟩, (by first | exact jE hF hp2 hx1 | exact gX hF hp2 hx1 | exact fD hF hp2 hx1 | exact fE hF hp2 hx1)⟩
     dsimp only
     omega
    have hx1 : ¬ xP s l i := by have h := hc91; rw [hS i (by omega), hS ((i + 1) % l.length) (Nat.mod_lt _ (by omega))] at h; exact h
    refine zL (yV (zB (zA (gv (zQ (q := 1) rfl rfl (by omega) (by omega)) rfl (mv rfl rfl (zD (xC (A := []) ?_)))))))
    refine yQ ((i + 1), (B ++ [(l.getD i (T3.mk (0 : Rat) 0 0))]), (F ++ [(l.getD i (T3.mk (0 : Rat) 0 0))]), v72, cs72, v81, cs81, h2) ?_ ?_ ⟨rfl, rfl, rfl, rfl, rfl, rfl, rfl, rfl, trivial⟩ rfl rfl
    ·
     refine ⟨((hmmb.trans hh1).trans hh2), ?_⟩
     replace rl72 := rl72.mono hh2
     refine ⟨rl72, rl81, ?_⟩
     exact ⟨⟨by omega, (by first | exact jF hB hp1 hx1 | exact gY hB hp1 hx1 | exact fF hB hp1 hx1 | exact fG hB hp1 hx1)⟩, (by first | exact jE hF hp2 hx1 | exact gX hF hp2 hx1 | exact fD hF hp2 hx1 | exact fE hF hp2 hx1)⟩
    dsimp only
    omega
   have hp2 : ¬ 0 ≤ sdZ s (gp l i) := by rw [← hS i (by omega)]; exact hc77
   refine zL (zB (zC ?_))
   refine yI 10 _ [] [(0, .q), (1, .q), (2, .q), (3, .q), (4, .q), (5, .q), (6, .q), (7, .q), (8, .q), (9, .q)] xI (fun x hx => by cases hx) (by kernel_rfl) (fun x hx => by cases hx) (fun r hr => hr) (w_q rfl (fun h' L' hh hR => zG rfl) rfl (w_q rfl (fun h' L' hh hR => zG rfl) rfl (w_q rfl (fun h' L' hh hR => (vE i (hR _ (.tail _ (.tail _ (.tail _ (.head _))))) Tryz.underlying22 Tryz.sizeOf3 rfl rfl rfl (by first | omega | (simp only [List.length_append, List.length_cons, List.length_nil, List.length_replicate, List.length_set]; omega)) (show 0 < 1 from by decide)).cv (show _ = xD 1 s6_1 ((i * 1 + 0)) from congrArg (xD 1 s6_1) (by rfl))) rfl (yR (F := fun v_ => rpI.Is h1 v_ (SD.getD i (0 : Int))) rfl (uL ty3 (Pc.arr (Pc.here _) (0 : Int) i (by first | omega | (simp only [List.length_append, List.length_cons, List.length_nil, List.length_replicate, List.length_set]; omega))) rfl (show 0 < 1 from by decide) rfl rl_3 rfl) (yF (.tail _ (.tail _ (.tail _ (.head _))))) rfl ?_))))
   intro v85 r85
   obtain ⟨rfl, hl85, hu85⟩ := bC r85
   refine w_q rfl (fun h' L' hh hR => zG rfl) rfl (w_q rfl (fun h' L' hh hR => zG rfl) rfl (w_q rfl (fun h' L' hh hR => (vE ((i + 1) % l.length) (hR _ (.tail _ (.tail _ (.tail _ (.head _))))) Tryz.underlying22 Tryz.sizeOf3 rfl rfl (by first | rfl | (push_cast; rfl)) (by rw [hi2]; exact Nat.mod_lt _ (by omega)) (show 0 < 1 from by decide)).cv (show _ = xD 1 s6_1 ((((i + 1) % l.length) * 1 + 0)) from congrArg (xD 1 s6_1) (by rfl))) rfl (yR (F := fun v_ => rpI.Is h1 v_ (SD.getD ((i + 1) % l.length) (0 : Int))) rfl (uL ty3 (Pc.arr (Pc.here _) (0 : Int) ((i + 1) % l.length) (by rw [hi2]; exact Nat.mod_lt _ (by omega))) rfl (show 0 < 1 from by decide) rfl rl_3 rfl) (yF (.tail _ (.tail _ (.tail _ (.head _))))) rfl ?_)))
   intro v89 r89
   obtain ⟨rfl, hl89, hu89⟩ := bC r89
   refine w_q rfl (fun h' L' hh hR => jQ rfl rfl (by rw [hd1, hd2]; have := qI hr1 hr2; omega) (by rw [hd1, hd2]; have := qI hr1 hr2; omega)) rfl (w_q rfl (fun h' L' hh hR => zW (q := 0) rfl rfl) rfl (xB (zJ (e' := [(0, _), (3, _), (5, _), (6, _), (52, _), (53, _), (54, _), (12, _), (13, _), (4, _), (91, _)]) ⟨rfl, rfl, rfl, rfl, rfl, rfl, rfl, rfl, rfl, rfl, rfl, trivial⟩ (zB ?_))))
   refine zO rfl (fun hc91 => ?_) (fun hc91 => ?_)
   ·
    have hx1 : xP s l i := by have h := hc91; rw [hS i (by omega), hS ((i + 1) % l.length) (Nat.mod_lt _ (by omega))] at h; exact h
    refine zC ?_
    refine yI 8 _ [(7, (14, 32, [.bool false, .slice none 0 0, .slice none 0 0, .bool false, .slice none 0 0, .slice none 0 0, .bool false, .slice none 0 0, .slice none 0 0]))] [(0, .q), (1, .q), (2, .q), (3, .q), (4, .q), (5, .q), (6, .c), (7, .a), (8, .t)] xI (jG.cons rfl (uT yB rfl rfl) jG.nil) (by kernel_rfl) (uV rfl rfl jY) (fun r hr => hr) ?_
    replace rb3 := rb3.mono ((hmma.trans hmmb).trans hh1)
    refine yR (F := fun v_ => (rpP (rpT (rpQ n)) (rpQ m)).Is h1 v_ s) rfl (zE kE (Pc.here _) rfl rfl rb3 rfl) (yF (.tail _ (.tail _ (.tail _ (.tail _ (.head _)))))) rfl ?_
    intro v92 r92
    replace rb_17 := rb_17.mono hh1
    refine yR (F := fun v_ => (rpT (rpQ (k + 1))).Is h1 v_ (l.getD i (T3.mk (0 : Rat) 0 0))) rfl (zE xG (Pc.here _) rfl rfl rb_17 rfl) (yF (.head _)) rfl ?_
    intro v93 r93
    refine w_q rfl (fun h' L' hh hR => zG rfl) rfl (w_q rfl (fun h' L' hh hR => zG rfl) rfl ?_)
    replace rl := rl.mono hh1
    refine yR (F := fun v_ => AtP (rpT (rpQ k)) h1 v_ (l.getD ((i + 1) % l.length) (T3.mk (0 : Rat) 0 0))) rfl (uR (T3.mk (0 : Rat) 0 0) ((i + 1) % l.length) Tryz.underlying27 xG rfl rfl rl (by first | rfl | (push_cast; rfl)) (by exact Nat.mod_lt _ (by omega)) (show 0 < 9 from by decide)) uH rfl ?_
    intro v96 r96
    refine yR (F := fun v_ => (rpT (rpQ k)).Is h1 v_ (l.getD ((i + 1) % l.length) (T3.mk (0 : Rat) 0 0))) rfl (vM xG rfl r96) uH rfl ?_
    intro v97 r97
    refine w_c rfl ?_
    refine yD (vs := [_, _, _]) Tryz.call84 ⟨rfl, rfl, rfl, trivial⟩ (fun w hs => sR hs r92 r93 (r97.le (Le.t (Le.q (l := k + 1) (by omega)))) (by omega) (by omega) (by omega)) rfl ?_
    intro v98 h2 hh2 r98
    change (rpT (rpQ (12 * (k + 1) + 3 * m + 9 * n + 50))).Is h2 v98 (btw s (l.getD i (T3.mk (0 : Rat) 0 0)) (l.getD ((i + 1) % l.length) (T3.mk (0 : Rat) 0 0))) at r98
    replace r98 := Rp.Is.le r98 (Le.t (Le.q (l := 12 * k + 3 * m + 9 * n + 62) (by omega)))
    refine w_a rfl (fun b14 => ?_)
    have rb14 : (rpT (rpQ 1)).R h2 [.bool false, .slice none 0 0, .slice none 0 0, .bool false, .slice none 0 0, .slice none 0 0, .bool false, .slice none 0 0, .slice none 0 0] (T3.mk (0 : Rat) 0 0) := (wI (wD (by decide)))
    have rw_29 := (Le.t (Le.q (l := 12 * k + 3 * m + 9 * n + 62) (by omega))).R rb14
    refine wF (A := []) (F := fun c_ => (rpT (rpQ (12 * k + 3 * m + 9 * n + 62))).R h2 c_ (btw s (l.getD i (T3.mk (0 : Rat) 0 0)) (l.getD ((i + 1) % l.length) (T3.mk (0 : Rat) 0 0)))) rfl (yG Tryz.sizeOf32 (Pc.here _) rfl rfl rfl rw_29 r98 rfl) ?_
    intro cs_30 rb_31
    refine xB (zJ (e' := [(0, _), (3, _), (5, _), (6, _), (52, _), (53, _), (54, _), (4, _), (14, _)]) ⟨rfl, rfl, rfl, rfl, rfl, rfl, rfl, rfl, rfl, trivial⟩ (zB ?_))
    refine yI 10 [.var b14 32 cs_30, .var b12 32 cs_16, .gs 3 1 s6_1 SD.length cs_2, .var b3 34 cs3] [] [(0, .q), (1, .q), (4, .q), (5, .q), (2, .d 3 6), (7, .c), (8, .q), (9, .q)] xI (fun x hx => by cases hx) (by kernel_rfl) (fun x hx => by cases hx) (by intro r hr; simp only [List.mem_cons, List.mem_append, List.not_mem_nil, or_false] at hr ⊢ <;> grind) (w_q rfl (fun h' L' hh hR => zG rfl) rfl (yR (F := fun v_ => (rpT (rpQ (12 * k + 3 * m + 9 * n + 62))).Is h2 v_ (btw s (l.getD i (T3.mk (0 : Rat) 0 0)) (l.getD ((i + 1) % l.length) (T3.mk (0 : Rat) 0 0)))) rfl (zE xG (Pc.here _) rfl rfl rb_31 rfl) (yF (.head _)) rfl ?_))
    intro v100 r100
    refine w_q rfl (fun h' L' hh hR => zG rfl) rfl (yR (F := fun v_ => (rpT (rpQ (12 * k + 3 * m + 9 * n + 62))).Is h2 v_ (btw s (l.getD i (T3.mk (0 : Rat) 0 0)) (l.getD ((i + 1) % l.length) (T3.mk (0 : Rat) 0 0)))) rfl (zE xG (Pc.here _) rfl rfl rb_31 rfl) (yF (.head _)) rfl ?_)
    intro v104 r104
    refine w_d rfl rfl rfl ?_ ?_
    ·
     refine uU (fun X => yW (ρ := (rpT (rpQ (12 * k + 3 * m + 9 * n + 62)))) (m := 1) (xs := [btw s (l.getD i (T3.mk (0 : Rat) 0 0)) (l.getD ((i + 1) % l.length) (T3.mk (0 : Rat) 0 0))]) (ps' := [(0, _)]) Tryz.underlying27 yB rfl rfl rfl (wI (wD (by omega))) ⟨rfl, rfl, trivial⟩ (yU rfl (Pc.arr (Pc.here _) (T3.mk (0 : Rat) 0 0) 0 (by decide)) r100 xY) (show 1 * 9 ≤ 16777216 from by decide) (show 0 < 9 from by decide)) rfl ?_
     intro v101 q101 hq101
     obtain ⟨cs101, rfl, rl101⟩ := hq101
     refine ⟨?_, ?_⟩
     ·
      refine xL (A := []) (ρ := (rpT (rpQ (12 * k + 3 * m + 9 * n + 62)))) rl101 (xM (by first | (simp; done) | grind)) ?_
      intro h3 hh3 rs_32
      replace rl72 := rl72.mono (hh2.trans hh3)
      refine uC (A := [_, _, _]) (fun X => yM (ρ := (rpT (rpQ (12 * k + 3 * m + 9 * n + 62)))) (bytes := 168) Tryz.underlying27 yB rfl rfl rfl rfl (show 0 < 9 from by decide) rfl rfl rl72 rs_32 (by first | omega | (simp only [List.length_append, List.length_cons, List.length_nil, List.length_replicate, List.length_set]; omega)) (by first | omega | (simp only [List.length_append, List.length_cons, List.length_nil, List.length_replicate, List.length_set]; omega))) rfl (xF (by first | (simp; done) | grind)) ?_
      intro v102 q102 hq102
      obtain ⟨cs102, rfl, rl102⟩ := hq102
      replace r104 := r104.mono hh3
      refine uU (fun X => yW (ρ := (rpT (rpQ (12 * k + 3 * m + 9 * n + 62)))) (m := 1) (xs := [btw s (l.getD i (T3.mk (0 : Rat) 0 0)) (l.getD ((i + 1) % l.length) (T3.mk (0 : Rat) 0 0))]) (ps' := [(0, _)]) Tryz.underlying27 yB rfl rfl rfl (wI (wD (by omega))) ⟨rfl, rfl, trivial⟩ (yU rfl (Pc.arr (Pc.here _) (T3.mk (0 : Rat) 0 0) 0 (by decide)) r104 xY) (show 1 * 9 ≤ 16777216 from by decide) (show 0 < 9 from by decide)) rfl ?_
      intro v105 q105 hq105
      obtain ⟨cs105, rfl, rl105⟩ := hq105
      refine w_c rfl (xL (A := []) (ρ := (rpT (rpQ (12 * k + 3 * m + 9 * n + 62)))) rl105 (xM (by first | (simp; done) | grind)) ?_)
      intro h4 hh4 rs_33
      replace rl_15 := rl_15.mono (((hh1.trans hh2).trans hh3).trans hh4)
      refine uC (A := [_, _]) (fun X => yM (ρ := (rpT (rpQ (12 * k + 3 * m + 9 * n + 62)))) (bytes := 168) Tryz.underlying27 yB rfl rfl rfl rfl (show 0 < 9 from by decide) rfl rfl rl_15 rs_33 (by first | omega | (simp only [List.length_append, List.length_cons, List.length_nil, List.length_replicate, List.length_set]; omega)) (by first | omega | (simp only [List.length_append, List.length_cons, List.length_nil, List.length_replicate, List.length_set]; omega))) rfl (xF (by first | (simp; done) | grind)) ?_
      intro v106 q106 hq106
      obtain ⟨cs106, rfl, rl106⟩ := hq106
      refine w_q rfl (fun h' L' hh hR => zY rfl) rfl (w_q rfl (fun h' L' hh hR => zY rfl) rfl (xB (yV (zB (zA (gv (zQ (q := 1) rfl rfl (by omega) (by omega)) rfl (mv rfl rfl (zD (xC (A := []) (xC (A := []) ?_))))))))))
      refine yQ ((i + 1), ((B ++ [(l.getD i (T3.mk (0 : Rat) 0 0))]) ++ [btw s (l.getD i (T3.mk (0 : Rat) 0 0)) (l.getD ((i + 1) % l.length) (T3.mk (0 : Rat) 0 0))]), (F ++ [btw s (l.getD i (T3.mk (0 : Rat) 0 0)) (l.getD ((i + 1) % l.length) (T3.mk (0 : Rat) 0 0))]), v102, cs102, v106, cs106, h4) ?_ ?_ ⟨rfl, rfl, rfl, rfl, rfl, rfl, rfl, rfl, trivial⟩ rfl rfl
      ·
       refine ⟨((((hmmb.trans hh1).trans hh2).trans hh3).trans hh4), ?_⟩
       replace rl102 := rl102.mono hh4
       refine ⟨rl102, rl106, ?_⟩
       exact ⟨⟨by omega, (by first | exact jF hB hp1 hx1 | exact gY hB hp1 hx1 | exact fF hB hp1 hx1 | exact fG hB hp1 hx1)⟩, (by first | exact jE hF hp2 hx1 | exact gX hF hp2 hx1 | exact fD hF hp2 hx1 | exact fE hF hp2 hx1)⟩
      dsimp only
      omega
     refine uU (fun X => yW (ρ := (rpT (rpQ (12 * k + 3 * m + 9 * n + 62)))) (m := 1) (xs := [btw s (l.getD i (T3.mk (0 : Rat) 0 0)) (l.getD ((i + 1) % l.length) (T3.mk (0 : Rat) 0 0))]) (ps' := [(0, _)]) Tryz.underlying27 yB rfl rfl rfl (wI (wD (by omega))) ⟨rfl, rfl, trivial⟩ (yU rfl (Pc.arr (Pc.here _) (T3.mk (0 : Rat) 0 0) 0 (by decide)) r104 xY) (show 1 * 9 ≤ 16777216 from by decide) (show 0 < 9 from by decide)) rfl ?_
     intro v105 q105 hq105
     obtain ⟨cs105, rfl, rl105⟩ := hq105
     refine xL (A := [_]) (ρ := (rpT (rpQ (12 * k + 3 * m + 9 * n + 62)))) rl101 (xM (by first | (simp; done) | grind)) ?_
     intro h3 hh3 rs_34
     replace rl72 := rl72.mono (hh2.trans hh3)
     refine uC (A := [_, _, _, _]) (fun X => yM (ρ := (rpT (rpQ (12 * k + 3 * m + 9 * n + 62)))) (bytes := 168) Tryz.underlying27 yB rfl rfl rfl rfl (show 0 < 9 from by decide) rfl rfl rl72 rs_34 (by first | omega | (simp only [List.length_append, List.length_cons, List.length_nil, List.length_replicate, List.length_set]; omega)) (by first | omega | (simp only [List.length_append, List.length_cons, List.length_nil, List.length_replicate, List.length_set]; omega))) rfl (xF (by first | (simp; done) | grind)) ?_
     intro v102 q102 hq102
     obtain ⟨cs102, rfl, rl102⟩ := hq102
     refine w_c rfl ?_
     replace rl105 := rl105.mono hh3
     refine xL (A := []) (ρ := (rpT (rpQ (12 * k + 3 * m + 9 * n + 62)))) rl105 (xM (by first | (simp; done) | grind)) ?_
     intro h4 hh4 rs_35
     replace rl_15 := rl_15.mono (((hh1.trans hh2).trans hh3).trans hh4)
     refine uC (A := [_, _]) (fun X => yM (ρ := (rpT (rpQ (12 * k + 3 * m + 9 * n + 62)))) (bytes := 168) Tryz.underlying27 yB rfl rfl rfl rfl (show 0 < 9 from by decide) rfl rfl rl_15 rs_35 (by first | omega | (simp only [List.length_append, List.length_cons, List.length_nil, List.length_replicate, List.length_set]; omega)) (by first | omega | (simp only [List.length_append, List.length_cons, List.length_nil, List.length_replicate, List.length_set]; omega))) rfl (xF (by first | (simp; done) | grind)) ?_
     intro v106 q106 hq106
     obtain ⟨cs106, rfl, rl106⟩ := hq106
     refine w_q rfl (fun h' L' hh hR => zY rfl) rfl (w_q rfl (fun h' L' hh hR => zY rfl) rfl (xB (yV (zB (zA (gv (zQ (q := 1) rfl rfl (by omega) (by omega)) rfl (mv rfl rfl (zD (xC (A := []) (xC (A := []) ?_))))))))))
     refine yQ ((i + 1), ((B ++ [(l.getD i (T3.mk (0 : Rat) 0 0))]) ++ [btw s (l.getD i (T3.mk (0 : Rat) 0 0)) (l.getD ((i + 1) % l.length) (T3.mk (0 : Rat) 0 0))]), (F ++ [btw s (l.getD i (T3.mk (0 : Rat) 0 0)) (l.getD ((i + 1) % l.length) (T3.mk (0 : Rat) 0 0))]), v102, cs102, v106, cs106, h4) ?_ ?_ ⟨rfl, rfl, rfl, rfl, rfl, rfl, rfl, rfl, trivial⟩ rfl rfl
     ·
      refine ⟨((((hmmb.trans hh1).trans hh2).trans hh3).trans hh4), ?_⟩
      replace rl102 := rl102.mono hh4
      refine ⟨rl102, rl106, ?_⟩
      exact ⟨⟨by omega, (by first | exact jF hB hp1 hx1 | exact gY hB hp1 hx1 | exact fF hB hp1 hx1 | exact fG hB hp1 hx1)⟩, (by first | exact jE hF hp2 hx1 | exact gX hF hp2 hx1 | exact fD hF hp2 hx1 | exact fE hF hp2 hx1)⟩
     dsimp only
     omega
    refine uU (fun X => yW (ρ := (rpT (rpQ (12 * k + 3 * m + 9 * n + 62)))) (m := 1) (xs := [btw s (l.getD i (T3.mk (0 : Rat) 0 0)) (l.getD ((i + 1) % l.length) (T3.mk (0 : Rat) 0 0))]) (ps' := [(0, _)]) Tryz.underlying27 yB rfl rfl rfl (wI (wD (by omega))) ⟨rfl, rfl, trivial⟩ (yU rfl (Pc.arr (Pc.here _) (T3.mk (0 : Rat) 0 0) 0 (by decide)) r104 xY) (show 1 * 9 ≤ 16777216 from by decide) (show 0 < 9 from by decide)) rfl ?_
    intro v105 q105 hq105
    obtain ⟨cs105, rfl, rl105⟩ := hq105
    refine uU (fun X => yW (ρ := (rpT (rpQ (12 * k + 3 * m + 9 * n + 62)))) (m := 1) (xs := [btw s (l.getD i (T3.mk (0 : Rat) 0 0)) (l.getD ((i + 1) % l.length) (T3.mk (0 : Rat) 0 0))]) (ps' := [(0, _)]) Tryz.underlying27 yB rfl rfl rfl (wI (wD (by omega))) ⟨rfl, rfl, trivial⟩ (yU rfl (Pc.arr (Pc.here _) (T3.mk (0 : Rat) 0 0) 0 (by decide)) r100 xY) (show 1 * 9 ≤ 16777216 from by decide) (show 0 < 9 from by decide)) rfl ?_
    intro v101 q101 hq101
    obtain ⟨cs101, rfl, rl101⟩ := hq101
    refine xL (A := []) (ρ := (rpT (rpQ (12 * k + 3 * m + 9 * n + 62)))) rl101 (xM (by first | (simp; done) | grind)) ?_
    intro h3 hh3 rs_36
    replace rl72 := rl72.mono (hh2.trans hh3)
    refine uC (A := [_, _, _, _]) (fun X => yM (ρ := (rpT (rpQ (12 * k + 3 * m + 9 * n + 62)))) (bytes := 168) Tryz.underlying27 yB rfl rfl rfl rfl (show 0 < 9 from by decide) rfl rfl rl72 rs_36 (by first | omega | (simp only [List.length_append, List.length_cons, List.length_nil, List.length_replicate, List.length_set]; omega)) (by first | omega | (simp only [List.length_append, List.length_cons, List.length_nil, List.length_replicate, List.length_set]; omega))) rfl (xF (by first | (simp; done) | grind)) ?_
    intro v102 q102 hq102
    obtain ⟨cs102, rfl, rl102⟩ := hq102
    refine w_c rfl ?_
    replace rl105 := rl105.mono hh3
    refine xL (A := []) (ρ := (rpT (rpQ (12 * k + 3 * m + 9 * n + 62)))) rl105 (xM (by first | (simp; done) | grind)) ?_
    intro h4 hh4 rs_37
    replace rl_15 := rl_15.mono (((hh1.trans hh2).trans hh3).trans hh4)
    refine uC (A := [_, _]) (fun X => yM (ρ := (rpT (rpQ (12 * k + 3 * m + 9 * n + 62)))) (bytes := 168) Tryz.underlying27 yB rfl rfl rfl rfl (show 0 < 9 from by decide) rfl rfl rl_15 rs_37 (by first | omega | (simp only [List.length_append, List.length_cons, List.length_nil, List.length_replicate, List.length_set]; omega)) (by first | omega | (simp only [List.length_append, List.length_cons, List.length_nil, List.length_replicate, List.length_set]; omega))) rfl (xF (by first | (simp; done) | grind)) ?_
    intro v106 q106 hq106
    obtain ⟨cs106, rfl, rl106⟩ := hq106
    refine w_q rfl (fun h' L' hh hR => zY rfl) rfl (w_q rfl (fun h' L' hh hR => zY rfl) rfl (xB (yV (zB (zA (gv (zQ (q := 1) rfl rfl (by omega) (by omega)) rfl (mv rfl rfl (zD (xC (A := []) (xC (A := []) ?_))))))))))
    refine yQ ((i + 1), ((B ++ [(l.getD i (T3.mk (0 : Rat) 0 0))]) ++ [btw s (l.getD i (T3.mk (0 : Rat) 0 0)) (l.getD ((i + 1) % l.length) (T3.mk (0 : Rat) 0 0))]), (F ++ [btw s (l.getD i (T3.mk (0 : Rat) 0 0)) (l.getD ((i + 1) % l.length) (T3.mk (0 : Rat) 0 0))]), v102, cs102, v106, cs106, h4) ?_ ?_ ⟨rfl, rfl, rfl, rfl, rfl, rfl, rfl, rfl, trivial⟩ rfl rfl
    ·
     refine ⟨((((hmmb.trans hh1).trans hh2).trans hh3).trans hh4), ?_⟩
     replace rl102 := rl102.mono hh4
     refine ⟨rl102, rl106, ?_⟩
     exact ⟨⟨by omega, (by first | exact jF hB hp1 hx1 | exact gY hB hp1 hx1 | exact fF hB hp1 hx1 | exact fG hB hp1 hx1)⟩, (by first | exact jE hF hp2 hx1 | exact gX hF hp2 hx1 | exact fD hF hp2 hx1 | exact fE hF hp2 hx1)⟩
    dsimp only
    omega
   have hx1 : ¬ xP s l i := by have h := hc91; rw [hS i (by omega), hS ((i + 1) % l.length) (Nat.mod_lt _ (by omega))] at h; exact h
   refine zL (yV (zB (zA (gv (zQ (q := 1) rfl rfl (by omega) (by omega)) rfl (mv rfl rfl (zD (xC (A := []) ?_)))))))
   refine yQ ((i + 1), (B ++ [(l.getD i (T3.mk (0 : Rat) 0 0))]), F, v72, cs72, s5_13, cs_14, h1) ?_ ?_ ⟨rfl, rfl, rfl, rfl, rfl, rfl, rfl, rfl, trivial⟩ rfl rfl
   ·
    refine ⟨(hmmb.trans hh1), ?_⟩
    replace rl_15 := rl_15.mono hh1
    refine ⟨rl72, rl_15, ?_⟩
    exact ⟨⟨by omega, (by first | exact jF hB hp1 hx1 | exact gY hB hp1 hx1 | exact fF hB hp1 hx1 | exact fG hB hp1 hx1)⟩, (by first | exact jE hF hp2 hx1 | exact gX hF hp2 hx1 | exact fD hF hp2 hx1 | exact fE hF hp2 hx1)⟩
   dsimp only
   omega
  have hp1 : ¬ sdZ s (gp l i) ≤ 0 := by rw [← hS i (by omega)]; exact hc68
  refine zL (zB (zC (zC (zA (mv rfl rfl (mv rfl rfl (gv ((vE i (.tail _ (.tail _ (.tail _ (.head _)))) Tryz.underlying22 Tryz.sizeOf3 rfl rfl rfl (by first | omega | (simp only [List.length_append, List.length_cons, List.length_nil, List.length_replicate, List.length_set]; omega)) (show 0 < 1 from by decide)).cv (show _ = xD 1 s6_1 ((i * 1 + 0)) from congrArg (xD 1 s6_1) (by rfl))) rfl (wG (F := fun v_ => rpI.Is mb v_ (SD.getD i (0 : Int))) (uL ty3 (Pc.arr (Pc.here _) (0 : Int) i (by first | omega | (simp only [List.length_append, List.length_cons, List.length_nil, List.length_replicate, List.length_set]; omega))) rfl (show 0 < 1 from by decide) rfl rl_3 rfl) (yF (.tail _ (.tail _ (.tail _ (.head _))))) rfl ?_))))))))
  intro v76 r76
  obtain ⟨rfl, hl76, hu76⟩ := bC r76
  refine gv (qL (q := 0) rfl rfl) rfl (zD (zB ?_))
  refine zO rfl (fun hc77 => ?_) (fun hc77 => ?_)
  ·
   have hp2 : 0 ≤ sdZ s (gp l i) := by rw [← hS i (by omega)]; exact hc77
   refine zA (mv rfl rfl (wG (F := fun v_ => (rpT (rpQ (k + 1))).Is mb v_ (l.getD i (T3.mk (0 : Rat) 0 0))) (zE xG (Pc.here _) rfl rfl rb_17 rfl) (yF (.head _)) rfl ?_))
   intro v79 r79
   refine zK (yW (ρ := (rpT (rpQ (k + 1)))) (m := 1) (xs := [(l.getD i (T3.mk (0 : Rat) 0 0))]) (ps' := [(0, _)]) Tryz.underlying27 yB rfl rfl rfl (wI (wD (by omega))) ⟨rfl, rfl, trivial⟩ (yU rfl (Pc.arr (Pc.here _) (T3.mk (0 : Rat) 0 0) 0 (by decide)) r79 xY) (show 1 * 9 ≤ 16777216 from by decide) (show 0 < 9 from by decide)) rfl rfl rfl ?_
   intro v80 q80 hq80
   obtain ⟨cs80, rfl, rl80⟩ := hq80
   refine kD (A := []) (ρ := (rpT (rpQ (k + 1)))) rl80 ?_
   intro h1 hh1 rs_38
   replace rl_15 := rl_15.mono hh1
   refine qN (A := [_]) (yM (ρ := (rpT (rpQ (12 * k + 3 * m + 9 * n + 62)))) (bytes := 168) Tryz.underlying27 yB rfl rfl rfl rfl (show 0 < 9 from by decide) rfl rfl rl_15 (rs_38.le (Le.s (Le.t (Le.q (l := 12 * k + 3 * m + 9 * n + 62) (by omega))))) (by first | omega | (simp only [List.length_append, List.length_cons, List.length_nil, List.length_replicate, List.length_set]; omega)) (by first | omega | (simp only [List.length_append, List.length_cons, List.length_nil, List.length_replicate, List.length_set]; omega))) rfl rfl rfl ?_
   intro v81 q81 hq81
   obtain ⟨cs81, rfl, rl81⟩ := hq81
   refine asg rfl rfl (zD (zB (zC ?_)))
   refine yI 10 _ [] [(0, .q), (1, .q), (2, .q), (3, .q), (4, .q), (5, .q), (6, .q), (7, .q), (8, .q), (9, .q)] xI (fun x hx => by cases hx) (by kernel_rfl) (fun x hx => by cases hx) (fun r hr => hr) (w_q rfl (fun h' L' hh hR => zG rfl) rfl (w_q rfl (fun h' L' hh hR => zG rfl) rfl (w_q rfl (fun h' L' hh hR => (vE i (hR _ (.tail _ (.tail _ (.tail _ (.head _))))) Tryz.underlying22 Tryz.sizeOf3 rfl rfl rfl (by first | omega | (simp only [List.length_append, List.length_cons, List.length_nil, List.length_replicate, List.length_set]; omega)) (show 0 < 1 from by decide)).cv (show _ = xD 1 s6_1 ((i * 1 + 0)) from congrArg (xD 1 s6_1) (by rfl))) rfl ?_)))
   replace rl_3 := rl_3.mono hh1
   refine yR (F := fun v_ => rpI.Is h1 v_ (SD.getD i (0 : Int))) rfl (uL ty3 (Pc.arr (Pc.here _) (0 : Int) i (by first | omega | (simp only [List.length_append, List.length_cons, List.length_nil, List.length_replicate, List.length_set]; omega))) rfl (show 0 < 1 from by decide) rfl rl_3 rfl) (yF (.tail _ (.tail _ (.tail _ (.head _))))) rfl ?_
   intro v85 r85
   obtain ⟨rfl, hl85, hu85⟩ := bC r85
   refine w_q rfl (fun h' L' hh hR => zG rfl) rfl (w_q rfl (fun h' L' hh hR => zG rfl) rfl (w_q rfl (fun h' L' hh hR => (vE ((i + 1) % l.length) (hR _ (.tail _ (.tail _ (.tail _ (.head _))))) Tryz.underlying22 Tryz.sizeOf3 rfl rfl (by first | rfl | (push_cast; rfl)) (by rw [hi2]; exact Nat.mod_lt _ (by omega)) (show 0 < 1 from by decide)).cv (show _ = xD 1 s6_1 ((((i + 1) % l.length) * 1 + 0)) from congrArg (xD 1 s6_1) (by rfl))) rfl (yR (F := fun v_ => rpI.Is h1 v_ (SD.getD ((i + 1) % l.length) (0 : Int))) rfl (uL ty3 (Pc.arr (Pc.here _) (0 : Int) ((i + 1) % l.length) (by rw [hi2]; exact Nat.mod_lt _ (by omega))) rfl (show 0 < 1 from by decide) rfl rl_3 rfl) (yF (.tail _ (.tail _ (.tail _ (.head _))))) rfl ?_)))
   intro v89 r89
   obtain ⟨rfl, hl89, hu89⟩ := bC r89
   refine w_q rfl (fun h' L' hh hR => jQ rfl rfl (by rw [hd1, hd2]; have := qI hr1 hr2; omega) (by rw [hd1, hd2]; have := qI hr1 hr2; omega)) rfl (w_q rfl (fun h' L' hh hR => zW (q := 0) rfl rfl) rfl (xB (zJ (e' := [(0, _), (3, _), (4, _), (6, _), (52, _), (53, _), (54, _), (12, _), (13, _), (5, _), (91, _)]) ⟨rfl, rfl, rfl, rfl, rfl, rfl, rfl, rfl, rfl, rfl, rfl, trivial⟩ (zB ?_))))
   refine zO rfl (fun hc91 => ?_) (fun hc91 => ?_)
   ·
    have hx1 : xP s l i := by have h := hc91; rw [hS i (by omega), hS ((i + 1) % l.length) (Nat.mod_lt _ (by omega))] at h; exact h
    refine zC ?_
    refine yI 8 _ [(7, (14, 32, [.bool false, .slice none 0 0, .slice none 0 0, .bool false, .slice none 0 0, .slice none 0 0, .bool false, .slice none 0 0, .slice none 0 0]))] [(0, .q), (1, .q), (2, .q), (3, .q), (4, .q), (5, .q), (6, .c), (7, .a), (8, .t)] xI (jG.cons rfl (uT yB rfl rfl) jG.nil) (by kernel_rfl) (uV rfl rfl jY) (fun r hr => hr) ?_
    replace rb3 := rb3.mono ((hmma.trans hmmb).trans hh1)
    refine yR (F := fun v_ => (rpP (rpT (rpQ n)) (rpQ m)).Is h1 v_ s) rfl (zE kE (Pc.here _) rfl rfl rb3 rfl) (yF (.tail _ (.tail _ (.tail _ (.tail _ (.head _)))))) rfl ?_
    intro v92 r92
    replace rb_17 := rb_17.mono hh1
    refine yR (F := fun v_ => (rpT (rpQ (k + 1))).Is h1 v_ (l.getD i (T3.mk (0 : Rat) 0 0))) rfl (zE xG (Pc.here _) rfl rfl rb_17 rfl) (yF (.head _)) rfl ?_
    intro v93 r93
    refine w_q rfl (fun h' L' hh hR => zG rfl) rfl (w_q rfl (fun h' L' hh hR => zG rfl) rfl ?_)
    replace rl := rl.mono hh1
    refine yR (F := fun v_ => AtP (rpT (rpQ k)) h1 v_ (l.getD ((i + 1) % l.length) (T3.mk (0 : Rat) 0 0))) rfl (uR (T3.mk (0 : Rat) 0 0) ((i + 1) % l.length) Tryz.underlying27 xG rfl rfl rl (by first | rfl | (push_cast; rfl)) (by exact Nat.mod_lt _ (by omega)) (show 0 < 9 from by decide)) uH rfl ?_
    intro v96 r96
    refine yR (F := fun v_ => (rpT (rpQ k)).Is h1 v_ (l.getD ((i + 1) % l.length) (T3.mk (0 : Rat) 0 0))) rfl (vM xG rfl r96) uH rfl ?_
    intro v97 r97
    refine w_c rfl ?_
    refine yD (vs := [_, _, _]) Tryz.call84 ⟨rfl, rfl, rfl, trivial⟩ (fun w hs => sR hs r92 r93 (r97.le (Le.t (Le.q (l := k + 1) (by omega)))) (by omega) (by omega) (by omega)) rfl ?_
    intro v98 h2 hh2 r98
    change (rpT (rpQ (12 * (k + 1) + 3 * m + 9 * n + 50))).Is h2 v98 (btw s (l.getD i (T3.mk (0 : Rat) 0 0)) (l.getD ((i + 1) % l.length) (T3.mk (0 : Rat) 0 0))) at r98
    replace r98 := Rp.Is.le r98 (Le.t (Le.q (l := 12 * k + 3 * m + 9 * n + 62) (by omega)))
    refine w_a rfl (fun b14 => ?_)
    have rb14 : (rpT (rpQ 1)).R h2 [.bool false, .slice none 0 0, .slice none 0 0, .bool false, .slice none 0 0, .slice none 0 0, .bool false, .slice none 0 0, .slice none 0 0] (T3.mk (0 : Rat) 0 0) := (wI (wD (by decide)))
    have rw_39 := (Le.t (Le.q (l := 12 * k + 3 * m + 9 * n + 62) (by omega))).R rb14
    refine wF (A := []) (F := fun c_ => (rpT (rpQ (12 * k + 3 * m + 9 * n + 62))).R h2 c_ (btw s (l.getD i (T3.mk (0 : Rat) 0 0)) (l.getD ((i + 1) % l.length) (T3.mk (0 : Rat) 0 0)))) rfl (yG Tryz.sizeOf32 (Pc.here _) rfl rfl rfl rw_39 r98 rfl) ?_
    intro cs_40 rb_41
    refine xB (zJ (e' := [(0, _), (3, _), (4, _), (6, _), (52, _), (53, _), (54, _), (5, _), (14, _)]) ⟨rfl, rfl, rfl, rfl, rfl, rfl, rfl, rfl, rfl, trivial⟩ (zB ?_))
    refine yI 10 [.var b14 32 cs_40, .var b12 32 cs_16, .gs 3 1 s6_1 SD.length cs_2, .var b3 34 cs3] [] [(0, .q), (1, .q), (4, .q), (5, .q), (2, .d 3 6), (7, .c), (8, .q), (9, .q)] xI (fun x hx => by cases hx) (by kernel_rfl) (fun x hx => by cases hx) (by intro r hr; simp only [List.mem_cons, List.mem_append, List.not_mem_nil, or_false] at hr ⊢ <;> grind) (w_q rfl (fun h' L' hh hR => zG rfl) rfl (yR (F := fun v_ => (rpT (rpQ (12 * k + 3 * m + 9 * n + 62))).Is h2 v_ (btw s (l.getD i (T3.mk (0 : Rat) 0 0)) (l.getD ((i + 1) % l.length) (T3.mk (0 : Rat) 0 0)))) rfl (zE xG (Pc.here _) rfl rfl rb_41 rfl) (yF (.head _)) rfl ?_))
    intro v100 r100
    refine w_q rfl (fun h' L' hh hR => zG rfl) rfl (yR (F := fun v_ => (rpT (rpQ (12 * k + 3 * m + 9 * n + 62))).Is h2 v_ (btw s (l.getD i (T3.mk (0 : Rat) 0 0)) (l.getD ((i + 1) % l.length) (T3.mk (0 : Rat) 0 0)))) rfl (zE xG (Pc.here _) rfl rfl rb_41 rfl) (yF (.head _)) rfl ?_)
    intro v104 r104
    refine w_d rfl rfl rfl ?_ ?_
    ·
     refine uU (fun X => yW (ρ := (rpT (rpQ (12 * k + 3 * m + 9 * n + 62)))) (m := 1) (xs := [btw s (l.getD i (T3.mk (0 : Rat) 0 0)) (l.getD ((i + 1) % l.length) (T3.mk (0 : Rat) 0 0))]) (ps' := [(0, _)]) Tryz.underlying27 yB rfl rfl rfl (wI (wD (by omega))) ⟨rfl, rfl, trivial⟩ (yU rfl (Pc.arr (Pc.here _) (T3.mk (0 : Rat) 0 0) 0 (by decide)) r100 xY) (show 1 * 9 ≤ 16777216 from by decide) (show 0 < 9 from by decide)) rfl ?_
     intro v101 q101 hq101
     obtain ⟨cs101, rfl, rl101⟩ := hq101
     refine ⟨?_, ?_⟩
     ·
      refine xL (A := []) (ρ := (rpT (rpQ (12 * k + 3 * m + 9 * n + 62)))) rl101 (xM (by first | (simp; done) | grind)) ?_
      intro h3 hh3 rs_42
      replace rl_12 := rl_12.mono ((hh1.trans hh2).trans hh3)
      refine uC (A := [_, _, _]) (fun X => yM (ρ := (rpT (rpQ (12 * k + 3 * m + 9 * n + 62)))) (bytes := 168) Tryz.underlying27 yB rfl rfl rfl rfl (show 0 < 9 from by decide) rfl rfl rl_12 rs_42 (by first | omega | (simp only [List.length_append, List.length_cons, List.length_nil, List.length_replicate, List.length_set]; omega)) (by first | omega | (simp only [List.length_append, List.length_cons, List.length_nil, List.length_replicate, List.length_set]; omega))) rfl (xF (by first | (simp; done) | grind)) ?_
      intro v102 q102 hq102
      obtain ⟨cs102, rfl, rl102⟩ := hq102
      replace r104 := r104.mono hh3
      refine uU (fun X => yW (ρ := (rpT (rpQ (12 * k + 3 * m + 9 * n + 62)))) (m := 1) (xs := [btw s (l.getD i (T3.mk (0 : Rat) 0 0)) (l.getD ((i + 1) % l.length) (T3.mk (0 : Rat) 0 0))]) (ps' := [(0, _)]) Tryz.underlying27 yB rfl rfl rfl (wI (wD (by omega))) ⟨rfl, rfl, trivial⟩ (yU rfl (Pc.arr (Pc.here _) (T3.mk (0 : Rat) 0 0) 0 (by decide)) r104 xY) (show 1 * 9 ≤ 16777216 from by decide) (show 0 < 9 from by decide)) rfl ?_
      intro v105 q105 hq105
      obtain ⟨cs105, rfl, rl105⟩ := hq105
      refine w_c rfl (xL (A := []) (ρ := (rpT (rpQ (12 * k + 3 * m + 9 * n + 62)))) rl105 (xM (by first | (simp; done) | grind)) ?_)
      intro h4 hh4 rs_43
      replace rl81 := rl81.mono ((hh2.trans hh3).trans hh4)
      refine uC (A := [_, _]) (fun X => yM (ρ := (rpT (rpQ (12 * k + 3 * m + 9 * n + 62)))) (bytes := 168) Tryz.underlying27 yB rfl rfl rfl rfl (show 0 < 9 from by decide) rfl rfl rl81 rs_43 (by first | omega | (simp only [List.length_append, List.length_cons, List.length_nil, List.length_replicate, List.length_set]; omega)) (by first | omega | (simp only [List.length_append, List.length_cons, List.length_nil, List.length_replicate, List.length_set]; omega))) rfl (xF (by first | (simp; done) | grind)) ?_
      intro v106 q106 hq106
      obtain ⟨cs106, rfl, rl106⟩ := hq106
      refine w_q rfl (fun h' L' hh hR => zY rfl) rfl (w_q rfl (fun h' L' hh hR => zY rfl) rfl (xB (yV (zB (zA (gv (zQ (q := 1) rfl rfl (by omega) (by omega)) rfl (mv rfl rfl (zD (xC (A := []) (xC (A := []) ?_))))))))))
      refine yQ ((i + 1), (B ++ [btw s (l.getD i (T3.mk (0 : Rat) 0 0)) (l.getD ((i + 1) % l.length) (T3.mk (0 : Rat) 0 0))]), ((F ++ [(l.getD i (T3.mk (0 : Rat) 0 0))]) ++ [btw s (l.getD i (T3.mk (0 : Rat) 0 0)) (l.getD ((i + 1) % l.length) (T3.mk (0 : Rat) 0 0))]), v102, cs102, v106, cs106, h4) ?_ ?_ ⟨rfl, rfl, rfl, rfl, rfl, rfl, rfl, rfl, trivial⟩ rfl rfl
      ·
       refine ⟨((((hmmb.trans hh1).trans hh2).trans hh3).trans hh4), ?_⟩
       replace rl102 := rl102.mono hh4
       refine ⟨rl102, rl106, ?_⟩
       exact ⟨⟨by omega, (by first | exact jF hB hp1 hx1 | exact gY hB hp1 hx1 | exact fF hB hp1 hx1 | exact fG hB hp1 hx1)⟩, (by first | exact jE hF hp2 hx1 | exact gX hF hp2 hx1 | exact fD hF hp2 hx1 | exact fE hF hp2 hx1)⟩
      dsimp only
      omega
     refine uU (fun X => yW (ρ := (rpT (rpQ (12 * k + 3 * m + 9 * n + 62)))) (m := 1) (xs := [btw s (l.getD i (T3.mk (0 : Rat) 0 0)) (l.getD ((i + 1) % l.length) (T3.mk (0 : Rat) 0 0))]) (ps' := [(0, _)]) Tryz.underlying27 yB rfl rfl rfl (wI (wD (by omega))) ⟨rfl, rfl, trivial⟩ (yU rfl (Pc.arr (Pc.here _) (T3.mk (0 : Rat) 0 0) 0 (by decide)) r104 xY) (show 1 * 9 ≤ 16777216 from by decide) (show 0 < 9 from by decide)) rfl ?_
     intro v105 q105 hq105
     obtain ⟨cs105, rfl, rl105⟩ := hq105
     refine xL (A := [_]) (ρ := (rpT (rpQ (12 * k + 3 * m + 9 * n + 62)))) rl101 (xM (by first | (simp; done) | grind)) ?_
     intro h3 hh3 rs_44
     replace rl_12 := rl_12.mono ((hh1.trans hh2).trans hh3)
     refine uC (A := [_, _, _, _]) (fun X => yM (ρ := (rpT (rpQ (12 * k + 3 * m + 9 * n + 62)))) (bytes := 168) Tryz.underlying27 yB rfl rfl rfl rfl (show 0 < 9 from by decide) rfl rfl rl_12 rs_44 (by first | omega | (simp only [List.length_append, List.length_cons, List.length_nil, List.length_replicate, List.length_set]; omega)) (by first | omega | (simp only [List.length_append, List.length_cons, List.length_nil, List.length_replicate, List.length_set]; omega))) rfl (xF (by first | (simp; done) | grind)) ?_
     intro v102 q102 hq102
     obtain ⟨cs102, rfl, rl102⟩ := hq102
     refine w_c rfl ?_
     replace rl105 := rl105.mono hh3
     refine xL (A := []) (ρ := (rpT (rpQ (12 * k + 3 * m + 9 * n + 62)))) rl105 (xM (by first | (simp; done) | grind)) ?_
     intro h4 hh4 rs_45
     replace rl81 := rl81.mono ((hh2.trans hh3).trans hh4)
     refine uC (A := [_, _]) (fun X => yM (ρ := (rpT (rpQ (12 * k + 3 * m + 9 * n + 62)))) (bytes := 168) Tryz.underlying27 yB rfl rfl rfl rfl (show 0 < 9 from by decide) rfl rfl rl81 rs_45 (by first | omega | (simp only [List.length_append, List.length_cons, List.length_nil, List.length_replicate, List.length_set]; omega)) (by first | omega | (simp only [List.length_append, List.length_cons, List.length_nil, List.length_replicate, List.length_set]; omega))) rfl (xF (by first | (simp; done) | grind)) ?_
     intro v106 q106 hq106
     obtain ⟨cs106, rfl, rl106⟩ := hq106
     refine w_q rfl (fun h' L' hh hR => zY rfl) rfl (w_q rfl (fun h' L' hh hR => zY rfl) rfl (xB (yV (zB (zA (gv (zQ (q := 1) rfl rfl (by omega) (by omega)) rfl (mv rfl rfl (zD (xC (A := []) (xC (A := []) ?_))))))))))
     refine yQ ((i + 1), (B ++ [btw s (l.getD i (T3.mk (0 : Rat) 0 0)) (l.getD ((i + 1) % l.length) (T3.mk (0 : Rat) 0 0))]), ((F ++ [(l.getD i (T3.mk (0 : Rat) 0 0))]) ++ [btw s (l.getD i (T3.mk (0 : Rat) 0 0)) (l.getD ((i + 1) % l.length) (T3.mk (0 : Rat) 0 0))]), v102, cs102, v106, cs106, h4) ?_ ?_ ⟨rfl, rfl, rfl, rfl, rfl, rfl, rfl, rfl, trivial⟩ rfl rfl
     ·
      refine ⟨((((hmmb.trans hh1).trans hh2).trans hh3).trans hh4), ?_⟩
      replace rl102 := rl102.mono hh4
      refine ⟨rl102, rl106, ?_⟩
      exact ⟨⟨by omega, (by first | exact jF hB hp1 hx1 | exact gY hB hp1 hx1 | exact fF hB hp1 hx1 | exact fG hB hp1 hx1)⟩, (by first | exact jE hF hp2 hx1 | exact gX hF hp2 hx1 | exact fD hF hp2 hx1 | exact fE hF hp2 hx1)⟩
     dsimp only
     omega
    refine uU (fun X => yW (ρ := (rpT (rpQ (12 * k + 3 * m + 9 * n + 62)))) (m := 1) (xs := [btw s (l.getD i (T3.mk (0 : Rat) 0 0)) (l.getD ((i + 1) % l.length) (T3.mk (0 : Rat) 0 0))]) (ps' := [(0, _)]) Tryz.underlying27 yB rfl rfl rfl (wI (wD (by omega))) ⟨rfl, rfl, trivial⟩ (yU rfl (Pc.arr (Pc.here _) (T3.mk (0 : Rat) 0 0) 0 (by decide)) r104 xY) (show 1 * 9 ≤ 16777216 from by decide) (show 0 < 9 from by decide)) rfl ?_
    intro v105 q105 hq105
    obtain ⟨cs105, rfl, rl105⟩ := hq105
    refine uU (fun X => yW (ρ := (rpT (rpQ (12 * k + 3 * m + 9 * n + 62)))) (m := 1) (xs := [btw s (l.getD i (T3.mk (0 : Rat) 0 0)) (l.getD ((i + 1) % l.length) (T3.mk (0 : Rat) 0 0))]) (ps' := [(0, _)]) Tryz.underlying27 yB rfl rfl rfl (wI (wD (by omega))) ⟨rfl, rfl, trivial⟩ (yU rfl (Pc.arr (Pc.here _) (T3.mk (0 : Rat) 0 0) 0 (by decide)) r100 xY) (show 1 * 9 ≤ 16777216 from by decide) (show 0 < 9 from by decide)) rfl ?_
    intro v101 q101 hq101
    obtain ⟨cs101, rfl, rl101⟩ := hq101
    refine xL (A := []) (ρ := (rpT (rpQ (12 * k + 3 * m + 9 * n + 62)))) rl101 (xM (by first | (simp; done) | grind)) ?_
    intro h3 hh3 rs_46
    replace rl_12 := rl_12.mono ((hh1.trans hh2).trans hh3)
    refine uC (A := [_, _, _, _]) (fun X => yM (ρ := (rpT (rpQ (12 * k + 3 * m + 9 * n + 62)))) (bytes := 168) Tryz.underlying27 yB rfl rfl rfl rfl (show 0 < 9 from by decide) rfl rfl rl_12 rs_46 (by first | omega | (simp only [List.length_append, List.length_cons, List.length_nil, List.length_replicate, List.length_set]; omega)) (by first | omega | (simp only [List.length_append, List.length_cons, List.length_nil, List.length_replicate, List.length_set]; omega))) rfl (xF (by first | (simp; done) | grind)) ?_
    intro v102 q102 hq102
    obtain ⟨cs102, rfl, rl102⟩ := hq102
    refine w_c rfl ?_
    replace rl105 := rl105.mono hh3
    refine xL (A := []) (ρ := (rpT (rpQ (12 * k + 3 * m + 9 * n + 62)))) rl105 (xM (by first | (simp; done) | grind)) ?_
    intro h4 hh4 rs_47
    replace rl81 := rl81.mono ((hh2.trans hh3).trans hh4)
    refine uC (A := [_, _]) (fun X => yM (ρ := (rpT (rpQ (12 * k + 3 * m + 9 * n + 62)))) (bytes := 168) Tryz.underlying27 yB rfl rfl rfl rfl (show 0 < 9 from by decide) rfl rfl rl81 rs_47 (by first | omega | (simp only [List.length_append, List.length_cons, List.length_nil, List.length_replicate, List.length_set]; omega)) (by first | omega | (simp only [List.length_append, List.length_cons, List.length_nil, List.length_replicate, List.length_set]; omega))) rfl (xF (by first | (simp; done) | grind)) ?_
    intro v106 q106 hq106
    obtain ⟨cs106, rfl, rl106⟩ := hq106
    refine w_q rfl (fun h' L' hh hR => zY rfl) rfl (w_q rfl (fun h' L' hh hR => zY rfl) rfl (xB (yV (zB (zA (gv (zQ (q := 1) rfl rfl (by omega) (by omega)) rfl (mv rfl rfl (zD (xC (A := []) (xC (A := []) ?_))))))))))
    refine yQ ((i + 1), (B ++ [btw s (l.getD i (T3.mk (0 : Rat) 0 0)) (l.getD ((i + 1) % l.length) (T3.mk (0 : Rat) 0 0))]), ((F ++ [(l.getD i (T3.mk (0 : Rat) 0 0))]) ++ [btw s (l.getD i (T3.mk (0 : Rat) 0 0)) (l.getD ((i + 1) % l.length) (T3.mk (0 : Rat) 0 0))]), v102, cs102, v106, cs106, h4) ?_ ?_ ⟨rfl, rfl, rfl, rfl, rfl, rfl, rfl, rfl, trivial⟩ rfl rfl
    ·
     refine ⟨((((hmmb.trans hh1).trans hh2).trans hh3).trans hh4), ?_⟩
     replace rl102 := rl102.mono hh4
     refine ⟨rl102, rl106, ?_⟩
     exact ⟨⟨by omega, (by first | exact jF hB hp1 hx1 | exact gY hB hp1 hx1 | exact fF hB hp1 hx1 | exact fG hB hp1 hx1)⟩, (by first | exact jE hF hp2 hx1 | exact gX hF hp2 hx1 | exact fD hF hp2 hx1 | exact fE hF hp2 hx1)⟩
    dsimp only
    omega
   have hx1 : ¬ xP s l i := by have h := hc91; rw [hS i (by omega), hS ((i + 1) % l.length) (Nat.mod_lt _ (by omega))] at h; exact h
   refine zL (yV (zB (zA (gv (zQ (q := 1) rfl rfl (by omega) (by omega)) rfl (mv rfl rfl (zD (xC (A := []) ?_)))))))
   refine yQ ((i + 1), B, (F ++ [(l.getD i (T3.mk (0 : Rat) 0 0))]), s4_10, cs_11, v81, cs81, h1) ?_ ?_ ⟨rfl, rfl, rfl, rfl, rfl, rfl, rfl, rfl, trivial⟩ rfl rfl
   ·
    refine ⟨(hmmb.trans hh1), ?_⟩
    replace rl_12 := rl_12.mono hh1
    refine ⟨rl_12, rl81, ?_⟩
    exact ⟨⟨by omega, (by first | exact jF hB hp1 hx1 | exact gY hB hp1 hx1 | exact fF hB hp1 hx1 | exact fG hB hp1 hx1)⟩, (by first | exact jE hF hp2 hx1 | exact gX hF hp2 hx1 | exact fD hF hp2 hx1 | exact fE hF hp2 hx1)⟩
   dsimp only
   omega
  have hp2 : ¬ 0 ≤ sdZ s (gp l i) := by rw [← hS i (by omega)]; exact hc77
  refine zL (zB (zC ?_))
  refine yI 10 _ [] [(0, .q), (1, .q), (2, .q), (3, .q), (4, .q), (5, .q), (6, .q), (7, .q), (8, .q), (9, .q)] xI (fun x hx => by cases hx) (by kernel_rfl) (fun x hx => by cases hx) (fun r hr => hr) (w_q rfl (fun h' L' hh hR => zG rfl) rfl (w_q rfl (fun h' L' hh hR => zG rfl) rfl (w_q rfl (fun h' L' hh hR => (vE i (hR _ (.tail _ (.tail _ (.tail _ (.head _))))) Tryz.underlying22 Tryz.sizeOf3 rfl rfl rfl (by first | omega | (simp only [List.length_append, List.length_cons, List.length_nil, List.length_replicate, List.length_set]; omega)) (show 0 < 1 from by decide)).cv (show _ = xD 1 s6_1 ((i * 1 + 0)) from congrArg (xD 1 s6_1) (by rfl))) rfl (yR (F := fun v_ => rpI.Is mb v_ (SD.getD i (0 : Int))) rfl (uL ty3 (Pc.arr (Pc.here _) (0 : Int) i (by first | omega | (simp only [List.length_append, List.length_cons, List.length_nil, List.length_replicate, List.length_set]; omega))) rfl (show 0 < 1 from by decide) rfl rl_3 rfl) (yF (.tail _ (.tail _ (.tail _ (.head _))))) rfl ?_))))
  intro v85 r85
  obtain ⟨rfl, hl85, hu85⟩ := bC r85
  refine w_q rfl (fun h' L' hh hR => zG rfl) rfl (w_q rfl (fun h' L' hh hR => zG rfl) rfl (w_q rfl (fun h' L' hh hR => (vE ((i + 1) % l.length) (hR _ (.tail _ (.tail _ (.tail _ (.head _))))) Tryz.underlying22 Tryz.sizeOf3 rfl rfl (by first | rfl | (push_cast; rfl)) (by rw [hi2]; exact Nat.mod_lt _ (by omega)) (show 0 < 1 from by decide)).cv (show _ = xD 1 s6_1 ((((i + 1) % l.length) * 1 + 0)) from congrArg (xD 1 s6_1) (by rfl))) rfl (yR (F := fun v_ => rpI.Is mb v_ (SD.getD ((i + 1) % l.length) (0 : Int))) rfl (uL ty3 (Pc.arr (Pc.here _) (0 : Int) ((i + 1) % l.length) (by rw [hi2]; exact Nat.mod_lt _ (by omega))) rfl (show 0 < 1 from by decide) rfl rl_3 rfl) (yF (.tail _ (.tail _ (.tail _ (.head _))))) rfl ?_)))
  intro v89 r89
  obtain ⟨rfl, hl89, hu89⟩ := bC r89
  refine w_q rfl (fun h' L' hh hR => jQ rfl rfl (by rw [hd1, hd2]; have := qI hr1 hr2; omega) (by rw [hd1, hd2]; have := qI hr1 hr2; omega)) rfl (w_q rfl (fun h' L' hh hR => zW (q := 0) rfl rfl) rfl (xB (zJ (e' := [(0, _), (3, _), (4, _), (5, _), (6, _), (52, _), (53, _), (54, _), (12, _), (13, _), (91, _)]) ⟨rfl, rfl, rfl, rfl, rfl, rfl, rfl, rfl, rfl, rfl, rfl, trivial⟩ (zB ?_))))
  refine zO rfl (fun hc91 => ?_) (fun hc91 => ?_)
  ·
   have hx1 : xP s l i := by have h := hc91; rw [hS i (by omega), hS ((i + 1) % l.length) (Nat.mod_lt _ (by omega))] at h; exact h
   refine zC ?_
   refine yI 8 _ [(7, (14, 32, [.bool false, .slice none 0 0, .slice none 0 0, .bool false, .slice none 0 0, .slice none 0 0, .bool false, .slice none 0 0, .slice none 0 0]))] [(0, .q), (1, .q), (2, .q), (3, .q), (4, .q), (5, .q), (6, .c), (7, .a), (8, .t)] xI (jG.cons rfl (uT yB rfl rfl) jG.nil) (by kernel_rfl) (uV rfl rfl jY) (fun r hr => hr) ?_
   replace rb3 := rb3.mono (hmma.trans hmmb)
   refine yR (F := fun v_ => (rpP (rpT (rpQ n)) (rpQ m)).Is mb v_ s) rfl (zE kE (Pc.here _) rfl rfl rb3 rfl) (yF (.tail _ (.tail _ (.tail _ (.tail _ (.head _)))))) rfl ?_
   intro v92 r92
   refine yR (F := fun v_ => (rpT (rpQ (k + 1))).Is mb v_ (l.getD i (T3.mk (0 : Rat) 0 0))) rfl (zE xG (Pc.here _) rfl rfl rb_17 rfl) (yF (.head _)) rfl ?_
   intro v93 r93
   refine w_q rfl (fun h' L' hh hR => zG rfl) rfl (w_q rfl (fun h' L' hh hR => zG rfl) rfl (yR (F := fun v_ => AtP (rpT (rpQ k)) mb v_ (l.getD ((i + 1) % l.length) (T3.mk (0 : Rat) 0 0))) rfl (uR (T3.mk (0 : Rat) 0 0) ((i + 1) % l.length) Tryz.underlying27 xG rfl rfl rl (by first | rfl | (push_cast; rfl)) (by exact Nat.mod_lt _ (by omega)) (show 0 < 9 from by decide)) uH rfl ?_))
   intro v96 r96
   refine yR (F := fun v_ => (rpT (rpQ k)).Is mb v_ (l.getD ((i + 1) % l.length) (T3.mk (0 : Rat) 0 0))) rfl (vM xG rfl r96) uH rfl ?_
   intro v97 r97
   refine w_c rfl ?_
   refine yD (vs := [_, _, _]) Tryz.call84 ⟨rfl, rfl, rfl, trivial⟩ (fun w hs => sR hs r92 r93 (r97.le (Le.t (Le.q (l := k + 1) (by omega)))) (by omega) (by omega) (by omega)) rfl ?_
   intro v98 h1 hh1 r98
   change (rpT (rpQ (12 * (k + 1) + 3 * m + 9 * n + 50))).Is h1 v98 (btw s (l.getD i (T3.mk (0 : Rat) 0 0)) (l.getD ((i + 1) % l.length) (T3.mk (0 : Rat) 0 0))) at r98
   replace r98 := Rp.Is.le r98 (Le.t (Le.q (l := 12 * k + 3 * m + 9 * n + 62) (by omega)))
   refine w_a rfl (fun b14 => ?_)
   have rb14 : (rpT (rpQ 1)).R h1 [.bool false, .slice none 0 0, .slice none 0 0, .bool false, .slice none 0 0, .slice none 0 0, .bool false, .slice none 0 0, .slice none 0 0] (T3.mk (0 : Rat) 0 0) := (wI (wD (by decide)))
   have rw_48 := (Le.t (Le.q (l := 12 * k + 3 * m + 9 * n + 62) (by omega))).R rb14
   refine wF (A := []) (F := fun c_ => (rpT (rpQ (12 * k + 3 * m + 9 * n + 62))).R h1 c_ (btw s (l.getD i (T3.mk (0 : Rat) 0 0)) (l.getD ((i + 1) % l.length) (T3.mk (0 : Rat) 0 0)))) rfl (yG Tryz.sizeOf32 (Pc.here _) rfl rfl rfl rw_48 r98 rfl) ?_
   intro cs_49 rb_50
   refine xB (zJ (e' := [(0, _), (3, _), (4, _), (5, _), (6, _), (52, _), (53, _), (54, _), (14, _)]) ⟨rfl, rfl, rfl, rfl, rfl, rfl, rfl, rfl, rfl, trivial⟩ (zB ?_))
   refine yI 10 [.var b14 32 cs_49, .var b12 32 cs_16, .gs 3 1 s6_1 SD.length cs_2, .var b3 34 cs3] [] [(0, .q), (1, .q), (4, .q), (5, .q), (2, .d 3 6), (7, .c), (8, .q), (9, .q)] xI (fun x hx => by cases hx) (by kernel_rfl) (fun x hx => by cases hx) (by intro r hr; simp only [List.mem_cons, List.mem_append, List.not_mem_nil, or_false] at hr ⊢ <;> grind) (w_q rfl (fun h' L' hh hR => zG rfl) rfl (yR (F := fun v_ => (rpT (rpQ (12 * k + 3 * m + 9 * n + 62))).Is h1 v_ (btw s (l.getD i (T3.mk (0 : Rat) 0 0)) (l.getD ((i + 1) % l.length) (T3.mk (0 : Rat) 0 0)))) rfl (zE xG (Pc.here _) rfl rfl rb_50 rfl) (yF (.head _)) rfl ?_))
   intro v100 r100
   refine w_q rfl (fun h' L' hh hR => zG rfl) rfl (yR (F := fun v_ => (rpT (rpQ (12 * k + 3 * m + 9 * n + 62))).Is h1 v_ (btw s (l.getD i (T3.mk (0 : Rat) 0 0)) (l.getD ((i + 1) % l.length) (T3.mk (0 : Rat) 0 0)))) rfl (zE xG (Pc.here _) rfl rfl rb_50 rfl) (yF (.head _)) rfl ?_)
   intro v104 r104
   refine w_d rfl rfl rfl ?_ ?_
   ·
    refine uU (fun X => yW (ρ := (rpT (rpQ (12 * k + 3 * m + 9 * n + 62)))) (m := 1) (xs := [btw s (l.getD i (T3.mk (0 : Rat) 0 0)) (l.getD ((i + 1) % l.length) (T3.mk (0 : Rat) 0 0))]) (ps' := [(0, _)]) Tryz.underlying27 yB rfl rfl rfl (wI (wD (by omega))) ⟨rfl, rfl, trivial⟩ (yU rfl (Pc.arr (Pc.here _) (T3.mk (0 : Rat) 0 0) 0 (by decide)) r100 xY) (show 1 * 9 ≤ 16777216 from by decide) (show 0 < 9 from by decide)) rfl ?_
    intro v101 q101 hq101
    obtain ⟨cs101, rfl, rl101⟩ := hq101
    refine ⟨?_, ?_⟩
    ·
     refine xL (A := []) (ρ := (rpT (rpQ (12 * k + 3 * m + 9 * n + 62)))) rl101 (xM (by first | (simp; done) | grind)) ?_
     intro h2 hh2 rs_51
     replace rl_12 := rl_12.mono (hh1.trans hh2)
     refine uC (A := [_, _, _]) (fun X => yM (ρ := (rpT (rpQ (12 * k + 3 * m + 9 * n + 62)))) (bytes := 168) Tryz.underlying27 yB rfl rfl rfl rfl (show 0 < 9 from by decide) rfl rfl rl_12 rs_51 (by first | omega | (simp only [List.length_append, List.length_cons, List.length_nil, List.length_replicate, List.length_set]; omega)) (by first | omega | (simp only [List.length_append, List.length_cons, List.length_nil, List.length_replicate, List.length_set]; omega))) rfl (xF (by first | (simp; done) | grind)) ?_
     intro v102 q102 hq102
     obtain ⟨cs102, rfl, rl102⟩ := hq102
     replace r104 := r104.mono hh2
     refine uU (fun X => yW (ρ := (rpT (rpQ (12 * k + 3 * m + 9 * n + 62)))) (m := 1) (xs := [btw s (l.getD i (T3.mk (0 : Rat) 0 0)) (l.getD ((i + 1) % l.length) (T3.mk (0 : Rat) 0 0))]) (ps' := [(0, _)]) Tryz.underlying27 yB rfl rfl rfl (wI (wD (by omega))) ⟨rfl, rfl, trivial⟩ (yU rfl (Pc.arr (Pc.here _) (T3.mk (0 : Rat) 0 0) 0 (by decide)) r104 xY) (show 1 * 9 ≤ 16777216 from by decide) (show 0 < 9 from by decide)) rfl ?_
     intro v105 q105 hq105
     obtain ⟨cs105, rfl, rl105⟩ := hq105
     refine w_c rfl (xL (A := []) (ρ := (rpT (rpQ (12 * k + 3 * m + 9 * n + 62)))) rl105 (xM (by first | (simp; done) | grind)) ?_)
     intro h3 hh3 rs_52
     replace rl_15 := rl_15.mono ((hh1.trans hh2).trans hh3)
     refine uC (A := [_, _]) (fun X => yM (ρ := (rpT (rpQ (12 * k + 3 * m + 9 * n + 62)))) (bytes := 168) Tryz.underlying27 yB rfl rfl rfl rfl (show 0 < 9 from by decide) rfl rfl rl_15 rs_52 (by first | omega | (simp only [List.length_append, List.length_cons, List.length_nil, List.length_replicate, List.length_set]; omega)) (by first | omega | (simp only [List.length_append, List.length_cons, List.length_nil, List.length_replicate, List.length_set]; omega))) rfl (xF (by first | (simp; done) | grind)) ?_
     intro v106 q106 hq106
     obtain ⟨cs106, rfl, rl106⟩ := hq106
     refine w_q rfl (fun h' L' hh hR => zY rfl) rfl (w_q rfl (fun h' L' hh hR => zY rfl) rfl (xB (yV (zB (zA (gv (zQ (q := 1) rfl rfl (by omega) (by omega)) rfl (mv rfl rfl (zD (xC (A := []) (xC (A := []) ?_))))))))))
     refine yQ ((i + 1), (B ++ [btw s (l.getD i (T3.mk (0 : Rat) 0 0)) (l.getD ((i + 1) % l.length) (T3.mk (0 : Rat) 0 0))]), (F ++ [btw s (l.getD i (T3.mk (0 : Rat) 0 0)) (l.getD ((i + 1) % l.length) (T3.mk (0 : Rat) 0 0))]), v102, cs102, v106, cs106, h3) ?_ ?_ ⟨rfl, rfl, rfl, rfl, rfl, rfl, rfl, rfl, trivial⟩ rfl rfl
     ·
      refine ⟨(((hmmb.trans hh1).trans hh2).trans hh3), ?_⟩
      replace rl102 := rl102.mono hh3
      refine ⟨rl102, rl106, ?_⟩
      exact ⟨⟨by omega, (by first | exact jF hB hp1 hx1 | exact gY hB hp1 hx1 | exact fF hB hp1 hx1 | exact fG hB hp1 hx1)⟩, (by first | exact jE hF hp2 hx1 | exact gX hF hp2 hx1 | exact fD hF hp2 hx1 | exact fE hF hp2 hx1)⟩
     dsimp only
     omega
    refine uU (fun X => yW (ρ := (rpT (rpQ (12 * k + 3 * m + 9 * n + 62)))) (m := 1) (xs := [btw s (l.getD i (T3.mk (0 : Rat) 0 0)) (l.getD ((i + 1) % l.length) (T3.mk (0 : Rat) 0 0))]) (ps' := [(0, _)]) Tryz.underlying27 yB rfl rfl rfl (wI (wD (by omega))) ⟨rfl, rfl, trivial⟩ (yU rfl (Pc.arr (Pc.here _) (T3.mk (0 : Rat) 0 0) 0 (by decide)) r104 xY) (show 1 * 9 ≤ 16777216 from by decide) (show 0 < 9 from by decide)) rfl ?_
    intro v105 q105 hq105
    obtain ⟨cs105, rfl, rl105⟩ := hq105
    refine xL (A := [_]) (ρ := (rpT (rpQ (12 * k + 3 * m + 9 * n + 62)))) rl101 (xM (by first | (simp; done) | grind)) ?_
    intro h2 hh2 rs_53
    replace rl_12 := rl_12.mono (hh1.trans hh2)
    refine uC (A := [_, _, _, _]) (fun X => yM (ρ := (rpT (rpQ (12 * k + 3 * m + 9 * n + 62)))) (bytes := 168) Tryz.underlying27 yB rfl rfl rfl rfl (show 0 < 9 from by decide) rfl rfl rl_12 rs_53 (by first | omega | (simp only [List.length_append, List.length_cons, List.length_nil, List.length_replicate, List.length_set]; omega)) (by first | omega | (simp only [List.length_append, List.length_cons, List.length_nil, List.length_replicate, List.length_set]; omega))) rfl (xF (by first | (simp; done) | grind)) ?_
    intro v102 q102 hq102
    obtain ⟨cs102, rfl, rl102⟩ := hq102
    refine w_c rfl ?_
    replace rl105 := rl105.mono hh2
    refine xL (A := []) (ρ := (rpT (rpQ (12 * k + 3 * m + 9 * n + 62)))) rl105 (xM (by first | (simp; done) | grind)) ?_
    intro h3 hh3 rs_54
    replace rl_15 := rl_15.mono ((hh1.trans hh2).trans hh3)
    refine uC (A := [_, _]) (fun X => yM (ρ := (rpT (rpQ (12 * k + 3 * m + 9 * n + 62)))) (bytes := 168) Tryz.underlying27 yB rfl rfl rfl rfl (show 0 < 9 from by decide) rfl rfl rl_15 rs_54 (by first | omega | (simp only [List.length_append, List.length_cons, List.length_nil, List.length_replicate, List.length_set]; omega)) (by first | omega | (simp only [List.length_append, List.length_cons, List.length_nil, List.length_replicate, List.length_set]; omega))) rfl (xF (by first | (simp; done) | grind)) ?_
    intro v106 q106 hq106
    obtain ⟨cs106, rfl, rl106⟩ := hq106
    refine w_q rfl (fun h' L' hh hR => zY rfl) rfl (w_q rfl (fun h' L' hh hR => zY rfl) rfl (xB (yV (zB (zA (gv (zQ (q := 1) rfl rfl (by omega) (by omega)) rfl (mv rfl rfl (zD (xC (A := []) (xC (A := []) ?_))))))))))
    refine yQ ((i + 1), (B ++ [btw s (l.getD i (T3.mk (0 : Rat) 0 0)) (l.getD ((i + 1) % l.length) (T3.mk (0 : Rat) 0 0))]), (F ++ [btw s (l.getD i (T3.mk (0 : Rat) 0 0)) (l.getD ((i + 1) % l.length) (T3.mk (0 : Rat) 0 0))]), v102, cs102, v106, cs106, h3) ?_ ?_ ⟨rfl, rfl, rfl, rfl, rfl, rfl, rfl, rfl, trivial⟩ rfl rfl
    ·
     refine ⟨(((hmmb.trans hh1).trans hh2).trans hh3), ?_⟩
     replace rl102 := rl102.mono hh3
     refine ⟨rl102, rl106, ?_⟩
     exact ⟨⟨by omega, (by first | exact jF hB hp1 hx1 | exact gY hB hp1 hx1 | exact fF hB hp1 hx1 | exact fG hB hp1 hx1)⟩, (by first | exact jE hF hp2 hx1 | exact gX hF hp2 hx1 | exact fD hF hp2 hx1 | exact fE hF hp2 hx1)⟩
    dsimp only
    omega
   refine uU (fun X => yW (ρ := (rpT (rpQ (12 * k + 3 * m + 9 * n + 62)))) (m := 1) (xs := [btw s (l.getD i (T3.mk (0 : Rat) 0 0)) (l.getD ((i + 1) % l.length) (T3.mk (0 : Rat) 0 0))]) (ps' := [(0, _)]) Tryz.underlying27 yB rfl rfl rfl (wI (wD (by omega))) ⟨rfl, rfl, trivial⟩ (yU rfl (Pc.arr (Pc.here _) (T3.mk (0 : Rat) 0 0) 0 (by decide)) r104 xY) (show 1 * 9 ≤ 16777216 from by decide) (show 0 < 9 from by decide)) rfl ?_
   intro v105 q105 hq105
   obtain ⟨cs105, rfl, rl105⟩ := hq105
   refine uU (fun X => yW (ρ := (rpT (rpQ (12 * k + 3 * m + 9 * n + 62)))) (m := 1) (xs := [btw s (l.getD i (T3.mk (0 : Rat) 0 0)) (l.getD ((i + 1) % l.length) (T3.mk (0 : Rat) 0 0))]) (ps' := [(0, _)]) Tryz.underlying27 yB rfl rfl rfl (wI (wD (by omega))) ⟨rfl, rfl, trivial⟩ (yU rfl (Pc.arr (Pc.here _) (T3.mk (0 : Rat) 0 0) 0 (by decide)) r100 xY) (show 1 * 9 ≤ 16777216 from by decide) (show 0 < 9 from by decide)) rfl ?_
   intro v101 q101 hq101
   obtain ⟨cs101, rfl, rl101⟩ := hq101
   refine xL (A := []) (ρ := (rpT (rpQ (12 * k + 3 * m + 9 * n + 62)))) rl101 (xM (by first | (simp; done) | grind)) ?_
   intro h2 hh2 rs_55
   replace rl_12 := rl_12.mono (hh1.trans hh2)
   refine uC (A := [_, _, _, _]) (fun X => yM (ρ := (rpT (rpQ (12 * k + 3 * m + 9 * n + 62)))) (bytes := 168) Tryz.underlying27 yB rfl rfl rfl rfl (show 0 < 9 from by decide) rfl rfl rl_12 rs_55 (by first | omega | (simp only [List.length_append, List.length_cons, List.length_nil, List.length_replicate, List.length_set]; omega)) (by first | omega | (simp only [List.length_append, List.length_cons, List.length_nil, List.length_replicate, List.length_set]; omega))) rfl (xF (by first | (simp; done) | grind)) ?_
   intro v102 q102 hq102
   obtain ⟨cs102, rfl, rl102⟩ := hq102
   refine w_c rfl ?_
   replace rl105 := rl105.mono hh2
   refine xL (A := []) (ρ := (rpT (rpQ (12 * k + 3 * m + 9 * n + 62)))) rl105 (xM (by first | (simp; done) | grind)) ?_
   intro h3 hh3 rs_56
   replace rl_15 := rl_15.mono ((hh1.trans hh2).trans hh3)
   refine uC (A := [_, _]) (fun X => yM (ρ := (rpT (rpQ (12 * k + 3 * m + 9 * n + 62)))) (bytes := 168) Tryz.underlying27 yB rfl rfl rfl rfl (show 0 < 9 from by decide) rfl rfl rl_15 rs_56 (by first | omega | (simp only [List.length_append, List.length_cons, List.length_nil, List.length_replicate, List.length_set]; omega)) (by first | omega | (simp only [List.length_append, List.length_cons, List.length_nil, List.length_replicate, List.length_set]; omega))) rfl (xF (by first | (simp; done) | grind)) ?_
   intro v106 q106 hq106
   obtain ⟨cs106, rfl, rl106⟩ := hq106
   refine w_q rfl (fun h' L' hh hR => zY rfl) rfl (w_q rfl (fun h' L' hh hR => zY rfl) rfl (xB (yV (zB (zA (gv (zQ (q := 1) rfl rfl (by omega) (by omega)) rfl (mv rfl rfl (zD (xC (A := []) (xC (A := []) ?_))))))))))
   refine yQ ((i + 1), (B ++ [btw s (l.getD i (T3.mk (0 : Rat) 0 0)) (l.getD ((i + 1) % l.length) (T3.mk (0 : Rat) 0 0))]), (F ++ [btw s (l.getD i (T3.mk (0 : Rat) 0 0)) (l.getD ((i + 1) % l.length) (T3.mk (0 : Rat) 0 0))]), v102, cs102, v106, cs106, h3) ?_ ?_ ⟨rfl, rfl, rfl, rfl, rfl, rfl, rfl, rfl, trivial⟩ rfl rfl
   ·
    refine ⟨(((hmmb.trans hh1).trans hh2).trans hh3), ?_⟩
    replace rl102 := rl102.mono hh3
    refine ⟨rl102, rl106, ?_⟩
    exact ⟨⟨by omega, (by first | exact jF hB hp1 hx1 | exact gY hB hp1 hx1 | exact fF hB hp1 hx1 | exact fG hB hp1 hx1)⟩, (by first | exact jE hF hp2 hx1 | exact gX hF hp2 hx1 | exact fD hF hp2 hx1 | exact fE hF hp2 hx1)⟩
   dsimp only
   omega
  have hx1 : ¬ xP s l i := by have h := hc91; rw [hS i (by omega), hS ((i + 1) % l.length) (Nat.mod_lt _ (by omega))] at h; exact h
  refine zL (yV (zB (zA (gv (zQ (q := 1) rfl rfl (by omega) (by omega)) rfl (mv rfl rfl (zD (xC (A := []) ?_)))))))
  refine yQ ((i + 1), B, F, s4_10, cs_11, s5_13, cs_14, mb) ?_ ?_ ⟨rfl, rfl, rfl, rfl, rfl, rfl, rfl, rfl, trivial⟩ rfl rfl
  ·
   refine ⟨hmmb, ?_⟩
   refine ⟨rl_12, rl_15, ?_⟩
   exact ⟨⟨by omega, (by first | exact jF hB hp1 hx1 | exact gY hB hp1 hx1 | exact fF hB hp1 hx1 | exact fG hB hp1 hx1)⟩, (by first | exact jE hF hp2 hx1 | exact gX hF hp2 hx1 | exact fD hF hp2 hx1 | exact fE hF hp2 hx1)⟩
  dsimp only
  omega
 have ej : i = l.length := by omega
 rw [ej] at hB hF
 refine xQ (yE (yE (xO (zB (zC (zA (mv rfl rfl (mv rfl rfl (asg rfl rfl (asg rfl rfl (zD (zB (zR ?_)))))))))))))
 refine kC (A := [_]) (ρ := (rpT (rpQ (12 * k + 3 * m + 9 * n + 62)))) rl_12 ?_
 intro h1 hh1 rs_57
 replace rl_15 := rl_15.mono hh1
 refine kC (A := []) (ρ := (rpT (rpQ (12 * k + 3 * m + 9 * n + 62)))) rl_15 ?_
 intro h2 hh2 rs_58
 refine vG rfl rfl rfl ?_
 replace rs_57 := rs_57.mono hh2
 refine ⟨_, _, ?_, (Rp.Is.cast rs_57 (by rw [hB]; exact (sL (by rw [← hhi.1]; omega) (by rw [← hlo.1]; omega)).1.symm)), (Rp.Is.cast rs_58 (by rw [hF]; exact (sL (by rw [← hhi.1]; omega) (by rw [← hlo.1]; omega)).2.symm))⟩
 rfl
theorem o_cx_cut {w0 : World} {h0 : Mem}  (hs : MLe h0 (mem w0)) {k n m : Nat} {vl : Value} {l : (List (T3 Rat))} (rl : (rpS (rpT (rpQ k))).Is h0 vl l) {vs : Value} {s : ((T3 Rat) × Rat)} (rs : (rpP (rpT (rpQ n)) (rpQ m)).Is h0 vs s) (hcd0 : k ≤ 50000000) (hcd1 : m ≤ 1000000) (hcd2 : n ≤ 1000000) (hcd3 : l.length ≤ 50000)  :
    Calls Tryz.prog 14 #[vl, vs] w0 (Ret w0 h0 (fun h r => ∃ u0 u1, r = .tuple #[u0, u1] ∧ (rpS (rpT (rpQ (12 * k + 3 * m + 9 * n + 62 + 2)))).Is h u0 (tO s l) ∧ (rpS (rpT (rpQ (12 * k + 3 * m + 9 * n + 62 + 2)))).Is h u1 (sM s l))) := by
 have hcb := g3 s l
 have hcf := cutF_len s l
 refine zP (n := 18) (e := [(0, vl), (1, vs)]) (vs := [vl, vs]) Tryz.func14 rfl rfl (Nat.le_of_ble_eq_true rfl) hs ⟨rfl, rfl, trivial⟩ (zC (zA (zK (yY (ρ := (rpP (rpT (rpQ n)) (rpQ m))) rfl rs) rfl rfl rfl ?_)))
 intro v3 q3 hq3
 obtain ⟨b3, cs3, rfl, rfl, rb3⟩ := hq3
 refine asg rfl rfl (asg rfl rfl (zD (zB (zC (zA (mv rfl rfl (wG (F := fun v_ => (rpP (rpT (rpQ n)) (rpQ m)).Is h0 v_ s) (zE kE (Pc.here _) rfl rfl rb3 rfl) (yF (.head _)) rfl ?_)))))))
 intro v10 r10
 refine zM (vs := [_, _]) rfl rfl rfl rfl Tryz.call47 ⟨rfl, rfl, trivial⟩ (fun w hs => j2 hs rl r10 (by omega) (by omega) (by omega) (by omega)) ?_
 intro v11 h1 hh1 r11
 obtain ⟨v11_0, v11_1, rfl, r11_0, r11_1⟩ := r11
 change (rpS (rpT (rpQ (12 * k + 3 * m + 9 * n + 62)))).Is h1 v11_0 (tO s l) at r11_0
 change (rpS (rpT (rpQ (12 * k + 3 * m + 9 * n + 62)))).Is h1 v11_1 (sM s l) at r11_1
 refine mv rfl rfl (gv (zN (vs := [_, _]) rfl rfl) rfl (gv (zN (vs := [_, _]) rfl rfl) rfl (asg rfl rfl (asg rfl rfl (zD (zJ (e' := [(6, _), (7, _)]) ⟨rfl, rfl, trivial⟩ (zB (zC (zA (mv rfl rfl ?_))))))))))
 refine zM (vs := [_]) rfl rfl rfl rfl Tryz.call48 ⟨rfl, trivial⟩ (fun w hs => aP hs r11_0 (by omega) (by omega)) ?_
 intro v15 h2 hh2 r15
 change (rpS (rpT (rpQ ((12 * k + 3 * m + 9 * n + 62) + 2)))).Is h2 v15 (tO s l) at r15
 replace r15 := Rp.Is.le r15 (Le.s (Le.t (Le.q (l := 12 * k + 3 * m + 9 * n + 64) (by omega))))
 refine mv rfl rfl ?_
 replace r11_1 := r11_1.mono hh2
 refine zM (vs := [_]) rfl rfl rfl rfl Tryz.call48 ⟨rfl, trivial⟩ (fun w hs => aP hs r11_1 (by omega) (by omega)) ?_
 intro v17 h3 hh3 r17
 change (rpS (rpT (rpQ ((12 * k + 3 * m + 9 * n + 62) + 2)))).Is h3 v17 (sM s l) at r17
 replace r17 := Rp.Is.le r17 (Le.s (Le.t (Le.q (l := 12 * k + 3 * m + 9 * n + 64) (by omega))))
 refine asg rfl rfl (asg rfl rfl (zD (zB (zR (vG rfl rfl rfl ?_)))))
 replace r15 := r15.mono hh3
 refine ⟨_, _, ?_, (Rp.Is.le r15 (Le.s (Le.t (Le.q (l := 12 * k + 3 * m + 9 * n + 62 + 2) (by omega))))), (Rp.Is.le r17 (Le.s (Le.t (Le.q (l := 12 * k + 3 * m + 9 * n + 62 + 2) (by omega)))))⟩
 rfl
end Go.Proofs.YtghhjjmjpeehdaaGreat
