/- Texts that the proof needs, part 5. -/
import Derived.Test.YtghhjjmjpeehdaaGreatK4


namespace Go.Proofs.YtghhjjmjpeehdaaGreat
open Bk Go
set_option linter.unusedVariables false
set_option linter.unusedSimpArgs false
set_option maxRecDepth 10000

theorem o_own_point {w0 : World} {h0 : Mem}  (hs : MLe h0 (mem w0)) {k : Nat} {vp : Value} {p : (T3 Rat)} (rp : (rpT (rpQ k)).Is h0 vp p) (hcd0 : k ≤ 2000000000)  :
    Calls Tryz.prog 86 #[vp] w0 (Ret w0 h0 (fun h r => (rpT (rpQ (k + 1))).Is h r p)) := by
 refine zP (n := 13) (e := [(0, vp)]) (vs := [vp]) Tryz.func86 rfl rfl (Nat.le_of_ble_eq_true rfl) hs ⟨rfl, trivial⟩ (zC (zA (zL (xL (ρ := (rpT (rpQ k))) rfl rp) rfl rfl rfl ?_)))
 intro v1 q1 hq1
 obtain ⟨b1, cs1, rfl, rfl, rb1⟩ := hq1
 refine zL (xE (ρ := (rpT (rpQ (k + 1)))) (X := (T3.mk (0 : Rat) (0 : Rat) (0 : Rat))) yC rfl rfl (zr_t (zr_q (by omega)))) rfl rfl rfl ?_
 intro v2 q2 hq2
 obtain ⟨b2, cs2, rfl, rfl, rb2⟩ := hq2
 refine zD (zB (zC ?_))
 refine yK 10 _ [] [(0, .q), (1, .q), (3, .q), (4, .q), (6, .q), (7, .q), (2, .c), (5, .c), (8, .c), (9, .q), (10, .t)] xN (fun x hx => by cases hx) (by kernel_rfl) (fun x hx => by cases hx) (fun r hr => hr) (w_q rfl (fun h' L' hh hR => (zI (sz := 3) (q := 0) 0 Tryz.underlying32 Tryz.sizeOf30 rfl rfl rfl (by decide)).cv (show _ = vP b1 0 from congrArg (vP b1) (by rfl))) rfl (w_qx (F := fun v_ => (rpQ k).Is h0 v_ p.x) rfl (zE ty30 (Pc.tx (Pc.here _)) rfl rfl rb1 rfl) (mem1 (.tail _ (.head _))) rfl ?_))
 intro v4 r4
 refine w_q rfl (fun h' L' hh hR => (zI (sz := 3) (q := 1) 1 Tryz.underlying32 Tryz.sizeOf30 rfl rfl rfl (by decide)).cv (show _ = vP b1 3 from congrArg (vP b1) (by rfl))) rfl (w_qx (F := fun v_ => (rpQ k).Is h0 v_ p.y) rfl (zE ty30 (Pc.ty (Pc.here _)) rfl rfl rb1 rfl) (mem1 (.tail _ (.head _))) rfl ?_)
 intro v7 r7
 refine w_q rfl (fun h' L' hh hR => (zI (sz := 3) (q := 2) 2 Tryz.underlying32 Tryz.sizeOf30 rfl rfl rfl (by decide)).cv (show _ = vP b1 6 from congrArg (vP b1) (by rfl))) rfl (w_qx (F := fun v_ => (rpQ k).Is h0 v_ p.z) rfl (zE ty30 (Pc.tz (Pc.here _)) rfl rfl rb1 rfl) (mem1 (.tail _ (.head _))) rfl ?_)
 intro v10 r10
 refine w_c rfl ?_
 refine yI (vs := [_]) Tryz.call111 ⟨rfl, trivial⟩ (fun w hs => o_own_rat hs r4 (by omega)) rfl ?_
 intro v5 h1 hh1 r5
 change (rpQ k).Is h1 v5 p.x at r5
 refine w_c rfl ?_
 replace r7 := r7.mono hh1
 refine yI (vs := [_]) Tryz.call111 ⟨rfl, trivial⟩ (fun w hs => o_own_rat hs r7 (by omega)) rfl ?_
 intro v8 h2 hh2 r8
 change (rpQ k).Is h2 v8 p.y at r8
 refine w_c rfl ?_
 replace r10 := r10.mono (hh1.trans hh2)
 refine yI (vs := [_]) Tryz.call111 ⟨rfl, trivial⟩ (fun w hs => o_own_rat hs r10 (by omega)) rfl ?_
 intro v11 h3 hh3 r11
 change (rpQ k).Is h3 v11 p.z at r11
 replace r5 := r5.mono (hh2.trans hh3)
 replace r8 := r8.mono hh3
 refine w_qx (F := fun v_ => (rpT (rpQ (k + 1))).Is h3 v_ (T3.mk p.x p.y p.z)) rfl (wU (ps' := [(0, _), (1, _), (2, _)]) Tryz.underlying32 yC rfl rfl Tryz.sizeOf30 ⟨rfl, rfl, rfl, rfl, rfl, rfl, trivial⟩ rfl (zr_t (zr_q (by omega))) (yQ rfl (Pc.tx (Pc.here _)) (r5.le (Le.q (l := k + 1) (by omega))) (yQ rfl (Pc.ty (Pc.here _)) (r8.le (Le.q (l := k + 1) (by omega))) (yQ rfl (Pc.tz (Pc.here _)) (r11.le (Le.q (l := k + 1) (by omega))) xM)))) mem0 rfl ?_
 intro v12 r12
 replace rb2 := rb2.mono ((hh1.trans hh2).trans hh3)
 refine wB (A := []) (F := fun c_ => (rpT (rpQ (k + 1))).R h3 c_ (T3.mk p.x p.y p.z)) rfl (yJ Tryz.sizeOf32 (Pc.here _) rfl rfl rfl rb2 r12 rfl) ?_
 intro cs_1 rb_2
 refine yZ (zJ (e' := [(2, _)]) ⟨rfl, trivial⟩ (zB (zQ (gq_exv (rv_o (t := 2) ty32 (.head _) rfl rb_2) ?_))))
 intro w_3 hvw_3 rr_4
 refine xS (fun E S => yR rfl hvw_3 E S) ?_
 exact rr_4

theorem o_own_each_p {w0 : World} {h0 : Mem}  (hs : MLe h0 (mem w0)) {k : Nat} {vl : Value} {l : (List (T3 Rat))} (rl : (rpS (rpT (rpQ k))).Is h0 vl l) (hcd0 : k ≤ 1000000000) (hcd1 : l.length ≤ 100000)  :
    Calls Tryz.prog 85 #[vl, vF 86 []] w0 (Ret w0 h0 (fun h r => (rpS (rpT (rpQ (k + 2)))).Is h r l)) := by
 have hll := s_lt rl
 refine zP (n := 28) (e := [(0, vl), (1, vF 86 [])]) (vs := [vl, vF 86 []]) Tryz.func85 rfl rfl (Nat.le_of_ble_eq_true rfl) hs ⟨rfl, rfl, trivial⟩ (zC (zA (asg rfl rfl (zD (zB (zC (zC (zA (mv rfl rfl (gv (ov_eql_nil Tryz.underlying27 rfl (s_one3 rl)) rfl (zD (zB ?_))))))))))))
 refine zN rfl (fun hc9 => ?_) (fun hc9 => ?_)
 ·
  have hnil := nil_of rl (show 0 < 9 from by decide) hc9
  refine zC (zA (asg rfl rfl (zD (zB (zQ (yE (yG rfl rfl ?_)))))))
  exact (Rp.Is.cast (is_nil _) (by exact hnil.symm))
 refine zK (zB (zC (zA (mv rfl rfl (gv (wJ Tryz.underlying27 rfl rl) rfl (zL (new_makex (ρ := (rpT (rpQ (k + 2)))) (X := (T3.mk (0 : Rat) (0 : Rat) (0 : Rat))) (by' := 168) l.length Tryz.underlying27 yC rfl rfl rfl rfl (zr_t (zr_q (by omega))) rfl rfl (by rfl) (by rfl) (by omega) (by omega)) rfl rfl rfl ?_))))))
 intro v12 q12 hq12
 obtain ⟨cs12, rfl, rl12⟩ := hq12
 refine asg rfl rfl (zD (zB (zC (zC (zA (mv rfl rfl (gv (wJ Tryz.underlying27 rfl rl) rfl (mv (v := vI (0)) rfl rfl (zD (zB (zR ?_)))))))))))
 refine wH (ι := Nat × List (T3 Rat) × Value × List Value × Mem) (fun (i, OU, s5_5, cs_6, ma) => MLe h0 ma ∧ (RL (rpT (rpQ (k + 2))) ma cs_6 OU ∧ (i ≤ l.length ∧ OU.length = l.length) ∧ ∀ u, u < i → OU.getD u (T3.mk (0 : Rat) (0 : Rat) (0 : Rat)) = l.getD u (T3.mk (0 : Rat) (0 : Rat) (0 : Rat)))) (fun (i, OU, s5_5, cs_6, ma) => [(1, vF 86 []), (5, s5_5), (13, vl), (14, vI (↑(l).length : Int)), (15, vI ↑i)]) (fun (i, OU, s5_5, cs_6, ma) => [.gs 32 9 s5_5 OU.length cs_6]) (fun (i, OU, s5_5, cs_6, ma) => ma) (fun (i, OU, s5_5, cs_6, ma) => l.length - i) (0, (List.replicate l.length (T3.mk (0 : Rat) (0 : Rat) (0 : Rat))), v12, cs12, h0) ?_ ⟨rfl, rfl, rfl, rfl, rfl, trivial⟩ rfl rfl ?_
 ·
  refine ⟨MLe.refl _, ?_⟩
  refine ⟨rl12, ?_⟩
  exact ⟨⟨by omega, List.length_replicate⟩, fun u h => by omega⟩
 intro x hx
 obtain ⟨i, OU, s5_5, cs_6, ma⟩ := x
 obtain ⟨hmma, hinv⟩ := hx
 show GC _ _ _ _ _ _ [(1, vF 86 []), (5, s5_5), (13, vl), (14, vI (↑(l).length : Int)), (15, vI ↑i)] [.gs 32 9 s5_5 OU.length cs_6] ma
 obtain ⟨rl_7, hinv⟩ := hinv
 obtain ⟨⟨hi1, hi2⟩, hi3⟩ := hinv
 refine zC (zA (gv (zW rfl rfl) rfl (zD (zB (zC ?_)))))
 refine zN rfl (fun hc16 => ?_) (fun hc16 => ?_)
 ·
  refine zK (zB (zC (zR (zC (zA (mv rfl rfl ?_))))))
  replace rl := rl.mono hmma
  refine gl_x (F := fun v_ => AtP (rpT (rpQ k)) ma v_ (l.getD i (T3.mk (0 : Rat) (0 : Rat) (0 : Rat)))) (ox_idx_s (T3.mk (0 : Rat) (0 : Rat) (0 : Rat)) i Tryz.underlying27 ty32 rfl rfl rl rfl (by omega) (show 0 < 9 from by decide)) mem0 rfl ?_
  intro v18 r18
  refine gl_x (F := fun v_ => (rpT (rpQ k)).Is ma v_ (l.getD i (T3.mk (0 : Rat) (0 : Rat) (0 : Rat)))) (wY ty32 rfl r18) mem0 rfl ?_
  intro v19 r19
  refine zL (xE (ρ := (rpT (rpQ (k + 1)))) (X := (T3.mk (0 : Rat) (0 : Rat) (0 : Rat))) yC rfl rfl (zr_t (zr_q (by omega)))) rfl rfl rfl ?_
  intro v7 q7 hq7
  obtain ⟨b7, cs7, rfl, rfl, rb7⟩ := hq7
  refine asg rfl rfl (wE (A := []) (F := fun c_ => (rpT (rpQ (k + 1))).R ma c_ (l.getD i (T3.mk (0 : Rat) (0 : Rat) (0 : Rat)))) (yJ Tryz.sizeOf32 (Pc.here _) rfl rfl rfl rb7 (r19.le (Le.t (Le.q (l := k + 1) (by omega)))) rfl) ?_)
  intro cs_8 rb_9
  refine zD (zB (zA (mv rfl rfl (mv rfl rfl (mv rfl rfl (gl_x (F := fun v_ => (rpT (rpQ (k + 1))).Is ma v_ (l.getD i (T3.mk (0 : Rat) (0 : Rat) (0 : Rat)))) (zE ty32 (Pc.here _) rfl rfl rb_9 rfl) (mem1 (.head _)) rfl ?_))))))
  intro v23 r23
  refine gl_enter (enters_v (vs := [_]) Tryz.call86 rfl ⟨rfl, trivial⟩) rfl rfl rfl (fun w hs => o_own_point hs r23 (by first | omega | exact (mem_getD (by omega) (by assumption)))) ?_
  intro v24 h1 hh1 r24
  change (rpT (rpQ ((k + 1) + 1))).Is h1 v24 (l.getD i (T3.mk (0 : Rat) (0 : Rat) (0 : Rat))) at r24
  replace r24 := Rp.Is.le r24 (Le.t (Le.q (l := k + 2) (by omega)))
  refine gv ((vG i (.tail _ (.head _)) Tryz.underlying27 Tryz.sizeOf32 rfl rfl rfl (by first | omega | (simp only [List.length_append, List.length_cons, List.length_nil, List.length_replicate, List.length_set]; omega)) (show 0 < 9 from by decide)).cv (show _ = xH 1 s5_5 ((i * 9 + 0)) from congrArg (xH 1 s5_5) (by rfl))) rfl ?_
  replace rl_7 := rl_7.mono hh1
  refine gl_updos (A := [_]) (F := fun c_ => RL (rpT (rpQ (k + 2))) h1 c_ (OU.set i (l.getD i (T3.mk (0 : Rat) (0 : Rat) (0 : Rat))))) (upd_os Tryz.sizeOf32 (Pc.arr (Pc.here _) (T3.mk (0 : Rat) (0 : Rat) (0 : Rat)) i (by first | omega | (simp only [List.length_append, List.length_cons, List.length_nil, List.length_replicate, List.length_set]; omega))) rfl (show 0 < 9 from by decide) rfl rfl rl_7 r24 rfl) ?_
  intro cs_10 rl_11
  refine zD (yV (zJ (e' := [(1, _), (5, _), (13, _), (14, _), (15, _)]) ⟨rfl, rfl, rfl, rfl, rfl, trivial⟩ (zB (zA (gv (zS (q := 1) rfl rfl (by omega) (by omega)) rfl (mv rfl rfl (zD (yX (A := []) ?_))))))))
  refine yL ((i + 1), (OU.set i (l.getD i (T3.mk (0 : Rat) (0 : Rat) (0 : Rat)))), s5_5, cs_10, h1) ?_ ?_ ⟨rfl, rfl, rfl, rfl, rfl, trivial⟩ rfl rfl
  ·
   refine ⟨(hmma.trans hh1), ?_⟩
   refine ⟨rl_11, ?_⟩
   exact ⟨⟨by omega, by rw [List.length_set]; exact hi2⟩, set_next (f := fun u => l.getD u (T3.mk (0 : Rat) (0 : Rat) (0 : Rat))) (by omega) hi3 rfl⟩
  dsimp only
  omega
 have hall := list_same hi2 (fun u hu => hi3 u (by omega))
 refine xG (yB (yB (xF (zB (zC (zA (mv rfl rfl (asg rfl rfl (zD (zB (zQ (gq_freezex (A := []) (ρ := (rpT (rpQ (k + 2)))) rl_7 ?_))))))))))))
 intro h1 hh1 rs_12
 refine yG rfl rfl ?_
 exact (Rp.Is.cast rs_12 (by exact hall))

theorem o_own_points {w0 : World} {h0 : Mem}  (hs : MLe h0 (mem w0)) {k : Nat} {vl : Value} {l : (List (T3 Rat))} (rl : (rpS (rpT (rpQ k))).Is h0 vl l) (hcd0 : k ≤ 1000000000) (hcd1 : l.length ≤ 100000)  :
    Calls Tryz.prog 48 #[vl] w0 (Ret w0 h0 (fun h r => (rpS (rpT (rpQ (k + 2)))).Is h r l)) := by
 refine zP (n := 5) (e := [(0, vl)]) (vs := [vl]) Tryz.func48 rfl rfl (Nat.le_of_ble_eq_true rfl) hs ⟨rfl, trivial⟩ (zC (zA (asg rfl rfl (zD (zB (zC (zA (mv rfl rfl ?_))))))))
 refine zM (vs := [_, _]) rfl rfl rfl rfl Tryz.call85 ⟨rfl, rfl, trivial⟩ (fun w hs => o_own_each_p hs rl (by omega) (by omega)) ?_
 intro v4 h1 hh1 r4
 change (rpS (rpT (rpQ (k + 2)))).Is h1 v4 l at r4
 refine asg rfl rfl (zD (zB (zQ (yG rfl rfl ?_))))
 exact r4

theorem o_own_each_l {w0 : World} {h0 : Mem}  (hs : MLe h0 (mem w0)) {k : Nat} {vl : Value} {l : (List (List (T3 Rat)))} (rl : (rpS (rpS (rpT (rpQ k)))).Is h0 vl l) (hcd0 : k ≤ 1000000000) (hcd1 : l.length ≤ 100000) (hcd2 : ∀ x, x ∈ l → x.length ≤ 100000)  :
    Calls Tryz.prog 96 #[vl, vF 48 []] w0 (Ret w0 h0 (fun h r => (rpS (rpS (rpT (rpQ (k + 2))))).Is h r l)) := by
 have hll := s_lt rl
 refine zP (n := 28) (e := [(0, vl), (1, vF 48 [])]) (vs := [vl, vF 48 []]) Tryz.func96 rfl rfl (Nat.le_of_ble_eq_true rfl) hs ⟨rfl, rfl, trivial⟩ (zC (zA (asg rfl rfl (zD (zB (zC (zC (zA (mv rfl rfl (gv (ov_eql_nil Tryz.underlying50 rfl (s_one3 rl)) rfl (zD (zB ?_))))))))))))
 refine zN rfl (fun hc9 => ?_) (fun hc9 => ?_)
 ·
  have hnil := nil_of rl (show 0 < 1 from by decide) hc9
  refine zC (zA (asg rfl rfl (zD (zB (zQ (yE (yG rfl rfl ?_)))))))
  exact (Rp.Is.cast (is_nil _) (by exact hnil.symm))
 refine zK (zB (zC (zA (mv rfl rfl (gv (wJ Tryz.underlying50 rfl rl) rfl (zL (new_makex (ρ := (rpS (rpT (rpQ (k + 2))))) (X := []) (by' := 24) l.length Tryz.underlying50 info27 rfl rfl rfl rfl zr_s rfl rfl (by rfl) (by rfl) (by omega) (by omega)) rfl rfl rfl ?_))))))
 intro v12 q12 hq12
 obtain ⟨cs12, rfl, rl12⟩ := hq12
 refine asg rfl rfl (zD (zB (zC (zC (zA (mv rfl rfl (gv (wJ Tryz.underlying50 rfl rl) rfl (mv (v := vI (0)) rfl rfl (zD (zB (zR ?_)))))))))))
 refine wH (ι := Nat × List (List (T3 Rat)) × Value × List Value × Mem) (fun (i, OU, s5_13, cs_14, ma) => MLe h0 ma ∧ (RL (rpS (rpT (rpQ (k + 2)))) ma cs_14 OU ∧ (i ≤ l.length ∧ OU.length = l.length) ∧ ∀ u, u < i → OU.getD u [] = l.getD u [])) (fun (i, OU, s5_13, cs_14, ma) => [(1, vF 48 []), (5, s5_13), (13, vl), (14, vI (↑(l).length : Int)), (15, vI ↑i)]) (fun (i, OU, s5_13, cs_14, ma) => [.gs 27 1 s5_13 OU.length cs_14]) (fun (i, OU, s5_13, cs_14, ma) => ma) (fun (i, OU, s5_13, cs_14, ma) => l.length - i) (0, (List.replicate l.length []), v12, cs12, h0) ?_ ⟨rfl, rfl, rfl, rfl, rfl, trivial⟩ rfl rfl ?_
 ·
  refine ⟨MLe.refl _, ?_⟩
  refine ⟨rl12, ?_⟩
  exact ⟨⟨by omega, List.length_replicate⟩, fun u h => by omega⟩
 intro x hx
 obtain ⟨i, OU, s5_13, cs_14, ma⟩ := x
 obtain ⟨hmma, hinv⟩ := hx
 show GC _ _ _ _ _ _ [(1, vF 48 []), (5, s5_13), (13, vl), (14, vI (↑(l).length : Int)), (15, vI ↑i)] [.gs 27 1 s5_13 OU.length cs_14] ma
 obtain ⟨rl_15, hinv⟩ := hinv
 obtain ⟨⟨hi1, hi2⟩, hi3⟩ := hinv
 refine zC (zA (gv (zW rfl rfl) rfl (zD (zB (zC ?_)))))
 refine zN rfl (fun hc16 => ?_) (fun hc16 => ?_)
 ·
  refine zK (zB (zC (zR (zC (zA (mv rfl rfl ?_))))))
  replace rl := rl.mono hmma
  refine gl_x (F := fun v_ => AtP (rpS (rpT (rpQ k))) ma v_ (l.getD i [])) (ox_idx_s [] i Tryz.underlying50 ty27 rfl rfl rl rfl (by omega) (show 0 < 1 from by decide)) mem0 rfl ?_
  intro v18 r18
  refine gl_x (F := fun v_ => (rpS (rpT (rpQ k))).Is ma v_ (l.getD i [])) (wY ty27 rfl r18) mem0 rfl ?_
  intro v19 r19
  refine asg rfl rfl (asg rfl rfl (zD (zB (zA (mv rfl rfl (mv rfl rfl (mv rfl rfl (mv rfl rfl (gl_enter (enters_v (vs := [_]) Tryz.call48 rfl ⟨rfl, trivial⟩) rfl rfl rfl (fun w hs => o_own_points hs r19 (by first | omega | exact (mem_getD (by omega) (by assumption))) (by first | omega | exact (mem_getD (by omega) (by assumption)))) ?_)))))))))
  intro v24 h1 hh1 r24
  change (rpS (rpT (rpQ (k + 2)))).Is h1 v24 (l.getD i []) at r24
  refine gv ((vG i (.head _) Tryz.underlying50 Tryz.sizeOf27 rfl rfl rfl (by first | omega | (simp only [List.length_append, List.length_cons, List.length_nil, List.length_replicate, List.length_set]; omega)) (show 0 < 1 from by decide)).cv (show _ = xH 1 s5_13 ((i * 1 + 0)) from congrArg (xH 1 s5_13) (by rfl))) rfl ?_
  replace rl_15 := rl_15.mono hh1
  refine gl_updos (A := []) (F := fun c_ => RL (rpS (rpT (rpQ (k + 2)))) h1 c_ (OU.set i (l.getD i []))) (upd_os Tryz.sizeOf27 (Pc.arr (Pc.here _) [] i (by first | omega | (simp only [List.length_append, List.length_cons, List.length_nil, List.length_replicate, List.length_set]; omega))) rfl (show 0 < 1 from by decide) rfl rfl rl_15 r24 rfl) ?_
  intro cs_16 rl_17
  refine zD (yV (zJ (e' := [(1, _), (5, _), (13, _), (14, _), (15, _)]) ⟨rfl, rfl, rfl, rfl, rfl, trivial⟩ (zB (zA (gv (zS (q := 1) rfl rfl (by omega) (by omega)) rfl (mv rfl rfl (zD ?_)))))))
  refine yL ((i + 1), (OU.set i (l.getD i [])), s5_13, cs_16, h1) ?_ ?_ ⟨rfl, rfl, rfl, rfl, rfl, trivial⟩ rfl rfl
  ·
   refine ⟨(hmma.trans hh1), ?_⟩
   refine ⟨rl_17, ?_⟩
   exact ⟨⟨by omega, by rw [List.length_set]; exact hi2⟩, set_next (f := fun u => l.getD u []) (by omega) hi3 rfl⟩
  dsimp only
  omega
 have hall := list_same hi2 (fun u hu => hi3 u (by omega))
 refine xG (yB (yB (xF (zB (zC (zA (mv rfl rfl (asg rfl rfl (zD (zB (zQ (gq_freezex (A := []) (ρ := (rpS (rpT (rpQ (k + 2))))) rl_15 ?_))))))))))))
 intro h1 hh1 rs_18
 refine yG rfl rfl ?_
 exact (Rp.Is.cast rs_18 (by exact hall))

theorem o_own_loops {w0 : World} {h0 : Mem}  (hs : MLe h0 (mem w0)) {k : Nat} {vL : Value} {L : (List (List (T3 Rat)))} (rL : (rpS (rpS (rpT (rpQ k)))).Is h0 vL L) (hcd0 : k ≤ 1000000000) (hcd1 : L.length ≤ 100000) (hcd2 : ∀ x, x ∈ L → x.length ≤ 100000)  :
    Calls Tryz.prog 58 #[vL] w0 (Ret w0 h0 (fun h r => (rpS (rpS (rpT (rpQ (k + 2))))).Is h r L)) := by
 refine zP (n := 5) (e := [(0, vL)]) (vs := [vL]) Tryz.func58 rfl rfl (Nat.le_of_ble_eq_true rfl) hs ⟨rfl, trivial⟩ (zC (zA (asg rfl rfl (zD (zB (zC (zA (mv rfl rfl ?_))))))))
 refine zM (vs := [_, _]) rfl rfl rfl rfl Tryz.call96 ⟨rfl, rfl, trivial⟩ (fun w hs => o_own_each_l hs rL (by first | omega | assumption) (by first | omega | assumption) (by first | omega | assumption)) ?_
 intro v4 h1 hh1 r4
 change (rpS (rpS (rpT (rpQ (k + 2))))).Is h1 v4 L at r4
 refine asg rfl rfl (zD (zB (zQ (yG rfl rfl ?_))))
 exact r4

theorem o_cx_height {w0 : World} {h0 : Mem}  (hs : MLe h0 (mem w0)) {m l k : Nat} {vs : Value} {s : ((T3 Rat) × Rat)} (rs : (rpP (rpT (rpQ m)) (rpQ l)).Is h0 vs s) {vp : Value} {p : (T3 Rat)} (rp : (rpT (rpQ k)).Is h0 vp p) (hcd0 : k ≤ 100000000) (hcd1 : l ≤ 100000000) (hcd2 : m ≤ 100000000)  :
    Calls Tryz.prog 117 #[vs, vp] w0 (Ret w0 h0 (fun h r => (rpQ (3 * k + l + 3 * m + 12)).Is h r (hgt s p))) := by
 refine zP (n := 12) (e := [(0, vs), (1, vp)]) (vs := [vs, vp]) Tryz.func117 rfl rfl (Nat.le_of_ble_eq_true rfl) hs ⟨rfl, rfl, trivial⟩ (zC (zA (zL (xL (ρ := (rpP (rpT (rpQ m)) (rpQ l))) rfl rs) rfl rfl rfl ?_)))
 intro v2 q2 hq2
 obtain ⟨b2, cs2, rfl, rfl, rb2⟩ := hq2
 refine zL (xL (ρ := (rpT (rpQ k))) rfl rp) rfl rfl rfl ?_
 intro v3 q3 hq3
 obtain ⟨b3, cs3, rfl, rfl, rb3⟩ := hq3
 refine zL (xE (ρ := (rpQ (3 * k + l + 3 * m + 12))) (X := (0 : Rat)) wN rfl rfl (zr_q (by omega))) rfl rfl rfl ?_
 intro v4 q4 hq4
 obtain ⟨b4, cs4, rfl, rfl, rb4⟩ := hq4
 refine zD (zB (zC ?_))
 refine yK 7 _ [] [(0, .q), (1, .q), (2, .q), (4, .q), (5, .q), (3, .c), (6, .c), (7, .t)] xN (fun x hx => by cases hx) (by kernel_rfl) (fun x hx => by cases hx) (fun r hr => hr) (w_q rfl (fun h' L' hh hR => (zH Tryz.underlying34 rfl Tryz.sizeOf32 rfl).cv (show _ = vP b2 0 from congrArg (vP b2) (by rfl))) rfl (w_qx (F := fun v_ => (rpT (rpQ m)).Is h0 v_ s.1) rfl (zE ty32 (Pc.fst (Pc.here _)) rfl rfl rb2 rfl) (mem1 (.tail _ (.tail _ (.head _)))) rfl ?_))
 intro v6 r6
 refine w_qx (F := fun v_ => (rpT (rpQ k)).Is h0 v_ p) rfl (zE ty32 (Pc.here _) rfl rfl rb3 rfl) (mem1 (.tail _ (.head _))) rfl ?_
 intro v7 r7
 refine w_q rfl (fun h' L' hh hR => (zH Tryz.underlying34 rfl Tryz.sizeOf30 rfl).cv (show _ = vP b2 9 from congrArg (vP b2) (by rfl))) rfl (w_qx (F := fun v_ => (rpQ l).Is h0 v_ s.2) rfl (zE ty30 (Pc.snd (Pc.here _)) rfl rfl rb2 rfl) (mem1 (.tail _ (.tail _ (.head _)))) rfl ?_)
 intro v10 r10
 refine w_c rfl ?_
 refine yI (vs := [_, _]) Tryz.call79 ⟨rfl, rfl, trivial⟩ (fun w hs => o_v_dot hs r6 r7 (by omega)) rfl ?_
 intro v8 h1 hh1 r8
 change (rpQ (3 * m + 3 * k + 9)).Is h1 v8 (dotT s.1 p) at r8
 replace r8 := Rp.Is.le r8 (Le.q (l := 3 * k + 3 * m + 9) (by omega))
 refine w_c rfl ?_
 replace r10 := r10.mono hh1
 refine yI (vs := [_, _]) Tryz.call70 ⟨rfl, rfl, trivial⟩ (fun w hs => o_rat_sub hs r8 r10 (by omega)) rfl ?_
 intro v11 h2 hh2 r11
 change (rpQ ((3 * k + 3 * m + 9) + l + 1)).Is h2 v11 ((dotT s.1 p) - s.2) at r11
 replace r11 := Rp.Is.le r11 (Le.q (l := 3 * k + l + 3 * m + 10) (by omega))
 replace rb4 := rb4.mono (hh1.trans hh2)
 refine wB (A := []) (F := fun c_ => (rpQ (3 * k + l + 3 * m + 12)).R h2 c_ ((dotT s.1 p) - s.2)) rfl (yJ Tryz.sizeOf30 (Pc.here _) rfl rfl rfl rb4 (r11.le (Le.q (l := 3 * k + l + 3 * m + 12) (by omega))) rfl) ?_
 intro cs_19 rb_20
 refine yZ (zJ (e' := [(4, _)]) ⟨rfl, trivial⟩ (zB (zQ (gq_exv (rv_o (t := 4) ty30 (.head _) rfl rb_20) ?_))))
 intro w_21 hvw_21 rr_22
 refine xS (fun E S => yR rfl hvw_21 E S) ?_
 exact rr_22

theorem o_r6_value {w0 : World} {h0 : Mem}  (hs : MLe h0 (mem w0)) {m l k : Nat} {vs : Value} {s : ((T3 Rat) × Rat)} (rs : (rpP (rpT (rpQ m)) (rpQ l)).Is h0 vs s) {vp : Value} {p : (T3 Rat)} (rp : (rpT (rpQ k)).Is h0 vp p) (hcd0 : k ≤ 100000000) (hcd1 : l ≤ 100000000) (hcd2 : m ≤ 100000000)  :
    Calls Tryz.prog 87 #[vs, vp] w0 (Ret w0 h0 (fun h r => (rpQ (3 * k + l + 3 * m + 12)).Is h r (hgt s p))) := by
 refine zP (n := 12) (e := [(0, vs), (1, vp)]) (vs := [vs, vp]) Tryz.func87 rfl rfl (Nat.le_of_ble_eq_true rfl) hs ⟨rfl, rfl, trivial⟩ (zC (zA (zL (xL (ρ := (rpP (rpT (rpQ m)) (rpQ l))) rfl rs) rfl rfl rfl ?_)))
 intro v2 q2 hq2
 obtain ⟨b2, cs2, rfl, rfl, rb2⟩ := hq2
 refine zL (xL (ρ := (rpT (rpQ k))) rfl rp) rfl rfl rfl ?_
 intro v3 q3 hq3
 obtain ⟨b3, cs3, rfl, rfl, rb3⟩ := hq3
 refine zL (xE (ρ := (rpQ (3 * k + l + 3 * m + 12))) (X := (0 : Rat)) wN rfl rfl (zr_q (by omega))) rfl rfl rfl ?_
 intro v4 q4 hq4
 obtain ⟨b4, cs4, rfl, rfl, rb4⟩ := hq4
 refine zD (zB (zC ?_))
 refine yK 7 _ [] [(0, .q), (1, .q), (2, .q), (4, .q), (5, .q), (3, .c), (6, .c), (7, .t)] xN (fun x hx => by cases hx) (by kernel_rfl) (fun x hx => by cases hx) (fun r hr => hr) (w_q rfl (fun h' L' hh hR => (zH Tryz.underlying34 rfl Tryz.sizeOf32 rfl).cv (show _ = vP b2 0 from congrArg (vP b2) (by rfl))) rfl (w_qx (F := fun v_ => (rpT (rpQ m)).Is h0 v_ s.1) rfl (zE ty32 (Pc.fst (Pc.here _)) rfl rfl rb2 rfl) (mem1 (.tail _ (.tail _ (.head _)))) rfl ?_))
 intro v6 r6
 refine w_qx (F := fun v_ => (rpT (rpQ k)).Is h0 v_ p) rfl (zE ty32 (Pc.here _) rfl rfl rb3 rfl) (mem1 (.tail _ (.head _))) rfl ?_
 intro v7 r7
 refine w_q rfl (fun h' L' hh hR => (zH Tryz.underlying34 rfl Tryz.sizeOf30 rfl).cv (show _ = vP b2 9 from congrArg (vP b2) (by rfl))) rfl (w_qx (F := fun v_ => (rpQ l).Is h0 v_ s.2) rfl (zE ty30 (Pc.snd (Pc.here _)) rfl rfl rb2 rfl) (mem1 (.tail _ (.tail _ (.head _)))) rfl ?_)
 intro v10 r10
 refine w_c rfl ?_
 refine yI (vs := [_, _]) Tryz.call57 ⟨rfl, rfl, trivial⟩ (fun w hs => o_r4_dot hs r6 r7 (by omega)) rfl ?_
 intro v8 h1 hh1 r8
 change (rpQ (3 * m + 3 * k + 9)).Is h1 v8 (dotT s.1 p) at r8
 replace r8 := Rp.Is.le r8 (Le.q (l := 3 * k + 3 * m + 9) (by omega))
 refine w_c rfl ?_
 replace r10 := r10.mono hh1
 refine yI (vs := [_, _]) Tryz.call56 ⟨rfl, rfl, trivial⟩ (fun w hs => o_rref_sub hs r8 r10 (by omega)) rfl ?_
 intro v11 h2 hh2 r11
 change (rpQ ((3 * k + 3 * m + 9) + l + 1)).Is h2 v11 ((dotT s.1 p) - s.2) at r11
 replace r11 := Rp.Is.le r11 (Le.q (l := 3 * k + l + 3 * m + 10) (by omega))
 replace rb4 := rb4.mono (hh1.trans hh2)
 refine wB (A := []) (F := fun c_ => (rpQ (3 * k + l + 3 * m + 12)).R h2 c_ ((dotT s.1 p) - s.2)) rfl (yJ Tryz.sizeOf30 (Pc.here _) rfl rfl rfl rb4 (r11.le (Le.q (l := 3 * k + l + 3 * m + 12) (by omega))) rfl) ?_
 intro cs_23 rb_24
 refine yZ (zJ (e' := [(4, _)]) ⟨rfl, trivial⟩ (zB (zQ (gq_exv (rv_o (t := 4) ty30 (.head _) rfl rb_24) ?_))))
 intro w_25 hvw_25 rr_26
 refine xS (fun E S => yR rfl hvw_25 E S) ?_
 exact rr_26

theorem o_cx_common {w0 : World} {h0 : Mem}  (hs : MLe h0 (mem w0)) {m l k : Nat} {vs : Value} {s : ((T3 Rat) × Rat)} (rs : (rpP (rpT (rpQ m)) (rpQ l)).Is h0 vs s) {vp : Value} {p : (T3 Rat)} (rp : (rpT (rpQ k)).Is h0 vp p) {vq : Value} {q : (T3 Rat)} (rq : (rpT (rpQ k)).Is h0 vq q) (hcd0 : k ≤ 60000000) (hcd1 : l ≤ 1000000) (hcd2 : m ≤ 1000000)  :
    Calls Tryz.prog 84 #[vs, vp, vq] w0 (Ret w0 h0 (fun h r => (rpT (rpQ (12 * k + 3 * l + 9 * m + 50))).Is h r (btw s p q))) := by
 refine zP (n := 32) (e := [(0, vs), (1, vp), (2, vq)]) (vs := [vs, vp, vq]) Tryz.func84 rfl rfl (Nat.le_of_ble_eq_true rfl) hs ⟨rfl, rfl, rfl, trivial⟩ (zC (zA (zL (xL (ρ := (rpP (rpT (rpQ m)) (rpQ l))) rfl rs) rfl rfl rfl ?_)))
 intro v3 q3 hq3
 obtain ⟨b3, cs3, rfl, rfl, rb3⟩ := hq3
 refine zL (xL (ρ := (rpT (rpQ k))) rfl rp) rfl rfl rfl ?_
 intro v4 q4 hq4
 obtain ⟨b4, cs4, rfl, rfl, rb4⟩ := hq4
 refine zL (xL (ρ := (rpT (rpQ k))) rfl rq) rfl rfl rfl ?_
 intro v5 q5 hq5
 obtain ⟨b5, cs5, rfl, rfl, rb5⟩ := hq5
 refine zL (xE (ρ := (rpT (rpQ (12 * k + 3 * l + 9 * m + 50)))) (X := (T3.mk (0 : Rat) (0 : Rat) (0 : Rat))) yC rfl rfl (zr_t (zr_q (by omega)))) rfl rfl rfl ?_
 intro v6 q6 hq6
 obtain ⟨b6, cs6, rfl, rfl, rb6⟩ := hq6
 refine zD (zB (zC ?_))
 refine yK 8 _ [(6, (7, 30, [.bool false, .slice none 0 0, .slice none 0 0])), (7, (8, 30, [.bool false, .slice none 0 0, .slice none 0 0]))] [(0, .q), (1, .q), (3, .q), (4, .q), (2, .c), (5, .c), (6, .a), (7, .a), (8, .t), (9, .t)] xN (AlOk.cons rfl (zero_run wN rfl rfl) (AlOk.cons rfl (zero_run wN rfl rfl) AlOk.nil)) (by kernel_rfl) (hae_cons rfl rfl (hae_cons rfl rfl hae_nil)) (fun r hr => hr) (w_qx (F := fun v_ => (rpP (rpT (rpQ m)) (rpQ l)).Is h0 v_ s) rfl (zE ty34 (Pc.here _) rfl rfl rb3 rfl) (mem1 (.tail _ (.tail _ (.tail _ (.head _))))) rfl ?_)
 intro v11 r11
 refine w_qx (F := fun v_ => (rpT (rpQ k)).Is h0 v_ p) rfl (zE ty32 (Pc.here _) rfl rfl rb4 rfl) (mem1 (.tail _ (.tail _ (.head _)))) rfl ?_
 intro v12 r12
 refine w_qx (F := fun v_ => (rpP (rpT (rpQ m)) (rpQ l)).Is h0 v_ s) rfl (zE ty34 (Pc.here _) rfl rfl rb3 rfl) (mem1 (.tail _ (.tail _ (.tail _ (.head _))))) rfl ?_
 intro v14 r14
 refine w_qx (F := fun v_ => (rpT (rpQ k)).Is h0 v_ q) rfl (zE ty32 (Pc.here _) rfl rfl rb5 rfl) (mem1 (.tail _ (.head _))) rfl ?_
 intro v15 r15
 refine w_c rfl ?_
 refine yI (vs := [_, _]) Tryz.call117 ⟨rfl, rfl, trivial⟩ (fun w hs => o_cx_height hs r11 r12 (by omega) (by omega) (by omega)) rfl ?_
 intro v13 h1 hh1 r13
 change (rpQ (3 * k + l + 3 * m + 12)).Is h1 v13 (hgt s p) at r13
 refine w_c rfl ?_
 replace r14 := r14.mono hh1
 replace r15 := r15.mono hh1
 refine yI (vs := [_, _]) Tryz.call117 ⟨rfl, rfl, trivial⟩ (fun w hs => o_cx_height hs r14 r15 (by omega) (by omega) (by omega)) rfl ?_
 intro v16 h2 hh2 r16
 change (rpQ (3 * k + l + 3 * m + 12)).Is h2 v16 (hgt s q) at r16
 refine w_a rfl (fun b7 => ?_)
 have rb7 : (rpQ (3 * k + l + 3 * m + 12)).R h2 [.bool false, .slice none 0 0, .slice none 0 0] (0 : Rat) := (zr_q (by omega))
 refine w_a rfl (fun b8 => ?_)
 have rb8 : (rpQ (3 * k + l + 3 * m + 12)).R h2 [.bool false, .slice none 0 0, .slice none 0 0] (0 : Rat) := (zr_q (by omega))
 replace r13 := r13.mono hh2
 refine wB (A := [_]) (F := fun c_ => (rpQ (3 * k + l + 3 * m + 12)).R h2 c_ (hgt s p)) rfl (yJ Tryz.sizeOf30 (Pc.here _) rfl rfl rfl rb7 r13 rfl) ?_
 intro cs_27 rb_28
 refine wB (A := []) (F := fun c_ => (rpQ (3 * k + l + 3 * m + 12)).R h2 c_ (hgt s q)) rfl (yJ Tryz.sizeOf30 (Pc.here _) rfl rfl rfl rb8 r16 rfl) ?_
 intro cs_29 rb_30
 refine yZ (zJ (e' := [(4, _), (5, _), (6, _), (7, _), (8, _)]) ⟨rfl, rfl, rfl, rfl, rfl, trivial⟩ (zB (zC ?_)))
 refine yK 11 _ [(8, (9, 30, [.bool false, .slice none 0 0, .slice none 0 0]))] [(0, .q), (1, .q), (2, .q), (3, .c), (4, .c), (5, .q), (6, .q), (7, .q), (8, .a), (9, .c), (10, .q)] xN (AlOk.cons rfl (zero_run wN rfl rfl) AlOk.nil) (by kernel_rfl) (hae_cons rfl rfl hae_nil) (fun r hr => hr) (w_qx (F := fun v_ => (rpQ (3 * k + l + 3 * m + 12)).Is h2 v_ (hgt s p)) rfl (zE ty30 (Pc.here _) rfl rfl rb_28 rfl) (mem1 (.tail _ (.head _))) rfl ?_)
 intro v18 r18
 refine w_qx (F := fun v_ => (rpQ (3 * k + l + 3 * m + 12)).Is h2 v_ (hgt s p)) rfl (zE ty30 (Pc.here _) rfl rfl rb_28 rfl) (mem1 (.tail _ (.head _))) rfl ?_
 intro v19 r19
 refine w_qx (F := fun v_ => (rpQ (3 * k + l + 3 * m + 12)).Is h2 v_ (hgt s q)) rfl (zE ty30 (Pc.here _) rfl rfl rb_30 rfl) (mem1 (.head _)) rfl ?_
 intro v20 r20
 refine w_c rfl ?_
 refine yI (vs := [_, _]) Tryz.call70 ⟨rfl, rfl, trivial⟩ (fun w hs => o_rat_sub hs r19 r20 (by omega)) rfl ?_
 intro v21 h3 hh3 r21
 change (rpQ ((3 * k + l + 3 * m + 12) + (3 * k + l + 3 * m + 12) + 1)).Is h3 v21 ((hgt s p) - (hgt s q)) at r21
 replace r21 := Rp.Is.le r21 (Le.q (l := 6 * k + 2 * l + 6 * m + 25) (by omega))
 refine w_c rfl ?_
 replace r18 := r18.mono hh3
 refine yI (vs := [_, _]) Tryz.call110 ⟨rfl, rfl, trivial⟩ (fun w hs => o_rat_quo hs r18 r21 (by omega)) rfl ?_
 intro v22 h4 hh4 r22
 obtain ⟨v22_0, rfl, r22_0⟩ := r22
 change (rpQ ((3 * k + l + 3 * m + 12) + (6 * k + 2 * l + 6 * m + 25))).Is h4 v22_0 (if ((hgt s p) - (hgt s q)) = 0 then 0 else (hgt s p) / ((hgt s p) - (hgt s q))) at r22_0
 replace r22_0 := Rp.Is.le r22_0 (Le.q (l := 9 * k + 3 * l + 9 * m + 37) (by omega))
 refine w_q rfl (fun h' L' hh hR => zG rfl) rfl (w_q rfl (fun h' L' hh hR => zO (vs := [_, _]) rfl rfl) rfl (w_q rfl (fun h' L' hh hR => zO (vs := [_, _]) rfl rfl) rfl ?_))
 refine w_a rfl (fun b9 => ?_)
 have rb9 : (rpQ (9 * k + 3 * l + 9 * m + 40)).R h4 [.bool false, .slice none 0 0, .slice none 0 0] (0 : Rat) := (zr_q (by omega))
 refine w_c rfl (s_updx (A := []) (F := fun c_ => (rpQ (9 * k + 3 * l + 9 * m + 40)).R h4 c_ (if ((hgt s p) - (hgt s q)) = 0 then 0 else (hgt s p) / ((hgt s p) - (hgt s q)))) (yJ Tryz.sizeOf30 (Pc.here _) rfl rfl rfl rb9 (r22_0.le (Le.q (l := 9 * k + 3 * l + 9 * m + 40) (by omega))) rfl) (xA (by first | (simp; done) | grind)) ?_)
 intro cs_31 rb_32
 refine w_q rfl (fun h' L' hh hR => zX rfl) rfl (yZ (zJ (e' := [(4, _), (5, _), (6, _), (9, _)]) ⟨rfl, rfl, rfl, rfl, trivial⟩ (zB (zC ?_))))
 refine yK 7 _ [] [(0, .q), (1, .q), (2, .q), (3, .q), (4, .c), (5, .c), (6, .c), (7, .t)] xN (fun x hx => by cases hx) (by kernel_rfl) (fun x hx => by cases hx) (fun r hr => hr) ?_
 replace rb4 := rb4.mono (((hh1.trans hh2).trans hh3).trans hh4)
 refine w_qx (F := fun v_ => (rpT (rpQ k)).Is h4 v_ p) rfl (zE ty32 (Pc.here _) rfl rfl rb4 rfl) (mem1 (.tail _ (.tail _ (.tail _ (.tail _ (.tail _ (.head _))))))) rfl ?_
 intro v25 r25
 refine w_qx (F := fun v_ => (rpQ (9 * k + 3 * l + 9 * m + 40)).Is h4 v_ (if ((hgt s p) - (hgt s q)) = 0 then 0 else (hgt s p) / ((hgt s p) - (hgt s q)))) rfl (zE ty30 (Pc.here _) rfl rfl rb_32 rfl) (mem1 (.head _)) rfl ?_
 intro v26 r26
 replace rb5 := rb5.mono (((hh1.trans hh2).trans hh3).trans hh4)
 refine w_qx (F := fun v_ => (rpT (rpQ k)).Is h4 v_ q) rfl (zE ty32 (Pc.here _) rfl rfl rb5 rfl) (mem1 (.tail _ (.tail _ (.tail _ (.tail _ (.head _)))))) rfl ?_
 intro v27 r27
 refine w_qx (F := fun v_ => (rpT (rpQ k)).Is h4 v_ p) rfl (zE ty32 (Pc.here _) rfl rfl rb4 rfl) (mem1 (.tail _ (.tail _ (.tail _ (.tail _ (.tail _ (.head _))))))) rfl ?_
 intro v28 r28
 refine w_c rfl ?_
 refine yI (vs := [_, _]) Tryz.call78 ⟨rfl, rfl, trivial⟩ (fun w hs => o_v_sub hs r27 r28 (by omega)) rfl ?_
 intro v29 h5 hh5 r29
 change (rpT (rpQ (k + k + 2))).Is h5 v29 (T3.mk (q.x - p.x) (q.y - p.y) (q.z - p.z)) at r29
 replace r29 := Rp.Is.le r29 (Le.t (Le.q (l := 2 * k + 2) (by omega)))
 refine w_c rfl ?_
 replace r26 := r26.mono hh5
 refine yI (vs := [_, _]) Tryz.call82 ⟨rfl, rfl, trivial⟩ (fun w hs => o_v_scale hs r26 r29 (by omega)) rfl ?_
 intro v30 h6 hh6 r30
 change (rpT (rpQ ((2 * k + 2) + (9 * k + 3 * l + 9 * m + 40) + 2))).Is h6 v30 (T3.mk ((if ((hgt s p) - (hgt s q)) = 0 then 0 else (hgt s p) / ((hgt s p) - (hgt s q))) * (q.x - p.x)) ((if ((hgt s p) - (hgt s q)) = 0 then 0 else (hgt s p) / ((hgt s p) - (hgt s q))) * (q.y - p.y)) ((if ((hgt s p) - (hgt s q)) = 0 then 0 else (hgt s p) / ((hgt s p) - (hgt s q))) * (q.z - p.z))) at r30
 replace r30 := Rp.Is.le r30 (Le.t (Le.q (l := 11 * k + 3 * l + 9 * m + 44) (by omega)))
 refine w_c rfl ?_
 replace r25 := r25.mono (hh5.trans hh6)
 refine yI (vs := [_, _]) Tryz.call80 ⟨rfl, rfl, trivial⟩ (fun w hs => o_v_add hs r25 r30 (by omega)) rfl ?_
 intro v31 h7 hh7 r31
 change (rpT (rpQ (k + (11 * k + 3 * l + 9 * m + 44) + 2))).Is h7 v31 (T3.mk (p.x + ((if ((hgt s p) - (hgt s q)) = 0 then 0 else (hgt s p) / ((hgt s p) - (hgt s q))) * (q.x - p.x))) (p.y + ((if ((hgt s p) - (hgt s q)) = 0 then 0 else (hgt s p) / ((hgt s p) - (hgt s q))) * (q.y - p.y))) (p.z + ((if ((hgt s p) - (hgt s q)) = 0 then 0 else (hgt s p) / ((hgt s p) - (hgt s q))) * (q.z - p.z)))) at r31
 replace r31 := Rp.Is.le r31 (Le.t (Le.q (l := 12 * k + 3 * l + 9 * m + 46) (by omega)))
 replace rb6 := rb6.mono ((((((hh1.trans hh2).trans hh3).trans hh4).trans hh5).trans hh6).trans hh7)
 refine wB (A := [_, _, _]) (F := fun c_ => (rpT (rpQ (12 * k + 3 * l + 9 * m + 50))).R h7 c_ (T3.mk (p.x + ((if ((hgt s p) - (hgt s q)) = 0 then 0 else (hgt s p) / ((hgt s p) - (hgt s q))) * (q.x - p.x))) (p.y + ((if ((hgt s p) - (hgt s q)) = 0 then 0 else (hgt s p) / ((hgt s p) - (hgt s q))) * (q.y - p.y))) (p.z + ((if ((hgt s p) - (hgt s q)) = 0 then 0 else (hgt s p) / ((hgt s p) - (hgt s q))) * (q.z - p.z))))) rfl (yJ Tryz.sizeOf32 (Pc.here _) rfl rfl rfl rb6 (r31.le (Le.t (Le.q (l := 12 * k + 3 * l + 9 * m + 50) (by omega)))) rfl) ?_
 intro cs_33 rb_34
 refine yZ (zJ (e' := [(6, _)]) ⟨rfl, trivial⟩ (zB (zQ (gq_exv (rv_o (t := 6) ty32 (.tail _ (.tail _ (.tail _ (.head _)))) rfl rb_34) ?_))))
 intro w_35 hvw_35 rr_36
 refine xS (fun E S => yR rfl hvw_35 E S) ?_
 exact rr_36

theorem o_r6_between {w0 : World} {h0 : Mem}  (hs : MLe h0 (mem w0)) {k m l : Nat} {vp : Value} {p : (T3 Rat)} (rp : (rpT (rpQ k)).Is h0 vp p) {vq : Value} {q : (T3 Rat)} (rq : (rpT (rpQ k)).Is h0 vq q) {vs : Value} {s : ((T3 Rat) × Rat)} (rs : (rpP (rpT (rpQ m)) (rpQ l)).Is h0 vs s) (hcd0 : k ≤ 60000000) (hcd1 : l ≤ 1000000) (hcd2 : m ≤ 1000000)  :
    Calls Tryz.prog 49 #[vp, vq, vs] w0 (Ret w0 h0 (fun h r => (rpT (rpQ (12 * k + 3 * l + 9 * m + 50))).Is h r (btw s p q))) := by
 refine zP (n := 32) (e := [(0, vp), (1, vq), (2, vs)]) (vs := [vp, vq, vs]) Tryz.func49 rfl rfl (Nat.le_of_ble_eq_true rfl) hs ⟨rfl, rfl, rfl, trivial⟩ (zC (zA (zL (xL (ρ := (rpT (rpQ k))) rfl rp) rfl rfl rfl ?_)))
 intro v3 q3 hq3
 obtain ⟨b3, cs3, rfl, rfl, rb3⟩ := hq3
 refine zL (xL (ρ := (rpT (rpQ k))) rfl rq) rfl rfl rfl ?_
 intro v4 q4 hq4
 obtain ⟨b4, cs4, rfl, rfl, rb4⟩ := hq4
 refine zL (xL (ρ := (rpP (rpT (rpQ m)) (rpQ l))) rfl rs) rfl rfl rfl ?_
 intro v5 q5 hq5
 obtain ⟨b5, cs5, rfl, rfl, rb5⟩ := hq5
 refine zL (xE (ρ := (rpT (rpQ (12 * k + 3 * l + 9 * m + 50)))) (X := (T3.mk (0 : Rat) (0 : Rat) (0 : Rat))) yC rfl rfl (zr_t (zr_q (by omega)))) rfl rfl rfl ?_
 intro v6 q6 hq6
 obtain ⟨b6, cs6, rfl, rfl, rb6⟩ := hq6
 refine zD (zB (zC ?_))
 refine yK 8 _ [(6, (7, 30, [.bool false, .slice none 0 0, .slice none 0 0])), (7, (8, 30, [.bool false, .slice none 0 0, .slice none 0 0]))] [(0, .q), (1, .q), (3, .q), (4, .q), (2, .c), (5, .c), (6, .a), (7, .a), (8, .t), (9, .t)] xN (AlOk.cons rfl (zero_run wN rfl rfl) (AlOk.cons rfl (zero_run wN rfl rfl) AlOk.nil)) (by kernel_rfl) (hae_cons rfl rfl (hae_cons rfl rfl hae_nil)) (fun r hr => hr) (w_qx (F := fun v_ => (rpP (rpT (rpQ m)) (rpQ l)).Is h0 v_ s) rfl (zE ty34 (Pc.here _) rfl rfl rb5 rfl) (mem1 (.tail _ (.head _))) rfl ?_)
 intro v11 r11
 refine w_qx (F := fun v_ => (rpT (rpQ k)).Is h0 v_ p) rfl (zE ty32 (Pc.here _) rfl rfl rb3 rfl) (mem1 (.tail _ (.tail _ (.tail _ (.head _))))) rfl ?_
 intro v12 r12
 refine w_qx (F := fun v_ => (rpP (rpT (rpQ m)) (rpQ l)).Is h0 v_ s) rfl (zE ty34 (Pc.here _) rfl rfl rb5 rfl) (mem1 (.tail _ (.head _))) rfl ?_
 intro v14 r14
 refine w_qx (F := fun v_ => (rpT (rpQ k)).Is h0 v_ q) rfl (zE ty32 (Pc.here _) rfl rfl rb4 rfl) (mem1 (.tail _ (.tail _ (.head _)))) rfl ?_
 intro v15 r15
 refine w_c rfl ?_
 refine yI (vs := [_, _]) Tryz.call87 ⟨rfl, rfl, trivial⟩ (fun w hs => o_r6_value hs r11 r12 (by omega) (by omega) (by omega)) rfl ?_
 intro v13 h1 hh1 r13
 change (rpQ (3 * k + l + 3 * m + 12)).Is h1 v13 (hgt s p) at r13
 refine w_c rfl ?_
 replace r14 := r14.mono hh1
 replace r15 := r15.mono hh1
 refine yI (vs := [_, _]) Tryz.call87 ⟨rfl, rfl, trivial⟩ (fun w hs => o_r6_value hs r14 r15 (by omega) (by omega) (by omega)) rfl ?_
 intro v16 h2 hh2 r16
 change (rpQ (3 * k + l + 3 * m + 12)).Is h2 v16 (hgt s q) at r16
 refine w_a rfl (fun b7 => ?_)
 have rb7 : (rpQ (3 * k + l + 3 * m + 12)).R h2 [.bool false, .slice none 0 0, .slice none 0 0] (0 : Rat) := (zr_q (by omega))
 refine w_a rfl (fun b8 => ?_)
 have rb8 : (rpQ (3 * k + l + 3 * m + 12)).R h2 [.bool false, .slice none 0 0, .slice none 0 0] (0 : Rat) := (zr_q (by omega))
 replace r13 := r13.mono hh2
 refine wB (A := [_]) (F := fun c_ => (rpQ (3 * k + l + 3 * m + 12)).R h2 c_ (hgt s p)) rfl (yJ Tryz.sizeOf30 (Pc.here _) rfl rfl rfl rb7 r13 rfl) ?_
 intro cs_37 rb_38
 refine wB (A := []) (F := fun c_ => (rpQ (3 * k + l + 3 * m + 12)).R h2 c_ (hgt s q)) rfl (yJ Tryz.sizeOf30 (Pc.here _) rfl rfl rfl rb8 r16 rfl) ?_
 intro cs_39 rb_40
 refine yZ (zJ (e' := [(3, _), (4, _), (6, _), (7, _), (8, _)]) ⟨rfl, rfl, rfl, rfl, rfl, trivial⟩ (zB (zC ?_)))
 refine yK 11 _ [(8, (9, 30, [.bool false, .slice none 0 0, .slice none 0 0]))] [(0, .q), (1, .q), (2, .q), (3, .c), (4, .c), (5, .q), (6, .q), (7, .q), (8, .a), (9, .c), (10, .q)] xN (AlOk.cons rfl (zero_run wN rfl rfl) AlOk.nil) (by kernel_rfl) (hae_cons rfl rfl hae_nil) (fun r hr => hr) (w_qx (F := fun v_ => (rpQ (3 * k + l + 3 * m + 12)).Is h2 v_ (hgt s p)) rfl (zE ty30 (Pc.here _) rfl rfl rb_38 rfl) (mem1 (.tail _ (.head _))) rfl ?_)
 intro v18 r18
 refine w_qx (F := fun v_ => (rpQ (3 * k + l + 3 * m + 12)).Is h2 v_ (hgt s p)) rfl (zE ty30 (Pc.here _) rfl rfl rb_38 rfl) (mem1 (.tail _ (.head _))) rfl ?_
 intro v19 r19
 refine w_qx (F := fun v_ => (rpQ (3 * k + l + 3 * m + 12)).Is h2 v_ (hgt s q)) rfl (zE ty30 (Pc.here _) rfl rfl rb_40 rfl) (mem1 (.head _)) rfl ?_
 intro v20 r20
 refine w_c rfl ?_
 refine yI (vs := [_, _]) Tryz.call56 ⟨rfl, rfl, trivial⟩ (fun w hs => o_rref_sub hs r19 r20 (by omega)) rfl ?_
 intro v21 h3 hh3 r21
 change (rpQ ((3 * k + l + 3 * m + 12) + (3 * k + l + 3 * m + 12) + 1)).Is h3 v21 ((hgt s p) - (hgt s q)) at r21
 replace r21 := Rp.Is.le r21 (Le.q (l := 6 * k + 2 * l + 6 * m + 25) (by omega))
 refine w_c rfl ?_
 replace r18 := r18.mono hh3
 refine yI (vs := [_, _]) Tryz.call88 ⟨rfl, rfl, trivial⟩ (fun w hs => o_rref_quo hs r18 r21 (by omega)) rfl ?_
 intro v22 h4 hh4 r22
 obtain ⟨v22_0, rfl, r22_0⟩ := r22
 change (rpQ ((3 * k + l + 3 * m + 12) + (6 * k + 2 * l + 6 * m + 25))).Is h4 v22_0 (if ((hgt s p) - (hgt s q)) = 0 then 0 else (hgt s p) / ((hgt s p) - (hgt s q))) at r22_0
 replace r22_0 := Rp.Is.le r22_0 (Le.q (l := 9 * k + 3 * l + 9 * m + 37) (by omega))
 refine w_q rfl (fun h' L' hh hR => zG rfl) rfl (w_q rfl (fun h' L' hh hR => zO (vs := [_, _]) rfl rfl) rfl (w_q rfl (fun h' L' hh hR => zO (vs := [_, _]) rfl rfl) rfl ?_))
 refine w_a rfl (fun b9 => ?_)
 have rb9 : (rpQ (9 * k + 3 * l + 9 * m + 40)).R h4 [.bool false, .slice none 0 0, .slice none 0 0] (0 : Rat) := (zr_q (by omega))
 refine w_c rfl (s_updx (A := []) (F := fun c_ => (rpQ (9 * k + 3 * l + 9 * m + 40)).R h4 c_ (if ((hgt s p) - (hgt s q)) = 0 then 0 else (hgt s p) / ((hgt s p) - (hgt s q)))) (yJ Tryz.sizeOf30 (Pc.here _) rfl rfl rfl rb9 (r22_0.le (Le.q (l := 9 * k + 3 * l + 9 * m + 40) (by omega))) rfl) (xA (by first | (simp; done) | grind)) ?_)
 intro cs_41 rb_42
 refine w_q rfl (fun h' L' hh hR => zX rfl) rfl (yZ (zJ (e' := [(3, _), (4, _), (6, _), (9, _)]) ⟨rfl, rfl, rfl, rfl, trivial⟩ (zB (zC ?_))))
 refine yK 7 _ [] [(0, .q), (1, .q), (2, .q), (3, .q), (4, .c), (5, .c), (6, .c), (7, .t)] xN (fun x hx => by cases hx) (by kernel_rfl) (fun x hx => by cases hx) (fun r hr => hr) ?_
 replace rb3 := rb3.mono (((hh1.trans hh2).trans hh3).trans hh4)
 refine w_qx (F := fun v_ => (rpT (rpQ k)).Is h4 v_ p) rfl (zE ty32 (Pc.here _) rfl rfl rb3 rfl) (mem1 (.tail _ (.tail _ (.tail _ (.tail _ (.tail _ (.tail _ (.head _)))))))) rfl ?_
 intro v25 r25
 refine w_qx (F := fun v_ => (rpQ (9 * k + 3 * l + 9 * m + 40)).Is h4 v_ (if ((hgt s p) - (hgt s q)) = 0 then 0 else (hgt s p) / ((hgt s p) - (hgt s q)))) rfl (zE ty30 (Pc.here _) rfl rfl rb_42 rfl) (mem1 (.head _)) rfl ?_
 intro v26 r26
 replace rb4 := rb4.mono (((hh1.trans hh2).trans hh3).trans hh4)
 refine w_qx (F := fun v_ => (rpT (rpQ k)).Is h4 v_ q) rfl (zE ty32 (Pc.here _) rfl rfl rb4 rfl) (mem1 (.tail _ (.tail _ (.tail _ (.tail _ (.tail _ (.head _))))))) rfl ?_
 intro v27 r27
 refine w_qx (F := fun v_ => (rpT (rpQ k)).Is h4 v_ p) rfl (zE ty32 (Pc.here _) rfl rfl rb3 rfl) (mem1 (.tail _ (.tail _ (.tail _ (.tail _ (.tail _ (.tail _ (.head _)))))))) rfl ?_
 intro v28 r28
 refine w_c rfl ?_
 refine yI (vs := [_, _]) Tryz.call23 ⟨rfl, rfl, trivial⟩ (fun w hs => o_s4_sub hs r27 r28 (by omega)) rfl ?_
 intro v29 h5 hh5 r29
 change (rpT (rpQ (k + k + 1))).Is h5 v29 (T3.mk (q.x - p.x) (q.y - p.y) (q.z - p.z)) at r29
 replace r29 := Rp.Is.le r29 (Le.t (Le.q (l := 2 * k + 1) (by omega)))
 refine w_c rfl ?_
 replace r26 := r26.mono hh5
 refine yI (vs := [_, _]) Tryz.call20 ⟨rfl, rfl, trivial⟩ (fun w hs => o_s4_scale hs r26 r29 (by omega)) rfl ?_
 intro v30 h6 hh6 r30
 change (rpT (rpQ ((2 * k + 1) + (9 * k + 3 * l + 9 * m + 40)))).Is h6 v30 (T3.mk ((if ((hgt s p) - (hgt s q)) = 0 then 0 else (hgt s p) / ((hgt s p) - (hgt s q))) * (q.x - p.x)) ((if ((hgt s p) - (hgt s q)) = 0 then 0 else (hgt s p) / ((hgt s p) - (hgt s q))) * (q.y - p.y)) ((if ((hgt s p) - (hgt s q)) = 0 then 0 else (hgt s p) / ((hgt s p) - (hgt s q))) * (q.z - p.z))) at r30
 replace r30 := Rp.Is.le r30 (Le.t (Le.q (l := 11 * k + 3 * l + 9 * m + 41) (by omega)))
 refine w_c rfl ?_
 replace r25 := r25.mono (hh5.trans hh6)
 refine yI (vs := [_, _]) Tryz.call19 ⟨rfl, rfl, trivial⟩ (fun w hs => o_s4_add hs r25 r30 (by omega)) rfl ?_
 intro v31 h7 hh7 r31
 change (rpT (rpQ (k + (11 * k + 3 * l + 9 * m + 41) + 1))).Is h7 v31 (T3.mk (p.x + ((if ((hgt s p) - (hgt s q)) = 0 then 0 else (hgt s p) / ((hgt s p) - (hgt s q))) * (q.x - p.x))) (p.y + ((if ((hgt s p) - (hgt s q)) = 0 then 0 else (hgt s p) / ((hgt s p) - (hgt s q))) * (q.y - p.y))) (p.z + ((if ((hgt s p) - (hgt s q)) = 0 then 0 else (hgt s p) / ((hgt s p) - (hgt s q))) * (q.z - p.z)))) at r31
 replace r31 := Rp.Is.le r31 (Le.t (Le.q (l := 12 * k + 3 * l + 9 * m + 42) (by omega)))
 replace rb6 := rb6.mono ((((((hh1.trans hh2).trans hh3).trans hh4).trans hh5).trans hh6).trans hh7)
 refine wB (A := [_, _, _]) (F := fun c_ => (rpT (rpQ (12 * k + 3 * l + 9 * m + 50))).R h7 c_ (T3.mk (p.x + ((if ((hgt s p) - (hgt s q)) = 0 then 0 else (hgt s p) / ((hgt s p) - (hgt s q))) * (q.x - p.x))) (p.y + ((if ((hgt s p) - (hgt s q)) = 0 then 0 else (hgt s p) / ((hgt s p) - (hgt s q))) * (q.y - p.y))) (p.z + ((if ((hgt s p) - (hgt s q)) = 0 then 0 else (hgt s p) / ((hgt s p) - (hgt s q))) * (q.z - p.z))))) rfl (yJ Tryz.sizeOf32 (Pc.here _) rfl rfl rfl rb6 (r31.le (Le.t (Le.q (l := 12 * k + 3 * l + 9 * m + 50) (by omega)))) rfl) ?_
 intro cs_43 rb_44
 refine yZ (zJ (e' := [(6, _)]) ⟨rfl, trivial⟩ (zB (zQ (gq_exv (rv_o (t := 6) ty32 (.tail _ (.tail _ (.tail _ (.head _)))) rfl rb_44) ?_))))
 intro w_45 hvw_45 rr_46
 refine xS (fun E S => yR rfl hvw_45 E S) ?_
 exact rr_46

end Go.Proofs.YtghhjjmjpeehdaaGreat


namespace Go.Proofs.YtghhjjmjpeehdaaGreat
open Bk Go
set_option linter.unusedVariables false
set_option linter.unusedSimpArgs false
set_option maxRecDepth 10000

set_option maxHeartbeats 1000000 in
theorem o_cx_halves {w0 : World} {h0 : Mem}  (hs : MLe h0 (mem w0)) {k n m : Nat} {vl : Value} {l : (List (T3 Rat))} (rl : (rpS (rpT (rpQ k))).Is h0 vl l) {vs : Value} {s : ((T3 Rat) × Rat)} (rs : (rpP (rpT (rpQ n)) (rpQ m)).Is h0 vs s) (hcd0 : k ≤ 50000000) (hcd1 : m ≤ 1000000) (hcd2 : n ≤ 1000000) (hcd3 : l.length ≤ 100000)  :
    Calls Tryz.prog 47 #[vl, vs] w0 (Ret w0 h0 (fun h r => ∃ u0 u1, r = .tuple #[u0, u1] ∧ (rpS (rpT (rpQ (12 * k + 3 * m + 9 * n + 62)))).Is h u0 (cutB s l) ∧ (rpS (rpT (rpQ (12 * k + 3 * m + 9 * n + 62)))).Is h u1 (cutF s l))) := by
 refine zP (n := 110) (e := [(0, vl), (1, vs)]) (vs := [vl, vs]) Tryz.func47 rfl rfl (Nat.le_of_ble_eq_true rfl) hs ⟨rfl, rfl, trivial⟩ (zC (zA (zL (xL (ρ := (rpP (rpT (rpQ n)) (rpQ m))) rfl rs) rfl rfl rfl ?_)))
 intro v3 q3 hq3
 obtain ⟨b3, cs3, rfl, rfl, rb3⟩ := hq3
 refine asg rfl rfl (asg rfl rfl (zD (zB (zC (zA (mv rfl rfl (gv (wJ Tryz.underlying27 rfl rl) rfl (zL (new_makex (ρ := rpI) (X := (0 : Int)) (by' := 8) l.length Tryz.underlying22 info3 rfl rfl rfl rfl zr_i rfl rfl (by rfl) (by rfl) (by omega) (by omega)) rfl rfl rfl ?_))))))))
 intro v17 q17 hq17
 obtain ⟨cs17, rfl, rl17⟩ := hq17
 refine asg rfl rfl (zD (zB (zC (zA (asg (v := vI (0)) rfl rfl (asg (v := vI (0)) rfl rfl (zD (zB (zC (zC (zA (mv rfl rfl (gv (wJ Tryz.underlying27 rfl rl) rfl ?_)))))))))))))
 refine mv (v := vI (0)) rfl rfl (zD (zB (zR ?_)))
 refine wH (ι := Nat × List Int × Int × Int × Value × List Value × Mem) (fun (i, SD, lo, hi, s6_1, cs_2, ma) => MLe h0 ma ∧ (RL rpI ma cs_2 SD ∧ ((i ≤ l.length ∧ SD.length = l.length) ∧ ∀ u, u < i → SD.getD u (0 : Int) = sdZ s (gp l u)) ∧ ((lo < 0 ↔ behTo s l i) ∧ lo ≤ 0) ∧ ((0 < hi ↔ aheTo s l i) ∧ 0 ≤ hi) ∧ -1 ≤ lo ∧ hi ≤ 1)) (fun (i, SD, lo, hi, s6_1, cs_2, ma) => [(0, vl), (3, vP b3 0), (4, .slice none 0 0), (5, .slice none 0 0), (6, s6_1), (7, vI lo), (8, vI hi), (18, vl), (19, vI (↑(l).length : Int)), (20, vI ↑i)]) (fun (i, SD, lo, hi, s6_1, cs_2, ma) => [.gs 3 1 s6_1 SD.length cs_2, .var b3 34 cs3]) (fun (i, SD, lo, hi, s6_1, cs_2, ma) => ma) (fun (i, SD, lo, hi, s6_1, cs_2, ma) => l.length - i) (0, (List.replicate l.length (0 : Int)), (0 : Int), (0 : Int), v17, cs17, h0) ?_ ⟨rfl, rfl, rfl, rfl, rfl, rfl, rfl, rfl, rfl, rfl, trivial⟩ rfl rfl ?_
 ·
  refine ⟨MLe.refl _, ?_⟩
  refine ⟨rl17, ?_⟩
  exact ⟨⟨⟨by omega, List.length_replicate⟩, fun u h => by omega⟩, ⟨⟨fun h => by omega, fun h => h.elim⟩, by omega⟩, ⟨⟨fun h => by omega, fun h => h.elim⟩, by omega⟩, by omega, by omega⟩
 intro x hx
 obtain ⟨i, SD, lo, hi, s6_1, cs_2, ma⟩ := x
 obtain ⟨hmma, hinv⟩ := hx
 show GC _ _ _ _ _ _ [(0, vl), (3, vP b3 0), (4, .slice none 0 0), (5, .slice none 0 0), (6, s6_1), (7, vI lo), (8, vI hi), (18, vl), (19, vI (↑(l).length : Int)), (20, vI ↑i)] [.gs 3 1 s6_1 SD.length cs_2, .var b3 34 cs3] ma
 obtain ⟨rl_3, hinv⟩ := hinv
 obtain ⟨⟨⟨hi1, hi2⟩, hi3⟩, hlo, hhi, hl1, hh1⟩ := hinv
 have hr0 := sd_range s (gp l i)
 refine zC (zA (gv (zW rfl rfl) rfl (zD (zB (zC ?_)))))
 refine zN rfl (fun hc21 => ?_) (fun hc21 => ?_)
 ·
  refine zK (zB (zC (zR (zC (zA (mv rfl rfl ?_))))))
  replace rl := rl.mono hmma
  refine gl_x (F := fun v_ => AtP (rpT (rpQ k)) ma v_ (l.getD i (T3.mk (0 : Rat) (0 : Rat) (0 : Rat)))) (ox_idx_s (T3.mk (0 : Rat) (0 : Rat) (0 : Rat)) i Tryz.underlying27 ty32 rfl rfl rl rfl (by omega) (show 0 < 9 from by decide)) mem0 rfl ?_
  intro v23 r23
  refine gl_x (F := fun v_ => (rpT (rpQ k)).Is ma v_ (l.getD i (T3.mk (0 : Rat) (0 : Rat) (0 : Rat)))) (wY ty32 rfl r23) mem0 rfl ?_
  intro v24 r24
  refine zL (xE (ρ := (rpT (rpQ (k + 1)))) (X := (T3.mk (0 : Rat) (0 : Rat) (0 : Rat))) yC rfl rfl (zr_t (zr_q (by omega)))) rfl rfl rfl ?_
  intro v10 q10 hq10
  obtain ⟨b10, cs10, rfl, rfl, rb10⟩ := hq10
  refine asg rfl rfl (wE (A := []) (F := fun c_ => (rpT (rpQ (k + 1))).R ma c_ (l.getD i (T3.mk (0 : Rat) (0 : Rat) (0 : Rat)))) (yJ Tryz.sizeOf32 (Pc.here _) rfl rfl rfl rb10 (r24.le (Le.t (Le.q (l := k + 1) (by omega)))) rfl) ?_)
  intro cs_4 rb_5
  refine zD (zB (zC (zA (mv rfl rfl (mv rfl rfl ?_)))))
  replace rb3 := rb3.mono hmma
  refine gl_x (F := fun v_ => (rpP (rpT (rpQ n)) (rpQ m)).Is ma v_ s) (zE ty34 (Pc.here _) rfl rfl rb3 rfl) (mem1 (.tail _ (.tail _ (.head _)))) rfl ?_
  intro v27 r27
  refine gl_x (F := fun v_ => (rpT (rpQ (k + 1))).Is ma v_ (l.getD i (T3.mk (0 : Rat) (0 : Rat) (0 : Rat)))) (zE ty32 (Pc.here _) rfl rfl rb_5 rfl) (mem1 (.head _)) rfl ?_
  intro v28 r28
  refine zM (vs := [_, _]) rfl rfl rfl rfl Tryz.call64 ⟨rfl, rfl, trivial⟩ (fun w hs => o_pl_side hs r27 r28 (by omega) (by omega) (by omega)) ?_
  intro v29 h1 hh1 r29
  obtain rfl : v29 = vI (sdZ s (l.getD i (T3.mk (0 : Rat) (0 : Rat) (0 : Rat)))) := r29
  have hsd29 := sd_range s (l.getD i (T3.mk (0 : Rat) (0 : Rat) (0 : Rat)))
  refine gv ((vG i (.tail _ (.head _)) Tryz.underlying22 Tryz.sizeOf3 rfl rfl rfl (by first | omega | (simp only [List.length_append, List.length_cons, List.length_nil, List.length_replicate, List.length_set]; omega)) (show 0 < 1 from by decide)).cv (show _ = xH 1 s6_1 ((i * 1 + 0)) from congrArg (xH 1 s6_1) (by rfl))) rfl ?_
  replace rl_3 := rl_3.mono hh1
  refine gl_updos (A := [_]) (F := fun c_ => RL rpI h1 c_ (SD.set i (sdZ s (l.getD i (T3.mk (0 : Rat) (0 : Rat) (0 : Rat)))))) (upd_os Tryz.sizeOf3 (Pc.arr (Pc.here _) (0 : Int) i (by first | omega | (simp only [List.length_append, List.length_cons, List.length_nil, List.length_replicate, List.length_set]; omega))) rfl (show 0 < 1 from by decide) rfl rfl rl_3 (is_i (by omega) (by omega)) rfl) ?_
  intro cs_6 rl_7
  refine zD (zJ (e' := [(0, _), (3, _), (4, _), (5, _), (6, _), (7, _), (8, _), (18, _), (19, _), (20, _), (9, _)]) ⟨rfl, rfl, rfl, rfl, rfl, rfl, rfl, rfl, rfl, rfl, rfl, trivial⟩ (zB ?_))
  refine yK 14 _ [] [(0, .q), (1, .q), (2, .q), (3, .q), (4, .q), (5, .q), (6, .q), (7, .q), (8, .q), (9, .q), (10, .q), (11, .q), (12, .q), (13, .q)] xN (fun x hx => by cases hx) (chk_of [0, 0, 0, 6, 8, 17, 0, 0, 0, 384, 512, 1088, 63, 8191] [16383, 16383, 16383, 16377, 16375, 16366, 16383, 16383, 16383, 15999, 15871, 15295, 16350, 14271] (by kernel_rfl)) (fun x hx => by cases hx) (fun r hr => hr) (w_q rfl (fun h' L' hh hR => zG rfl) rfl (w_q rfl (fun h' L' hh hR => zG rfl) rfl (w_q rfl (fun h' L' hh hR => zG rfl) rfl (w_q rfl (fun h' L' hh hR => (vG i (hR _ (.tail _ (.head _))) Tryz.underlying22 Tryz.sizeOf3 rfl rfl rfl (by first | omega | (simp only [List.length_append, List.length_cons, List.length_nil, List.length_replicate, List.length_set]; omega)) (show 0 < 1 from by decide)).cv (show _ = xH 1 s6_1 ((i * 1 + 0)) from congrArg (xH 1 s6_1) (by rfl))) rfl (w_qx (F := fun v_ => rpI.Is h1 v_ ((SD.set i (sdZ s (l.getD i (T3.mk (0 : Rat) (0 : Rat) (0 : Rat))))).getD i (0 : Int))) rfl (ox_load_os ty3 (Pc.arr (Pc.here _) (0 : Int) i (by first | omega | (simp only [List.length_append, List.length_cons, List.length_nil, List.length_replicate, List.length_set]; omega))) rfl (show 0 < 1 from by decide) rfl rl_7 rfl) (mem1 (.tail _ (.head _))) rfl ?_)))))
  intro v35 r35
  obtain ⟨rfl, hl35, hu35⟩ := of_i r35
  refine w_q rfl (fun h' L' hh hR => ov_min_i rfl rfl) rfl (w_q rfl (fun h' L' hh hR => zG rfl) rfl (w_q rfl (fun h' L' hh hR => zG rfl) rfl (w_q rfl (fun h' L' hh hR => zG rfl) rfl (w_q rfl (fun h' L' hh hR => (vG i (hR _ (.tail _ (.head _))) Tryz.underlying22 Tryz.sizeOf3 rfl rfl rfl (by first | omega | (simp only [List.length_append, List.length_cons, List.length_nil, List.length_replicate, List.length_set]; omega)) (show 0 < 1 from by decide)).cv (show _ = xH 1 s6_1 ((i * 1 + 0)) from congrArg (xH 1 s6_1) (by rfl))) rfl (w_qx (F := fun v_ => rpI.Is h1 v_ ((SD.set i (sdZ s (l.getD i (T3.mk (0 : Rat) (0 : Rat) (0 : Rat))))).getD i (0 : Int))) rfl (ox_load_os ty3 (Pc.arr (Pc.here _) (0 : Int) i (by first | omega | (simp only [List.length_append, List.length_cons, List.length_nil, List.length_replicate, List.length_set]; omega))) rfl (show 0 < 1 from by decide) rfl rl_7 rfl) (mem1 (.tail _ (.head _))) rfl ?_)))))
  intro v41 r41
  obtain ⟨rfl, hl41, hu41⟩ := of_i r41
  refine w_q rfl (fun h' L' hh hR => ov_max_i rfl rfl) rfl (w_q rfl (fun h' L' hh hR => zX rfl) rfl (w_q rfl (fun h' L' hh hR => zX rfl) rfl (yZ (yV (zJ (e' := [(0, _), (3, _), (4, _), (5, _), (6, _), (18, _), (19, _), (20, _), (7, _), (8, _)]) ⟨rfl, rfl, rfl, rfl, rfl, rfl, rfl, rfl, rfl, rfl, trivial⟩ (zB (zA (gv (zS (q := 1) rfl rfl (by omega) (by omega)) rfl (mv rfl rfl (zD (yX (A := []) ?_)))))))))))
  refine yL ((i + 1), (SD.set i (sdZ s (l.getD i (T3.mk (0 : Rat) (0 : Rat) (0 : Rat))))), (min lo (sdZ s (gp l i))), (max hi (sdZ s (gp l i))), s6_1, cs_6, h1) ?_ ?_ ⟨rfl, rfl, rfl, rfl, rfl, ?_, ?_, rfl, rfl, rfl, trivial⟩ rfl rfl
  ·
   refine ⟨(hmma.trans hh1), ?_⟩
   refine ⟨rl_7, ?_⟩
   exact ⟨⟨⟨by omega, by rw [List.length_set]; exact hi2⟩, set_next (f := fun u => sdZ s (gp l u)) (by omega) hi3 rfl⟩, mn_next hlo.1 hlo.2, mx_next hhi.1 hhi.2, by omega, by omega⟩
  ·
   dsimp only
   omega
  · exact congrArg (fun z => some (vI z)) (by rw [set_at (by omega)]; rfl)
  · exact congrArg (fun z => some (vI z)) (by rw [set_at (by omega)]; rfl)
 have ei : i = l.length := by omega
 have hS : ∀ u, u < l.length → SD.getD u (0 : Int) = sdZ s (gp l u) := fun u hu => hi3 u (by omega)
 rw [ei] at hlo hhi
 refine xG (yB (yB (xF (zB (zC (zR (zC (zA (mv rfl rfl (gv (wC (q := 0) rfl rfl) rfl (asg rfl rfl (zD (zB ?_)))))))))))))
 refine zN rfl (fun hc44 => ?_) (fun hc44 => ?_)
 ·
  refine wL (e' := [(0, _)]) ⟨rfl, trivial⟩ (zC (zA (mv rfl rfl (asg rfl rfl (asg rfl rfl (zD (zB (zQ (gr_in (yE (vN rfl rfl rfl ?_)))))))))))
  replace rl := rl.mono hmma
  refine ⟨_, _, ?_, (Rp.Is.cast (Rp.Is.le rl (Le.s (Le.t (Le.q (l := 12 * k + 3 * m + 9 * n + 62) (by omega))))) (by exact (cutB_all (by rw [← hhi.1]; omega)).1.symm)), (Rp.Is.cast (is_nil _) (by exact (cutB_all (by rw [← hhi.1]; omega)).2.symm))⟩
  rfl
 refine zC (zA (mv rfl rfl (gv (wC (q := 0) rfl rfl) rfl (asg rfl rfl (zD (zJ (e' := [(0, _), (3, _), (4, _), (5, _), (6, _), (48, _)]) ⟨rfl, rfl, rfl, rfl, rfl, rfl, trivial⟩ (zB ?_)))))))
 refine zN rfl (fun hc48 => ?_) (fun hc48 => ?_)
 ·
  refine zC (zA (mv rfl rfl (asg rfl rfl (asg rfl rfl (zD (zB (zQ (gr_in (yE (vN rfl rfl rfl ?_))))))))))
  replace rl := rl.mono hmma
  refine ⟨_, _, ?_, (Rp.Is.cast (is_nil _) (by exact (cutF_all (by rw [← hhi.1]; omega) (by rw [← hlo.1]; omega)).1.symm)), (Rp.Is.cast (Rp.Is.le rl (Le.s (Le.t (Le.q (l := 12 * k + 3 * m + 9 * n + 62) (by omega))))) (by exact (cutF_all (by rw [← hhi.1]; omega) (by rw [← hlo.1]; omega)).2.symm))⟩
  rfl
 refine zK (yV (zB (zC (zC (zA (mv rfl rfl ?_))))))
 replace rl := rl.mono hmma
 refine gv (wJ Tryz.underlying27 rfl rl) rfl (mv (v := vI (0)) rfl rfl (zD (zB (zR (gc_nilown 32 9 ?_)))))
 have rl_8 : RL (rpT (rpQ (12 * k + 3 * m + 9 * n + 62))) ma [] ([] : List (T3 Rat)) := RL.nil
 refine gc_nilown 32 9 ?_
 have rl_9 : RL (rpT (rpQ (12 * k + 3 * m + 9 * n + 62))) ma [] ([] : List (T3 Rat)) := RL.nil
 refine wH (ι := Nat × List (T3 Rat) × List (T3 Rat) × Value × List Value × Value × List Value × Mem) (fun (i, B, F, s4_10, cs_11, s5_13, cs_14, mb) => MLe ma mb ∧ (RL (rpT (rpQ (12 * k + 3 * m + 9 * n + 62))) mb cs_11 B ∧ RL (rpT (rpQ (12 * k + 3 * m + 9 * n + 62))) mb cs_14 F ∧ (i ≤ l.length ∧ B = bkTo s l i) ∧ F = frTo s l i)) (fun (i, B, F, s4_10, cs_11, s5_13, cs_14, mb) => [(0, vl), (3, vP b3 0), (4, s4_10), (5, s5_13), (6, s6_1), (52, vl), (53, vI (↑(l).length : Int)), (54, vI ↑i)]) (fun (i, B, F, s4_10, cs_11, s5_13, cs_14, mb) => [.gs 32 9 s5_13 F.length cs_14, .gs 32 9 s4_10 B.length cs_11, .gs 3 1 s6_1 SD.length cs_2, .var b3 34 cs3]) (fun (i, B, F, s4_10, cs_11, s5_13, cs_14, mb) => mb) (fun (i, B, F, s4_10, cs_11, s5_13, cs_14, mb) => l.length - i) (0, [], [], (.slice none 0 0), [], (.slice none 0 0), [], ma) ?_ ⟨rfl, rfl, rfl, rfl, rfl, rfl, rfl, rfl, trivial⟩ rfl rfl ?_
 ·
  refine ⟨MLe.refl _, ?_⟩
  refine ⟨rl_8, rl_9, ?_⟩
  exact ⟨⟨by omega, rfl⟩, rfl⟩
 intro x hx
 obtain ⟨i, B, F, s4_10, cs_11, s5_13, cs_14, mb⟩ := x
 obtain ⟨hmmb, hinv⟩ := hx
 show GC _ _ _ _ _ _ [(0, vl), (3, vP b3 0), (4, s4_10), (5, s5_13), (6, s6_1), (52, vl), (53, vI (↑(l).length : Int)), (54, vI ↑i)] [.gs 32 9 s5_13 F.length cs_14, .gs 32 9 s4_10 B.length cs_11, .gs 3 1 s6_1 SD.length cs_2, .var b3 34 cs3] mb
 obtain ⟨rl_12, rl_15, hinv⟩ := hinv
 obtain ⟨⟨hi1, hB⟩, hF⟩ := hinv
 have hbl := bk_len s l i
 have hfl := fr_len s l i
 have hBl : B.length ≤ 2 * i := by rw [hB]; exact hbl
 have hFl : F.length ≤ 2 * i := by rw [hF]; exact hfl
 refine zC (zA (gv (zW rfl rfl) rfl (zD (zB (zC ?_)))))
 refine zN rfl (fun hc55 => ?_) (fun hc55 => ?_)
 ·
  have hd1 := hS i (by omega)
  have hd2 := hS ((i + 1) % l.length) (Nat.mod_lt _ (by omega))
  have hr1 := sd_range s (gp l i)
  have hr2 := sd_range s (gp l ((i + 1) % l.length))
  refine zK (zB (zC (zR (zC (zA (mv rfl rfl ?_))))))
  replace rl := rl.mono hmmb
  refine gl_x (F := fun v_ => AtP (rpT (rpQ k)) mb v_ (l.getD i (T3.mk (0 : Rat) (0 : Rat) (0 : Rat)))) (ox_idx_s (T3.mk (0 : Rat) (0 : Rat) (0 : Rat)) i Tryz.underlying27 ty32 rfl rfl rl rfl (by omega) (show 0 < 9 from by decide)) mem0 rfl ?_
  intro v57 r57
  refine gl_x (F := fun v_ => (rpT (rpQ k)).Is mb v_ (l.getD i (T3.mk (0 : Rat) (0 : Rat) (0 : Rat)))) (wY ty32 rfl r57) mem0 rfl ?_
  intro v58 r58
  refine zL (xE (ρ := (rpT (rpQ (k + 1)))) (X := (T3.mk (0 : Rat) (0 : Rat) (0 : Rat))) yC rfl rfl (zr_t (zr_q (by omega)))) rfl rfl rfl ?_
  intro v12 q12 hq12
  obtain ⟨b12, cs12, rfl, rfl, rb12⟩ := hq12
  refine asg rfl rfl (wE (A := []) (F := fun c_ => (rpT (rpQ (k + 1))).R mb c_ (l.getD i (T3.mk (0 : Rat) (0 : Rat) (0 : Rat)))) (yJ Tryz.sizeOf32 (Pc.here _) rfl rfl rfl rb12 (r58.le (Le.t (Le.q (l := k + 1) (by omega)))) rfl) ?_)
  intro cs_16 rb_17
  refine zD (zB (zC (zA (mv rfl rfl (gv (zS (q := 1) rfl rfl (by omega) (by omega)) rfl (mv rfl rfl (gv (wJ Tryz.underlying27 rfl rl) rfl (gv (ov_rem_i rfl rfl (by omega) (by omega)) rfl (asg rfl rfl (zD (zB (zC (zC ?_)))))))))))))
  refine zA (mv rfl rfl (mv rfl rfl (gv ((vG i (.tail _ (.tail _ (.tail _ (.head _)))) Tryz.underlying22 Tryz.sizeOf3 rfl rfl rfl (by first | omega | (simp only [List.length_append, List.length_cons, List.length_nil, List.length_replicate, List.length_set]; omega)) (show 0 < 1 from by decide)).cv (show _ = xH 1 s6_1 ((i * 1 + 0)) from congrArg (xH 1 s6_1) (by rfl))) rfl ?_)))
  replace rl_3 := rl_3.mono hmmb
  refine gl_x (F := fun v_ => rpI.Is mb v_ (SD.getD i (0 : Int))) (ox_load_os ty3 (Pc.arr (Pc.here _) (0 : Int) i (by first | omega | (simp only [List.length_append, List.length_cons, List.length_nil, List.length_replicate, List.length_set]; omega))) rfl (show 0 < 1 from by decide) rfl rl_3 rfl) (mem1 (.tail _ (.tail _ (.tail _ (.head _))))) rfl ?_
  intro v67 r67
  obtain ⟨rfl, hl67, hu67⟩ := of_i r67
  refine gv (ov_leq_i (q := 0) rfl rfl) rfl (zD (zJ (e' := [(0, _), (3, _), (4, _), (5, _), (6, _), (52, _), (53, _), (54, _), (12, _), (11, _), (13, _), (68, _)]) ⟨rfl, rfl, rfl, rfl, rfl, rfl, rfl, rfl, rfl, rfl, rfl, rfl, trivial⟩ (zB ?_)))
  refine zN rfl (fun hc68 => ?_) (fun hc68 => ?_)
  ·
   have hp1 : sdZ s (gp l i) ≤ 0 := by rw [← hS i (by omega)]; exact hc68
   refine zA (mv rfl rfl (gl_x (F := fun v_ => (rpT (rpQ (k + 1))).Is mb v_ (l.getD i (T3.mk (0 : Rat) (0 : Rat) (0 : Rat)))) (zE ty32 (Pc.here _) rfl rfl rb_17 rfl) (mem1 (.head _)) rfl ?_))
   intro v70 r70
   refine zL (yO (ρ := (rpT (rpQ (k + 1)))) (m := 1) (xs := [(l.getD i (T3.mk (0 : Rat) (0 : Rat) (0 : Rat)))]) (ps' := [(0, _)]) Tryz.underlying27 yC rfl rfl rfl (zr_t (zr_q (by omega))) ⟨rfl, rfl, trivial⟩ (yQ rfl (Pc.arr (Pc.here _) (T3.mk (0 : Rat) (0 : Rat) (0 : Rat)) 0 (by decide)) r70 xM) (show 1 * 9 ≤ 16777216 from by decide) (show 0 < 9 from by decide)) rfl rfl rfl ?_
   intro v71 q71 hq71
   obtain ⟨cs71, rfl, rl71⟩ := hq71
   refine vQ (A := []) (ρ := (rpT (rpQ (k + 1)))) rl71 ?_
   intro h1 hh1 rs_18
   replace rl_12 := rl_12.mono hh1
   refine vO (A := [_, _]) (yD (ρ := (rpT (rpQ (12 * k + 3 * m + 9 * n + 62)))) (bytes := 168) Tryz.underlying27 yC rfl rfl rfl rfl (show 0 < 9 from by decide) rfl rfl rl_12 (rs_18.le (Le.s (Le.t (Le.q (l := 12 * k + 3 * m + 9 * n + 62) (by omega))))) (by first | omega | (simp only [List.length_append, List.length_cons, List.length_nil, List.length_replicate, List.length_set]; omega)) (by first | omega | (simp only [List.length_append, List.length_cons, List.length_nil, List.length_replicate, List.length_set]; omega))) rfl rfl rfl ?_
   intro v72 q72 hq72
   obtain ⟨cs72, rfl, rl72⟩ := hq72
   refine asg rfl rfl (zD (zB (zC (zC (zA (mv rfl rfl (mv rfl rfl (gv ((vG i (.tail _ (.tail _ (.tail _ (.head _)))) Tryz.underlying22 Tryz.sizeOf3 rfl rfl rfl (by first | omega | (simp only [List.length_append, List.length_cons, List.length_nil, List.length_replicate, List.length_set]; omega)) (show 0 < 1 from by decide)).cv (show _ = xH 1 s6_1 ((i * 1 + 0)) from congrArg (xH 1 s6_1) (by rfl))) rfl ?_))))))))
   replace rl_3 := rl_3.mono hh1
   refine gl_x (F := fun v_ => rpI.Is h1 v_ (SD.getD i (0 : Int))) (ox_load_os ty3 (Pc.arr (Pc.here _) (0 : Int) i (by first | omega | (simp only [List.length_append, List.length_cons, List.length_nil, List.length_replicate, List.length_set]; omega))) rfl (show 0 < 1 from by decide) rfl rl_3 rfl) (mem1 (.tail _ (.tail _ (.tail _ (.head _))))) rfl ?_
   intro v76 r76
   obtain ⟨rfl, hl76, hu76⟩ := of_i r76
   refine gv (ov_geq_i (q := 0) rfl rfl) rfl (zD (zB ?_))
   refine zN rfl (fun hc77 => ?_) (fun hc77 => ?_)
   ·
    have hp2 : 0 ≤ sdZ s (gp l i) := by rw [← hS i (by omega)]; exact hc77
    refine zA (mv rfl rfl ?_)
    replace rb_17 := rb_17.mono hh1
    refine gl_x (F := fun v_ => (rpT (rpQ (k + 1))).Is h1 v_ (l.getD i (T3.mk (0 : Rat) (0 : Rat) (0 : Rat)))) (zE ty32 (Pc.here _) rfl rfl rb_17 rfl) (mem1 (.head _)) rfl ?_
    intro v79 r79
    refine zL (yO (ρ := (rpT (rpQ (k + 1)))) (m := 1) (xs := [(l.getD i (T3.mk (0 : Rat) (0 : Rat) (0 : Rat)))]) (ps' := [(0, _)]) Tryz.underlying27 yC rfl rfl rfl (zr_t (zr_q (by omega))) ⟨rfl, rfl, trivial⟩ (yQ rfl (Pc.arr (Pc.here _) (T3.mk (0 : Rat) (0 : Rat) (0 : Rat)) 0 (by decide)) r79 xM) (show 1 * 9 ≤ 16777216 from by decide) (show 0 < 9 from by decide)) rfl rfl rfl ?_
    intro v80 q80 hq80
    obtain ⟨cs80, rfl, rl80⟩ := hq80
    refine vQ (A := []) (ρ := (rpT (rpQ (k + 1)))) rl80 ?_
    intro h2 hh2 rs_19
    replace rl_15 := rl_15.mono (hh1.trans hh2)
    refine vO (A := [_]) (yD (ρ := (rpT (rpQ (12 * k + 3 * m + 9 * n + 62)))) (bytes := 168) Tryz.underlying27 yC rfl rfl rfl rfl (show 0 < 9 from by decide) rfl rfl rl_15 (rs_19.le (Le.s (Le.t (Le.q (l := 12 * k + 3 * m + 9 * n + 62) (by omega))))) (by first | omega | (simp only [List.length_append, List.length_cons, List.length_nil, List.length_replicate, List.length_set]; omega)) (by first | omega | (simp only [List.length_append, List.length_cons, List.length_nil, List.length_replicate, List.length_set]; omega))) rfl rfl rfl ?_
    intro v81 q81 hq81
    obtain ⟨cs81, rfl, rl81⟩ := hq81
    refine asg rfl rfl (zD (zJ (e' := [(0, _), (3, _), (6, _), (52, _), (53, _), (54, _), (12, _), (11, _), (13, _), (4, _), (5, _)]) ⟨rfl, rfl, rfl, rfl, rfl, rfl, rfl, rfl, rfl, rfl, rfl, trivial⟩ (zB (zC ?_))))
    refine yK 10 _ [] [(0, .q), (1, .q), (2, .q), (3, .q), (4, .q), (5, .q), (6, .q), (7, .q), (8, .q), (9, .q)] xN (fun x hx => by cases hx) (by kernel_rfl) (fun x hx => by cases hx) (fun r hr => hr) (w_q rfl (fun h' L' hh hR => zG rfl) rfl (w_q rfl (fun h' L' hh hR => zG rfl) rfl (w_q rfl (fun h' L' hh hR => (vG i (hR _ (.tail _ (.tail _ (.tail _ (.head _))))) Tryz.underlying22 Tryz.sizeOf3 rfl rfl rfl (by first | omega | (simp only [List.length_append, List.length_cons, List.length_nil, List.length_replicate, List.length_set]; omega)) (show 0 < 1 from by decide)).cv (show _ = xH 1 s6_1 ((i * 1 + 0)) from congrArg (xH 1 s6_1) (by rfl))) rfl ?_)))
    replace rl_3 := rl_3.mono hh2
    refine w_qx (F := fun v_ => rpI.Is h2 v_ (SD.getD i (0 : Int))) rfl (ox_load_os ty3 (Pc.arr (Pc.here _) (0 : Int) i (by first | omega | (simp only [List.length_append, List.length_cons, List.length_nil, List.length_replicate, List.length_set]; omega))) rfl (show 0 < 1 from by decide) rfl rl_3 rfl) (mem1 (.tail _ (.tail _ (.tail _ (.head _))))) rfl ?_
    intro v85 r85
    obtain ⟨rfl, hl85, hu85⟩ := of_i r85
    refine w_q rfl (fun h' L' hh hR => zG rfl) rfl (w_q rfl (fun h' L' hh hR => zG rfl) rfl (w_q rfl (fun h' L' hh hR => (vG ((i + 1) % l.length) (hR _ (.tail _ (.tail _ (.tail _ (.head _))))) Tryz.underlying22 Tryz.sizeOf3 rfl rfl (by first | rfl | (push_cast; rfl)) (by rw [hi2]; exact Nat.mod_lt _ (by omega)) (show 0 < 1 from by decide)).cv (show _ = xH 1 s6_1 ((((i + 1) % l.length) * 1 + 0)) from congrArg (xH 1 s6_1) (by rfl))) rfl (w_qx (F := fun v_ => rpI.Is h2 v_ (SD.getD ((i + 1) % l.length) (0 : Int))) rfl (ox_load_os ty3 (Pc.arr (Pc.here _) (0 : Int) ((i + 1) % l.length) (by rw [hi2]; exact Nat.mod_lt _ (by omega))) rfl (show 0 < 1 from by decide) rfl rl_3 rfl) (mem1 (.tail _ (.tail _ (.tail _ (.head _))))) rfl ?_)))
    intro v89 r89
    obtain ⟨rfl, hl89, hu89⟩ := of_i r89
    refine w_q rfl (fun h' L' hh hR => ov_mul_i rfl rfl (by rw [hd1, hd2]; have := mul_range hr1 hr2; omega) (by rw [hd1, hd2]; have := mul_range hr1 hr2; omega)) rfl (w_q rfl (fun h' L' hh hR => zW (q := 0) rfl rfl) rfl (yZ (zJ (e' := [(0, _), (3, _), (6, _), (52, _), (53, _), (54, _), (12, _), (13, _), (4, _), (5, _), (91, _)]) ⟨rfl, rfl, rfl, rfl, rfl, rfl, rfl, rfl, rfl, rfl, rfl, trivial⟩ (zB ?_))))
    refine zN rfl (fun hc91 => ?_) (fun hc91 => ?_)
    ·
     have hx1 : xP s l i := by have h := hc91; rw [hS i (by omega), hS ((i + 1) % l.length) (Nat.mod_lt _ (by omega))] at h; exact h
     refine zC ?_
     refine yK 8 _ [(7, (14, 32, [.bool false, .slice none 0 0, .slice none 0 0, .bool false, .slice none 0 0, .slice none 0 0, .bool false, .slice none 0 0, .slice none 0 0]))] [(0, .q), (1, .q), (2, .q), (3, .q), (4, .q), (5, .q), (6, .c), (7, .a), (8, .t)] xN (AlOk.cons rfl (zero_run yC rfl rfl) AlOk.nil) (by kernel_rfl) (hae_cons rfl rfl hae_nil) (fun r hr => hr) ?_
     replace rb3 := rb3.mono (((hmma.trans hmmb).trans hh1).trans hh2)
     refine w_qx (F := fun v_ => (rpP (rpT (rpQ n)) (rpQ m)).Is h2 v_ s) rfl (zE ty34 (Pc.here _) rfl rfl rb3 rfl) (mem1 (.tail _ (.tail _ (.tail _ (.tail _ (.head _)))))) rfl ?_
     intro v92 r92
     replace rb_17 := rb_17.mono hh2
     refine w_qx (F := fun v_ => (rpT (rpQ (k + 1))).Is h2 v_ (l.getD i (T3.mk (0 : Rat) (0 : Rat) (0 : Rat)))) rfl (zE ty32 (Pc.here _) rfl rfl rb_17 rfl) (mem1 (.head _)) rfl ?_
     intro v93 r93
     refine w_q rfl (fun h' L' hh hR => zG rfl) rfl (w_q rfl (fun h' L' hh hR => zG rfl) rfl ?_)
     replace rl := rl.mono (hh1.trans hh2)
     refine w_qx (F := fun v_ => AtP (rpT (rpQ k)) h2 v_ (l.getD ((i + 1) % l.length) (T3.mk (0 : Rat) (0 : Rat) (0 : Rat)))) rfl (ox_idx_s (T3.mk (0 : Rat) (0 : Rat) (0 : Rat)) ((i + 1) % l.length) Tryz.underlying27 ty32 rfl rfl rl (by first | rfl | (push_cast; rfl)) (by exact Nat.mod_lt _ (by omega)) (show 0 < 9 from by decide)) mem0 rfl ?_
     intro v96 r96
     refine w_qx (F := fun v_ => (rpT (rpQ k)).Is h2 v_ (l.getD ((i + 1) % l.length) (T3.mk (0 : Rat) (0 : Rat) (0 : Rat)))) rfl (wY ty32 rfl r96) mem0 rfl ?_
     intro v97 r97
     refine w_c rfl ?_
     refine yI (vs := [_, _, _]) Tryz.call84 ⟨rfl, rfl, rfl, trivial⟩ (fun w hs => o_cx_common hs r92 r93 (r97.le (Le.t (Le.q (l := k + 1) (by omega)))) (by omega) (by omega) (by omega)) rfl ?_
     intro v98 h3 hh3 r98
     change (rpT (rpQ (12 * (k + 1) + 3 * m + 9 * n + 50))).Is h3 v98 (btw s (l.getD i (T3.mk (0 : Rat) (0 : Rat) (0 : Rat))) (l.getD ((i + 1) % l.length) (T3.mk (0 : Rat) (0 : Rat) (0 : Rat)))) at r98
     replace r98 := Rp.Is.le r98 (Le.t (Le.q (l := 12 * k + 3 * m + 9 * n + 62) (by omega)))
     refine w_a rfl (fun b14 => ?_)
     have rb14 : (rpT (rpQ 1)).R h3 [.bool false, .slice none 0 0, .slice none 0 0, .bool false, .slice none 0 0, .slice none 0 0, .bool false, .slice none 0 0, .slice none 0 0] (T3.mk (0 : Rat) (0 : Rat) (0 : Rat)) := (zr_t (zr_q (by decide)))
     have rw_20 := (Le.t (Le.q (l := 12 * k + 3 * m + 9 * n + 62) (by omega))).R rb14
     refine wB (A := []) (F := fun c_ => (rpT (rpQ (12 * k + 3 * m + 9 * n + 62))).R h3 c_ (btw s (l.getD i (T3.mk (0 : Rat) (0 : Rat) (0 : Rat))) (l.getD ((i + 1) % l.length) (T3.mk (0 : Rat) (0 : Rat) (0 : Rat))))) rfl (yJ Tryz.sizeOf32 (Pc.here _) rfl rfl rfl rw_20 r98 rfl) ?_
     intro cs_21 rb_22
     refine yZ (zJ (e' := [(0, _), (3, _), (6, _), (52, _), (53, _), (54, _), (4, _), (5, _), (14, _)]) ⟨rfl, rfl, rfl, rfl, rfl, rfl, rfl, rfl, rfl, trivial⟩ (zB ?_))
     refine yK 10 [.var b14 32 cs_21, .var b12 32 cs_16, .gs 3 1 s6_1 SD.length cs_2, .var b3 34 cs3] [] [(0, .q), (1, .q), (4, .q), (5, .q), (2, .d 3 6), (7, .c), (8, .q), (9, .q)] xN (fun x hx => by cases hx) (by kernel_rfl) (fun x hx => by cases hx) (by intro r hr; simp only [List.mem_cons, List.mem_append, List.not_mem_nil, or_false] at hr ⊢ <;> grind) (w_q rfl (fun h' L' hh hR => zG rfl) rfl (w_qx (F := fun v_ => (rpT (rpQ (12 * k + 3 * m + 9 * n + 62))).Is h3 v_ (btw s (l.getD i (T3.mk (0 : Rat) (0 : Rat) (0 : Rat))) (l.getD ((i + 1) % l.length) (T3.mk (0 : Rat) (0 : Rat) (0 : Rat))))) rfl (zE ty32 (Pc.here _) rfl rfl rb_22 rfl) (mem1 (.head _)) rfl ?_))
     intro v100 r100
     refine w_q rfl (fun h' L' hh hR => zG rfl) rfl (w_qx (F := fun v_ => (rpT (rpQ (12 * k + 3 * m + 9 * n + 62))).Is h3 v_ (btw s (l.getD i (T3.mk (0 : Rat) (0 : Rat) (0 : Rat))) (l.getD ((i + 1) % l.length) (T3.mk (0 : Rat) (0 : Rat) (0 : Rat))))) rfl (zE ty32 (Pc.here _) rfl rfl rb_22 rfl) (mem1 (.head _)) rfl ?_)
     intro v104 r104
     refine w_d rfl rfl rfl ?_ ?_
     ·
      refine s_new (fun X => yO (ρ := (rpT (rpQ (12 * k + 3 * m + 9 * n + 62)))) (m := 1) (xs := [btw s (l.getD i (T3.mk (0 : Rat) (0 : Rat) (0 : Rat))) (l.getD ((i + 1) % l.length) (T3.mk (0 : Rat) (0 : Rat) (0 : Rat)))]) (ps' := [(0, _)]) Tryz.underlying27 yC rfl rfl rfl (zr_t (zr_q (by omega))) ⟨rfl, rfl, trivial⟩ (yQ rfl (Pc.arr (Pc.here _) (T3.mk (0 : Rat) (0 : Rat) (0 : Rat)) 0 (by decide)) r100 xM) (show 1 * 9 ≤ 16777216 from by decide) (show 0 < 9 from by decide)) rfl ?_
      intro v101 q101 hq101
      obtain ⟨cs101, rfl, rl101⟩ := hq101
      refine ⟨?_, ?_⟩
      ·
       refine xI (A := []) (ρ := (rpT (rpQ (12 * k + 3 * m + 9 * n + 62)))) rl101 (xJ (by first | (simp; done) | grind)) ?_
       intro h4 hh4 rs_23
       replace rl72 := rl72.mono ((hh2.trans hh3).trans hh4)
       refine uA (A := [_, _, _]) (fun X => yD (ρ := (rpT (rpQ (12 * k + 3 * m + 9 * n + 62)))) (bytes := 168) Tryz.underlying27 yC rfl rfl rfl rfl (show 0 < 9 from by decide) rfl rfl rl72 rs_23 (by first | omega | (simp only [List.length_append, List.length_cons, List.length_nil, List.length_replicate, List.length_set]; omega)) (by first | omega | (simp only [List.length_append, List.length_cons, List.length_nil, List.length_replicate, List.length_set]; omega))) rfl (xA (by first | (simp; done) | grind)) ?_
       intro v102 q102 hq102
       obtain ⟨cs102, rfl, rl102⟩ := hq102
       replace r104 := r104.mono hh4
       refine s_new (fun X => yO (ρ := (rpT (rpQ (12 * k + 3 * m + 9 * n + 62)))) (m := 1) (xs := [btw s (l.getD i (T3.mk (0 : Rat) (0 : Rat) (0 : Rat))) (l.getD ((i + 1) % l.length) (T3.mk (0 : Rat) (0 : Rat) (0 : Rat)))]) (ps' := [(0, _)]) Tryz.underlying27 yC rfl rfl rfl (zr_t (zr_q (by omega))) ⟨rfl, rfl, trivial⟩ (yQ rfl (Pc.arr (Pc.here _) (T3.mk (0 : Rat) (0 : Rat) (0 : Rat)) 0 (by decide)) r104 xM) (show 1 * 9 ≤ 16777216 from by decide) (show 0 < 9 from by decide)) rfl ?_
       intro v105 q105 hq105
       obtain ⟨cs105, rfl, rl105⟩ := hq105
       refine w_c rfl (xI (A := []) (ρ := (rpT (rpQ (12 * k + 3 * m + 9 * n + 62)))) rl105 (xJ (by first | (simp; done) | grind)) ?_)
       intro h5 hh5 rs_24
       replace rl81 := rl81.mono ((hh3.trans hh4).trans hh5)
       refine uA (A := [_, _]) (fun X => yD (ρ := (rpT (rpQ (12 * k + 3 * m + 9 * n + 62)))) (bytes := 168) Tryz.underlying27 yC rfl rfl rfl rfl (show 0 < 9 from by decide) rfl rfl rl81 rs_24 (by first | omega | (simp only [List.length_append, List.length_cons, List.length_nil, List.length_replicate, List.length_set]; omega)) (by first | omega | (simp only [List.length_append, List.length_cons, List.length_nil, List.length_replicate, List.length_set]; omega))) rfl (xA (by first | (simp; done) | grind)) ?_
       intro v106 q106 hq106
       obtain ⟨cs106, rfl, rl106⟩ := hq106
       refine w_q rfl (fun h' L' hh hR => zX rfl) rfl (w_q rfl (fun h' L' hh hR => zX rfl) rfl (yZ (yV (zB (zA (gv (zS (q := 1) rfl rfl (by omega) (by omega)) rfl (mv rfl rfl (zD (yX (A := []) (yX (A := []) ?_))))))))))
       refine yL ((i + 1), ((B ++ [(l.getD i (T3.mk (0 : Rat) (0 : Rat) (0 : Rat)))]) ++ [btw s (l.getD i (T3.mk (0 : Rat) (0 : Rat) (0 : Rat))) (l.getD ((i + 1) % l.length) (T3.mk (0 : Rat) (0 : Rat) (0 : Rat)))]), ((F ++ [(l.getD i (T3.mk (0 : Rat) (0 : Rat) (0 : Rat)))]) ++ [btw s (l.getD i (T3.mk (0 : Rat) (0 : Rat) (0 : Rat))) (l.getD ((i + 1) % l.length) (T3.mk (0 : Rat) (0 : Rat) (0 : Rat)))]), v102, cs102, v106, cs106, h5) ?_ ?_ ⟨rfl, rfl, rfl, rfl, rfl, rfl, rfl, rfl, trivial⟩ rfl rfl
       ·
        refine ⟨(((((hmmb.trans hh1).trans hh2).trans hh3).trans hh4).trans hh5), ?_⟩
        replace rl102 := rl102.mono hh5
        refine ⟨rl102, rl106, ?_⟩
        exact ⟨⟨by omega, (by first | exact bk_ax hB hp1 hx1 | exact bk_a hB hp1 hx1 | exact bk_x hB hp1 hx1 | exact bk_n hB hp1 hx1)⟩, (by first | exact fr_ax hF hp2 hx1 | exact fr_a hF hp2 hx1 | exact fr_x hF hp2 hx1 | exact fr_n hF hp2 hx1)⟩
       dsimp only
       omega
      refine s_new (fun X => yO (ρ := (rpT (rpQ (12 * k + 3 * m + 9 * n + 62)))) (m := 1) (xs := [btw s (l.getD i (T3.mk (0 : Rat) (0 : Rat) (0 : Rat))) (l.getD ((i + 1) % l.length) (T3.mk (0 : Rat) (0 : Rat) (0 : Rat)))]) (ps' := [(0, _)]) Tryz.underlying27 yC rfl rfl rfl (zr_t (zr_q (by omega))) ⟨rfl, rfl, trivial⟩ (yQ rfl (Pc.arr (Pc.here _) (T3.mk (0 : Rat) (0 : Rat) (0 : Rat)) 0 (by decide)) r104 xM) (show 1 * 9 ≤ 16777216 from by decide) (show 0 < 9 from by decide)) rfl ?_
      intro v105 q105 hq105
      obtain ⟨cs105, rfl, rl105⟩ := hq105
      refine xI (A := [_]) (ρ := (rpT (rpQ (12 * k + 3 * m + 9 * n + 62)))) rl101 (xJ (by first | (simp; done) | grind)) ?_
      intro h4 hh4 rs_25
      replace rl72 := rl72.mono ((hh2.trans hh3).trans hh4)
      refine uA (A := [_, _, _, _]) (fun X => yD (ρ := (rpT (rpQ (12 * k + 3 * m + 9 * n + 62)))) (bytes := 168) Tryz.underlying27 yC rfl rfl rfl rfl (show 0 < 9 from by decide) rfl rfl rl72 rs_25 (by first | omega | (simp only [List.length_append, List.length_cons, List.length_nil, List.length_replicate, List.length_set]; omega)) (by first | omega | (simp only [List.length_append, List.length_cons, List.length_nil, List.length_replicate, List.length_set]; omega))) rfl (xA (by first | (simp; done) | grind)) ?_
      intro v102 q102 hq102
      obtain ⟨cs102, rfl, rl102⟩ := hq102
      refine w_c rfl ?_
      replace rl105 := rl105.mono hh4
      refine xI (A := []) (ρ := (rpT (rpQ (12 * k + 3 * m + 9 * n + 62)))) rl105 (xJ (by first | (simp; done) | grind)) ?_
      intro h5 hh5 rs_26
      replace rl81 := rl81.mono ((hh3.trans hh4).trans hh5)
      refine uA (A := [_, _]) (fun X => yD (ρ := (rpT (rpQ (12 * k + 3 * m + 9 * n + 62)))) (bytes := 168) Tryz.underlying27 yC rfl rfl rfl rfl (show 0 < 9 from by decide) rfl rfl rl81 rs_26 (by first | omega | (simp only [List.length_append, List.length_cons, List.length_nil, List.length_replicate, List.length_set]; omega)) (by first | omega | (simp only [List.length_append, List.length_cons, List.length_nil, List.length_replicate, List.length_set]; omega))) rfl (xA (by first | (simp; done) | grind)) ?_
      intro v106 q106 hq106
      obtain ⟨cs106, rfl, rl106⟩ := hq106
      refine w_q rfl (fun h' L' hh hR => zX rfl) rfl (w_q rfl (fun h' L' hh hR => zX rfl) rfl (yZ (yV (zB (zA (gv (zS (q := 1) rfl rfl (by omega) (by omega)) rfl (mv rfl rfl (zD (yX (A := []) (yX (A := []) ?_))))))))))
      refine yL ((i + 1), ((B ++ [(l.getD i (T3.mk (0 : Rat) (0 : Rat) (0 : Rat)))]) ++ [btw s (l.getD i (T3.mk (0 : Rat) (0 : Rat) (0 : Rat))) (l.getD ((i + 1) % l.length) (T3.mk (0 : Rat) (0 : Rat) (0 : Rat)))]), ((F ++ [(l.getD i (T3.mk (0 : Rat) (0 : Rat) (0 : Rat)))]) ++ [btw s (l.getD i (T3.mk (0 : Rat) (0 : Rat) (0 : Rat))) (l.getD ((i + 1) % l.length) (T3.mk (0 : Rat) (0 : Rat) (0 : Rat)))]), v102, cs102, v106, cs106, h5) ?_ ?_ ⟨rfl, rfl, rfl, rfl, rfl, rfl, rfl, rfl, trivial⟩ rfl rfl
      ·
       refine ⟨(((((hmmb.trans hh1).trans hh2).trans hh3).trans hh4).trans hh5), ?_⟩
       replace rl102 := rl102.mono hh5
       refine ⟨rl102, rl106, ?_⟩
       exact ⟨⟨by omega, (by first | exact bk_ax hB hp1 hx1 | exact bk_a hB hp1 hx1 | exact bk_x hB hp1 hx1 | exact bk_n hB hp1 hx1)⟩, (by first | exact fr_ax hF hp2 hx1 | exact fr_a hF hp2 hx1 | exact fr_x hF hp2 hx1 | exact fr_n hF hp2 hx1)⟩
      dsimp only
      omega
     refine s_new (fun X => yO (ρ := (rpT (rpQ (12 * k + 3 * m + 9 * n + 62)))) (m := 1) (xs := [btw s (l.getD i (T3.mk (0 : Rat) (0 : Rat) (0 : Rat))) (l.getD ((i + 1) % l.length) (T3.mk (0 : Rat) (0 : Rat) (0 : Rat)))]) (ps' := [(0, _)]) Tryz.underlying27 yC rfl rfl rfl (zr_t (zr_q (by omega))) ⟨rfl, rfl, trivial⟩ (yQ rfl (Pc.arr (Pc.here _) (T3.mk (0 : Rat) (0 : Rat) (0 : Rat)) 0 (by decide)) r104 xM) (show 1 * 9 ≤ 16777216 from by decide) (show 0 < 9 from by decide)) rfl ?_
     intro v105 q105 hq105
     obtain ⟨cs105, rfl, rl105⟩ := hq105
     refine s_new (fun X => yO (ρ := (rpT (rpQ (12 * k + 3 * m + 9 * n + 62)))) (m := 1) (xs := [btw s (l.getD i (T3.mk (0 : Rat) (0 : Rat) (0 : Rat))) (l.getD ((i + 1) % l.length) (T3.mk (0 : Rat) (0 : Rat) (0 : Rat)))]) (ps' := [(0, _)]) Tryz.underlying27 yC rfl rfl rfl (zr_t (zr_q (by omega))) ⟨rfl, rfl, trivial⟩ (yQ rfl (Pc.arr (Pc.here _) (T3.mk (0 : Rat) (0 : Rat) (0 : Rat)) 0 (by decide)) r100 xM) (show 1 * 9 ≤ 16777216 from by decide) (show 0 < 9 from by decide)) rfl ?_
     intro v101 q101 hq101
     obtain ⟨cs101, rfl, rl101⟩ := hq101
     refine xI (A := []) (ρ := (rpT (rpQ (12 * k + 3 * m + 9 * n + 62)))) rl101 (xJ (by first | (simp; done) | grind)) ?_
     intro h4 hh4 rs_27
     replace rl72 := rl72.mono ((hh2.trans hh3).trans hh4)
     refine uA (A := [_, _, _, _]) (fun X => yD (ρ := (rpT (rpQ (12 * k + 3 * m + 9 * n + 62)))) (bytes := 168) Tryz.underlying27 yC rfl rfl rfl rfl (show 0 < 9 from by decide) rfl rfl rl72 rs_27 (by first | omega | (simp only [List.length_append, List.length_cons, List.length_nil, List.length_replicate, List.length_set]; omega)) (by first | omega | (simp only [List.length_append, List.length_cons, List.length_nil, List.length_replicate, List.length_set]; omega))) rfl (xA (by first | (simp; done) | grind)) ?_
     intro v102 q102 hq102
     obtain ⟨cs102, rfl, rl102⟩ := hq102
     refine w_c rfl ?_
     replace rl105 := rl105.mono hh4
     refine xI (A := []) (ρ := (rpT (rpQ (12 * k + 3 * m + 9 * n + 62)))) rl105 (xJ (by first | (simp; done) | grind)) ?_
     intro h5 hh5 rs_28
     replace rl81 := rl81.mono ((hh3.trans hh4).trans hh5)
     refine uA (A := [_, _]) (fun X => yD (ρ := (rpT (rpQ (12 * k + 3 * m + 9 * n + 62)))) (bytes := 168) Tryz.underlying27 yC rfl rfl rfl rfl (show 0 < 9 from by decide) rfl rfl rl81 rs_28 (by first | omega | (simp only [List.length_append, List.length_cons, List.length_nil, List.length_replicate, List.length_set]; omega)) (by first | omega | (simp only [List.length_append, List.length_cons, List.length_nil, List.length_replicate, List.length_set]; omega))) rfl (xA (by first | (simp; done) | grind)) ?_
     intro v106 q106 hq106
     obtain ⟨cs106, rfl, rl106⟩ := hq106
     refine w_q rfl (fun h' L' hh hR => zX rfl) rfl (w_q rfl (fun h' L' hh hR => zX rfl) rfl (yZ (yV (zB (zA (gv (zS (q := 1) rfl rfl (by omega) (by omega)) rfl (mv rfl rfl (zD (yX (A := []) (yX (A := []) ?_))))))))))
     refine yL ((i + 1), ((B ++ [(l.getD i (T3.mk (0 : Rat) (0 : Rat) (0 : Rat)))]) ++ [btw s (l.getD i (T3.mk (0 : Rat) (0 : Rat) (0 : Rat))) (l.getD ((i + 1) % l.length) (T3.mk (0 : Rat) (0 : Rat) (0 : Rat)))]), ((F ++ [(l.getD i (T3.mk (0 : Rat) (0 : Rat) (0 : Rat)))]) ++ [btw s (l.getD i (T3.mk (0 : Rat) (0 : Rat) (0 : Rat))) (l.getD ((i + 1) % l.length) (T3.mk (0 : Rat) (0 : Rat) (0 : Rat)))]), v102, cs102, v106, cs106, h5) ?_ ?_ ⟨rfl, rfl, rfl, rfl, rfl, rfl, rfl, rfl, trivial⟩ rfl rfl
     ·
      refine ⟨(((((hmmb.trans hh1).trans hh2).trans hh3).trans hh4).trans hh5), ?_⟩
      replace rl102 := rl102.mono hh5
      refine ⟨rl102, rl106, ?_⟩
      exact ⟨⟨by omega, (by first | exact bk_ax hB hp1 hx1 | exact bk_a hB hp1 hx1 | exact bk_x hB hp1 hx1 | exact bk_n hB hp1 hx1)⟩, (by first | exact fr_ax hF hp2 hx1 | exact fr_a hF hp2 hx1 | exact fr_x hF hp2 hx1 | exact fr_n hF hp2 hx1)⟩
     dsimp only
     omega
    have hx1 : ¬ xP s l i := by have h := hc91; rw [hS i (by omega), hS ((i + 1) % l.length) (Nat.mod_lt _ (by omega))] at h; exact h
    refine zK (yV (zB (zA (gv (zS (q := 1) rfl rfl (by omega) (by omega)) rfl (mv rfl rfl (zD (yX (A := []) ?_)))))))
    refine yL ((i + 1), (B ++ [(l.getD i (T3.mk (0 : Rat) (0 : Rat) (0 : Rat)))]), (F ++ [(l.getD i (T3.mk (0 : Rat) (0 : Rat) (0 : Rat)))]), v72, cs72, v81, cs81, h2) ?_ ?_ ⟨rfl, rfl, rfl, rfl, rfl, rfl, rfl, rfl, trivial⟩ rfl rfl
    ·
     refine ⟨((hmmb.trans hh1).trans hh2), ?_⟩
     replace rl72 := rl72.mono hh2
     refine ⟨rl72, rl81, ?_⟩
     exact ⟨⟨by omega, (by first | exact bk_ax hB hp1 hx1 | exact bk_a hB hp1 hx1 | exact bk_x hB hp1 hx1 | exact bk_n hB hp1 hx1)⟩, (by first | exact fr_ax hF hp2 hx1 | exact fr_a hF hp2 hx1 | exact fr_x hF hp2 hx1 | exact fr_n hF hp2 hx1)⟩
    dsimp only
    omega
   have hp2 : ¬ 0 ≤ sdZ s (gp l i) := by rw [← hS i (by omega)]; exact hc77
   refine zK (zB (zC ?_))
   refine yK 10 _ [] [(0, .q), (1, .q), (2, .q), (3, .q), (4, .q), (5, .q), (6, .q), (7, .q), (8, .q), (9, .q)] xN (fun x hx => by cases hx) (by kernel_rfl) (fun x hx => by cases hx) (fun r hr => hr) (w_q rfl (fun h' L' hh hR => zG rfl) rfl (w_q rfl (fun h' L' hh hR => zG rfl) rfl (w_q rfl (fun h' L' hh hR => (vG i (hR _ (.tail _ (.tail _ (.tail _ (.head _))))) Tryz.underlying22 Tryz.sizeOf3 rfl rfl rfl (by first | omega | (simp only [List.length_append, List.length_cons, List.length_nil, List.length_replicate, List.length_set]; omega)) (show 0 < 1 from by decide)).cv (show _ = xH 1 s6_1 ((i * 1 + 0)) from congrArg (xH 1 s6_1) (by rfl))) rfl (w_qx (F := fun v_ => rpI.Is h1 v_ (SD.getD i (0 : Int))) rfl (ox_load_os ty3 (Pc.arr (Pc.here _) (0 : Int) i (by first | omega | (simp only [List.length_append, List.length_cons, List.length_nil, List.length_replicate, List.length_set]; omega))) rfl (show 0 < 1 from by decide) rfl rl_3 rfl) (mem1 (.tail _ (.tail _ (.tail _ (.head _))))) rfl ?_))))
   intro v85 r85
   obtain ⟨rfl, hl85, hu85⟩ := of_i r85
   refine w_q rfl (fun h' L' hh hR => zG rfl) rfl (w_q rfl (fun h' L' hh hR => zG rfl) rfl (w_q rfl (fun h' L' hh hR => (vG ((i + 1) % l.length) (hR _ (.tail _ (.tail _ (.tail _ (.head _))))) Tryz.underlying22 Tryz.sizeOf3 rfl rfl (by first | rfl | (push_cast; rfl)) (by rw [hi2]; exact Nat.mod_lt _ (by omega)) (show 0 < 1 from by decide)).cv (show _ = xH 1 s6_1 ((((i + 1) % l.length) * 1 + 0)) from congrArg (xH 1 s6_1) (by rfl))) rfl (w_qx (F := fun v_ => rpI.Is h1 v_ (SD.getD ((i + 1) % l.length) (0 : Int))) rfl (ox_load_os ty3 (Pc.arr (Pc.here _) (0 : Int) ((i + 1) % l.length) (by rw [hi2]; exact Nat.mod_lt _ (by omega))) rfl (show 0 < 1 from by decide) rfl rl_3 rfl) (mem1 (.tail _ (.tail _ (.tail _ (.head _))))) rfl ?_)))
   intro v89 r89
   obtain ⟨rfl, hl89, hu89⟩ := of_i r89
   refine w_q rfl (fun h' L' hh hR => ov_mul_i rfl rfl (by rw [hd1, hd2]; have := mul_range hr1 hr2; omega) (by rw [hd1, hd2]; have := mul_range hr1 hr2; omega)) rfl (w_q rfl (fun h' L' hh hR => zW (q := 0) rfl rfl) rfl (yZ (zJ (e' := [(0, _), (3, _), (5, _), (6, _), (52, _), (53, _), (54, _), (12, _), (13, _), (4, _), (91, _)]) ⟨rfl, rfl, rfl, rfl, rfl, rfl, rfl, rfl, rfl, rfl, rfl, trivial⟩ (zB ?_))))
   refine zN rfl (fun hc91 => ?_) (fun hc91 => ?_)
   ·
    have hx1 : xP s l i := by have h := hc91; rw [hS i (by omega), hS ((i + 1) % l.length) (Nat.mod_lt _ (by omega))] at h; exact h
    refine zC ?_
    refine yK 8 _ [(7, (14, 32, [.bool false, .slice none 0 0, .slice none 0 0, .bool false, .slice none 0 0, .slice none 0 0, .bool false, .slice none 0 0, .slice none 0 0]))] [(0, .q), (1, .q), (2, .q), (3, .q), (4, .q), (5, .q), (6, .c), (7, .a), (8, .t)] xN (AlOk.cons rfl (zero_run yC rfl rfl) AlOk.nil) (by kernel_rfl) (hae_cons rfl rfl hae_nil) (fun r hr => hr) ?_
    replace rb3 := rb3.mono ((hmma.trans hmmb).trans hh1)
    refine w_qx (F := fun v_ => (rpP (rpT (rpQ n)) (rpQ m)).Is h1 v_ s) rfl (zE ty34 (Pc.here _) rfl rfl rb3 rfl) (mem1 (.tail _ (.tail _ (.tail _ (.tail _ (.head _)))))) rfl ?_
    intro v92 r92
    replace rb_17 := rb_17.mono hh1
    refine w_qx (F := fun v_ => (rpT (rpQ (k + 1))).Is h1 v_ (l.getD i (T3.mk (0 : Rat) (0 : Rat) (0 : Rat)))) rfl (zE ty32 (Pc.here _) rfl rfl rb_17 rfl) (mem1 (.head _)) rfl ?_
    intro v93 r93
    refine w_q rfl (fun h' L' hh hR => zG rfl) rfl (w_q rfl (fun h' L' hh hR => zG rfl) rfl ?_)
    replace rl := rl.mono hh1
    refine w_qx (F := fun v_ => AtP (rpT (rpQ k)) h1 v_ (l.getD ((i + 1) % l.length) (T3.mk (0 : Rat) (0 : Rat) (0 : Rat)))) rfl (ox_idx_s (T3.mk (0 : Rat) (0 : Rat) (0 : Rat)) ((i + 1) % l.length) Tryz.underlying27 ty32 rfl rfl rl (by first | rfl | (push_cast; rfl)) (by exact Nat.mod_lt _ (by omega)) (show 0 < 9 from by decide)) mem0 rfl ?_
    intro v96 r96
    refine w_qx (F := fun v_ => (rpT (rpQ k)).Is h1 v_ (l.getD ((i + 1) % l.length) (T3.mk (0 : Rat) (0 : Rat) (0 : Rat)))) rfl (wY ty32 rfl r96) mem0 rfl ?_
    intro v97 r97
    refine w_c rfl ?_
    refine yI (vs := [_, _, _]) Tryz.call84 ⟨rfl, rfl, rfl, trivial⟩ (fun w hs => o_cx_common hs r92 r93 (r97.le (Le.t (Le.q (l := k + 1) (by omega)))) (by omega) (by omega) (by omega)) rfl ?_
    intro v98 h2 hh2 r98
    change (rpT (rpQ (12 * (k + 1) + 3 * m + 9 * n + 50))).Is h2 v98 (btw s (l.getD i (T3.mk (0 : Rat) (0 : Rat) (0 : Rat))) (l.getD ((i + 1) % l.length) (T3.mk (0 : Rat) (0 : Rat) (0 : Rat)))) at r98
    replace r98 := Rp.Is.le r98 (Le.t (Le.q (l := 12 * k + 3 * m + 9 * n + 62) (by omega)))
    refine w_a rfl (fun b14 => ?_)
    have rb14 : (rpT (rpQ 1)).R h2 [.bool false, .slice none 0 0, .slice none 0 0, .bool false, .slice none 0 0, .slice none 0 0, .bool false, .slice none 0 0, .slice none 0 0] (T3.mk (0 : Rat) (0 : Rat) (0 : Rat)) := (zr_t (zr_q (by decide)))
    have rw_29 := (Le.t (Le.q (l := 12 * k + 3 * m + 9 * n + 62) (by omega))).R rb14
    refine wB (A := []) (F := fun c_ => (rpT (rpQ (12 * k + 3 * m + 9 * n + 62))).R h2 c_ (btw s (l.getD i (T3.mk (0 : Rat) (0 : Rat) (0 : Rat))) (l.getD ((i + 1) % l.length) (T3.mk (0 : Rat) (0 : Rat) (0 : Rat))))) rfl (yJ Tryz.sizeOf32 (Pc.here _) rfl rfl rfl rw_29 r98 rfl) ?_
    intro cs_30 rb_31
    refine yZ (zJ (e' := [(0, _), (3, _), (5, _), (6, _), (52, _), (53, _), (54, _), (4, _), (14, _)]) ⟨rfl, rfl, rfl, rfl, rfl, rfl, rfl, rfl, rfl, trivial⟩ (zB ?_))
    refine yK 10 [.var b14 32 cs_30, .var b12 32 cs_16, .gs 3 1 s6_1 SD.length cs_2, .var b3 34 cs3] [] [(0, .q), (1, .q), (4, .q), (5, .q), (2, .d 3 6), (7, .c), (8, .q), (9, .q)] xN (fun x hx => by cases hx) (by kernel_rfl) (fun x hx => by cases hx) (by intro r hr; simp only [List.mem_cons, List.mem_append, List.not_mem_nil, or_false] at hr ⊢ <;> grind) (w_q rfl (fun h' L' hh hR => zG rfl) rfl (w_qx (F := fun v_ => (rpT (rpQ (12 * k + 3 * m + 9 * n + 62))).Is h2 v_ (btw s (l.getD i (T3.mk (0 : Rat) (0 : Rat) (0 : Rat))) (l.getD ((i + 1) % l.length) (T3.mk (0 : Rat) (0 : Rat) (0 : Rat))))) rfl (zE ty32 (Pc.here _) rfl rfl rb_31 rfl) (mem1 (.head _)) rfl ?_))
    intro v100 r100
    refine w_q rfl (fun h' L' hh hR => zG rfl) rfl (w_qx (F := fun v_ => (rpT (rpQ (12 * k + 3 * m + 9 * n + 62))).Is h2 v_ (btw s (l.getD i (T3.mk (0 : Rat) (0 : Rat) (0 : Rat))) (l.getD ((i + 1) % l.length) (T3.mk (0 : Rat) (0 : Rat) (0 : Rat))))) rfl (zE ty32 (Pc.here _) rfl rfl rb_31 rfl) (mem1 (.head _)) rfl ?_)
    intro v104 r104
    refine w_d rfl rfl rfl ?_ ?_
    ·
     refine s_new (fun X => yO (ρ := (rpT (rpQ (12 * k + 3 * m + 9 * n + 62)))) (m := 1) (xs := [btw s (l.getD i (T3.mk (0 : Rat) (0 : Rat) (0 : Rat))) (l.getD ((i + 1) % l.length) (T3.mk (0 : Rat) (0 : Rat) (0 : Rat)))]) (ps' := [(0, _)]) Tryz.underlying27 yC rfl rfl rfl (zr_t (zr_q (by omega))) ⟨rfl, rfl, trivial⟩ (yQ rfl (Pc.arr (Pc.here _) (T3.mk (0 : Rat) (0 : Rat) (0 : Rat)) 0 (by decide)) r100 xM) (show 1 * 9 ≤ 16777216 from by decide) (show 0 < 9 from by decide)) rfl ?_
     intro v101 q101 hq101
     obtain ⟨cs101, rfl, rl101⟩ := hq101
     refine ⟨?_, ?_⟩
     ·
      refine xI (A := []) (ρ := (rpT (rpQ (12 * k + 3 * m + 9 * n + 62)))) rl101 (xJ (by first | (simp; done) | grind)) ?_
      intro h3 hh3 rs_32
      replace rl72 := rl72.mono (hh2.trans hh3)
      refine uA (A := [_, _, _]) (fun X => yD (ρ := (rpT (rpQ (12 * k + 3 * m + 9 * n + 62)))) (bytes := 168) Tryz.underlying27 yC rfl rfl rfl rfl (show 0 < 9 from by decide) rfl rfl rl72 rs_32 (by first | omega | (simp only [List.length_append, List.length_cons, List.length_nil, List.length_replicate, List.length_set]; omega)) (by first | omega | (simp only [List.length_append, List.length_cons, List.length_nil, List.length_replicate, List.length_set]; omega))) rfl (xA (by first | (simp; done) | grind)) ?_
      intro v102 q102 hq102
      obtain ⟨cs102, rfl, rl102⟩ := hq102
      replace r104 := r104.mono hh3
      refine s_new (fun X => yO (ρ := (rpT (rpQ (12 * k + 3 * m + 9 * n + 62)))) (m := 1) (xs := [btw s (l.getD i (T3.mk (0 : Rat) (0 : Rat) (0 : Rat))) (l.getD ((i + 1) % l.length) (T3.mk (0 : Rat) (0 : Rat) (0 : Rat)))]) (ps' := [(0, _)]) Tryz.underlying27 yC rfl rfl rfl (zr_t (zr_q (by omega))) ⟨rfl, rfl, trivial⟩ (yQ rfl (Pc.arr (Pc.here _) (T3.mk (0 : Rat) (0 : Rat) (0 : Rat)) 0 (by decide)) r104 xM) (show 1 * 9 ≤ 16777216 from by decide) (show 0 < 9 from by decide)) rfl ?_
      intro v105 q105 hq105
      obtain ⟨cs105, rfl, rl105⟩ := hq105
      refine w_c rfl (xI (A := []) (ρ := (rpT (rpQ (12 * k + 3 * m + 9 * n + 62)))) rl105 (xJ (by first | (simp; done) | grind)) ?_)
      intro h4 hh4 rs_33
      replace rl_15 := rl_15.mono (((hh1.trans hh2).trans hh3).trans hh4)
      refine uA (A := [_, _]) (fun X => yD (ρ := (rpT (rpQ (12 * k + 3 * m + 9 * n + 62)))) (bytes := 168) Tryz.underlying27 yC rfl rfl rfl rfl (show 0 < 9 from by decide) rfl rfl rl_15 rs_33 (by first | omega | (simp only [List.length_append, List.length_cons, List.length_nil, List.length_replicate, List.length_set]; omega)) (by first | omega | (simp only [List.length_append, List.length_cons, List.length_nil, List.length_replicate, List.length_set]; omega))) rfl (xA (by first | (simp; done) | grind)) ?_
      intro v106 q106 hq106
      obtain ⟨cs106, rfl, rl106⟩ := hq106
      refine w_q rfl (fun h' L' hh hR => zX rfl) rfl (w_q rfl (fun h' L' hh hR => zX rfl) rfl (yZ (yV (zB (zA (gv (zS (q := 1) rfl rfl (by omega) (by omega)) rfl (mv rfl rfl (zD (yX (A := []) (yX (A := []) ?_))))))))))
      refine yL ((i + 1), ((B ++ [(l.getD i (T3.mk (0 : Rat) (0 : Rat) (0 : Rat)))]) ++ [btw s (l.getD i (T3.mk (0 : Rat) (0 : Rat) (0 : Rat))) (l.getD ((i + 1) % l.length) (T3.mk (0 : Rat) (0 : Rat) (0 : Rat)))]), (F ++ [btw s (l.getD i (T3.mk (0 : Rat) (0 : Rat) (0 : Rat))) (l.getD ((i + 1) % l.length) (T3.mk (0 : Rat) (0 : Rat) (0 : Rat)))]), v102, cs102, v106, cs106, h4) ?_ ?_ ⟨rfl, rfl, rfl, rfl, rfl, rfl, rfl, rfl, trivial⟩ rfl rfl
      ·
       refine ⟨((((hmmb.trans hh1).trans hh2).trans hh3).trans hh4), ?_⟩
       replace rl102 := rl102.mono hh4
       refine ⟨rl102, rl106, ?_⟩
       exact ⟨⟨by omega, (by first | exact bk_ax hB hp1 hx1 | exact bk_a hB hp1 hx1 | exact bk_x hB hp1 hx1 | exact bk_n hB hp1 hx1)⟩, (by first | exact fr_ax hF hp2 hx1 | exact fr_a hF hp2 hx1 | exact fr_x hF hp2 hx1 | exact fr_n hF hp2 hx1)⟩
      dsimp only
      omega
     refine s_new (fun X => yO (ρ := (rpT (rpQ (12 * k + 3 * m + 9 * n + 62)))) (m := 1) (xs := [btw s (l.getD i (T3.mk (0 : Rat) (0 : Rat) (0 : Rat))) (l.getD ((i + 1) % l.length) (T3.mk (0 : Rat) (0 : Rat) (0 : Rat)))]) (ps' := [(0, _)]) Tryz.underlying27 yC rfl rfl rfl (zr_t (zr_q (by omega))) ⟨rfl, rfl, trivial⟩ (yQ rfl (Pc.arr (Pc.here _) (T3.mk (0 : Rat) (0 : Rat) (0 : Rat)) 0 (by decide)) r104 xM) (show 1 * 9 ≤ 16777216 from by decide) (show 0 < 9 from by decide)) rfl ?_
     intro v105 q105 hq105
     obtain ⟨cs105, rfl, rl105⟩ := hq105
     refine xI (A := [_]) (ρ := (rpT (rpQ (12 * k + 3 * m + 9 * n + 62)))) rl101 (xJ (by first | (simp; done) | grind)) ?_
     intro h3 hh3 rs_34
     replace rl72 := rl72.mono (hh2.trans hh3)
     refine uA (A := [_, _, _, _]) (fun X => yD (ρ := (rpT (rpQ (12 * k + 3 * m + 9 * n + 62)))) (bytes := 168) Tryz.underlying27 yC rfl rfl rfl rfl (show 0 < 9 from by decide) rfl rfl rl72 rs_34 (by first | omega | (simp only [List.length_append, List.length_cons, List.length_nil, List.length_replicate, List.length_set]; omega)) (by first | omega | (simp only [List.length_append, List.length_cons, List.length_nil, List.length_replicate, List.length_set]; omega))) rfl (xA (by first | (simp; done) | grind)) ?_
     intro v102 q102 hq102
     obtain ⟨cs102, rfl, rl102⟩ := hq102
     refine w_c rfl ?_
     replace rl105 := rl105.mono hh3
     refine xI (A := []) (ρ := (rpT (rpQ (12 * k + 3 * m + 9 * n + 62)))) rl105 (xJ (by first | (simp; done) | grind)) ?_
     intro h4 hh4 rs_35
     replace rl_15 := rl_15.mono (((hh1.trans hh2).trans hh3).trans hh4)
     refine uA (A := [_, _]) (fun X => yD (ρ := (rpT (rpQ (12 * k + 3 * m + 9 * n + 62)))) (bytes := 168) Tryz.underlying27 yC rfl rfl rfl rfl (show 0 < 9 from by decide) rfl rfl rl_15 rs_35 (by first | omega | (simp only [List.length_append, List.length_cons, List.length_nil, List.length_replicate, List.length_set]; omega)) (by first | omega | (simp only [List.length_append, List.length_cons, List.length_nil, List.length_replicate, List.length_set]; omega))) rfl (xA (by first | (simp; done) | grind)) ?_
     intro v106 q106 hq106
     obtain ⟨cs106, rfl, rl106⟩ := hq106
     refine w_q rfl (fun h' L' hh hR => zX rfl) rfl (w_q rfl (fun h' L' hh hR => zX rfl) rfl (yZ (yV (zB (zA (gv (zS (q := 1) rfl rfl (by omega) (by omega)) rfl (mv rfl rfl (zD (yX (A := []) (yX (A := []) ?_))))))))))
     refine yL ((i + 1), ((B ++ [(l.getD i (T3.mk (0 : Rat) (0 : Rat) (0 : Rat)))]) ++ [btw s (l.getD i (T3.mk (0 : Rat) (0 : Rat) (0 : Rat))) (l.getD ((i + 1) % l.length) (T3.mk (0 : Rat) (0 : Rat) (0 : Rat)))]), (F ++ [btw s (l.getD i (T3.mk (0 : Rat) (0 : Rat) (0 : Rat))) (l.getD ((i + 1) % l.length) (T3.mk (0 : Rat) (0 : Rat) (0 : Rat)))]), v102, cs102, v106, cs106, h4) ?_ ?_ ⟨rfl, rfl, rfl, rfl, rfl, rfl, rfl, rfl, trivial⟩ rfl rfl
     ·
      refine ⟨((((hmmb.trans hh1).trans hh2).trans hh3).trans hh4), ?_⟩
      replace rl102 := rl102.mono hh4
      refine ⟨rl102, rl106, ?_⟩
      exact ⟨⟨by omega, (by first | exact bk_ax hB hp1 hx1 | exact bk_a hB hp1 hx1 | exact bk_x hB hp1 hx1 | exact bk_n hB hp1 hx1)⟩, (by first | exact fr_ax hF hp2 hx1 | exact fr_a hF hp2 hx1 | exact fr_x hF hp2 hx1 | exact fr_n hF hp2 hx1)⟩
     dsimp only
     omega
    refine s_new (fun X => yO (ρ := (rpT (rpQ (12 * k + 3 * m + 9 * n + 62)))) (m := 1) (xs := [btw s (l.getD i (T3.mk (0 : Rat) (0 : Rat) (0 : Rat))) (l.getD ((i + 1) % l.length) (T3.mk (0 : Rat) (0 : Rat) (0 : Rat)))]) (ps' := [(0, _)]) Tryz.underlying27 yC rfl rfl rfl (zr_t (zr_q (by omega))) ⟨rfl, rfl, trivial⟩ (yQ rfl (Pc.arr (Pc.here _) (T3.mk (0 : Rat) (0 : Rat) (0 : Rat)) 0 (by decide)) r104 xM) (show 1 * 9 ≤ 16777216 from by decide) (show 0 < 9 from by decide)) rfl ?_
    intro v105 q105 hq105
    obtain ⟨cs105, rfl, rl105⟩ := hq105
    refine s_new (fun X => yO (ρ := (rpT (rpQ (12 * k + 3 * m + 9 * n + 62)))) (m := 1) (xs := [btw s (l.getD i (T3.mk (0 : Rat) (0 : Rat) (0 : Rat))) (l.getD ((i + 1) % l.length) (T3.mk (0 : Rat) (0 : Rat) (0 : Rat)))]) (ps' := [(0, _)]) Tryz.underlying27 yC rfl rfl rfl (zr_t (zr_q (by omega))) ⟨rfl, rfl, trivial⟩ (yQ rfl (Pc.arr (Pc.here _) (T3.mk (0 : Rat) (0 : Rat) (0 : Rat)) 0 (by decide)) r100 xM) (show 1 * 9 ≤ 16777216 from by decide) (show 0 < 9 from by decide)) rfl ?_
    intro v101 q101 hq101
    obtain ⟨cs101, rfl, rl101⟩ := hq101
    refine xI (A := []) (ρ := (rpT (rpQ (12 * k + 3 * m + 9 * n + 62)))) rl101 (xJ (by first | (simp; done) | grind)) ?_
    intro h3 hh3 rs_36
    replace rl72 := rl72.mono (hh2.trans hh3)
    refine uA (A := [_, _, _, _]) (fun X => yD (ρ := (rpT (rpQ (12 * k + 3 * m + 9 * n + 62)))) (bytes := 168) Tryz.underlying27 yC rfl rfl rfl rfl (show 0 < 9 from by decide) rfl rfl rl72 rs_36 (by first | omega | (simp only [List.length_append, List.length_cons, List.length_nil, List.length_replicate, List.length_set]; omega)) (by first | omega | (simp only [List.length_append, List.length_cons, List.length_nil, List.length_replicate, List.length_set]; omega))) rfl (xA (by first | (simp; done) | grind)) ?_
    intro v102 q102 hq102
    obtain ⟨cs102, rfl, rl102⟩ := hq102
    refine w_c rfl ?_
    replace rl105 := rl105.mono hh3
    refine xI (A := []) (ρ := (rpT (rpQ (12 * k + 3 * m + 9 * n + 62)))) rl105 (xJ (by first | (simp; done) | grind)) ?_
    intro h4 hh4 rs_37
    replace rl_15 := rl_15.mono (((hh1.trans hh2).trans hh3).trans hh4)
    refine uA (A := [_, _]) (fun X => yD (ρ := (rpT (rpQ (12 * k + 3 * m + 9 * n + 62)))) (bytes := 168) Tryz.underlying27 yC rfl rfl rfl rfl (show 0 < 9 from by decide) rfl rfl rl_15 rs_37 (by first | omega | (simp only [List.length_append, List.length_cons, List.length_nil, List.length_replicate, List.length_set]; omega)) (by first | omega | (simp only [List.length_append, List.length_cons, List.length_nil, List.length_replicate, List.length_set]; omega))) rfl (xA (by first | (simp; done) | grind)) ?_
    intro v106 q106 hq106
    obtain ⟨cs106, rfl, rl106⟩ := hq106
    refine w_q rfl (fun h' L' hh hR => zX rfl) rfl (w_q rfl (fun h' L' hh hR => zX rfl) rfl (yZ (yV (zB (zA (gv (zS (q := 1) rfl rfl (by omega) (by omega)) rfl (mv rfl rfl (zD (yX (A := []) (yX (A := []) ?_))))))))))
    refine yL ((i + 1), ((B ++ [(l.getD i (T3.mk (0 : Rat) (0 : Rat) (0 : Rat)))]) ++ [btw s (l.getD i (T3.mk (0 : Rat) (0 : Rat) (0 : Rat))) (l.getD ((i + 1) % l.length) (T3.mk (0 : Rat) (0 : Rat) (0 : Rat)))]), (F ++ [btw s (l.getD i (T3.mk (0 : Rat) (0 : Rat) (0 : Rat))) (l.getD ((i + 1) % l.length) (T3.mk (0 : Rat) (0 : Rat) (0 : Rat)))]), v102, cs102, v106, cs106, h4) ?_ ?_ ⟨rfl, rfl, rfl, rfl, rfl, rfl, rfl, rfl, trivial⟩ rfl rfl
    ·
     refine ⟨((((hmmb.trans hh1).trans hh2).trans hh3).trans hh4), ?_⟩
     replace rl102 := rl102.mono hh4
     refine ⟨rl102, rl106, ?_⟩
     exact ⟨⟨by omega, (by first | exact bk_ax hB hp1 hx1 | exact bk_a hB hp1 hx1 | exact bk_x hB hp1 hx1 | exact bk_n hB hp1 hx1)⟩, (by first | exact fr_ax hF hp2 hx1 | exact fr_a hF hp2 hx1 | exact fr_x hF hp2 hx1 | exact fr_n hF hp2 hx1)⟩
    dsimp only
    omega
   have hx1 : ¬ xP s l i := by have h := hc91; rw [hS i (by omega), hS ((i + 1) % l.length) (Nat.mod_lt _ (by omega))] at h; exact h
   refine zK (yV (zB (zA (gv (zS (q := 1) rfl rfl (by omega) (by omega)) rfl (mv rfl rfl (zD (yX (A := []) ?_)))))))
   refine yL ((i + 1), (B ++ [(l.getD i (T3.mk (0 : Rat) (0 : Rat) (0 : Rat)))]), F, v72, cs72, s5_13, cs_14, h1) ?_ ?_ ⟨rfl, rfl, rfl, rfl, rfl, rfl, rfl, rfl, trivial⟩ rfl rfl
   ·
    refine ⟨(hmmb.trans hh1), ?_⟩
    replace rl_15 := rl_15.mono hh1
    refine ⟨rl72, rl_15, ?_⟩
    exact ⟨⟨by omega, (by first | exact bk_ax hB hp1 hx1 | exact bk_a hB hp1 hx1 | exact bk_x hB hp1 hx1 | exact bk_n hB hp1 hx1)⟩, (by first | exact fr_ax hF hp2 hx1 | exact fr_a hF hp2 hx1 | exact fr_x hF hp2 hx1 | exact fr_n hF hp2 hx1)⟩
   dsimp only
   omega
  have hp1 : ¬ sdZ s (gp l i) ≤ 0 := by rw [← hS i (by omega)]; exact hc68
  refine zK (zB (zC (zC (zA (mv rfl rfl (mv rfl rfl (gv ((vG i (.tail _ (.tail _ (.tail _ (.head _)))) Tryz.underlying22 Tryz.sizeOf3 rfl rfl rfl (by first | omega | (simp only [List.length_append, List.length_cons, List.length_nil, List.length_replicate, List.length_set]; omega)) (show 0 < 1 from by decide)).cv (show _ = xH 1 s6_1 ((i * 1 + 0)) from congrArg (xH 1 s6_1) (by rfl))) rfl (gl_x (F := fun v_ => rpI.Is mb v_ (SD.getD i (0 : Int))) (ox_load_os ty3 (Pc.arr (Pc.here _) (0 : Int) i (by first | omega | (simp only [List.length_append, List.length_cons, List.length_nil, List.length_replicate, List.length_set]; omega))) rfl (show 0 < 1 from by decide) rfl rl_3 rfl) (mem1 (.tail _ (.tail _ (.tail _ (.head _))))) rfl ?_))))))))
  intro v76 r76
  obtain ⟨rfl, hl76, hu76⟩ := of_i r76
  refine gv (ov_geq_i (q := 0) rfl rfl) rfl (zD (zB ?_))
  refine zN rfl (fun hc77 => ?_) (fun hc77 => ?_)
  ·
   have hp2 : 0 ≤ sdZ s (gp l i) := by rw [← hS i (by omega)]; exact hc77
   refine zA (mv rfl rfl (gl_x (F := fun v_ => (rpT (rpQ (k + 1))).Is mb v_ (l.getD i (T3.mk (0 : Rat) (0 : Rat) (0 : Rat)))) (zE ty32 (Pc.here _) rfl rfl rb_17 rfl) (mem1 (.head _)) rfl ?_))
   intro v79 r79
   refine zL (yO (ρ := (rpT (rpQ (k + 1)))) (m := 1) (xs := [(l.getD i (T3.mk (0 : Rat) (0 : Rat) (0 : Rat)))]) (ps' := [(0, _)]) Tryz.underlying27 yC rfl rfl rfl (zr_t (zr_q (by omega))) ⟨rfl, rfl, trivial⟩ (yQ rfl (Pc.arr (Pc.here _) (T3.mk (0 : Rat) (0 : Rat) (0 : Rat)) 0 (by decide)) r79 xM) (show 1 * 9 ≤ 16777216 from by decide) (show 0 < 9 from by decide)) rfl rfl rfl ?_
   intro v80 q80 hq80
   obtain ⟨cs80, rfl, rl80⟩ := hq80
   refine vQ (A := []) (ρ := (rpT (rpQ (k + 1)))) rl80 ?_
   intro h1 hh1 rs_38
   replace rl_15 := rl_15.mono hh1
   refine vO (A := [_]) (yD (ρ := (rpT (rpQ (12 * k + 3 * m + 9 * n + 62)))) (bytes := 168) Tryz.underlying27 yC rfl rfl rfl rfl (show 0 < 9 from by decide) rfl rfl rl_15 (rs_38.le (Le.s (Le.t (Le.q (l := 12 * k + 3 * m + 9 * n + 62) (by omega))))) (by first | omega | (simp only [List.length_append, List.length_cons, List.length_nil, List.length_replicate, List.length_set]; omega)) (by first | omega | (simp only [List.length_append, List.length_cons, List.length_nil, List.length_replicate, List.length_set]; omega))) rfl rfl rfl ?_
   intro v81 q81 hq81
   obtain ⟨cs81, rfl, rl81⟩ := hq81
   refine asg rfl rfl (zD (zB (zC ?_)))
   refine yK 10 _ [] [(0, .q), (1, .q), (2, .q), (3, .q), (4, .q), (5, .q), (6, .q), (7, .q), (8, .q), (9, .q)] xN (fun x hx => by cases hx) (by kernel_rfl) (fun x hx => by cases hx) (fun r hr => hr) (w_q rfl (fun h' L' hh hR => zG rfl) rfl (w_q rfl (fun h' L' hh hR => zG rfl) rfl (w_q rfl (fun h' L' hh hR => (vG i (hR _ (.tail _ (.tail _ (.tail _ (.head _))))) Tryz.underlying22 Tryz.sizeOf3 rfl rfl rfl (by first | omega | (simp only [List.length_append, List.length_cons, List.length_nil, List.length_replicate, List.length_set]; omega)) (show 0 < 1 from by decide)).cv (show _ = xH 1 s6_1 ((i * 1 + 0)) from congrArg (xH 1 s6_1) (by rfl))) rfl ?_)))
   replace rl_3 := rl_3.mono hh1
   refine w_qx (F := fun v_ => rpI.Is h1 v_ (SD.getD i (0 : Int))) rfl (ox_load_os ty3 (Pc.arr (Pc.here _) (0 : Int) i (by first | omega | (simp only [List.length_append, List.length_cons, List.length_nil, List.length_replicate, List.length_set]; omega))) rfl (show 0 < 1 from by decide) rfl rl_3 rfl) (mem1 (.tail _ (.tail _ (.tail _ (.head _))))) rfl ?_
   intro v85 r85
   obtain ⟨rfl, hl85, hu85⟩ := of_i r85
   refine w_q rfl (fun h' L' hh hR => zG rfl) rfl (w_q rfl (fun h' L' hh hR => zG rfl) rfl (w_q rfl (fun h' L' hh hR => (vG ((i + 1) % l.length) (hR _ (.tail _ (.tail _ (.tail _ (.head _))))) Tryz.underlying22 Tryz.sizeOf3 rfl rfl (by first | rfl | (push_cast; rfl)) (by rw [hi2]; exact Nat.mod_lt _ (by omega)) (show 0 < 1 from by decide)).cv (show _ = xH 1 s6_1 ((((i + 1) % l.length) * 1 + 0)) from congrArg (xH 1 s6_1) (by rfl))) rfl (w_qx (F := fun v_ => rpI.Is h1 v_ (SD.getD ((i + 1) % l.length) (0 : Int))) rfl (ox_load_os ty3 (Pc.arr (Pc.here _) (0 : Int) ((i + 1) % l.length) (by rw [hi2]; exact Nat.mod_lt _ (by omega))) rfl (show 0 < 1 from by decide) rfl rl_3 rfl) (mem1 (.tail _ (.tail _ (.tail _ (.head _))))) rfl ?_)))
   intro v89 r89
   obtain ⟨rfl, hl89, hu89⟩ := of_i r89
   refine w_q rfl (fun h' L' hh hR => ov_mul_i rfl rfl (by rw [hd1, hd2]; have := mul_range hr1 hr2; omega) (by rw [hd1, hd2]; have := mul_range hr1 hr2; omega)) rfl (w_q rfl (fun h' L' hh hR => zW (q := 0) rfl rfl) rfl (yZ (zJ (e' := [(0, _), (3, _), (4, _), (6, _), (52, _), (53, _), (54, _), (12, _), (13, _), (5, _), (91, _)]) ⟨rfl, rfl, rfl, rfl, rfl, rfl, rfl, rfl, rfl, rfl, rfl, trivial⟩ (zB ?_))))
   refine zN rfl (fun hc91 => ?_) (fun hc91 => ?_)
   ·
    have hx1 : xP s l i := by have h := hc91; rw [hS i (by omega), hS ((i + 1) % l.length) (Nat.mod_lt _ (by omega))] at h; exact h
    refine zC ?_
    refine yK 8 _ [(7, (14, 32, [.bool false, .slice none 0 0, .slice none 0 0, .bool false, .slice none 0 0, .slice none 0 0, .bool false, .slice none 0 0, .slice none 0 0]))] [(0, .q), (1, .q), (2, .q), (3, .q), (4, .q), (5, .q), (6, .c), (7, .a), (8, .t)] xN (AlOk.cons rfl (zero_run yC rfl rfl) AlOk.nil) (by kernel_rfl) (hae_cons rfl rfl hae_nil) (fun r hr => hr) ?_
    replace rb3 := rb3.mono ((hmma.trans hmmb).trans hh1)
    refine w_qx (F := fun v_ => (rpP (rpT (rpQ n)) (rpQ m)).Is h1 v_ s) rfl (zE ty34 (Pc.here _) rfl rfl rb3 rfl) (mem1 (.tail _ (.tail _ (.tail _ (.tail _ (.head _)))))) rfl ?_
    intro v92 r92
    replace rb_17 := rb_17.mono hh1
    refine w_qx (F := fun v_ => (rpT (rpQ (k + 1))).Is h1 v_ (l.getD i (T3.mk (0 : Rat) (0 : Rat) (0 : Rat)))) rfl (zE ty32 (Pc.here _) rfl rfl rb_17 rfl) (mem1 (.head _)) rfl ?_
    intro v93 r93
    refine w_q rfl (fun h' L' hh hR => zG rfl) rfl (w_q rfl (fun h' L' hh hR => zG rfl) rfl ?_)
    replace rl := rl.mono hh1
    refine w_qx (F := fun v_ => AtP (rpT (rpQ k)) h1 v_ (l.getD ((i + 1) % l.length) (T3.mk (0 : Rat) (0 : Rat) (0 : Rat)))) rfl (ox_idx_s (T3.mk (0 : Rat) (0 : Rat) (0 : Rat)) ((i + 1) % l.length) Tryz.underlying27 ty32 rfl rfl rl (by first | rfl | (push_cast; rfl)) (by exact Nat.mod_lt _ (by omega)) (show 0 < 9 from by decide)) mem0 rfl ?_
    intro v96 r96
    refine w_qx (F := fun v_ => (rpT (rpQ k)).Is h1 v_ (l.getD ((i + 1) % l.length) (T3.mk (0 : Rat) (0 : Rat) (0 : Rat)))) rfl (wY ty32 rfl r96) mem0 rfl ?_
    intro v97 r97
    refine w_c rfl ?_
    refine yI (vs := [_, _, _]) Tryz.call84 ⟨rfl, rfl, rfl, trivial⟩ (fun w hs => o_cx_common hs r92 r93 (r97.le (Le.t (Le.q (l := k + 1) (by omega)))) (by omega) (by omega) (by omega)) rfl ?_
    intro v98 h2 hh2 r98
    change (rpT (rpQ (12 * (k + 1) + 3 * m + 9 * n + 50))).Is h2 v98 (btw s (l.getD i (T3.mk (0 : Rat) (0 : Rat) (0 : Rat))) (l.getD ((i + 1) % l.length) (T3.mk (0 : Rat) (0 : Rat) (0 : Rat)))) at r98
    replace r98 := Rp.Is.le r98 (Le.t (Le.q (l := 12 * k + 3 * m + 9 * n + 62) (by omega)))
    refine w_a rfl (fun b14 => ?_)
    have rb14 : (rpT (rpQ 1)).R h2 [.bool false, .slice none 0 0, .slice none 0 0, .bool false, .slice none 0 0, .slice none 0 0, .bool false, .slice none 0 0, .slice none 0 0] (T3.mk (0 : Rat) (0 : Rat) (0 : Rat)) := (zr_t (zr_q (by decide)))
    have rw_39 := (Le.t (Le.q (l := 12 * k + 3 * m + 9 * n + 62) (by omega))).R rb14
    refine wB (A := []) (F := fun c_ => (rpT (rpQ (12 * k + 3 * m + 9 * n + 62))).R h2 c_ (btw s (l.getD i (T3.mk (0 : Rat) (0 : Rat) (0 : Rat))) (l.getD ((i + 1) % l.length) (T3.mk (0 : Rat) (0 : Rat) (0 : Rat))))) rfl (yJ Tryz.sizeOf32 (Pc.here _) rfl rfl rfl rw_39 r98 rfl) ?_
    intro cs_40 rb_41
    refine yZ (zJ (e' := [(0, _), (3, _), (4, _), (6, _), (52, _), (53, _), (54, _), (5, _), (14, _)]) ⟨rfl, rfl, rfl, rfl, rfl, rfl, rfl, rfl, rfl, trivial⟩ (zB ?_))
    refine yK 10 [.var b14 32 cs_40, .var b12 32 cs_16, .gs 3 1 s6_1 SD.length cs_2, .var b3 34 cs3] [] [(0, .q), (1, .q), (4, .q), (5, .q), (2, .d 3 6), (7, .c), (8, .q), (9, .q)] xN (fun x hx => by cases hx) (by kernel_rfl) (fun x hx => by cases hx) (by intro r hr; simp only [List.mem_cons, List.mem_append, List.not_mem_nil, or_false] at hr ⊢ <;> grind) (w_q rfl (fun h' L' hh hR => zG rfl) rfl (w_qx (F := fun v_ => (rpT (rpQ (12 * k + 3 * m + 9 * n + 62))).Is h2 v_ (btw s (l.getD i (T3.mk (0 : Rat) (0 : Rat) (0 : Rat))) (l.getD ((i + 1) % l.length) (T3.mk (0 : Rat) (0 : Rat) (0 : Rat))))) rfl (zE ty32 (Pc.here _) rfl rfl rb_41 rfl) (mem1 (.head _)) rfl ?_))
    intro v100 r100
    refine w_q rfl (fun h' L' hh hR => zG rfl) rfl (w_qx (F := fun v_ => (rpT (rpQ (12 * k + 3 * m + 9 * n + 62))).Is h2 v_ (btw s (l.getD i (T3.mk (0 : Rat) (0 : Rat) (0 : Rat))) (l.getD ((i + 1) % l.length) (T3.mk (0 : Rat) (0 : Rat) (0 : Rat))))) rfl (zE ty32 (Pc.here _) rfl rfl rb_41 rfl) (mem1 (.head _)) rfl ?_)
    intro v104 r104
    refine w_d rfl rfl rfl ?_ ?_
    ·
     refine s_new (fun X => yO (ρ := (rpT (rpQ (12 * k + 3 * m + 9 * n + 62)))) (m := 1) (xs := [btw s (l.getD i (T3.mk (0 : Rat) (0 : Rat) (0 : Rat))) (l.getD ((i + 1) % l.length) (T3.mk (0 : Rat) (0 : Rat) (0 : Rat)))]) (ps' := [(0, _)]) Tryz.underlying27 yC rfl rfl rfl (zr_t (zr_q (by omega))) ⟨rfl, rfl, trivial⟩ (yQ rfl (Pc.arr (Pc.here _) (T3.mk (0 : Rat) (0 : Rat) (0 : Rat)) 0 (by decide)) r100 xM) (show 1 * 9 ≤ 16777216 from by decide) (show 0 < 9 from by decide)) rfl ?_
     intro v101 q101 hq101
     obtain ⟨cs101, rfl, rl101⟩ := hq101
     refine ⟨?_, ?_⟩
     ·
      refine xI (A := []) (ρ := (rpT (rpQ (12 * k + 3 * m + 9 * n + 62)))) rl101 (xJ (by first | (simp; done) | grind)) ?_
      intro h3 hh3 rs_42
      replace rl_12 := rl_12.mono ((hh1.trans hh2).trans hh3)
      refine uA (A := [_, _, _]) (fun X => yD (ρ := (rpT (rpQ (12 * k + 3 * m + 9 * n + 62)))) (bytes := 168) Tryz.underlying27 yC rfl rfl rfl rfl (show 0 < 9 from by decide) rfl rfl rl_12 rs_42 (by first | omega | (simp only [List.length_append, List.length_cons, List.length_nil, List.length_replicate, List.length_set]; omega)) (by first | omega | (simp only [List.length_append, List.length_cons, List.length_nil, List.length_replicate, List.length_set]; omega))) rfl (xA (by first | (simp; done) | grind)) ?_
      intro v102 q102 hq102
      obtain ⟨cs102, rfl, rl102⟩ := hq102
      replace r104 := r104.mono hh3
      refine s_new (fun X => yO (ρ := (rpT (rpQ (12 * k + 3 * m + 9 * n + 62)))) (m := 1) (xs := [btw s (l.getD i (T3.mk (0 : Rat) (0 : Rat) (0 : Rat))) (l.getD ((i + 1) % l.length) (T3.mk (0 : Rat) (0 : Rat) (0 : Rat)))]) (ps' := [(0, _)]) Tryz.underlying27 yC rfl rfl rfl (zr_t (zr_q (by omega))) ⟨rfl, rfl, trivial⟩ (yQ rfl (Pc.arr (Pc.here _) (T3.mk (0 : Rat) (0 : Rat) (0 : Rat)) 0 (by decide)) r104 xM) (show 1 * 9 ≤ 16777216 from by decide) (show 0 < 9 from by decide)) rfl ?_
      intro v105 q105 hq105
      obtain ⟨cs105, rfl, rl105⟩ := hq105
      refine w_c rfl (xI (A := []) (ρ := (rpT (rpQ (12 * k + 3 * m + 9 * n + 62)))) rl105 (xJ (by first | (simp; done) | grind)) ?_)
      intro h4 hh4 rs_43
      replace rl81 := rl81.mono ((hh2.trans hh3).trans hh4)
      refine uA (A := [_, _]) (fun X => yD (ρ := (rpT (rpQ (12 * k + 3 * m + 9 * n + 62)))) (bytes := 168) Tryz.underlying27 yC rfl rfl rfl rfl (show 0 < 9 from by decide) rfl rfl rl81 rs_43 (by first | omega | (simp only [List.length_append, List.length_cons, List.length_nil, List.length_replicate, List.length_set]; omega)) (by first | omega | (simp only [List.length_append, List.length_cons, List.length_nil, List.length_replicate, List.length_set]; omega))) rfl (xA (by first | (simp; done) | grind)) ?_
      intro v106 q106 hq106
      obtain ⟨cs106, rfl, rl106⟩ := hq106
      refine w_q rfl (fun h' L' hh hR => zX rfl) rfl (w_q rfl (fun h' L' hh hR => zX rfl) rfl (yZ (yV (zB (zA (gv (zS (q := 1) rfl rfl (by omega) (by omega)) rfl (mv rfl rfl (zD (yX (A := []) (yX (A := []) ?_))))))))))
      refine yL ((i + 1), (B ++ [btw s (l.getD i (T3.mk (0 : Rat) (0 : Rat) (0 : Rat))) (l.getD ((i + 1) % l.length) (T3.mk (0 : Rat) (0 : Rat) (0 : Rat)))]), ((F ++ [(l.getD i (T3.mk (0 : Rat) (0 : Rat) (0 : Rat)))]) ++ [btw s (l.getD i (T3.mk (0 : Rat) (0 : Rat) (0 : Rat))) (l.getD ((i + 1) % l.length) (T3.mk (0 : Rat) (0 : Rat) (0 : Rat)))]), v102, cs102, v106, cs106, h4) ?_ ?_ ⟨rfl, rfl, rfl, rfl, rfl, rfl, rfl, rfl, trivial⟩ rfl rfl
      ·
       refine ⟨((((hmmb.trans hh1).trans hh2).trans hh3).trans hh4), ?_⟩
       replace rl102 := rl102.mono hh4
       refine ⟨rl102, rl106, ?_⟩
       exact ⟨⟨by omega, (by first | exact bk_ax hB hp1 hx1 | exact bk_a hB hp1 hx1 | exact bk_x hB hp1 hx1 | exact bk_n hB hp1 hx1)⟩, (by first | exact fr_ax hF hp2 hx1 | exact fr_a hF hp2 hx1 | exact fr_x hF hp2 hx1 | exact fr_n hF hp2 hx1)⟩
      dsimp only
      omega
     refine s_new (fun X => yO (ρ := (rpT (rpQ (12 * k + 3 * m + 9 * n + 62)))) (m := 1) (xs := [btw s (l.getD i (T3.mk (0 : Rat) (0 : Rat) (0 : Rat))) (l.getD ((i + 1) % l.length) (T3.mk (0 : Rat) (0 : Rat) (0 : Rat)))]) (ps' := [(0, _)]) Tryz.underlying27 yC rfl rfl rfl (zr_t (zr_q (by omega))) ⟨rfl, rfl, trivial⟩ (yQ rfl (Pc.arr (Pc.here _) (T3.mk (0 : Rat) (0 : Rat) (0 : Rat)) 0 (by decide)) r104 xM) (show 1 * 9 ≤ 16777216 from by decide) (show 0 < 9 from by decide)) rfl ?_
     intro v105 q105 hq105
     obtain ⟨cs105, rfl, rl105⟩ := hq105
     refine xI (A := [_]) (ρ := (rpT (rpQ (12 * k + 3 * m + 9 * n + 62)))) rl101 (xJ (by first | (simp; done) | grind)) ?_
     intro h3 hh3 rs_44
     replace rl_12 := rl_12.mono ((hh1.trans hh2).trans hh3)
     refine uA (A := [_, _, _, _]) (fun X => yD (ρ := (rpT (rpQ (12 * k + 3 * m + 9 * n + 62)))) (bytes := 168) Tryz.underlying27 yC rfl rfl rfl rfl (show 0 < 9 from by decide) rfl rfl rl_12 rs_44 (by first | omega | (simp only [List.length_append, List.length_cons, List.length_nil, List.length_replicate, List.length_set]; omega)) (by first | omega | (simp only [List.length_append, List.length_cons, List.length_nil, List.length_replicate, List.length_set]; omega))) rfl (xA (by first | (simp; done) | grind)) ?_
     intro v102 q102 hq102
     obtain ⟨cs102, rfl, rl102⟩ := hq102
     refine w_c rfl ?_
     replace rl105 := rl105.mono hh3
     refine xI (A := []) (ρ := (rpT (rpQ (12 * k + 3 * m + 9 * n + 62)))) rl105 (xJ (by first | (simp; done) | grind)) ?_
     intro h4 hh4 rs_45
     replace rl81 := rl81.mono ((hh2.trans hh3).trans hh4)
     refine uA (A := [_, _]) (fun X => yD (ρ := (rpT (rpQ (12 * k + 3 * m + 9 * n + 62)))) (bytes := 168) Tryz.underlying27 yC rfl rfl rfl rfl (show 0 < 9 from by decide) rfl rfl rl81 rs_45 (by first | omega | (simp only [List.length_append, List.length_cons, List.length_nil, List.length_replicate, List.length_set]; omega)) (by first | omega | (simp only [List.length_append, List.length_cons, List.length_nil, List.length_replicate, List.length_set]; omega))) rfl (xA (by first | (simp; done) | grind)) ?_
     intro v106 q106 hq106
     obtain ⟨cs106, rfl, rl106⟩ := hq106
     refine w_q rfl (fun h' L' hh hR => zX rfl) rfl (w_q rfl (fun h' L' hh hR => zX rfl) rfl (yZ (yV (zB (zA (gv (zS (q := 1) rfl rfl (by omega) (by omega)) rfl (mv rfl rfl (zD (yX (A := []) (yX (A := []) ?_))))))))))
     refine yL ((i + 1), (B ++ [btw s (l.getD i (T3.mk (0 : Rat) (0 : Rat) (0 : Rat))) (l.getD ((i + 1) % l.length) (T3.mk (0 : Rat) (0 : Rat) (0 : Rat)))]), ((F ++ [(l.getD i (T3.mk (0 : Rat) (0 : Rat) (0 : Rat)))]) ++ [btw s (l.getD i (T3.mk (0 : Rat) (0 : Rat) (0 : Rat))) (l.getD ((i + 1) % l.length) (T3.mk (0 : Rat) (0 : Rat) (0 : Rat)))]), v102, cs102, v106, cs106, h4) ?_ ?_ ⟨rfl, rfl, rfl, rfl, rfl, rfl, rfl, rfl, trivial⟩ rfl rfl
     ·
      refine ⟨((((hmmb.trans hh1).trans hh2).trans hh3).trans hh4), ?_⟩
      replace rl102 := rl102.mono hh4
      refine ⟨rl102, rl106, ?_⟩
      exact ⟨⟨by omega, (by first | exact bk_ax hB hp1 hx1 | exact bk_a hB hp1 hx1 | exact bk_x hB hp1 hx1 | exact bk_n hB hp1 hx1)⟩, (by first | exact fr_ax hF hp2 hx1 | exact fr_a hF hp2 hx1 | exact fr_x hF hp2 hx1 | exact fr_n hF hp2 hx1)⟩
     dsimp only
     omega
    refine s_new (fun X => yO (ρ := (rpT (rpQ (12 * k + 3 * m + 9 * n + 62)))) (m := 1) (xs := [btw s (l.getD i (T3.mk (0 : Rat) (0 : Rat) (0 : Rat))) (l.getD ((i + 1) % l.length) (T3.mk (0 : Rat) (0 : Rat) (0 : Rat)))]) (ps' := [(0, _)]) Tryz.underlying27 yC rfl rfl rfl (zr_t (zr_q (by omega))) ⟨rfl, rfl, trivial⟩ (yQ rfl (Pc.arr (Pc.here _) (T3.mk (0 : Rat) (0 : Rat) (0 : Rat)) 0 (by decide)) r104 xM) (show 1 * 9 ≤ 16777216 from by decide) (show 0 < 9 from by decide)) rfl ?_
    intro v105 q105 hq105
    obtain ⟨cs105, rfl, rl105⟩ := hq105
    refine s_new (fun X => yO (ρ := (rpT (rpQ (12 * k + 3 * m + 9 * n + 62)))) (m := 1) (xs := [btw s (l.getD i (T3.mk (0 : Rat) (0 : Rat) (0 : Rat))) (l.getD ((i + 1) % l.length) (T3.mk (0 : Rat) (0 : Rat) (0 : Rat)))]) (ps' := [(0, _)]) Tryz.underlying27 yC rfl rfl rfl (zr_t (zr_q (by omega))) ⟨rfl, rfl, trivial⟩ (yQ rfl (Pc.arr (Pc.here _) (T3.mk (0 : Rat) (0 : Rat) (0 : Rat)) 0 (by decide)) r100 xM) (show 1 * 9 ≤ 16777216 from by decide) (show 0 < 9 from by decide)) rfl ?_
    intro v101 q101 hq101
    obtain ⟨cs101, rfl, rl101⟩ := hq101
    refine xI (A := []) (ρ := (rpT (rpQ (12 * k + 3 * m + 9 * n + 62)))) rl101 (xJ (by first | (simp; done) | grind)) ?_
    intro h3 hh3 rs_46
    replace rl_12 := rl_12.mono ((hh1.trans hh2).trans hh3)
    refine uA (A := [_, _, _, _]) (fun X => yD (ρ := (rpT (rpQ (12 * k + 3 * m + 9 * n + 62)))) (bytes := 168) Tryz.underlying27 yC rfl rfl rfl rfl (show 0 < 9 from by decide) rfl rfl rl_12 rs_46 (by first | omega | (simp only [List.length_append, List.length_cons, List.length_nil, List.length_replicate, List.length_set]; omega)) (by first | omega | (simp only [List.length_append, List.length_cons, List.length_nil, List.length_replicate, List.length_set]; omega))) rfl (xA (by first | (simp; done) | grind)) ?_
    intro v102 q102 hq102
    obtain ⟨cs102, rfl, rl102⟩ := hq102
    refine w_c rfl ?_
    replace rl105 := rl105.mono hh3
    refine xI (A := []) (ρ := (rpT (rpQ (12 * k + 3 * m + 9 * n + 62)))) rl105 (xJ (by first | (simp; done) | grind)) ?_
    intro h4 hh4 rs_47
    replace rl81 := rl81.mono ((hh2.trans hh3).trans hh4)
    refine uA (A := [_, _]) (fun X => yD (ρ := (rpT (rpQ (12 * k + 3 * m + 9 * n + 62)))) (bytes := 168) Tryz.underlying27 yC rfl rfl rfl rfl (show 0 < 9 from by decide) rfl rfl rl81 rs_47 (by first | omega | (simp only [List.length_append, List.length_cons, List.length_nil, List.length_replicate, List.length_set]; omega)) (by first | omega | (simp only [List.length_append, List.length_cons, List.length_nil, List.length_replicate, List.length_set]; omega))) rfl (xA (by first | (simp; done) | grind)) ?_
    intro v106 q106 hq106
    obtain ⟨cs106, rfl, rl106⟩ := hq106
    refine w_q rfl (fun h' L' hh hR => zX rfl) rfl (w_q rfl (fun h' L' hh hR => zX rfl) rfl (yZ (yV (zB (zA (gv (zS (q := 1) rfl rfl (by omega) (by omega)) rfl (mv rfl rfl (zD (yX (A := []) (yX (A := []) ?_))))))))))
    refine yL ((i + 1), (B ++ [btw s (l.getD i (T3.mk (0 : Rat) (0 : Rat) (0 : Rat))) (l.getD ((i + 1) % l.length) (T3.mk (0 : Rat) (0 : Rat) (0 : Rat)))]), ((F ++ [(l.getD i (T3.mk (0 : Rat) (0 : Rat) (0 : Rat)))]) ++ [btw s (l.getD i (T3.mk (0 : Rat) (0 : Rat) (0 : Rat))) (l.getD ((i + 1) % l.length) (T3.mk (0 : Rat) (0 : Rat) (0 : Rat)))]), v102, cs102, v106, cs106, h4) ?_ ?_ ⟨rfl, rfl, rfl, rfl, rfl, rfl, rfl, rfl, trivial⟩ rfl rfl
    ·
     refine ⟨((((hmmb.trans hh1).trans hh2).trans hh3).trans hh4), ?_⟩
     replace rl102 := rl102.mono hh4
     refine ⟨rl102, rl106, ?_⟩
     exact ⟨⟨by omega, (by first | exact bk_ax hB hp1 hx1 | exact bk_a hB hp1 hx1 | exact bk_x hB hp1 hx1 | exact bk_n hB hp1 hx1)⟩, (by first | exact fr_ax hF hp2 hx1 | exact fr_a hF hp2 hx1 | exact fr_x hF hp2 hx1 | exact fr_n hF hp2 hx1)⟩
    dsimp only
    omega
   have hx1 : ¬ xP s l i := by have h := hc91; rw [hS i (by omega), hS ((i + 1) % l.length) (Nat.mod_lt _ (by omega))] at h; exact h
   refine zK (yV (zB (zA (gv (zS (q := 1) rfl rfl (by omega) (by omega)) rfl (mv rfl rfl (zD (yX (A := []) ?_)))))))
   refine yL ((i + 1), B, (F ++ [(l.getD i (T3.mk (0 : Rat) (0 : Rat) (0 : Rat)))]), s4_10, cs_11, v81, cs81, h1) ?_ ?_ ⟨rfl, rfl, rfl, rfl, rfl, rfl, rfl, rfl, trivial⟩ rfl rfl
   ·
    refine ⟨(hmmb.trans hh1), ?_⟩
    replace rl_12 := rl_12.mono hh1
    refine ⟨rl_12, rl81, ?_⟩
    exact ⟨⟨by omega, (by first | exact bk_ax hB hp1 hx1 | exact bk_a hB hp1 hx1 | exact bk_x hB hp1 hx1 | exact bk_n hB hp1 hx1)⟩, (by first | exact fr_ax hF hp2 hx1 | exact fr_a hF hp2 hx1 | exact fr_x hF hp2 hx1 | exact fr_n hF hp2 hx1)⟩
   dsimp only
   omega
  have hp2 : ¬ 0 ≤ sdZ s (gp l i) := by rw [← hS i (by omega)]; exact hc77
  refine zK (zB (zC ?_))
  refine yK 10 _ [] [(0, .q), (1, .q), (2, .q), (3, .q), (4, .q), (5, .q), (6, .q), (7, .q), (8, .q), (9, .q)] xN (fun x hx => by cases hx) (by kernel_rfl) (fun x hx => by cases hx) (fun r hr => hr) (w_q rfl (fun h' L' hh hR => zG rfl) rfl (w_q rfl (fun h' L' hh hR => zG rfl) rfl (w_q rfl (fun h' L' hh hR => (vG i (hR _ (.tail _ (.tail _ (.tail _ (.head _))))) Tryz.underlying22 Tryz.sizeOf3 rfl rfl rfl (by first | omega | (simp only [List.length_append, List.length_cons, List.length_nil, List.length_replicate, List.length_set]; omega)) (show 0 < 1 from by decide)).cv (show _ = xH 1 s6_1 ((i * 1 + 0)) from congrArg (xH 1 s6_1) (by rfl))) rfl (w_qx (F := fun v_ => rpI.Is mb v_ (SD.getD i (0 : Int))) rfl (ox_load_os ty3 (Pc.arr (Pc.here _) (0 : Int) i (by first | omega | (simp only [List.length_append, List.length_cons, List.length_nil, List.length_replicate, List.length_set]; omega))) rfl (show 0 < 1 from by decide) rfl rl_3 rfl) (mem1 (.tail _ (.tail _ (.tail _ (.head _))))) rfl ?_))))
  intro v85 r85
  obtain ⟨rfl, hl85, hu85⟩ := of_i r85
  refine w_q rfl (fun h' L' hh hR => zG rfl) rfl (w_q rfl (fun h' L' hh hR => zG rfl) rfl (w_q rfl (fun h' L' hh hR => (vG ((i + 1) % l.length) (hR _ (.tail _ (.tail _ (.tail _ (.head _))))) Tryz.underlying22 Tryz.sizeOf3 rfl rfl (by first | rfl | (push_cast; rfl)) (by rw [hi2]; exact Nat.mod_lt _ (by omega)) (show 0 < 1 from by decide)).cv (show _ = xH 1 s6_1 ((((i + 1) % l.length) * 1 + 0)) from congrArg (xH 1 s6_1) (by rfl))) rfl (w_qx (F := fun v_ => rpI.Is mb v_ (SD.getD ((i + 1) % l.length) (0 : Int))) rfl (ox_load_os ty3 (Pc.arr (Pc.here _) (0 : Int) ((i + 1) % l.length) (by rw [hi2]; exact Nat.mod_lt _ (by omega))) rfl (show 0 < 1 from by decide) rfl rl_3 rfl) (mem1 (.tail _ (.tail _ (.tail _ (.head _))))) rfl ?_)))
  intro v89 r89
  obtain ⟨rfl, hl89, hu89⟩ := of_i r89
  refine w_q rfl (fun h' L' hh hR => ov_mul_i rfl rfl (by rw [hd1, hd2]; have := mul_range hr1 hr2; omega) (by rw [hd1, hd2]; have := mul_range hr1 hr2; omega)) rfl (w_q rfl (fun h' L' hh hR => zW (q := 0) rfl rfl) rfl (yZ (zJ (e' := [(0, _), (3, _), (4, _), (5, _), (6, _), (52, _), (53, _), (54, _), (12, _), (13, _), (91, _)]) ⟨rfl, rfl, rfl, rfl, rfl, rfl, rfl, rfl, rfl, rfl, rfl, trivial⟩ (zB ?_))))
  refine zN rfl (fun hc91 => ?_) (fun hc91 => ?_)
  ·
   have hx1 : xP s l i := by have h := hc91; rw [hS i (by omega), hS ((i + 1) % l.length) (Nat.mod_lt _ (by omega))] at h; exact h
   refine zC ?_
   refine yK 8 _ [(7, (14, 32, [.bool false, .slice none 0 0, .slice none 0 0, .bool false, .slice none 0 0, .slice none 0 0, .bool false, .slice none 0 0, .slice none 0 0]))] [(0, .q), (1, .q), (2, .q), (3, .q), (4, .q), (5, .q), (6, .c), (7, .a), (8, .t)] xN (AlOk.cons rfl (zero_run yC rfl rfl) AlOk.nil) (by kernel_rfl) (hae_cons rfl rfl hae_nil) (fun r hr => hr) ?_
   replace rb3 := rb3.mono (hmma.trans hmmb)
   refine w_qx (F := fun v_ => (rpP (rpT (rpQ n)) (rpQ m)).Is mb v_ s) rfl (zE ty34 (Pc.here _) rfl rfl rb3 rfl) (mem1 (.tail _ (.tail _ (.tail _ (.tail _ (.head _)))))) rfl ?_
   intro v92 r92
   refine w_qx (F := fun v_ => (rpT (rpQ (k + 1))).Is mb v_ (l.getD i (T3.mk (0 : Rat) (0 : Rat) (0 : Rat)))) rfl (zE ty32 (Pc.here _) rfl rfl rb_17 rfl) (mem1 (.head _)) rfl ?_
   intro v93 r93
   refine w_q rfl (fun h' L' hh hR => zG rfl) rfl (w_q rfl (fun h' L' hh hR => zG rfl) rfl (w_qx (F := fun v_ => AtP (rpT (rpQ k)) mb v_ (l.getD ((i + 1) % l.length) (T3.mk (0 : Rat) (0 : Rat) (0 : Rat)))) rfl (ox_idx_s (T3.mk (0 : Rat) (0 : Rat) (0 : Rat)) ((i + 1) % l.length) Tryz.underlying27 ty32 rfl rfl rl (by first | rfl | (push_cast; rfl)) (by exact Nat.mod_lt _ (by omega)) (show 0 < 9 from by decide)) mem0 rfl ?_))
   intro v96 r96
   refine w_qx (F := fun v_ => (rpT (rpQ k)).Is mb v_ (l.getD ((i + 1) % l.length) (T3.mk (0 : Rat) (0 : Rat) (0 : Rat)))) rfl (wY ty32 rfl r96) mem0 rfl ?_
   intro v97 r97
   refine w_c rfl ?_
   refine yI (vs := [_, _, _]) Tryz.call84 ⟨rfl, rfl, rfl, trivial⟩ (fun w hs => o_cx_common hs r92 r93 (r97.le (Le.t (Le.q (l := k + 1) (by omega)))) (by omega) (by omega) (by omega)) rfl ?_
   intro v98 h1 hh1 r98
   change (rpT (rpQ (12 * (k + 1) + 3 * m + 9 * n + 50))).Is h1 v98 (btw s (l.getD i (T3.mk (0 : Rat) (0 : Rat) (0 : Rat))) (l.getD ((i + 1) % l.length) (T3.mk (0 : Rat) (0 : Rat) (0 : Rat)))) at r98
   replace r98 := Rp.Is.le r98 (Le.t (Le.q (l := 12 * k + 3 * m + 9 * n + 62) (by omega)))
   refine w_a rfl (fun b14 => ?_)
   have rb14 : (rpT (rpQ 1)).R h1 [.bool false, .slice none 0 0, .slice none 0 0, .bool false, .slice none 0 0, .slice none 0 0, .bool false, .slice none 0 0, .slice none 0 0] (T3.mk (0 : Rat) (0 : Rat) (0 : Rat)) := (zr_t (zr_q (by decide)))
   have rw_48 := (Le.t (Le.q (l := 12 * k + 3 * m + 9 * n + 62) (by omega))).R rb14
   refine wB (A := []) (F := fun c_ => (rpT (rpQ (12 * k + 3 * m + 9 * n + 62))).R h1 c_ (btw s (l.getD i (T3.mk (0 : Rat) (0 : Rat) (0 : Rat))) (l.getD ((i + 1) % l.length) (T3.mk (0 : Rat) (0 : Rat) (0 : Rat))))) rfl (yJ Tryz.sizeOf32 (Pc.here _) rfl rfl rfl rw_48 r98 rfl) ?_
   intro cs_49 rb_50
   refine yZ (zJ (e' := [(0, _), (3, _), (4, _), (5, _), (6, _), (52, _), (53, _), (54, _), (14, _)]) ⟨rfl, rfl, rfl, rfl, rfl, rfl, rfl, rfl, rfl, trivial⟩ (zB ?_))
   refine yK 10 [.var b14 32 cs_49, .var b12 32 cs_16, .gs 3 1 s6_1 SD.length cs_2, .var b3 34 cs3] [] [(0, .q), (1, .q), (4, .q), (5, .q), (2, .d 3 6), (7, .c), (8, .q), (9, .q)] xN (fun x hx => by cases hx) (by kernel_rfl) (fun x hx => by cases hx) (by intro r hr; simp only [List.mem_cons, List.mem_append, List.not_mem_nil, or_false] at hr ⊢ <;> grind) (w_q rfl (fun h' L' hh hR => zG rfl) rfl (w_qx (F := fun v_ => (rpT (rpQ (12 * k + 3 * m + 9 * n + 62))).Is h1 v_ (btw s (l.getD i (T3.mk (0 : Rat) (0 : Rat) (0 : Rat))) (l.getD ((i + 1) % l.length) (T3.mk (0 : Rat) (0 : Rat) (0 : Rat))))) rfl (zE ty32 (Pc.here _) rfl rfl rb_50 rfl) (mem1 (.head _)) rfl ?_))
   intro v100 r100
   refine w_q rfl (fun h' L' hh hR => zG rfl) rfl (w_qx (F := fun v_ => (rpT (rpQ (12 * k + 3 * m + 9 * n + 62))).Is h1 v_ (btw s (l.getD i (T3.mk (0 : Rat) (0 : Rat) (0 : Rat))) (l.getD ((i + 1) % l.length) (T3.mk (0 : Rat) (0 : Rat) (0 : Rat))))) rfl (zE ty32 (Pc.here _) rfl rfl rb_50 rfl) (mem1 (.head _)) rfl ?_)
   intro v104 r104
   refine w_d rfl rfl rfl ?_ ?_
   ·
    refine s_new (fun X => yO (ρ := (rpT (rpQ (12 * k + 3 * m + 9 * n + 62)))) (m := 1) (xs := [btw s (l.getD i (T3.mk (0 : Rat) (0 : Rat) (0 : Rat))) (l.getD ((i + 1) % l.length) (T3.mk (0 : Rat) (0 : Rat) (0 : Rat)))]) (ps' := [(0, _)]) Tryz.underlying27 yC rfl rfl rfl (zr_t (zr_q (by omega))) ⟨rfl, rfl, trivial⟩ (yQ rfl (Pc.arr (Pc.here _) (T3.mk (0 : Rat) (0 : Rat) (0 : Rat)) 0 (by decide)) r100 xM) (show 1 * 9 ≤ 16777216 from by decide) (show 0 < 9 from by decide)) rfl ?_
    intro v101 q101 hq101
    obtain ⟨cs101, rfl, rl101⟩ := hq101
    refine ⟨?_, ?_⟩
    ·
     refine xI (A := []) (ρ := (rpT (rpQ (12 * k + 3 * m + 9 * n + 62)))) rl101 (xJ (by first | (simp; done) | grind)) ?_
     intro h2 hh2 rs_51
     replace rl_12 := rl_12.mono (hh1.trans hh2)
     refine uA (A := [_, _, _]) (fun X => yD (ρ := (rpT (rpQ (12 * k + 3 * m + 9 * n + 62)))) (bytes := 168) Tryz.underlying27 yC rfl rfl rfl rfl (show 0 < 9 from by decide) rfl rfl rl_12 rs_51 (by first | omega | (simp only [List.length_append, List.length_cons, List.length_nil, List.length_replicate, List.length_set]; omega)) (by first | omega | (simp only [List.length_append, List.length_cons, List.length_nil, List.length_replicate, List.length_set]; omega))) rfl (xA (by first | (simp; done) | grind)) ?_
     intro v102 q102 hq102
     obtain ⟨cs102, rfl, rl102⟩ := hq102
     replace r104 := r104.mono hh2
     refine s_new (fun X => yO (ρ := (rpT (rpQ (12 * k + 3 * m + 9 * n + 62)))) (m := 1) (xs := [btw s (l.getD i (T3.mk (0 : Rat) (0 : Rat) (0 : Rat))) (l.getD ((i + 1) % l.length) (T3.mk (0 : Rat) (0 : Rat) (0 : Rat)))]) (ps' := [(0, _)]) Tryz.underlying27 yC rfl rfl rfl (zr_t (zr_q (by omega))) ⟨rfl, rfl, trivial⟩ (yQ rfl (Pc.arr (Pc.here _) (T3.mk (0 : Rat) (0 : Rat) (0 : Rat)) 0 (by decide)) r104 xM) (show 1 * 9 ≤ 16777216 from by decide) (show 0 < 9 from by decide)) rfl ?_
     intro v105 q105 hq105
     obtain ⟨cs105, rfl, rl105⟩ := hq105
     refine w_c rfl (xI (A := []) (ρ := (rpT (rpQ (12 * k + 3 * m + 9 * n + 62)))) rl105 (xJ (by first | (simp; done) | grind)) ?_)
     intro h3 hh3 rs_52
     replace rl_15 := rl_15.mono ((hh1.trans hh2).trans hh3)
     refine uA (A := [_, _]) (fun X => yD (ρ := (rpT (rpQ (12 * k + 3 * m + 9 * n + 62)))) (bytes := 168) Tryz.underlying27 yC rfl rfl rfl rfl (show 0 < 9 from by decide) rfl rfl rl_15 rs_52 (by first | omega | (simp only [List.length_append, List.length_cons, List.length_nil, List.length_replicate, List.length_set]; omega)) (by first | omega | (simp only [List.length_append, List.length_cons, List.length_nil, List.length_replicate, List.length_set]; omega))) rfl (xA (by first | (simp; done) | grind)) ?_
     intro v106 q106 hq106
     obtain ⟨cs106, rfl, rl106⟩ := hq106
     refine w_q rfl (fun h' L' hh hR => zX rfl) rfl (w_q rfl (fun h' L' hh hR => zX rfl) rfl (yZ (yV (zB (zA (gv (zS (q := 1) rfl rfl (by omega) (by omega)) rfl (mv rfl rfl (zD (yX (A := []) (yX (A := []) ?_))))))))))
     refine yL ((i + 1), (B ++ [btw s (l.getD i (T3.mk (0 : Rat) (0 : Rat) (0 : Rat))) (l.getD ((i + 1) % l.length) (T3.mk (0 : Rat) (0 : Rat) (0 : Rat)))]), (F ++ [btw s (l.getD i (T3.mk (0 : Rat) (0 : Rat) (0 : Rat))) (l.getD ((i + 1) % l.length) (T3.mk (0 : Rat) (0 : Rat) (0 : Rat)))]), v102, cs102, v106, cs106, h3) ?_ ?_ ⟨rfl, rfl, rfl, rfl, rfl, rfl, rfl, rfl, trivial⟩ rfl rfl
     ·
      refine ⟨(((hmmb.trans hh1).trans hh2).trans hh3), ?_⟩
      replace rl102 := rl102.mono hh3
      refine ⟨rl102, rl106, ?_⟩
      exact ⟨⟨by omega, (by first | exact bk_ax hB hp1 hx1 | exact bk_a hB hp1 hx1 | exact bk_x hB hp1 hx1 | exact bk_n hB hp1 hx1)⟩, (by first | exact fr_ax hF hp2 hx1 | exact fr_a hF hp2 hx1 | exact fr_x hF hp2 hx1 | exact fr_n hF hp2 hx1)⟩
     dsimp only
     omega
    refine s_new (fun X => yO (ρ := (rpT (rpQ (12 * k + 3 * m + 9 * n + 62)))) (m := 1) (xs := [btw s (l.getD i (T3.mk (0 : Rat) (0 : Rat) (0 : Rat))) (l.getD ((i + 1) % l.length) (T3.mk (0 : Rat) (0 : Rat) (0 : Rat)))]) (ps' := [(0, _)]) Tryz.underlying27 yC rfl rfl rfl (zr_t (zr_q (by omega))) ⟨rfl, rfl, trivial⟩ (yQ rfl (Pc.arr (Pc.here _) (T3.mk (0 : Rat) (0 : Rat) (0 : Rat)) 0 (by decide)) r104 xM) (show 1 * 9 ≤ 16777216 from by decide) (show 0 < 9 from by decide)) rfl ?_
    intro v105 q105 hq105
    obtain ⟨cs105, rfl, rl105⟩ := hq105
    refine xI (A := [_]) (ρ := (rpT (rpQ (12 * k + 3 * m + 9 * n + 62)))) rl101 (xJ (by first | (simp; done) | grind)) ?_
    intro h2 hh2 rs_53
    replace rl_12 := rl_12.mono (hh1.trans hh2)
    refine uA (A := [_, _, _, _]) (fun X => yD (ρ := (rpT (rpQ (12 * k + 3 * m + 9 * n + 62)))) (bytes := 168) Tryz.underlying27 yC rfl rfl rfl rfl (show 0 < 9 from by decide) rfl rfl rl_12 rs_53 (by first | omega | (simp only [List.length_append, List.length_cons, List.length_nil, List.length_replicate, List.length_set]; omega)) (by first | omega | (simp only [List.length_append, List.length_cons, List.length_nil, List.length_replicate, List.length_set]; omega))) rfl (xA (by first | (simp; done) | grind)) ?_
    intro v102 q102 hq102
    obtain ⟨cs102, rfl, rl102⟩ := hq102
    refine w_c rfl ?_
    replace rl105 := rl105.mono hh2
    refine xI (A := []) (ρ := (rpT (rpQ (12 * k + 3 * m + 9 * n + 62)))) rl105 (xJ (by first | (simp; done) | grind)) ?_
    intro h3 hh3 rs_54
    replace rl_15 := rl_15.mono ((hh1.trans hh2).trans hh3)
    refine uA (A := [_, _]) (fun X => yD (ρ := (rpT (rpQ (12 * k + 3 * m + 9 * n + 62)))) (bytes := 168) Tryz.underlying27 yC rfl rfl rfl rfl (show 0 < 9 from by decide) rfl rfl rl_15 rs_54 (by first | omega | (simp only [List.length_append, List.length_cons, List.length_nil, List.length_replicate, List.length_set]; omega)) (by first | omega | (simp only [List.length_append, List.length_cons, List.length_nil, List.length_replicate, List.length_set]; omega))) rfl (xA (by first | (simp; done) | grind)) ?_
    intro v106 q106 hq106
    obtain ⟨cs106, rfl, rl106⟩ := hq106
    refine w_q rfl (fun h' L' hh hR => zX rfl) rfl (w_q rfl (fun h' L' hh hR => zX rfl) rfl (yZ (yV (zB (zA (gv (zS (q := 1) rfl rfl (by omega) (by omega)) rfl (mv rfl rfl (zD (yX (A := []) (yX (A := []) ?_))))))))))
    refine yL ((i + 1), (B ++ [btw s (l.getD i (T3.mk (0 : Rat) (0 : Rat) (0 : Rat))) (l.getD ((i + 1) % l.length) (T3.mk (0 : Rat) (0 : Rat) (0 : Rat)))]), (F ++ [btw s (l.getD i (T3.mk (0 : Rat) (0 : Rat) (0 : Rat))) (l.getD ((i + 1) % l.length) (T3.mk (0 : Rat) (0 : Rat) (0 : Rat)))]), v102, cs102, v106, cs106, h3) ?_ ?_ ⟨rfl, rfl, rfl, rfl, rfl, rfl, rfl, rfl, trivial⟩ rfl rfl
    ·
     refine ⟨(((hmmb.trans hh1).trans hh2).trans hh3), ?_⟩
     replace rl102 := rl102.mono hh3
     refine ⟨rl102, rl106, ?_⟩
     exact ⟨⟨by omega, (by first | exact bk_ax hB hp1 hx1 | exact bk_a hB hp1 hx1 | exact bk_x hB hp1 hx1 | exact bk_n hB hp1 hx1)⟩, (by first | exact fr_ax hF hp2 hx1 | exact fr_a hF hp2 hx1 | exact fr_x hF hp2 hx1 | exact fr_n hF hp2 hx1)⟩
    dsimp only
    omega
   refine s_new (fun X => yO (ρ := (rpT (rpQ (12 * k + 3 * m + 9 * n + 62)))) (m := 1) (xs := [btw s (l.getD i (T3.mk (0 : Rat) (0 : Rat) (0 : Rat))) (l.getD ((i + 1) % l.length) (T3.mk (0 : Rat) (0 : Rat) (0 : Rat)))]) (ps' := [(0, _)]) Tryz.underlying27 yC rfl rfl rfl (zr_t (zr_q (by omega))) ⟨rfl, rfl, trivial⟩ (yQ rfl (Pc.arr (Pc.here _) (T3.mk (0 : Rat) (0 : Rat) (0 : Rat)) 0 (by decide)) r104 xM) (show 1 * 9 ≤ 16777216 from by decide) (show 0 < 9 from by decide)) rfl ?_
   intro v105 q105 hq105
   obtain ⟨cs105, rfl, rl105⟩ := hq105
   refine s_new (fun X => yO (ρ := (rpT (rpQ (12 * k + 3 * m + 9 * n + 62)))) (m := 1) (xs := [btw s (l.getD i (T3.mk (0 : Rat) (0 : Rat) (0 : Rat))) (l.getD ((i + 1) % l.length) (T3.mk (0 : Rat) (0 : Rat) (0 : Rat)))]) (ps' := [(0, _)]) Tryz.underlying27 yC rfl rfl rfl (zr_t (zr_q (by omega))) ⟨rfl, rfl, trivial⟩ (yQ rfl (Pc.arr (Pc.here _) (T3.mk (0 : Rat) (0 : Rat) (0 : Rat)) 0 (by decide)) r100 xM) (show 1 * 9 ≤ 16777216 from by decide) (show 0 < 9 from by decide)) rfl ?_
   intro v101 q101 hq101
   obtain ⟨cs101, rfl, rl101⟩ := hq101
   refine xI (A := []) (ρ := (rpT (rpQ (12 * k + 3 * m + 9 * n + 62)))) rl101 (xJ (by first | (simp; done) | grind)) ?_
   intro h2 hh2 rs_55
   replace rl_12 := rl_12.mono (hh1.trans hh2)
   refine uA (A := [_, _, _, _]) (fun X => yD (ρ := (rpT (rpQ (12 * k + 3 * m + 9 * n + 62)))) (bytes := 168) Tryz.underlying27 yC rfl rfl rfl rfl (show 0 < 9 from by decide) rfl rfl rl_12 rs_55 (by first | omega | (simp only [List.length_append, List.length_cons, List.length_nil, List.length_replicate, List.length_set]; omega)) (by first | omega | (simp only [List.length_append, List.length_cons, List.length_nil, List.length_replicate, List.length_set]; omega))) rfl (xA (by first | (simp; done) | grind)) ?_
   intro v102 q102 hq102
   obtain ⟨cs102, rfl, rl102⟩ := hq102
   refine w_c rfl ?_
   replace rl105 := rl105.mono hh2
   refine xI (A := []) (ρ := (rpT (rpQ (12 * k + 3 * m + 9 * n + 62)))) rl105 (xJ (by first | (simp; done) | grind)) ?_
   intro h3 hh3 rs_56
   replace rl_15 := rl_15.mono ((hh1.trans hh2).trans hh3)
   refine uA (A := [_, _]) (fun X => yD (ρ := (rpT (rpQ (12 * k + 3 * m + 9 * n + 62)))) (bytes := 168) Tryz.underlying27 yC rfl rfl rfl rfl (show 0 < 9 from by decide) rfl rfl rl_15 rs_56 (by first | omega | (simp only [List.length_append, List.length_cons, List.length_nil, List.length_replicate, List.length_set]; omega)) (by first | omega | (simp only [List.length_append, List.length_cons, List.length_nil, List.length_replicate, List.length_set]; omega))) rfl (xA (by first | (simp; done) | grind)) ?_
   intro v106 q106 hq106
   obtain ⟨cs106, rfl, rl106⟩ := hq106
   refine w_q rfl (fun h' L' hh hR => zX rfl) rfl (w_q rfl (fun h' L' hh hR => zX rfl) rfl (yZ (yV (zB (zA (gv (zS (q := 1) rfl rfl (by omega) (by omega)) rfl (mv rfl rfl (zD (yX (A := []) (yX (A := []) ?_))))))))))
   refine yL ((i + 1), (B ++ [btw s (l.getD i (T3.mk (0 : Rat) (0 : Rat) (0 : Rat))) (l.getD ((i + 1) % l.length) (T3.mk (0 : Rat) (0 : Rat) (0 : Rat)))]), (F ++ [btw s (l.getD i (T3.mk (0 : Rat) (0 : Rat) (0 : Rat))) (l.getD ((i + 1) % l.length) (T3.mk (0 : Rat) (0 : Rat) (0 : Rat)))]), v102, cs102, v106, cs106, h3) ?_ ?_ ⟨rfl, rfl, rfl, rfl, rfl, rfl, rfl, rfl, trivial⟩ rfl rfl
   ·
    refine ⟨(((hmmb.trans hh1).trans hh2).trans hh3), ?_⟩
    replace rl102 := rl102.mono hh3
    refine ⟨rl102, rl106, ?_⟩
    exact ⟨⟨by omega, (by first | exact bk_ax hB hp1 hx1 | exact bk_a hB hp1 hx1 | exact bk_x hB hp1 hx1 | exact bk_n hB hp1 hx1)⟩, (by first | exact fr_ax hF hp2 hx1 | exact fr_a hF hp2 hx1 | exact fr_x hF hp2 hx1 | exact fr_n hF hp2 hx1)⟩
   dsimp only
   omega
  have hx1 : ¬ xP s l i := by have h := hc91; rw [hS i (by omega), hS ((i + 1) % l.length) (Nat.mod_lt _ (by omega))] at h; exact h
  refine zK (yV (zB (zA (gv (zS (q := 1) rfl rfl (by omega) (by omega)) rfl (mv rfl rfl (zD (yX (A := []) ?_)))))))
  refine yL ((i + 1), B, F, s4_10, cs_11, s5_13, cs_14, mb) ?_ ?_ ⟨rfl, rfl, rfl, rfl, rfl, rfl, rfl, rfl, trivial⟩ rfl rfl
  ·
   refine ⟨hmmb, ?_⟩
   refine ⟨rl_12, rl_15, ?_⟩
   exact ⟨⟨by omega, (by first | exact bk_ax hB hp1 hx1 | exact bk_a hB hp1 hx1 | exact bk_x hB hp1 hx1 | exact bk_n hB hp1 hx1)⟩, (by first | exact fr_ax hF hp2 hx1 | exact fr_a hF hp2 hx1 | exact fr_x hF hp2 hx1 | exact fr_n hF hp2 hx1)⟩
  dsimp only
  omega
 have ej : i = l.length := by omega
 rw [ej] at hB hF
 refine xG (yB (yB (xF (zB (zC (zA (mv rfl rfl (mv rfl rfl (asg rfl rfl (asg rfl rfl (zD (zB (zQ ?_)))))))))))))
 refine gq_freezex (A := [_]) (ρ := (rpT (rpQ (12 * k + 3 * m + 9 * n + 62)))) rl_12 ?_
 intro h1 hh1 rs_57
 replace rl_15 := rl_15.mono hh1
 refine gq_freezex (A := []) (ρ := (rpT (rpQ (12 * k + 3 * m + 9 * n + 62)))) rl_15 ?_
 intro h2 hh2 rs_58
 refine vN rfl rfl rfl ?_
 replace rs_57 := rs_57.mono hh2
 refine ⟨_, _, ?_, (Rp.Is.cast rs_57 (by rw [hB]; exact (cut_both (by rw [← hhi.1]; omega) (by rw [← hlo.1]; omega)).1.symm)), (Rp.Is.cast rs_58 (by rw [hF]; exact (cut_both (by rw [← hhi.1]; omega) (by rw [← hlo.1]; omega)).2.symm))⟩
 rfl

theorem o_cx_cut {w0 : World} {h0 : Mem}  (hs : MLe h0 (mem w0)) {k n m : Nat} {vl : Value} {l : (List (T3 Rat))} (rl : (rpS (rpT (rpQ k))).Is h0 vl l) {vs : Value} {s : ((T3 Rat) × Rat)} (rs : (rpP (rpT (rpQ n)) (rpQ m)).Is h0 vs s) (hcd0 : k ≤ 50000000) (hcd1 : m ≤ 1000000) (hcd2 : n ≤ 1000000) (hcd3 : l.length ≤ 50000)  :
    Calls Tryz.prog 14 #[vl, vs] w0 (Ret w0 h0 (fun h r => ∃ u0 u1, r = .tuple #[u0, u1] ∧ (rpS (rpT (rpQ (12 * k + 3 * m + 9 * n + 62 + 2)))).Is h u0 (cutB s l) ∧ (rpS (rpT (rpQ (12 * k + 3 * m + 9 * n + 62 + 2)))).Is h u1 (cutF s l))) := by
 have hcb := cutB_len s l
 have hcf := cutF_len s l
 refine zP (n := 18) (e := [(0, vl), (1, vs)]) (vs := [vl, vs]) Tryz.func14 rfl rfl (Nat.le_of_ble_eq_true rfl) hs ⟨rfl, rfl, trivial⟩ (zC (zA (zL (xL (ρ := (rpP (rpT (rpQ n)) (rpQ m))) rfl rs) rfl rfl rfl ?_)))
 intro v3 q3 hq3
 obtain ⟨b3, cs3, rfl, rfl, rb3⟩ := hq3
 refine asg rfl rfl (asg rfl rfl (zD (zB (zC (zA (mv rfl rfl (gl_x (F := fun v_ => (rpP (rpT (rpQ n)) (rpQ m)).Is h0 v_ s) (zE ty34 (Pc.here _) rfl rfl rb3 rfl) (mem1 (.head _)) rfl ?_)))))))
 intro v10 r10
 refine zM (vs := [_, _]) rfl rfl rfl rfl Tryz.call47 ⟨rfl, rfl, trivial⟩ (fun w hs => o_cx_halves hs rl r10 (by omega) (by omega) (by omega) (by omega)) ?_
 intro v11 h1 hh1 r11
 obtain ⟨v11_0, v11_1, rfl, r11_0, r11_1⟩ := r11
 change (rpS (rpT (rpQ (12 * k + 3 * m + 9 * n + 62)))).Is h1 v11_0 (cutB s l) at r11_0
 change (rpS (rpT (rpQ (12 * k + 3 * m + 9 * n + 62)))).Is h1 v11_1 (cutF s l) at r11_1
 refine mv rfl rfl (gv (zO (vs := [_, _]) rfl rfl) rfl (gv (zO (vs := [_, _]) rfl rfl) rfl (asg rfl rfl (asg rfl rfl (zD (zJ (e' := [(6, _), (7, _)]) ⟨rfl, rfl, trivial⟩ (zB (zC (zA (mv rfl rfl ?_))))))))))
 refine zM (vs := [_]) rfl rfl rfl rfl Tryz.call48 ⟨rfl, trivial⟩ (fun w hs => o_own_points hs r11_0 (by omega) (by omega)) ?_
 intro v15 h2 hh2 r15
 change (rpS (rpT (rpQ ((12 * k + 3 * m + 9 * n + 62) + 2)))).Is h2 v15 (cutB s l) at r15
 replace r15 := Rp.Is.le r15 (Le.s (Le.t (Le.q (l := 12 * k + 3 * m + 9 * n + 64) (by omega))))
 refine mv rfl rfl ?_
 replace r11_1 := r11_1.mono hh2
 refine zM (vs := [_]) rfl rfl rfl rfl Tryz.call48 ⟨rfl, trivial⟩ (fun w hs => o_own_points hs r11_1 (by omega) (by omega)) ?_
 intro v17 h3 hh3 r17
 change (rpS (rpT (rpQ ((12 * k + 3 * m + 9 * n + 62) + 2)))).Is h3 v17 (cutF s l) at r17
 replace r17 := Rp.Is.le r17 (Le.s (Le.t (Le.q (l := 12 * k + 3 * m + 9 * n + 64) (by omega))))
 refine asg rfl rfl (asg rfl rfl (zD (zB (zQ (vN rfl rfl rfl ?_)))))
 replace r15 := r15.mono hh3
 refine ⟨_, _, ?_, (Rp.Is.le r15 (Le.s (Le.t (Le.q (l := 12 * k + 3 * m + 9 * n + 62 + 2) (by omega))))), (Rp.Is.le r17 (Le.s (Le.t (Le.q (l := 12 * k + 3 * m + 9 * n + 62 + 2) (by omega)))))⟩
 rfl

end Go.Proofs.YtghhjjmjpeehdaaGreat


namespace Go.Proofs.YtghhjjmjpeehdaaGreat
open Bk Go
set_option linter.unusedVariables false
set_option linter.unusedSimpArgs false
set_option maxRecDepth 10000

set_option maxHeartbeats 1000000 in
theorem o_r6_cut {w0 : World} {h0 : Mem}  (hs : MLe h0 (mem w0)) {k n m : Nat} {vl : Value} {l : (List (T3 Rat))} (rl : (rpS (rpT (rpQ k))).Is h0 vl l) {vs : Value} {s : ((T3 Rat) × Rat)} (rs : (rpP (rpT (rpQ n)) (rpQ m)).Is h0 vs s) (hcd0 : k ≤ 50000000) (hcd1 : m ≤ 1000000) (hcd2 : n ≤ 1000000) (hcd3 : l.length ≤ 100000)  :
    Calls Tryz.prog 15 #[vl, vs] w0 (Ret w0 h0 (fun h r => ∃ u0 u1, r = .tuple #[u0, u1] ∧ (rpS (rpT (rpQ (12 * k + 3 * m + 9 * n + 62)))).Is h u0 (cutB s l) ∧ (rpS (rpT (rpQ (12 * k + 3 * m + 9 * n + 62)))).Is h u1 (cutF s l))) := by
 refine zP (n := 97) (e := [(0, vl), (1, vs)]) (vs := [vl, vs]) Tryz.func15 rfl rfl (Nat.le_of_ble_eq_true rfl) hs ⟨rfl, rfl, trivial⟩ (zC (zA (zL (xL (ρ := (rpP (rpT (rpQ n)) (rpQ m))) rfl rs) rfl rfl rfl ?_)))
 intro v3 q3 hq3
 obtain ⟨b3, cs3, rfl, rfl, rb3⟩ := hq3
 refine asg rfl rfl (asg rfl rfl (zD (zB (zC (zA (asg rfl rfl (asg rfl rfl (zD (zB (zC (zA (asg rfl rfl (asg rfl rfl ?_)))))))))))))
 refine zD (zB (zC (zC (zA (asg (v := vI (0)) rfl rfl (zD (zB (zR (gc_nilown 32 9 ?_)))))))))
 have rl_1 : RL (rpT (rpQ (12 * k + 3 * m + 9 * n + 62))) h0 [] ([] : List (T3 Rat)) := RL.nil
 refine gc_nilown 32 9 ?_
 have rl_2 : RL (rpT (rpQ (12 * k + 3 * m + 9 * n + 62))) h0 [] ([] : List (T3 Rat)) := RL.nil
 refine wH (ι := Nat × List (T3 Rat) × List (T3 Rat) × Value × List Value × Value × List Value × Mem) (fun (i, B, F, s6_3, cs_4, s7_6, cs_7, mb) => MLe h0 mb ∧ (RL (rpT (rpQ (12 * k + 3 * m + 9 * n + 62))) mb cs_4 B ∧ RL (rpT (rpQ (12 * k + 3 * m + 9 * n + 62))) mb cs_7 F ∧ (i ≤ l.length ∧ B = bkTo s l i) ∧ F = frTo s l i)) (fun (i, B, F, s6_3, cs_4, s7_6, cs_7, mb) => [(0, vl), (3, vP b3 0), (6, s6_3), (7, s7_6), (8, vB (behTo s l i)), (9, vB (aheTo s l i)), (10, vI ↑i)]) (fun (i, B, F, s6_3, cs_4, s7_6, cs_7, mb) => [.gs 32 9 s7_6 F.length cs_7, .gs 32 9 s6_3 B.length cs_4, .var b3 34 cs3]) (fun (i, B, F, s6_3, cs_4, s7_6, cs_7, mb) => mb) (fun (i, B, F, s6_3, cs_4, s7_6, cs_7, mb) => l.length - i) (0, [], [], (.slice none 0 0), [], (.slice none 0 0), [], h0) ?_ ⟨?_, ?_, ?_, ?_, ?_, ?_, ?_, trivial⟩ rfl rfl ?_
 ·
  refine ⟨MLe.refl _, ?_⟩
  refine ⟨rl_1, rl_2, ?_⟩
  exact ⟨⟨by omega, rfl⟩, rfl⟩
 · exact rfl
 · exact rfl
 · exact rfl
 · exact rfl
 · exact congrArg some (xD id).symm
 · exact congrArg some (xD id).symm
 · exact rfl
 intro x hx
 obtain ⟨i, B, F, s6_3, cs_4, s7_6, cs_7, mb⟩ := x
 obtain ⟨hmmb, hinv⟩ := hx
 show GC _ _ _ _ _ _ [(0, vl), (3, vP b3 0), (6, s6_3), (7, s7_6), (8, vB (behTo s l i)), (9, vB (aheTo s l i)), (10, vI ↑i)] [.gs 32 9 s7_6 F.length cs_7, .gs 32 9 s6_3 B.length cs_4, .var b3 34 cs3] mb
 obtain ⟨rl_5, rl_8, hinv⟩ := hinv
 obtain ⟨⟨hi1, hB⟩, hF⟩ := hinv
 have hbl := bk_len s l i
 have hfl := fr_len s l i
 have hBl : B.length ≤ 2 * i := by rw [hB]; exact hbl
 have hFl : F.length ≤ 2 * i := by rw [hF]; exact hfl
 refine zC (zC (zA (mv rfl rfl (mv rfl rfl ?_))))
 replace rl := rl.mono hmmb
 refine gv (wJ Tryz.underlying27 rfl rl) rfl (gv (zW rfl rfl) rfl (zD (zB ?_)))
 refine zN rfl (fun hc19 => ?_) (fun hc19 => ?_)
 ·
  refine zK (zB (zC (zR (zC ?_))))
  refine yK 16 _ [(12, (11, 32, [.bool false, .slice none 0 0, .slice none 0 0, .bool false, .slice none 0 0, .slice none 0 0, .bool false, .slice none 0 0, .slice none 0 0])), (13, (12, 32, [.bool false, .slice none 0 0, .slice none 0 0, .bool false, .slice none 0 0, .slice none 0 0, .bool false, .slice none 0 0, .slice none 0 0]))] [(0, .q), (1, .q), (2, .q), (3, .q), (4, .q), (5, .q), (6, .q), (7, .q), (8, .q), (9, .q), (10, .q), (11, .q), (12, .a), (13, .a), (14, .c), (15, .c)] xN (AlOk.cons rfl (zero_run yC rfl rfl) (AlOk.cons rfl (zero_run yC rfl rfl) AlOk.nil)) (chk_of [0, 0, 3, 4, 0, 0, 32, 0, 128, 320, 528, 1024, 0, 0, 12303, 32767] [65535, 65535, 65532, 65531, 65535, 65535, 65503, 65535, 65407, 65215, 65007, 64511, 65535, 65535, 61431, 55295] (by kernel_rfl)) (hae_cons rfl rfl (hae_cons rfl rfl hae_nil)) (fun r hr => hr) (w_q rfl (fun h' L' hh hR => zG rfl) rfl (w_q rfl (fun h' L' hh hR => zG rfl) rfl (w_qx (F := fun v_ => AtP (rpT (rpQ k)) mb v_ (l.getD i (T3.mk (0 : Rat) (0 : Rat) (0 : Rat)))) rfl (ox_idx_s (T3.mk (0 : Rat) (0 : Rat) (0 : Rat)) i Tryz.underlying27 ty32 rfl rfl rl rfl (by omega) (show 0 < 9 from by decide)) mem0 rfl ?_)))
  intro v24 r24
  refine w_qx (F := fun v_ => (rpT (rpQ k)).Is mb v_ (l.getD i (T3.mk (0 : Rat) (0 : Rat) (0 : Rat)))) rfl (wY ty32 rfl r24) mem0 rfl ?_
  intro v25 r25
  refine w_q rfl (fun h' L' hh hR => zG rfl) rfl (w_q rfl (fun h' L' hh hR => zG rfl) rfl (w_q rfl (fun h' L' hh hR => zS (q := 1) rfl rfl (by omega) (by omega)) rfl (w_q rfl (fun h' L' hh hR => zG rfl) rfl (w_q rfl (fun h' L' hh hR => wJ Tryz.underlying27 rfl (rl.mono hh)) rfl (w_q rfl (fun h' L' hh hR => ov_rem_i rfl rfl (by omega) (by omega)) rfl (w_qx (F := fun v_ => AtP (rpT (rpQ k)) mb v_ (l.getD ((i + 1) % l.length) (T3.mk (0 : Rat) (0 : Rat) (0 : Rat)))) rfl (ox_idx_s (T3.mk (0 : Rat) (0 : Rat) (0 : Rat)) ((i + 1) % l.length) Tryz.underlying27 ty32 rfl rfl rl (by first | rfl | (push_cast; rfl)) (by exact Nat.mod_lt _ (by omega)) (show 0 < 9 from by decide)) mem0 rfl ?_))))))
  intro v32 r32
  refine w_qx (F := fun v_ => (rpT (rpQ k)).Is mb v_ (l.getD ((i + 1) % l.length) (T3.mk (0 : Rat) (0 : Rat) (0 : Rat)))) rfl (wY ty32 rfl r32) mem0 rfl ?_
  intro v33 r33
  refine w_a rfl (fun b11 => ?_)
  have rb11 : (rpT (rpQ (k + 1))).R mb [.bool false, .slice none 0 0, .slice none 0 0, .bool false, .slice none 0 0, .slice none 0 0, .bool false, .slice none 0 0, .slice none 0 0] (T3.mk (0 : Rat) (0 : Rat) (0 : Rat)) := (zr_t (zr_q (by omega)))
  refine w_a rfl (fun b12 => ?_)
  have rb12 : (rpT (rpQ (k + 1))).R mb [.bool false, .slice none 0 0, .slice none 0 0, .bool false, .slice none 0 0, .slice none 0 0, .bool false, .slice none 0 0, .slice none 0 0] (T3.mk (0 : Rat) (0 : Rat) (0 : Rat)) := (zr_t (zr_q (by omega)))
  refine w_c rfl (s_updx (A := [_]) (F := fun c_ => (rpT (rpQ (k + 1))).R mb c_ (l.getD i (T3.mk (0 : Rat) (0 : Rat) (0 : Rat)))) (yJ Tryz.sizeOf32 (Pc.here _) rfl rfl rfl rb11 (r25.le (Le.t (Le.q (l := k + 1) (by omega)))) rfl) (xA (by first | (simp; done) | grind)) ?_)
  intro cs_9 rb_10
  refine w_c rfl (s_updx (A := []) (F := fun c_ => (rpT (rpQ (k + 1))).R mb c_ (l.getD ((i + 1) % l.length) (T3.mk (0 : Rat) (0 : Rat) (0 : Rat)))) (yJ Tryz.sizeOf32 (Pc.here _) rfl rfl rfl rb12 (r33.le (Le.t (Le.q (l := k + 1) (by omega)))) rfl) (xA (by first | (simp; done) | grind)) ?_)
  intro cs_11 rb_12
  refine yZ (zJ (e' := [(0, _), (3, _), (6, _), (7, _), (8, _), (9, _), (10, _), (11, _), (12, _)]) ⟨rfl, rfl, rfl, rfl, rfl, rfl, rfl, rfl, rfl, trivial⟩ (zB (zC ?_)))
  refine yK 8 _ [] [(0, .q), (1, .q), (3, .q), (4, .q), (2, .c), (5, .c), (6, .q), (7, .q)] xN (fun x hx => by cases hx) (by kernel_rfl) (fun x hx => by cases hx) (fun r hr => hr) ?_
  replace rb3 := rb3.mono hmmb
  refine w_qx (F := fun v_ => (rpP (rpT (rpQ n)) (rpQ m)).Is mb v_ s) rfl (zE ty34 (Pc.here _) rfl rfl rb3 rfl) (mem1 (.tail _ (.tail _ (.tail _ (.tail _ (.head _)))))) rfl ?_
  intro v34 r34
  refine w_qx (F := fun v_ => (rpT (rpQ (k + 1))).Is mb v_ (l.getD i (T3.mk (0 : Rat) (0 : Rat) (0 : Rat)))) rfl (zE ty32 (Pc.here _) rfl rfl rb_10 rfl) (mem1 (.tail _ (.head _))) rfl ?_
  intro v35 r35
  refine w_qx (F := fun v_ => (rpP (rpT (rpQ n)) (rpQ m)).Is mb v_ s) rfl (zE ty34 (Pc.here _) rfl rfl rb3 rfl) (mem1 (.tail _ (.tail _ (.tail _ (.tail _ (.head _)))))) rfl ?_
  intro v37 r37
  refine w_qx (F := fun v_ => (rpT (rpQ (k + 1))).Is mb v_ (l.getD ((i + 1) % l.length) (T3.mk (0 : Rat) (0 : Rat) (0 : Rat)))) rfl (zE ty32 (Pc.here _) rfl rfl rb_12 rfl) (mem1 (.head _)) rfl ?_
  intro v38 r38
  refine w_c rfl ?_
  refine yI (vs := [_, _]) Tryz.call25 ⟨rfl, rfl, trivial⟩ (fun w hs => o_s4_side hs r34 r35 (by omega) (by omega) (by omega)) rfl ?_
  intro v36 h1 hh1 r36
  obtain rfl : v36 = vI (sdZ s (l.getD i (T3.mk (0 : Rat) (0 : Rat) (0 : Rat)))) := r36
  have hsd36 := sd_range s (l.getD i (T3.mk (0 : Rat) (0 : Rat) (0 : Rat)))
  refine w_c rfl ?_
  replace r37 := r37.mono hh1
  replace r38 := r38.mono hh1
  refine yI (vs := [_, _]) Tryz.call25 ⟨rfl, rfl, trivial⟩ (fun w hs => o_s4_side hs r37 r38 (by omega) (by omega) (by omega)) rfl ?_
  intro v39 h2 hh2 r39
  obtain rfl : v39 = vI (sdZ s (l.getD ((i + 1) % l.length) (T3.mk (0 : Rat) (0 : Rat) (0 : Rat)))) := r39
  have hsd39 := sd_range s (l.getD ((i + 1) % l.length) (T3.mk (0 : Rat) (0 : Rat) (0 : Rat)))
  refine w_q rfl (fun h' L' hh hR => zX rfl) rfl (w_q rfl (fun h' L' hh hR => zX rfl) rfl (yZ (zB (zC (zC (zA (mv rfl rfl (gv (ov_leq_i (q := 0) rfl rfl) rfl (zD (zB ?_))))))))))
  refine zN rfl (fun hc41 => ?_) (fun hc41 => ?_)
  ·
   have hp1 : sdZ s (gp l i) ≤ 0 := hc41
   refine zA (mv rfl rfl ?_)
   replace rb_10 := rb_10.mono (hh1.trans hh2)
   refine gl_x (F := fun v_ => (rpT (rpQ (k + 1))).Is h2 v_ (l.getD i (T3.mk (0 : Rat) (0 : Rat) (0 : Rat)))) (zE ty32 (Pc.here _) rfl rfl rb_10 rfl) (mem1 (.tail _ (.head _))) rfl ?_
   intro v43 r43
   refine zL (yO (ρ := (rpT (rpQ (k + 1)))) (m := 1) (xs := [(l.getD i (T3.mk (0 : Rat) (0 : Rat) (0 : Rat)))]) (ps' := [(0, _)]) Tryz.underlying27 yC rfl rfl rfl (zr_t (zr_q (by omega))) ⟨rfl, rfl, trivial⟩ (yQ rfl (Pc.arr (Pc.here _) (T3.mk (0 : Rat) (0 : Rat) (0 : Rat)) 0 (by decide)) r43 xM) (show 1 * 9 ≤ 16777216 from by decide) (show 0 < 9 from by decide)) rfl rfl rfl ?_
   intro v44 q44 hq44
   obtain ⟨cs44, rfl, rl44⟩ := hq44
   refine vQ (A := []) (ρ := (rpT (rpQ (k + 1)))) rl44 ?_
   intro h3 hh3 rs_13
   replace rl_5 := rl_5.mono ((hh1.trans hh2).trans hh3)
   refine vO (A := [_, _, _]) (yD (ρ := (rpT (rpQ (12 * k + 3 * m + 9 * n + 62)))) (bytes := 168) Tryz.underlying27 yC rfl rfl rfl rfl (show 0 < 9 from by decide) rfl rfl rl_5 (rs_13.le (Le.s (Le.t (Le.q (l := 12 * k + 3 * m + 9 * n + 62) (by omega))))) (by first | omega | (simp only [List.length_append, List.length_cons, List.length_nil, List.length_replicate, List.length_set]; omega)) (by first | omega | (simp only [List.length_append, List.length_cons, List.length_nil, List.length_replicate, List.length_set]; omega))) rfl rfl rfl ?_
   intro v45 q45 hq45
   obtain ⟨cs45, rfl, rl45⟩ := hq45
   refine asg rfl rfl (zD (zJ (e' := [(0, _), (3, _), (7, _), (8, _), (9, _), (10, _), (11, _), (12, _), (13, _), (14, _), (6, _)]) ⟨rfl, rfl, rfl, rfl, rfl, rfl, rfl, rfl, rfl, rfl, rfl, trivial⟩ (zB (zC (zC (zA (mv rfl rfl (gv (ov_geq_i (q := 0) rfl rfl) rfl (zD (zB ?_))))))))))
   refine zN rfl (fun hc47 => ?_) (fun hc47 => ?_)
   ·
    have hp2 : 0 ≤ sdZ s (gp l i) := hc47
    refine zA (mv rfl rfl ?_)
    replace rb_10 := rb_10.mono hh3
    refine gl_x (F := fun v_ => (rpT (rpQ (k + 1))).Is h3 v_ (l.getD i (T3.mk (0 : Rat) (0 : Rat) (0 : Rat)))) (zE ty32 (Pc.here _) rfl rfl rb_10 rfl) (mem1 (.tail _ (.head _))) rfl ?_
    intro v49 r49
    refine zL (yO (ρ := (rpT (rpQ (k + 1)))) (m := 1) (xs := [(l.getD i (T3.mk (0 : Rat) (0 : Rat) (0 : Rat)))]) (ps' := [(0, _)]) Tryz.underlying27 yC rfl rfl rfl (zr_t (zr_q (by omega))) ⟨rfl, rfl, trivial⟩ (yQ rfl (Pc.arr (Pc.here _) (T3.mk (0 : Rat) (0 : Rat) (0 : Rat)) 0 (by decide)) r49 xM) (show 1 * 9 ≤ 16777216 from by decide) (show 0 < 9 from by decide)) rfl rfl rfl ?_
    intro v50 q50 hq50
    obtain ⟨cs50, rfl, rl50⟩ := hq50
    refine vQ (A := []) (ρ := (rpT (rpQ (k + 1)))) rl50 ?_
    intro h4 hh4 rs_14
    replace rl_8 := rl_8.mono (((hh1.trans hh2).trans hh3).trans hh4)
    refine vO (A := [_, _]) (yD (ρ := (rpT (rpQ (12 * k + 3 * m + 9 * n + 62)))) (bytes := 168) Tryz.underlying27 yC rfl rfl rfl rfl (show 0 < 9 from by decide) rfl rfl rl_8 (rs_14.le (Le.s (Le.t (Le.q (l := 12 * k + 3 * m + 9 * n + 62) (by omega))))) (by first | omega | (simp only [List.length_append, List.length_cons, List.length_nil, List.length_replicate, List.length_set]; omega)) (by first | omega | (simp only [List.length_append, List.length_cons, List.length_nil, List.length_replicate, List.length_set]; omega))) rfl rfl rfl ?_
    intro v51 q51 hq51
    obtain ⟨cs51, rfl, rl51⟩ := hq51
    refine asg rfl rfl (zD (zB (zC (zA (mv rfl rfl ?_)))))
    refine vM (ι := Unit) 4 (fun _ => True) (fun _ => [(56, vB ((behTo s l i) ∨ ((sdZ s (l.getD i (T3.mk (0 : Rat) (0 : Rat) (0 : Rat)))) < (0 : Int)))), (0, vl), (3, vP b3 0), (9, vB (aheTo s l i)), (10, vI ↑i), (11, vP b11 0), (12, vP b12 0), (13, vI (sdZ s (l.getD i (T3.mk (0 : Rat) (0 : Rat) (0 : Rat))))), (14, vI (sdZ s (l.getD ((i + 1) % l.length) (T3.mk (0 : Rat) (0 : Rat) (0 : Rat))))), (6, v45), (7, v51)]) (fun _ => [.var b12 32 cs_11, .var b11 32 cs_9, .gs 32 9 v51 (F ++ [(l.getD i (T3.mk (0 : Rat) (0 : Rat) (0 : Rat)))]).length cs51, .gs 32 9 v45 (B ++ [(l.getD i (T3.mk (0 : Rat) (0 : Rat) (0 : Rat)))]).length cs45, .var b3 34 cs3]) (fun _ => h4) ?_ ?_
    ·
     refine wI (behTo s l i) (fun hg => ?_) (fun hg => ?_)
     ·
      refine xK (zG (v := .bool true) (congrArg some (xT hg))) rfl rfl rfl (yM rfl rfl rfl rfl rfl rfl (yM rfl rfl rfl rfl rfl rfl (gv (xR rfl rfl) rfl (zD ?_))))
      refine yP () trivial ⟨?_, rfl, rfl, rfl, rfl, rfl, rfl, rfl, rfl, rfl, rfl, trivial⟩ rfl rfl
      exact congrArg some (vB_or_t hg)
     refine xK (zG (v := .bool false) (congrArg some (xD hg))) rfl rfl rfl (yW rfl rfl rfl (mv rfl rfl (yW rfl rfl rfl (gv (zW (q := 0) rfl rfl) rfl (gv (xU rfl rfl) rfl (zD ?_))))))
     refine yP () trivial ⟨?_, rfl, rfl, rfl, rfl, rfl, rfl, rfl, rfl, rfl, rfl, trivial⟩ rfl rfl
     exact congrArg some (vB_or_f hg)
    intro _ _
    show GL _ _ _ _ _ _ _ [(56, vB ((behTo s l i) ∨ ((sdZ s (l.getD i (T3.mk (0 : Rat) (0 : Rat) (0 : Rat)))) < (0 : Int)))), (0, vl), (3, vP b3 0), (9, vB (aheTo s l i)), (10, vI ↑i), (11, vP b11 0), (12, vP b12 0), (13, vI (sdZ s (l.getD i (T3.mk (0 : Rat) (0 : Rat) (0 : Rat))))), (14, vI (sdZ s (l.getD ((i + 1) % l.length) (T3.mk (0 : Rat) (0 : Rat) (0 : Rat))))), (6, v45), (7, v51)] [.var b12 32 cs_11, .var b11 32 cs_9, .gs 32 9 v51 (F ++ [(l.getD i (T3.mk (0 : Rat) (0 : Rat) (0 : Rat)))]).length cs51, .gs 32 9 v45 (B ++ [(l.getD i (T3.mk (0 : Rat) (0 : Rat) (0 : Rat)))]).length cs45, .var b3 34 cs3] h4
    refine mv rfl rfl ?_
    refine vM (ι := Unit) 4 (fun _ => True) (fun _ => [(61, vB ((aheTo s l i) ∨ ((0 : Int) < (sdZ s (l.getD i (T3.mk (0 : Rat) (0 : Rat) (0 : Rat))))))), (0, vl), (3, vP b3 0), (10, vI ↑i), (11, vP b11 0), (12, vP b12 0), (13, vI (sdZ s (l.getD i (T3.mk (0 : Rat) (0 : Rat) (0 : Rat))))), (14, vI (sdZ s (l.getD ((i + 1) % l.length) (T3.mk (0 : Rat) (0 : Rat) (0 : Rat))))), (6, v45), (7, v51), (56, vB ((behTo s l i) ∨ ((sdZ s (l.getD i (T3.mk (0 : Rat) (0 : Rat) (0 : Rat)))) < (0 : Int))))]) (fun _ => [.var b12 32 cs_11, .var b11 32 cs_9, .gs 32 9 v51 (F ++ [(l.getD i (T3.mk (0 : Rat) (0 : Rat) (0 : Rat)))]).length cs51, .gs 32 9 v45 (B ++ [(l.getD i (T3.mk (0 : Rat) (0 : Rat) (0 : Rat)))]).length cs45, .var b3 34 cs3]) (fun _ => h4) ?_ ?_
    ·
     refine wI (aheTo s l i) (fun hg => ?_) (fun hg => ?_)
     ·
      refine xK (zG (v := .bool true) (congrArg some (xT hg))) rfl rfl rfl (yM rfl rfl rfl rfl rfl rfl (yM rfl rfl rfl rfl rfl rfl (gv (xR rfl rfl) rfl (zD ?_))))
      refine yP () trivial ⟨?_, rfl, rfl, rfl, rfl, rfl, rfl, rfl, rfl, rfl, rfl, trivial⟩ rfl rfl
      exact congrArg some (vB_or_t hg)
     refine xK (zG (v := .bool false) (congrArg some (xD hg))) rfl rfl rfl (yW rfl rfl rfl (mv rfl rfl (yW rfl rfl rfl (gv (vD (q := 0) rfl rfl) rfl (gv (xU rfl rfl) rfl (zD ?_))))))
     refine yP () trivial ⟨?_, rfl, rfl, rfl, rfl, rfl, rfl, rfl, rfl, rfl, rfl, trivial⟩ rfl rfl
     exact congrArg some (vB_or_f hg)
    intro _ _
    show GL _ _ _ _ _ _ _ [(61, vB ((aheTo s l i) ∨ ((0 : Int) < (sdZ s (l.getD i (T3.mk (0 : Rat) (0 : Rat) (0 : Rat))))))), (0, vl), (3, vP b3 0), (10, vI ↑i), (11, vP b11 0), (12, vP b12 0), (13, vI (sdZ s (l.getD i (T3.mk (0 : Rat) (0 : Rat) (0 : Rat))))), (14, vI (sdZ s (l.getD ((i + 1) % l.length) (T3.mk (0 : Rat) (0 : Rat) (0 : Rat))))), (6, v45), (7, v51), (56, vB ((behTo s l i) ∨ ((sdZ s (l.getD i (T3.mk (0 : Rat) (0 : Rat) (0 : Rat)))) < (0 : Int))))] [.var b12 32 cs_11, .var b11 32 cs_9, .gs 32 9 v51 (F ++ [(l.getD i (T3.mk (0 : Rat) (0 : Rat) (0 : Rat)))]).length cs51, .gs 32 9 v45 (B ++ [(l.getD i (T3.mk (0 : Rat) (0 : Rat) (0 : Rat)))]).length cs45, .var b3 34 cs3] h4
    refine asg rfl rfl (asg rfl rfl (zD (zB (zC (zA (mv rfl rfl (mv rfl rfl (gv (ov_mul_i rfl rfl (by have := mul_range hsd36 hsd39; omega) (by have := mul_range hsd36 hsd39; omega)) rfl (gv (zW (q := 0) rfl rfl) rfl (zD (zB ?_)))))))))))
    refine zN rfl (fun hc65 => ?_) (fun hc65 => ?_)
    ·
     have hx1 : xP s l i := hc65
     refine zC (zA ?_)
     replace rb_10 := rb_10.mono hh4
     refine gl_x (F := fun v_ => (rpT (rpQ (k + 1))).Is h4 v_ (l.getD i (T3.mk (0 : Rat) (0 : Rat) (0 : Rat)))) (zE ty32 (Pc.here _) rfl rfl rb_10 rfl) (mem1 (.tail _ (.head _))) rfl ?_
     intro v66 r66
     replace rb_12 := rb_12.mono (((hh1.trans hh2).trans hh3).trans hh4)
     refine gl_x (F := fun v_ => (rpT (rpQ (k + 1))).Is h4 v_ (l.getD ((i + 1) % l.length) (T3.mk (0 : Rat) (0 : Rat) (0 : Rat)))) (zE ty32 (Pc.here _) rfl rfl rb_12 rfl) (mem1 (.head _)) rfl ?_
     intro v67 r67
     replace rb3 := rb3.mono (((hh1.trans hh2).trans hh3).trans hh4)
     refine gl_x (F := fun v_ => (rpP (rpT (rpQ n)) (rpQ m)).Is h4 v_ s) (zE ty34 (Pc.here _) rfl rfl rb3 rfl) (mem1 (.tail _ (.tail _ (.tail _ (.tail _ (.head _)))))) rfl ?_
     intro v68 r68
     refine zM (vs := [_, _, _]) rfl rfl rfl rfl Tryz.call49 ⟨rfl, rfl, rfl, trivial⟩ (fun w hs => o_r6_between hs r66 r67 r68 (by omega) (by omega) (by omega)) ?_
     intro v69 h5 hh5 r69
     change (rpT (rpQ (12 * (k + 1) + 3 * m + 9 * n + 50))).Is h5 v69 (btw s (l.getD i (T3.mk (0 : Rat) (0 : Rat) (0 : Rat))) (l.getD ((i + 1) % l.length) (T3.mk (0 : Rat) (0 : Rat) (0 : Rat)))) at r69
     replace r69 := Rp.Is.le r69 (Le.t (Le.q (l := 12 * k + 3 * m + 9 * n + 62) (by omega)))
     refine zL (xE (ρ := (rpT (rpQ 1))) (X := (T3.mk (0 : Rat) (0 : Rat) (0 : Rat))) yC rfl rfl (zr_t (zr_q (by decide)))) rfl rfl rfl ?_
     intro v15 q15 hq15
     obtain ⟨b15, cs15, rfl, rfl, rb15⟩ := hq15
     have rw_15 := (Le.t (Le.q (l := 12 * k + 3 * m + 9 * n + 62) (by omega))).R rb15
     refine wE (A := []) (F := fun c_ => (rpT (rpQ (12 * k + 3 * m + 9 * n + 62))).R h5 c_ (btw s (l.getD i (T3.mk (0 : Rat) (0 : Rat) (0 : Rat))) (l.getD ((i + 1) % l.length) (T3.mk (0 : Rat) (0 : Rat) (0 : Rat))))) (yJ Tryz.sizeOf32 (Pc.here _) rfl rfl rfl rw_15 r69 rfl) ?_
     intro cs_16 rb_17
     refine zD (zJ (e' := [(0, _), (3, _), (10, _), (6, _), (7, _), (8, _), (9, _), (15, _)]) ⟨rfl, rfl, rfl, rfl, rfl, rfl, rfl, rfl, trivial⟩ (zB ?_))
     refine yK 10 [.var b15 32 cs_16, .var b12 32 cs_11, .var b11 32 cs_9, .var b3 34 cs3] [] [(0, .q), (1, .q), (4, .q), (5, .q), (2, .d 3 6), (7, .c), (8, .q), (9, .q)] xN (fun x hx => by cases hx) (by kernel_rfl) (fun x hx => by cases hx) (by intro r hr; simp only [List.mem_cons, List.mem_append, List.not_mem_nil, or_false] at hr ⊢ <;> grind) (w_q rfl (fun h' L' hh hR => zG rfl) rfl (w_qx (F := fun v_ => (rpT (rpQ (12 * k + 3 * m + 9 * n + 62))).Is h5 v_ (btw s (l.getD i (T3.mk (0 : Rat) (0 : Rat) (0 : Rat))) (l.getD ((i + 1) % l.length) (T3.mk (0 : Rat) (0 : Rat) (0 : Rat))))) rfl (zE ty32 (Pc.here _) rfl rfl rb_17 rfl) (mem1 (.head _)) rfl ?_))
     intro v71 r71
     refine w_q rfl (fun h' L' hh hR => zG rfl) rfl (w_qx (F := fun v_ => (rpT (rpQ (12 * k + 3 * m + 9 * n + 62))).Is h5 v_ (btw s (l.getD i (T3.mk (0 : Rat) (0 : Rat) (0 : Rat))) (l.getD ((i + 1) % l.length) (T3.mk (0 : Rat) (0 : Rat) (0 : Rat))))) rfl (zE ty32 (Pc.here _) rfl rfl rb_17 rfl) (mem1 (.head _)) rfl ?_)
     intro v75 r75
     refine w_d rfl rfl rfl ?_ ?_
     ·
      refine s_new (fun X => yO (ρ := (rpT (rpQ (12 * k + 3 * m + 9 * n + 62)))) (m := 1) (xs := [btw s (l.getD i (T3.mk (0 : Rat) (0 : Rat) (0 : Rat))) (l.getD ((i + 1) % l.length) (T3.mk (0 : Rat) (0 : Rat) (0 : Rat)))]) (ps' := [(0, _)]) Tryz.underlying27 yC rfl rfl rfl (zr_t (zr_q (by omega))) ⟨rfl, rfl, trivial⟩ (yQ rfl (Pc.arr (Pc.here _) (T3.mk (0 : Rat) (0 : Rat) (0 : Rat)) 0 (by decide)) r71 xM) (show 1 * 9 ≤ 16777216 from by decide) (show 0 < 9 from by decide)) rfl ?_
      intro v72 q72 hq72
      obtain ⟨cs72, rfl, rl72⟩ := hq72
      refine ⟨?_, ?_⟩
      ·
       refine xI (A := []) (ρ := (rpT (rpQ (12 * k + 3 * m + 9 * n + 62)))) rl72 (xJ (by first | (simp; done) | grind)) ?_
       intro h6 hh6 rs_18
       replace rl45 := rl45.mono ((hh4.trans hh5).trans hh6)
       refine uA (A := [_, _, _, _]) (fun X => yD (ρ := (rpT (rpQ (12 * k + 3 * m + 9 * n + 62)))) (bytes := 168) Tryz.underlying27 yC rfl rfl rfl rfl (show 0 < 9 from by decide) rfl rfl rl45 rs_18 (by first | omega | (simp only [List.length_append, List.length_cons, List.length_nil, List.length_replicate, List.length_set]; omega)) (by first | omega | (simp only [List.length_append, List.length_cons, List.length_nil, List.length_replicate, List.length_set]; omega))) rfl (xA (by first | (simp; done) | grind)) ?_
       intro v73 q73 hq73
       obtain ⟨cs73, rfl, rl73⟩ := hq73
       replace r75 := r75.mono hh6
       refine s_new (fun X => yO (ρ := (rpT (rpQ (12 * k + 3 * m + 9 * n + 62)))) (m := 1) (xs := [btw s (l.getD i (T3.mk (0 : Rat) (0 : Rat) (0 : Rat))) (l.getD ((i + 1) % l.length) (T3.mk (0 : Rat) (0 : Rat) (0 : Rat)))]) (ps' := [(0, _)]) Tryz.underlying27 yC rfl rfl rfl (zr_t (zr_q (by omega))) ⟨rfl, rfl, trivial⟩ (yQ rfl (Pc.arr (Pc.here _) (T3.mk (0 : Rat) (0 : Rat) (0 : Rat)) 0 (by decide)) r75 xM) (show 1 * 9 ≤ 16777216 from by decide) (show 0 < 9 from by decide)) rfl ?_
       intro v76 q76 hq76
       obtain ⟨cs76, rfl, rl76⟩ := hq76
       refine w_c rfl (xI (A := []) (ρ := (rpT (rpQ (12 * k + 3 * m + 9 * n + 62)))) rl76 (xJ (by first | (simp; done) | grind)) ?_)
       intro h7 hh7 rs_19
       replace rl51 := rl51.mono ((hh5.trans hh6).trans hh7)
       refine uA (A := [_, _, _]) (fun X => yD (ρ := (rpT (rpQ (12 * k + 3 * m + 9 * n + 62)))) (bytes := 168) Tryz.underlying27 yC rfl rfl rfl rfl (show 0 < 9 from by decide) rfl rfl rl51 rs_19 (by first | omega | (simp only [List.length_append, List.length_cons, List.length_nil, List.length_replicate, List.length_set]; omega)) (by first | omega | (simp only [List.length_append, List.length_cons, List.length_nil, List.length_replicate, List.length_set]; omega))) rfl (xA (by first | (simp; done) | grind)) ?_
       intro v77 q77 hq77
       obtain ⟨cs77, rfl, rl77⟩ := hq77
       refine w_q rfl (fun h' L' hh hR => zX rfl) rfl (w_q rfl (fun h' L' hh hR => zX rfl) rfl (yZ (yV (zB (zA (mv rfl rfl (gv (zS (q := 1) rfl rfl (by omega) (by omega)) rfl (asg rfl rfl (zD (yX (A := []) (yX (A := []) (yX (A := []) ?_))))))))))))
       refine yL ((i + 1), ((B ++ [(l.getD i (T3.mk (0 : Rat) (0 : Rat) (0 : Rat)))]) ++ [btw s (l.getD i (T3.mk (0 : Rat) (0 : Rat) (0 : Rat))) (l.getD ((i + 1) % l.length) (T3.mk (0 : Rat) (0 : Rat) (0 : Rat)))]), ((F ++ [(l.getD i (T3.mk (0 : Rat) (0 : Rat) (0 : Rat)))]) ++ [btw s (l.getD i (T3.mk (0 : Rat) (0 : Rat) (0 : Rat))) (l.getD ((i + 1) % l.length) (T3.mk (0 : Rat) (0 : Rat) (0 : Rat)))]), v73, cs73, v77, cs77, h7) ?_ ?_ ⟨rfl, rfl, rfl, rfl, rfl, rfl, rfl, trivial⟩ rfl rfl
       ·
        refine ⟨(((((((hmmb.trans hh1).trans hh2).trans hh3).trans hh4).trans hh5).trans hh6).trans hh7), ?_⟩
        replace rl73 := rl73.mono hh7
        refine ⟨rl73, rl77, ?_⟩
        exact ⟨⟨by omega, (by first | exact bk_ax hB hp1 hx1 | exact bk_a hB hp1 hx1 | exact bk_x hB hp1 hx1 | exact bk_n hB hp1 hx1)⟩, (by first | exact fr_ax hF hp2 hx1 | exact fr_a hF hp2 hx1 | exact fr_x hF hp2 hx1 | exact fr_n hF hp2 hx1)⟩
       dsimp only
       omega
      refine s_new (fun X => yO (ρ := (rpT (rpQ (12 * k + 3 * m + 9 * n + 62)))) (m := 1) (xs := [btw s (l.getD i (T3.mk (0 : Rat) (0 : Rat) (0 : Rat))) (l.getD ((i + 1) % l.length) (T3.mk (0 : Rat) (0 : Rat) (0 : Rat)))]) (ps' := [(0, _)]) Tryz.underlying27 yC rfl rfl rfl (zr_t (zr_q (by omega))) ⟨rfl, rfl, trivial⟩ (yQ rfl (Pc.arr (Pc.here _) (T3.mk (0 : Rat) (0 : Rat) (0 : Rat)) 0 (by decide)) r75 xM) (show 1 * 9 ≤ 16777216 from by decide) (show 0 < 9 from by decide)) rfl ?_
      intro v76 q76 hq76
      obtain ⟨cs76, rfl, rl76⟩ := hq76
      refine xI (A := [_]) (ρ := (rpT (rpQ (12 * k + 3 * m + 9 * n + 62)))) rl72 (xJ (by first | (simp; done) | grind)) ?_
      intro h6 hh6 rs_20
      replace rl45 := rl45.mono ((hh4.trans hh5).trans hh6)
      refine uA (A := [_, _, _, _, _]) (fun X => yD (ρ := (rpT (rpQ (12 * k + 3 * m + 9 * n + 62)))) (bytes := 168) Tryz.underlying27 yC rfl rfl rfl rfl (show 0 < 9 from by decide) rfl rfl rl45 rs_20 (by first | omega | (simp only [List.length_append, List.length_cons, List.length_nil, List.length_replicate, List.length_set]; omega)) (by first | omega | (simp only [List.length_append, List.length_cons, List.length_nil, List.length_replicate, List.length_set]; omega))) rfl (xA (by first | (simp; done) | grind)) ?_
      intro v73 q73 hq73
      obtain ⟨cs73, rfl, rl73⟩ := hq73
      refine w_c rfl ?_
      replace rl76 := rl76.mono hh6
      refine xI (A := []) (ρ := (rpT (rpQ (12 * k + 3 * m + 9 * n + 62)))) rl76 (xJ (by first | (simp; done) | grind)) ?_
      intro h7 hh7 rs_21
      replace rl51 := rl51.mono ((hh5.trans hh6).trans hh7)
      refine uA (A := [_, _, _]) (fun X => yD (ρ := (rpT (rpQ (12 * k + 3 * m + 9 * n + 62)))) (bytes := 168) Tryz.underlying27 yC rfl rfl rfl rfl (show 0 < 9 from by decide) rfl rfl rl51 rs_21 (by first | omega | (simp only [List.length_append, List.length_cons, List.length_nil, List.length_replicate, List.length_set]; omega)) (by first | omega | (simp only [List.length_append, List.length_cons, List.length_nil, List.length_replicate, List.length_set]; omega))) rfl (xA (by first | (simp; done) | grind)) ?_
      intro v77 q77 hq77
      obtain ⟨cs77, rfl, rl77⟩ := hq77
      refine w_q rfl (fun h' L' hh hR => zX rfl) rfl (w_q rfl (fun h' L' hh hR => zX rfl) rfl (yZ (yV (zB (zA (mv rfl rfl (gv (zS (q := 1) rfl rfl (by omega) (by omega)) rfl (asg rfl rfl (zD (yX (A := []) (yX (A := []) (yX (A := []) ?_))))))))))))
      refine yL ((i + 1), ((B ++ [(l.getD i (T3.mk (0 : Rat) (0 : Rat) (0 : Rat)))]) ++ [btw s (l.getD i (T3.mk (0 : Rat) (0 : Rat) (0 : Rat))) (l.getD ((i + 1) % l.length) (T3.mk (0 : Rat) (0 : Rat) (0 : Rat)))]), ((F ++ [(l.getD i (T3.mk (0 : Rat) (0 : Rat) (0 : Rat)))]) ++ [btw s (l.getD i (T3.mk (0 : Rat) (0 : Rat) (0 : Rat))) (l.getD ((i + 1) % l.length) (T3.mk (0 : Rat) (0 : Rat) (0 : Rat)))]), v73, cs73, v77, cs77, h7) ?_ ?_ ⟨rfl, rfl, rfl, rfl, rfl, rfl, rfl, trivial⟩ rfl rfl
      ·
       refine ⟨(((((((hmmb.trans hh1).trans hh2).trans hh3).trans hh4).trans hh5).trans hh6).trans hh7), ?_⟩
       replace rl73 := rl73.mono hh7
       refine ⟨rl73, rl77, ?_⟩
       exact ⟨⟨by omega, (by first | exact bk_ax hB hp1 hx1 | exact bk_a hB hp1 hx1 | exact bk_x hB hp1 hx1 | exact bk_n hB hp1 hx1)⟩, (by first | exact fr_ax hF hp2 hx1 | exact fr_a hF hp2 hx1 | exact fr_x hF hp2 hx1 | exact fr_n hF hp2 hx1)⟩
      dsimp only
      omega
     refine s_new (fun X => yO (ρ := (rpT (rpQ (12 * k + 3 * m + 9 * n + 62)))) (m := 1) (xs := [btw s (l.getD i (T3.mk (0 : Rat) (0 : Rat) (0 : Rat))) (l.getD ((i + 1) % l.length) (T3.mk (0 : Rat) (0 : Rat) (0 : Rat)))]) (ps' := [(0, _)]) Tryz.underlying27 yC rfl rfl rfl (zr_t (zr_q (by omega))) ⟨rfl, rfl, trivial⟩ (yQ rfl (Pc.arr (Pc.here _) (T3.mk (0 : Rat) (0 : Rat) (0 : Rat)) 0 (by decide)) r75 xM) (show 1 * 9 ≤ 16777216 from by decide) (show 0 < 9 from by decide)) rfl ?_
     intro v76 q76 hq76
     obtain ⟨cs76, rfl, rl76⟩ := hq76
     refine s_new (fun X => yO (ρ := (rpT (rpQ (12 * k + 3 * m + 9 * n + 62)))) (m := 1) (xs := [btw s (l.getD i (T3.mk (0 : Rat) (0 : Rat) (0 : Rat))) (l.getD ((i + 1) % l.length) (T3.mk (0 : Rat) (0 : Rat) (0 : Rat)))]) (ps' := [(0, _)]) Tryz.underlying27 yC rfl rfl rfl (zr_t (zr_q (by omega))) ⟨rfl, rfl, trivial⟩ (yQ rfl (Pc.arr (Pc.here _) (T3.mk (0 : Rat) (0 : Rat) (0 : Rat)) 0 (by decide)) r71 xM) (show 1 * 9 ≤ 16777216 from by decide) (show 0 < 9 from by decide)) rfl ?_
     intro v72 q72 hq72
     obtain ⟨cs72, rfl, rl72⟩ := hq72
     refine xI (A := []) (ρ := (rpT (rpQ (12 * k + 3 * m + 9 * n + 62)))) rl72 (xJ (by first | (simp; done) | grind)) ?_
     intro h6 hh6 rs_22
     replace rl45 := rl45.mono ((hh4.trans hh5).trans hh6)
     refine uA (A := [_, _, _, _, _]) (fun X => yD (ρ := (rpT (rpQ (12 * k + 3 * m + 9 * n + 62)))) (bytes := 168) Tryz.underlying27 yC rfl rfl rfl rfl (show 0 < 9 from by decide) rfl rfl rl45 rs_22 (by first | omega | (simp only [List.length_append, List.length_cons, List.length_nil, List.length_replicate, List.length_set]; omega)) (by first | omega | (simp only [List.length_append, List.length_cons, List.length_nil, List.length_replicate, List.length_set]; omega))) rfl (xA (by first | (simp; done) | grind)) ?_
     intro v73 q73 hq73
     obtain ⟨cs73, rfl, rl73⟩ := hq73
     refine w_c rfl ?_
     replace rl76 := rl76.mono hh6
     refine xI (A := []) (ρ := (rpT (rpQ (12 * k + 3 * m + 9 * n + 62)))) rl76 (xJ (by first | (simp; done) | grind)) ?_
     intro h7 hh7 rs_23
     replace rl51 := rl51.mono ((hh5.trans hh6).trans hh7)
     refine uA (A := [_, _, _]) (fun X => yD (ρ := (rpT (rpQ (12 * k + 3 * m + 9 * n + 62)))) (bytes := 168) Tryz.underlying27 yC rfl rfl rfl rfl (show 0 < 9 from by decide) rfl rfl rl51 rs_23 (by first | omega | (simp only [List.length_append, List.length_cons, List.length_nil, List.length_replicate, List.length_set]; omega)) (by first | omega | (simp only [List.length_append, List.length_cons, List.length_nil, List.length_replicate, List.length_set]; omega))) rfl (xA (by first | (simp; done) | grind)) ?_
     intro v77 q77 hq77
     obtain ⟨cs77, rfl, rl77⟩ := hq77
     refine w_q rfl (fun h' L' hh hR => zX rfl) rfl (w_q rfl (fun h' L' hh hR => zX rfl) rfl (yZ (yV (zB (zA (mv rfl rfl (gv (zS (q := 1) rfl rfl (by omega) (by omega)) rfl (asg rfl rfl (zD (yX (A := []) (yX (A := []) (yX (A := []) ?_))))))))))))
     refine yL ((i + 1), ((B ++ [(l.getD i (T3.mk (0 : Rat) (0 : Rat) (0 : Rat)))]) ++ [btw s (l.getD i (T3.mk (0 : Rat) (0 : Rat) (0 : Rat))) (l.getD ((i + 1) % l.length) (T3.mk (0 : Rat) (0 : Rat) (0 : Rat)))]), ((F ++ [(l.getD i (T3.mk (0 : Rat) (0 : Rat) (0 : Rat)))]) ++ [btw s (l.getD i (T3.mk (0 : Rat) (0 : Rat) (0 : Rat))) (l.getD ((i + 1) % l.length) (T3.mk (0 : Rat) (0 : Rat) (0 : Rat)))]), v73, cs73, v77, cs77, h7) ?_ ?_ ⟨rfl, rfl, rfl, rfl, rfl, rfl, rfl, trivial⟩ rfl rfl
     ·
      refine ⟨(((((((hmmb.trans hh1).trans hh2).trans hh3).trans hh4).trans hh5).trans hh6).trans hh7), ?_⟩
      replace rl73 := rl73.mono hh7
      refine ⟨rl73, rl77, ?_⟩
      exact ⟨⟨by omega, (by first | exact bk_ax hB hp1 hx1 | exact bk_a hB hp1 hx1 | exact bk_x hB hp1 hx1 | exact bk_n hB hp1 hx1)⟩, (by first | exact fr_ax hF hp2 hx1 | exact fr_a hF hp2 hx1 | exact fr_x hF hp2 hx1 | exact fr_n hF hp2 hx1)⟩
     dsimp only
     omega
    have hx1 : ¬ xP s l i := hc65
    refine wL (e' := [(0, _), (3, _), (10, _), (6, _), (7, _), (8, _), (9, _)]) ⟨rfl, rfl, rfl, rfl, rfl, rfl, rfl, trivial⟩ (zK (yV (zB (zA (mv rfl rfl (gv (zS (q := 1) rfl rfl (by omega) (by omega)) rfl (asg rfl rfl (zD (yX (A := []) (yX (A := []) ?_))))))))))
    refine yL ((i + 1), (B ++ [(l.getD i (T3.mk (0 : Rat) (0 : Rat) (0 : Rat)))]), (F ++ [(l.getD i (T3.mk (0 : Rat) (0 : Rat) (0 : Rat)))]), v45, cs45, v51, cs51, h4) ?_ ?_ ⟨rfl, rfl, rfl, rfl, rfl, rfl, rfl, trivial⟩ rfl rfl
    ·
     refine ⟨((((hmmb.trans hh1).trans hh2).trans hh3).trans hh4), ?_⟩
     replace rl45 := rl45.mono hh4
     refine ⟨rl45, rl51, ?_⟩
     exact ⟨⟨by omega, (by first | exact bk_ax hB hp1 hx1 | exact bk_a hB hp1 hx1 | exact bk_x hB hp1 hx1 | exact bk_n hB hp1 hx1)⟩, (by first | exact fr_ax hF hp2 hx1 | exact fr_a hF hp2 hx1 | exact fr_x hF hp2 hx1 | exact fr_n hF hp2 hx1)⟩
    dsimp only
    omega
   have hp2 : ¬ 0 ≤ sdZ s (gp l i) := hc47
   refine zK (zB (zC (zA (mv rfl rfl ?_))))
   refine vM (ι := Unit) 4 (fun _ => True) (fun _ => [(56, vB ((behTo s l i) ∨ ((sdZ s (l.getD i (T3.mk (0 : Rat) (0 : Rat) (0 : Rat)))) < (0 : Int)))), (0, vl), (3, vP b3 0), (7, s7_6), (9, vB (aheTo s l i)), (10, vI ↑i), (11, vP b11 0), (12, vP b12 0), (13, vI (sdZ s (l.getD i (T3.mk (0 : Rat) (0 : Rat) (0 : Rat))))), (14, vI (sdZ s (l.getD ((i + 1) % l.length) (T3.mk (0 : Rat) (0 : Rat) (0 : Rat))))), (6, v45)]) (fun _ => [.var b12 32 cs_11, .var b11 32 cs_9, .gs 32 9 s7_6 F.length cs_7, .gs 32 9 v45 (B ++ [(l.getD i (T3.mk (0 : Rat) (0 : Rat) (0 : Rat)))]).length cs45, .var b3 34 cs3]) (fun _ => h3) ?_ ?_
   ·
    refine wI (behTo s l i) (fun hg => ?_) (fun hg => ?_)
    ·
     refine xK (zG (v := .bool true) (congrArg some (xT hg))) rfl rfl rfl (yM rfl rfl rfl rfl rfl rfl (yM rfl rfl rfl rfl rfl rfl (gv (xR rfl rfl) rfl (zD ?_))))
     refine yP () trivial ⟨?_, rfl, rfl, rfl, rfl, rfl, rfl, rfl, rfl, rfl, rfl, trivial⟩ rfl rfl
     exact congrArg some (vB_or_t hg)
    refine xK (zG (v := .bool false) (congrArg some (xD hg))) rfl rfl rfl (yW rfl rfl rfl (mv rfl rfl (yW rfl rfl rfl (gv (zW (q := 0) rfl rfl) rfl (gv (xU rfl rfl) rfl (zD ?_))))))
    refine yP () trivial ⟨?_, rfl, rfl, rfl, rfl, rfl, rfl, rfl, rfl, rfl, rfl, trivial⟩ rfl rfl
    exact congrArg some (vB_or_f hg)
   intro _ _
   show GL _ _ _ _ _ _ _ [(56, vB ((behTo s l i) ∨ ((sdZ s (l.getD i (T3.mk (0 : Rat) (0 : Rat) (0 : Rat)))) < (0 : Int)))), (0, vl), (3, vP b3 0), (7, s7_6), (9, vB (aheTo s l i)), (10, vI ↑i), (11, vP b11 0), (12, vP b12 0), (13, vI (sdZ s (l.getD i (T3.mk (0 : Rat) (0 : Rat) (0 : Rat))))), (14, vI (sdZ s (l.getD ((i + 1) % l.length) (T3.mk (0 : Rat) (0 : Rat) (0 : Rat))))), (6, v45)] [.var b12 32 cs_11, .var b11 32 cs_9, .gs 32 9 s7_6 F.length cs_7, .gs 32 9 v45 (B ++ [(l.getD i (T3.mk (0 : Rat) (0 : Rat) (0 : Rat)))]).length cs45, .var b3 34 cs3] h3
   refine mv rfl rfl ?_
   refine vM (ι := Unit) 4 (fun _ => True) (fun _ => [(61, vB ((aheTo s l i) ∨ ((0 : Int) < (sdZ s (l.getD i (T3.mk (0 : Rat) (0 : Rat) (0 : Rat))))))), (0, vl), (3, vP b3 0), (7, s7_6), (10, vI ↑i), (11, vP b11 0), (12, vP b12 0), (13, vI (sdZ s (l.getD i (T3.mk (0 : Rat) (0 : Rat) (0 : Rat))))), (14, vI (sdZ s (l.getD ((i + 1) % l.length) (T3.mk (0 : Rat) (0 : Rat) (0 : Rat))))), (6, v45), (56, vB ((behTo s l i) ∨ ((sdZ s (l.getD i (T3.mk (0 : Rat) (0 : Rat) (0 : Rat)))) < (0 : Int))))]) (fun _ => [.var b12 32 cs_11, .var b11 32 cs_9, .gs 32 9 s7_6 F.length cs_7, .gs 32 9 v45 (B ++ [(l.getD i (T3.mk (0 : Rat) (0 : Rat) (0 : Rat)))]).length cs45, .var b3 34 cs3]) (fun _ => h3) ?_ ?_
   ·
    refine wI (aheTo s l i) (fun hg => ?_) (fun hg => ?_)
    ·
     refine xK (zG (v := .bool true) (congrArg some (xT hg))) rfl rfl rfl (yM rfl rfl rfl rfl rfl rfl (yM rfl rfl rfl rfl rfl rfl (gv (xR rfl rfl) rfl (zD ?_))))
     refine yP () trivial ⟨?_, rfl, rfl, rfl, rfl, rfl, rfl, rfl, rfl, rfl, rfl, trivial⟩ rfl rfl
     exact congrArg some (vB_or_t hg)
    refine xK (zG (v := .bool false) (congrArg some (xD hg))) rfl rfl rfl (yW rfl rfl rfl (mv rfl rfl (yW rfl rfl rfl (gv (vD (q := 0) rfl rfl) rfl (gv (xU rfl rfl) rfl (zD ?_))))))
    refine yP () trivial ⟨?_, rfl, rfl, rfl, rfl, rfl, rfl, rfl, rfl, rfl, rfl, trivial⟩ rfl rfl
    exact congrArg some (vB_or_f hg)
   intro _ _
   show GL _ _ _ _ _ _ _ [(61, vB ((aheTo s l i) ∨ ((0 : Int) < (sdZ s (l.getD i (T3.mk (0 : Rat) (0 : Rat) (0 : Rat))))))), (0, vl), (3, vP b3 0), (7, s7_6), (10, vI ↑i), (11, vP b11 0), (12, vP b12 0), (13, vI (sdZ s (l.getD i (T3.mk (0 : Rat) (0 : Rat) (0 : Rat))))), (14, vI (sdZ s (l.getD ((i + 1) % l.length) (T3.mk (0 : Rat) (0 : Rat) (0 : Rat))))), (6, v45), (56, vB ((behTo s l i) ∨ ((sdZ s (l.getD i (T3.mk (0 : Rat) (0 : Rat) (0 : Rat)))) < (0 : Int))))] [.var b12 32 cs_11, .var b11 32 cs_9, .gs 32 9 s7_6 F.length cs_7, .gs 32 9 v45 (B ++ [(l.getD i (T3.mk (0 : Rat) (0 : Rat) (0 : Rat)))]).length cs45, .var b3 34 cs3] h3
   refine asg rfl rfl (asg rfl rfl (zD (zB (zC (zA (mv rfl rfl (mv rfl rfl (gv (ov_mul_i rfl rfl (by have := mul_range hsd36 hsd39; omega) (by have := mul_range hsd36 hsd39; omega)) rfl (gv (zW (q := 0) rfl rfl) rfl (zD (zB ?_)))))))))))
   refine zN rfl (fun hc65 => ?_) (fun hc65 => ?_)
   ·
    have hx1 : xP s l i := hc65
    refine zC (zA ?_)
    replace rb_10 := rb_10.mono hh3
    refine gl_x (F := fun v_ => (rpT (rpQ (k + 1))).Is h3 v_ (l.getD i (T3.mk (0 : Rat) (0 : Rat) (0 : Rat)))) (zE ty32 (Pc.here _) rfl rfl rb_10 rfl) (mem1 (.tail _ (.head _))) rfl ?_
    intro v66 r66
    replace rb_12 := rb_12.mono ((hh1.trans hh2).trans hh3)
    refine gl_x (F := fun v_ => (rpT (rpQ (k + 1))).Is h3 v_ (l.getD ((i + 1) % l.length) (T3.mk (0 : Rat) (0 : Rat) (0 : Rat)))) (zE ty32 (Pc.here _) rfl rfl rb_12 rfl) (mem1 (.head _)) rfl ?_
    intro v67 r67
    replace rb3 := rb3.mono ((hh1.trans hh2).trans hh3)
    refine gl_x (F := fun v_ => (rpP (rpT (rpQ n)) (rpQ m)).Is h3 v_ s) (zE ty34 (Pc.here _) rfl rfl rb3 rfl) (mem1 (.tail _ (.tail _ (.tail _ (.tail _ (.head _)))))) rfl ?_
    intro v68 r68
    refine zM (vs := [_, _, _]) rfl rfl rfl rfl Tryz.call49 ⟨rfl, rfl, rfl, trivial⟩ (fun w hs => o_r6_between hs r66 r67 r68 (by omega) (by omega) (by omega)) ?_
    intro v69 h4 hh4 r69
    change (rpT (rpQ (12 * (k + 1) + 3 * m + 9 * n + 50))).Is h4 v69 (btw s (l.getD i (T3.mk (0 : Rat) (0 : Rat) (0 : Rat))) (l.getD ((i + 1) % l.length) (T3.mk (0 : Rat) (0 : Rat) (0 : Rat)))) at r69
    replace r69 := Rp.Is.le r69 (Le.t (Le.q (l := 12 * k + 3 * m + 9 * n + 62) (by omega)))
    refine zL (xE (ρ := (rpT (rpQ 1))) (X := (T3.mk (0 : Rat) (0 : Rat) (0 : Rat))) yC rfl rfl (zr_t (zr_q (by decide)))) rfl rfl rfl ?_
    intro v15 q15 hq15
    obtain ⟨b15, cs15, rfl, rfl, rb15⟩ := hq15
    have rw_24 := (Le.t (Le.q (l := 12 * k + 3 * m + 9 * n + 62) (by omega))).R rb15
    refine wE (A := []) (F := fun c_ => (rpT (rpQ (12 * k + 3 * m + 9 * n + 62))).R h4 c_ (btw s (l.getD i (T3.mk (0 : Rat) (0 : Rat) (0 : Rat))) (l.getD ((i + 1) % l.length) (T3.mk (0 : Rat) (0 : Rat) (0 : Rat))))) (yJ Tryz.sizeOf32 (Pc.here _) rfl rfl rfl rw_24 r69 rfl) ?_
    intro cs_25 rb_26
    refine zD (zJ (e' := [(0, _), (3, _), (7, _), (10, _), (6, _), (8, _), (9, _), (15, _)]) ⟨rfl, rfl, rfl, rfl, rfl, rfl, rfl, rfl, trivial⟩ (zB ?_))
    refine yK 10 [.var b15 32 cs_25, .var b12 32 cs_11, .var b11 32 cs_9, .var b3 34 cs3] [] [(0, .q), (1, .q), (4, .q), (5, .q), (2, .d 3 6), (7, .c), (8, .q), (9, .q)] xN (fun x hx => by cases hx) (by kernel_rfl) (fun x hx => by cases hx) (by intro r hr; simp only [List.mem_cons, List.mem_append, List.not_mem_nil, or_false] at hr ⊢ <;> grind) (w_q rfl (fun h' L' hh hR => zG rfl) rfl (w_qx (F := fun v_ => (rpT (rpQ (12 * k + 3 * m + 9 * n + 62))).Is h4 v_ (btw s (l.getD i (T3.mk (0 : Rat) (0 : Rat) (0 : Rat))) (l.getD ((i + 1) % l.length) (T3.mk (0 : Rat) (0 : Rat) (0 : Rat))))) rfl (zE ty32 (Pc.here _) rfl rfl rb_26 rfl) (mem1 (.head _)) rfl ?_))
    intro v71 r71
    refine w_q rfl (fun h' L' hh hR => zG rfl) rfl (w_qx (F := fun v_ => (rpT (rpQ (12 * k + 3 * m + 9 * n + 62))).Is h4 v_ (btw s (l.getD i (T3.mk (0 : Rat) (0 : Rat) (0 : Rat))) (l.getD ((i + 1) % l.length) (T3.mk (0 : Rat) (0 : Rat) (0 : Rat))))) rfl (zE ty32 (Pc.here _) rfl rfl rb_26 rfl) (mem1 (.head _)) rfl ?_)
    intro v75 r75
    refine w_d rfl rfl rfl ?_ ?_
    ·
     refine s_new (fun X => yO (ρ := (rpT (rpQ (12 * k + 3 * m + 9 * n + 62)))) (m := 1) (xs := [btw s (l.getD i (T3.mk (0 : Rat) (0 : Rat) (0 : Rat))) (l.getD ((i + 1) % l.length) (T3.mk (0 : Rat) (0 : Rat) (0 : Rat)))]) (ps' := [(0, _)]) Tryz.underlying27 yC rfl rfl rfl (zr_t (zr_q (by omega))) ⟨rfl, rfl, trivial⟩ (yQ rfl (Pc.arr (Pc.here _) (T3.mk (0 : Rat) (0 : Rat) (0 : Rat)) 0 (by decide)) r71 xM) (show 1 * 9 ≤ 16777216 from by decide) (show 0 < 9 from by decide)) rfl ?_
     intro v72 q72 hq72
     obtain ⟨cs72, rfl, rl72⟩ := hq72
     refine ⟨?_, ?_⟩
     ·
      refine xI (A := []) (ρ := (rpT (rpQ (12 * k + 3 * m + 9 * n + 62)))) rl72 (xJ (by first | (simp; done) | grind)) ?_
      intro h5 hh5 rs_27
      replace rl45 := rl45.mono (hh4.trans hh5)
      refine uA (A := [_, _, _, _]) (fun X => yD (ρ := (rpT (rpQ (12 * k + 3 * m + 9 * n + 62)))) (bytes := 168) Tryz.underlying27 yC rfl rfl rfl rfl (show 0 < 9 from by decide) rfl rfl rl45 rs_27 (by first | omega | (simp only [List.length_append, List.length_cons, List.length_nil, List.length_replicate, List.length_set]; omega)) (by first | omega | (simp only [List.length_append, List.length_cons, List.length_nil, List.length_replicate, List.length_set]; omega))) rfl (xA (by first | (simp; done) | grind)) ?_
      intro v73 q73 hq73
      obtain ⟨cs73, rfl, rl73⟩ := hq73
      replace r75 := r75.mono hh5
      refine s_new (fun X => yO (ρ := (rpT (rpQ (12 * k + 3 * m + 9 * n + 62)))) (m := 1) (xs := [btw s (l.getD i (T3.mk (0 : Rat) (0 : Rat) (0 : Rat))) (l.getD ((i + 1) % l.length) (T3.mk (0 : Rat) (0 : Rat) (0 : Rat)))]) (ps' := [(0, _)]) Tryz.underlying27 yC rfl rfl rfl (zr_t (zr_q (by omega))) ⟨rfl, rfl, trivial⟩ (yQ rfl (Pc.arr (Pc.here _) (T3.mk (0 : Rat) (0 : Rat) (0 : Rat)) 0 (by decide)) r75 xM) (show 1 * 9 ≤ 16777216 from by decide) (show 0 < 9 from by decide)) rfl ?_
      intro v76 q76 hq76
      obtain ⟨cs76, rfl, rl76⟩ := hq76
      refine w_c rfl (xI (A := []) (ρ := (rpT (rpQ (12 * k + 3 * m + 9 * n + 62)))) rl76 (xJ (by first | (simp; done) | grind)) ?_)
      intro h6 hh6 rs_28
      replace rl_8 := rl_8.mono (((((hh1.trans hh2).trans hh3).trans hh4).trans hh5).trans hh6)
      refine uA (A := [_, _, _]) (fun X => yD (ρ := (rpT (rpQ (12 * k + 3 * m + 9 * n + 62)))) (bytes := 168) Tryz.underlying27 yC rfl rfl rfl rfl (show 0 < 9 from by decide) rfl rfl rl_8 rs_28 (by first | omega | (simp only [List.length_append, List.length_cons, List.length_nil, List.length_replicate, List.length_set]; omega)) (by first | omega | (simp only [List.length_append, List.length_cons, List.length_nil, List.length_replicate, List.length_set]; omega))) rfl (xA (by first | (simp; done) | grind)) ?_
      intro v77 q77 hq77
      obtain ⟨cs77, rfl, rl77⟩ := hq77
      refine w_q rfl (fun h' L' hh hR => zX rfl) rfl (w_q rfl (fun h' L' hh hR => zX rfl) rfl (yZ (yV (zB (zA (mv rfl rfl (gv (zS (q := 1) rfl rfl (by omega) (by omega)) rfl (asg rfl rfl (zD (yX (A := []) (yX (A := []) (yX (A := []) ?_))))))))))))
      refine yL ((i + 1), ((B ++ [(l.getD i (T3.mk (0 : Rat) (0 : Rat) (0 : Rat)))]) ++ [btw s (l.getD i (T3.mk (0 : Rat) (0 : Rat) (0 : Rat))) (l.getD ((i + 1) % l.length) (T3.mk (0 : Rat) (0 : Rat) (0 : Rat)))]), (F ++ [btw s (l.getD i (T3.mk (0 : Rat) (0 : Rat) (0 : Rat))) (l.getD ((i + 1) % l.length) (T3.mk (0 : Rat) (0 : Rat) (0 : Rat)))]), v73, cs73, v77, cs77, h6) ?_ ?_ ⟨rfl, rfl, rfl, rfl, rfl, rfl, rfl, trivial⟩ rfl rfl
      ·
       refine ⟨((((((hmmb.trans hh1).trans hh2).trans hh3).trans hh4).trans hh5).trans hh6), ?_⟩
       replace rl73 := rl73.mono hh6
       refine ⟨rl73, rl77, ?_⟩
       exact ⟨⟨by omega, (by first | exact bk_ax hB hp1 hx1 | exact bk_a hB hp1 hx1 | exact bk_x hB hp1 hx1 | exact bk_n hB hp1 hx1)⟩, (by first | exact fr_ax hF hp2 hx1 | exact fr_a hF hp2 hx1 | exact fr_x hF hp2 hx1 | exact fr_n hF hp2 hx1)⟩
      dsimp only
      omega
     refine s_new (fun X => yO (ρ := (rpT (rpQ (12 * k + 3 * m + 9 * n + 62)))) (m := 1) (xs := [btw s (l.getD i (T3.mk (0 : Rat) (0 : Rat) (0 : Rat))) (l.getD ((i + 1) % l.length) (T3.mk (0 : Rat) (0 : Rat) (0 : Rat)))]) (ps' := [(0, _)]) Tryz.underlying27 yC rfl rfl rfl (zr_t (zr_q (by omega))) ⟨rfl, rfl, trivial⟩ (yQ rfl (Pc.arr (Pc.here _) (T3.mk (0 : Rat) (0 : Rat) (0 : Rat)) 0 (by decide)) r75 xM) (show 1 * 9 ≤ 16777216 from by decide) (show 0 < 9 from by decide)) rfl ?_
     intro v76 q76 hq76
     obtain ⟨cs76, rfl, rl76⟩ := hq76
     refine xI (A := [_]) (ρ := (rpT (rpQ (12 * k + 3 * m + 9 * n + 62)))) rl72 (xJ (by first | (simp; done) | grind)) ?_
     intro h5 hh5 rs_29
     replace rl45 := rl45.mono (hh4.trans hh5)
     refine uA (A := [_, _, _, _, _]) (fun X => yD (ρ := (rpT (rpQ (12 * k + 3 * m + 9 * n + 62)))) (bytes := 168) Tryz.underlying27 yC rfl rfl rfl rfl (show 0 < 9 from by decide) rfl rfl rl45 rs_29 (by first | omega | (simp only [List.length_append, List.length_cons, List.length_nil, List.length_replicate, List.length_set]; omega)) (by first | omega | (simp only [List.length_append, List.length_cons, List.length_nil, List.length_replicate, List.length_set]; omega))) rfl (xA (by first | (simp; done) | grind)) ?_
     intro v73 q73 hq73
     obtain ⟨cs73, rfl, rl73⟩ := hq73
     refine w_c rfl ?_
     replace rl76 := rl76.mono hh5
     refine xI (A := []) (ρ := (rpT (rpQ (12 * k + 3 * m + 9 * n + 62)))) rl76 (xJ (by first | (simp; done) | grind)) ?_
     intro h6 hh6 rs_30
     replace rl_8 := rl_8.mono (((((hh1.trans hh2).trans hh3).trans hh4).trans hh5).trans hh6)
     refine uA (A := [_, _, _]) (fun X => yD (ρ := (rpT (rpQ (12 * k + 3 * m + 9 * n + 62)))) (bytes := 168) Tryz.underlying27 yC rfl rfl rfl rfl (show 0 < 9 from by decide) rfl rfl rl_8 rs_30 (by first | omega | (simp only [List.length_append, List.length_cons, List.length_nil, List.length_replicate, List.length_set]; omega)) (by first | omega | (simp only [List.length_append, List.length_cons, List.length_nil, List.length_replicate, List.length_set]; omega))) rfl (xA (by first | (simp; done) | grind)) ?_
     intro v77 q77 hq77
     obtain ⟨cs77, rfl, rl77⟩ := hq77
     refine w_q rfl (fun h' L' hh hR => zX rfl) rfl (w_q rfl (fun h' L' hh hR => zX rfl) rfl (yZ (yV (zB (zA (mv rfl rfl (gv (zS (q := 1) rfl rfl (by omega) (by omega)) rfl (asg rfl rfl (zD (yX (A := []) (yX (A := []) (yX (A := []) ?_))))))))))))
     refine yL ((i + 1), ((B ++ [(l.getD i (T3.mk (0 : Rat) (0 : Rat) (0 : Rat)))]) ++ [btw s (l.getD i (T3.mk (0 : Rat) (0 : Rat) (0 : Rat))) (l.getD ((i + 1) % l.length) (T3.mk (0 : Rat) (0 : Rat) (0 : Rat)))]), (F ++ [btw s (l.getD i (T3.mk (0 : Rat) (0 : Rat) (0 : Rat))) (l.getD ((i + 1) % l.length) (T3.mk (0 : Rat) (0 : Rat) (0 : Rat)))]), v73, cs73, v77, cs77, h6) ?_ ?_ ⟨rfl, rfl, rfl, rfl, rfl, rfl, rfl, trivial⟩ rfl rfl
     ·
      refine ⟨((((((hmmb.trans hh1).trans hh2).trans hh3).trans hh4).trans hh5).trans hh6), ?_⟩
      replace rl73 := rl73.mono hh6
      refine ⟨rl73, rl77, ?_⟩
      exact ⟨⟨by omega, (by first | exact bk_ax hB hp1 hx1 | exact bk_a hB hp1 hx1 | exact bk_x hB hp1 hx1 | exact bk_n hB hp1 hx1)⟩, (by first | exact fr_ax hF hp2 hx1 | exact fr_a hF hp2 hx1 | exact fr_x hF hp2 hx1 | exact fr_n hF hp2 hx1)⟩
     dsimp only
     omega
    refine s_new (fun X => yO (ρ := (rpT (rpQ (12 * k + 3 * m + 9 * n + 62)))) (m := 1) (xs := [btw s (l.getD i (T3.mk (0 : Rat) (0 : Rat) (0 : Rat))) (l.getD ((i + 1) % l.length) (T3.mk (0 : Rat) (0 : Rat) (0 : Rat)))]) (ps' := [(0, _)]) Tryz.underlying27 yC rfl rfl rfl (zr_t (zr_q (by omega))) ⟨rfl, rfl, trivial⟩ (yQ rfl (Pc.arr (Pc.here _) (T3.mk (0 : Rat) (0 : Rat) (0 : Rat)) 0 (by decide)) r75 xM) (show 1 * 9 ≤ 16777216 from by decide) (show 0 < 9 from by decide)) rfl ?_
    intro v76 q76 hq76
    obtain ⟨cs76, rfl, rl76⟩ := hq76
    refine s_new (fun X => yO (ρ := (rpT (rpQ (12 * k + 3 * m + 9 * n + 62)))) (m := 1) (xs := [btw s (l.getD i (T3.mk (0 : Rat) (0 : Rat) (0 : Rat))) (l.getD ((i + 1) % l.length) (T3.mk (0 : Rat) (0 : Rat) (0 : Rat)))]) (ps' := [(0, _)]) Tryz.underlying27 yC rfl rfl rfl (zr_t (zr_q (by omega))) ⟨rfl, rfl, trivial⟩ (yQ rfl (Pc.arr (Pc.here _) (T3.mk (0 : Rat) (0 : Rat) (0 : Rat)) 0 (by decide)) r71 xM) (show 1 * 9 ≤ 16777216 from by decide) (show 0 < 9 from by decide)) rfl ?_
    intro v72 q72 hq72
    obtain ⟨cs72, rfl, rl72⟩ := hq72
    refine xI (A := []) (ρ := (rpT (rpQ (12 * k + 3 * m + 9 * n + 62)))) rl72 (xJ (by first | (simp; done) | grind)) ?_
    intro h5 hh5 rs_31
    replace rl45 := rl45.mono (hh4.trans hh5)
    refine uA (A := [_, _, _, _, _]) (fun X => yD (ρ := (rpT (rpQ (12 * k + 3 * m + 9 * n + 62)))) (bytes := 168) Tryz.underlying27 yC rfl rfl rfl rfl (show 0 < 9 from by decide) rfl rfl rl45 rs_31 (by first | omega | (simp only [List.length_append, List.length_cons, List.length_nil, List.length_replicate, List.length_set]; omega)) (by first | omega | (simp only [List.length_append, List.length_cons, List.length_nil, List.length_replicate, List.length_set]; omega))) rfl (xA (by first | (simp; done) | grind)) ?_
    intro v73 q73 hq73
    obtain ⟨cs73, rfl, rl73⟩ := hq73
    refine w_c rfl ?_
    replace rl76 := rl76.mono hh5
    refine xI (A := []) (ρ := (rpT (rpQ (12 * k + 3 * m + 9 * n + 62)))) rl76 (xJ (by first | (simp; done) | grind)) ?_
    intro h6 hh6 rs_32
    replace rl_8 := rl_8.mono (((((hh1.trans hh2).trans hh3).trans hh4).trans hh5).trans hh6)
    refine uA (A := [_, _, _]) (fun X => yD (ρ := (rpT (rpQ (12 * k + 3 * m + 9 * n + 62)))) (bytes := 168) Tryz.underlying27 yC rfl rfl rfl rfl (show 0 < 9 from by decide) rfl rfl rl_8 rs_32 (by first | omega | (simp only [List.length_append, List.length_cons, List.length_nil, List.length_replicate, List.length_set]; omega)) (by first | omega | (simp only [List.length_append, List.length_cons, List.length_nil, List.length_replicate, List.length_set]; omega))) rfl (xA (by first | (simp; done) | grind)) ?_
    intro v77 q77 hq77
    obtain ⟨cs77, rfl, rl77⟩ := hq77
    refine w_q rfl (fun h' L' hh hR => zX rfl) rfl (w_q rfl (fun h' L' hh hR => zX rfl) rfl (yZ (yV (zB (zA (mv rfl rfl (gv (zS (q := 1) rfl rfl (by omega) (by omega)) rfl (asg rfl rfl (zD (yX (A := []) (yX (A := []) (yX (A := []) ?_))))))))))))
    refine yL ((i + 1), ((B ++ [(l.getD i (T3.mk (0 : Rat) (0 : Rat) (0 : Rat)))]) ++ [btw s (l.getD i (T3.mk (0 : Rat) (0 : Rat) (0 : Rat))) (l.getD ((i + 1) % l.length) (T3.mk (0 : Rat) (0 : Rat) (0 : Rat)))]), (F ++ [btw s (l.getD i (T3.mk (0 : Rat) (0 : Rat) (0 : Rat))) (l.getD ((i + 1) % l.length) (T3.mk (0 : Rat) (0 : Rat) (0 : Rat)))]), v73, cs73, v77, cs77, h6) ?_ ?_ ⟨rfl, rfl, rfl, rfl, rfl, rfl, rfl, trivial⟩ rfl rfl
    ·
     refine ⟨((((((hmmb.trans hh1).trans hh2).trans hh3).trans hh4).trans hh5).trans hh6), ?_⟩
     replace rl73 := rl73.mono hh6
     refine ⟨rl73, rl77, ?_⟩
     exact ⟨⟨by omega, (by first | exact bk_ax hB hp1 hx1 | exact bk_a hB hp1 hx1 | exact bk_x hB hp1 hx1 | exact bk_n hB hp1 hx1)⟩, (by first | exact fr_ax hF hp2 hx1 | exact fr_a hF hp2 hx1 | exact fr_x hF hp2 hx1 | exact fr_n hF hp2 hx1)⟩
    dsimp only
    omega
   have hx1 : ¬ xP s l i := hc65
   refine wL (e' := [(0, _), (3, _), (7, _), (10, _), (6, _), (8, _), (9, _)]) ⟨rfl, rfl, rfl, rfl, rfl, rfl, rfl, trivial⟩ (zK (yV (zB (zA (mv rfl rfl (gv (zS (q := 1) rfl rfl (by omega) (by omega)) rfl (asg rfl rfl (zD (yX (A := []) (yX (A := []) ?_))))))))))
   refine yL ((i + 1), (B ++ [(l.getD i (T3.mk (0 : Rat) (0 : Rat) (0 : Rat)))]), F, v45, cs45, s7_6, cs_7, h3) ?_ ?_ ⟨rfl, rfl, rfl, rfl, rfl, rfl, rfl, trivial⟩ rfl rfl
   ·
    refine ⟨(((hmmb.trans hh1).trans hh2).trans hh3), ?_⟩
    replace rl_8 := rl_8.mono ((hh1.trans hh2).trans hh3)
    refine ⟨rl45, rl_8, ?_⟩
    exact ⟨⟨by omega, (by first | exact bk_ax hB hp1 hx1 | exact bk_a hB hp1 hx1 | exact bk_x hB hp1 hx1 | exact bk_n hB hp1 hx1)⟩, (by first | exact fr_ax hF hp2 hx1 | exact fr_a hF hp2 hx1 | exact fr_x hF hp2 hx1 | exact fr_n hF hp2 hx1)⟩
   dsimp only
   omega
  have hp1 : ¬ sdZ s (gp l i) ≤ 0 := hc41
  refine zK (zB (zC (zC (zA (mv rfl rfl (gv (ov_geq_i (q := 0) rfl rfl) rfl (zD (zB ?_))))))))
  refine zN rfl (fun hc47 => ?_) (fun hc47 => ?_)
  ·
   have hp2 : 0 ≤ sdZ s (gp l i) := hc47
   refine wL (e' := [(0, _), (3, _), (6, _), (7, _), (8, _), (9, _), (10, _), (11, _), (12, _), (13, _), (14, _)]) ⟨rfl, rfl, rfl, rfl, rfl, rfl, rfl, rfl, rfl, rfl, rfl, trivial⟩ (zA (mv rfl rfl ?_))
   replace rb_10 := rb_10.mono (hh1.trans hh2)
   refine gl_x (F := fun v_ => (rpT (rpQ (k + 1))).Is h2 v_ (l.getD i (T3.mk (0 : Rat) (0 : Rat) (0 : Rat)))) (zE ty32 (Pc.here _) rfl rfl rb_10 rfl) (mem1 (.tail _ (.head _))) rfl ?_
   intro v49 r49
   refine zL (yO (ρ := (rpT (rpQ (k + 1)))) (m := 1) (xs := [(l.getD i (T3.mk (0 : Rat) (0 : Rat) (0 : Rat)))]) (ps' := [(0, _)]) Tryz.underlying27 yC rfl rfl rfl (zr_t (zr_q (by omega))) ⟨rfl, rfl, trivial⟩ (yQ rfl (Pc.arr (Pc.here _) (T3.mk (0 : Rat) (0 : Rat) (0 : Rat)) 0 (by decide)) r49 xM) (show 1 * 9 ≤ 16777216 from by decide) (show 0 < 9 from by decide)) rfl rfl rfl ?_
   intro v50 q50 hq50
   obtain ⟨cs50, rfl, rl50⟩ := hq50
   refine vQ (A := []) (ρ := (rpT (rpQ (k + 1)))) rl50 ?_
   intro h3 hh3 rs_33
   replace rl_8 := rl_8.mono ((hh1.trans hh2).trans hh3)
   refine vO (A := [_, _]) (yD (ρ := (rpT (rpQ (12 * k + 3 * m + 9 * n + 62)))) (bytes := 168) Tryz.underlying27 yC rfl rfl rfl rfl (show 0 < 9 from by decide) rfl rfl rl_8 (rs_33.le (Le.s (Le.t (Le.q (l := 12 * k + 3 * m + 9 * n + 62) (by omega))))) (by first | omega | (simp only [List.length_append, List.length_cons, List.length_nil, List.length_replicate, List.length_set]; omega)) (by first | omega | (simp only [List.length_append, List.length_cons, List.length_nil, List.length_replicate, List.length_set]; omega))) rfl rfl rfl ?_
   intro v51 q51 hq51
   obtain ⟨cs51, rfl, rl51⟩ := hq51
   refine asg rfl rfl (zD (zB (zC (zA (mv rfl rfl ?_)))))
   refine vM (ι := Unit) 4 (fun _ => True) (fun _ => [(56, vB ((behTo s l i) ∨ ((sdZ s (l.getD i (T3.mk (0 : Rat) (0 : Rat) (0 : Rat)))) < (0 : Int)))), (0, vl), (3, vP b3 0), (6, s6_3), (9, vB (aheTo s l i)), (10, vI ↑i), (11, vP b11 0), (12, vP b12 0), (13, vI (sdZ s (l.getD i (T3.mk (0 : Rat) (0 : Rat) (0 : Rat))))), (14, vI (sdZ s (l.getD ((i + 1) % l.length) (T3.mk (0 : Rat) (0 : Rat) (0 : Rat))))), (7, v51)]) (fun _ => [.var b12 32 cs_11, .var b11 32 cs_9, .gs 32 9 v51 (F ++ [(l.getD i (T3.mk (0 : Rat) (0 : Rat) (0 : Rat)))]).length cs51, .gs 32 9 s6_3 B.length cs_4, .var b3 34 cs3]) (fun _ => h3) ?_ ?_
   ·
    refine wI (behTo s l i) (fun hg => ?_) (fun hg => ?_)
    ·
     refine xK (zG (v := .bool true) (congrArg some (xT hg))) rfl rfl rfl (yM rfl rfl rfl rfl rfl rfl (yM rfl rfl rfl rfl rfl rfl (gv (xR rfl rfl) rfl (zD ?_))))
     refine yP () trivial ⟨?_, rfl, rfl, rfl, rfl, rfl, rfl, rfl, rfl, rfl, rfl, trivial⟩ rfl rfl
     exact congrArg some (vB_or_t hg)
    refine xK (zG (v := .bool false) (congrArg some (xD hg))) rfl rfl rfl (yW rfl rfl rfl (mv rfl rfl (yW rfl rfl rfl (gv (zW (q := 0) rfl rfl) rfl (gv (xU rfl rfl) rfl (zD ?_))))))
    refine yP () trivial ⟨?_, rfl, rfl, rfl, rfl, rfl, rfl, rfl, rfl, rfl, rfl, trivial⟩ rfl rfl
    exact congrArg some (vB_or_f hg)
   intro _ _
   show GL _ _ _ _ _ _ _ [(56, vB ((behTo s l i) ∨ ((sdZ s (l.getD i (T3.mk (0 : Rat) (0 : Rat) (0 : Rat)))) < (0 : Int)))), (0, vl), (3, vP b3 0), (6, s6_3), (9, vB (aheTo s l i)), (10, vI ↑i), (11, vP b11 0), (12, vP b12 0), (13, vI (sdZ s (l.getD i (T3.mk (0 : Rat) (0 : Rat) (0 : Rat))))), (14, vI (sdZ s (l.getD ((i + 1) % l.length) (T3.mk (0 : Rat) (0 : Rat) (0 : Rat))))), (7, v51)] [.var b12 32 cs_11, .var b11 32 cs_9, .gs 32 9 v51 (F ++ [(l.getD i (T3.mk (0 : Rat) (0 : Rat) (0 : Rat)))]).length cs51, .gs 32 9 s6_3 B.length cs_4, .var b3 34 cs3] h3
   refine mv rfl rfl ?_
   refine vM (ι := Unit) 4 (fun _ => True) (fun _ => [(61, vB ((aheTo s l i) ∨ ((0 : Int) < (sdZ s (l.getD i (T3.mk (0 : Rat) (0 : Rat) (0 : Rat))))))), (0, vl), (3, vP b3 0), (6, s6_3), (10, vI ↑i), (11, vP b11 0), (12, vP b12 0), (13, vI (sdZ s (l.getD i (T3.mk (0 : Rat) (0 : Rat) (0 : Rat))))), (14, vI (sdZ s (l.getD ((i + 1) % l.length) (T3.mk (0 : Rat) (0 : Rat) (0 : Rat))))), (7, v51), (56, vB ((behTo s l i) ∨ ((sdZ s (l.getD i (T3.mk (0 : Rat) (0 : Rat) (0 : Rat)))) < (0 : Int))))]) (fun _ => [.var b12 32 cs_11, .var b11 32 cs_9, .gs 32 9 v51 (F ++ [(l.getD i (T3.mk (0 : Rat) (0 : Rat) (0 : Rat)))]).length cs51, .gs 32 9 s6_3 B.length cs_4, .var b3 34 cs3]) (fun _ => h3) ?_ ?_
   ·
    refine wI (aheTo s l i) (fun hg => ?_) (fun hg => ?_)
    ·
     refine xK (zG (v := .bool true) (congrArg some (xT hg))) rfl rfl rfl (yM rfl rfl rfl rfl rfl rfl (yM rfl rfl rfl rfl rfl rfl (gv (xR rfl rfl) rfl (zD ?_))))
     refine yP () trivial ⟨?_, rfl, rfl, rfl, rfl, rfl, rfl, rfl, rfl, rfl, rfl, trivial⟩ rfl rfl
     exact congrArg some (vB_or_t hg)
    refine xK (zG (v := .bool false) (congrArg some (xD hg))) rfl rfl rfl (yW rfl rfl rfl (mv rfl rfl (yW rfl rfl rfl (gv (vD (q := 0) rfl rfl) rfl (gv (xU rfl rfl) rfl (zD ?_))))))
    refine yP () trivial ⟨?_, rfl, rfl, rfl, rfl, rfl, rfl, rfl, rfl, rfl, rfl, trivial⟩ rfl rfl
    exact congrArg some (vB_or_f hg)
   intro _ _
   show GL _ _ _ _ _ _ _ [(61, vB ((aheTo s l i) ∨ ((0 : Int) < (sdZ s (l.getD i (T3.mk (0 : Rat) (0 : Rat) (0 : Rat))))))), (0, vl), (3, vP b3 0), (6, s6_3), (10, vI ↑i), (11, vP b11 0), (12, vP b12 0), (13, vI (sdZ s (l.getD i (T3.mk (0 : Rat) (0 : Rat) (0 : Rat))))), (14, vI (sdZ s (l.getD ((i + 1) % l.length) (T3.mk (0 : Rat) (0 : Rat) (0 : Rat))))), (7, v51), (56, vB ((behTo s l i) ∨ ((sdZ s (l.getD i (T3.mk (0 : Rat) (0 : Rat) (0 : Rat)))) < (0 : Int))))] [.var b12 32 cs_11, .var b11 32 cs_9, .gs 32 9 v51 (F ++ [(l.getD i (T3.mk (0 : Rat) (0 : Rat) (0 : Rat)))]).length cs51, .gs 32 9 s6_3 B.length cs_4, .var b3 34 cs3] h3
   refine asg rfl rfl (asg rfl rfl (zD (zB (zC (zA (mv rfl rfl (mv rfl rfl (gv (ov_mul_i rfl rfl (by have := mul_range hsd36 hsd39; omega) (by have := mul_range hsd36 hsd39; omega)) rfl (gv (zW (q := 0) rfl rfl) rfl (zD (zB ?_)))))))))))
   refine zN rfl (fun hc65 => ?_) (fun hc65 => ?_)
   ·
    have hx1 : xP s l i := hc65
    refine zC (zA ?_)
    replace rb_10 := rb_10.mono hh3
    refine gl_x (F := fun v_ => (rpT (rpQ (k + 1))).Is h3 v_ (l.getD i (T3.mk (0 : Rat) (0 : Rat) (0 : Rat)))) (zE ty32 (Pc.here _) rfl rfl rb_10 rfl) (mem1 (.tail _ (.head _))) rfl ?_
    intro v66 r66
    replace rb_12 := rb_12.mono ((hh1.trans hh2).trans hh3)
    refine gl_x (F := fun v_ => (rpT (rpQ (k + 1))).Is h3 v_ (l.getD ((i + 1) % l.length) (T3.mk (0 : Rat) (0 : Rat) (0 : Rat)))) (zE ty32 (Pc.here _) rfl rfl rb_12 rfl) (mem1 (.head _)) rfl ?_
    intro v67 r67
    replace rb3 := rb3.mono ((hh1.trans hh2).trans hh3)
    refine gl_x (F := fun v_ => (rpP (rpT (rpQ n)) (rpQ m)).Is h3 v_ s) (zE ty34 (Pc.here _) rfl rfl rb3 rfl) (mem1 (.tail _ (.tail _ (.tail _ (.tail _ (.head _)))))) rfl ?_
    intro v68 r68
    refine zM (vs := [_, _, _]) rfl rfl rfl rfl Tryz.call49 ⟨rfl, rfl, rfl, trivial⟩ (fun w hs => o_r6_between hs r66 r67 r68 (by omega) (by omega) (by omega)) ?_
    intro v69 h4 hh4 r69
    change (rpT (rpQ (12 * (k + 1) + 3 * m + 9 * n + 50))).Is h4 v69 (btw s (l.getD i (T3.mk (0 : Rat) (0 : Rat) (0 : Rat))) (l.getD ((i + 1) % l.length) (T3.mk (0 : Rat) (0 : Rat) (0 : Rat)))) at r69
    replace r69 := Rp.Is.le r69 (Le.t (Le.q (l := 12 * k + 3 * m + 9 * n + 62) (by omega)))
    refine zL (xE (ρ := (rpT (rpQ 1))) (X := (T3.mk (0 : Rat) (0 : Rat) (0 : Rat))) yC rfl rfl (zr_t (zr_q (by decide)))) rfl rfl rfl ?_
    intro v15 q15 hq15
    obtain ⟨b15, cs15, rfl, rfl, rb15⟩ := hq15
    have rw_34 := (Le.t (Le.q (l := 12 * k + 3 * m + 9 * n + 62) (by omega))).R rb15
    refine wE (A := []) (F := fun c_ => (rpT (rpQ (12 * k + 3 * m + 9 * n + 62))).R h4 c_ (btw s (l.getD i (T3.mk (0 : Rat) (0 : Rat) (0 : Rat))) (l.getD ((i + 1) % l.length) (T3.mk (0 : Rat) (0 : Rat) (0 : Rat))))) (yJ Tryz.sizeOf32 (Pc.here _) rfl rfl rfl rw_34 r69 rfl) ?_
    intro cs_35 rb_36
    refine zD (zJ (e' := [(0, _), (3, _), (6, _), (10, _), (7, _), (8, _), (9, _), (15, _)]) ⟨rfl, rfl, rfl, rfl, rfl, rfl, rfl, rfl, trivial⟩ (zB ?_))
    refine yK 10 [.var b15 32 cs_35, .var b12 32 cs_11, .var b11 32 cs_9, .var b3 34 cs3] [] [(0, .q), (1, .q), (4, .q), (5, .q), (2, .d 3 6), (7, .c), (8, .q), (9, .q)] xN (fun x hx => by cases hx) (by kernel_rfl) (fun x hx => by cases hx) (by intro r hr; simp only [List.mem_cons, List.mem_append, List.not_mem_nil, or_false] at hr ⊢ <;> grind) (w_q rfl (fun h' L' hh hR => zG rfl) rfl (w_qx (F := fun v_ => (rpT (rpQ (12 * k + 3 * m + 9 * n + 62))).Is h4 v_ (btw s (l.getD i (T3.mk (0 : Rat) (0 : Rat) (0 : Rat))) (l.getD ((i + 1) % l.length) (T3.mk (0 : Rat) (0 : Rat) (0 : Rat))))) rfl (zE ty32 (Pc.here _) rfl rfl rb_36 rfl) (mem1 (.head _)) rfl ?_))
    intro v71 r71
    refine w_q rfl (fun h' L' hh hR => zG rfl) rfl (w_qx (F := fun v_ => (rpT (rpQ (12 * k + 3 * m + 9 * n + 62))).Is h4 v_ (btw s (l.getD i (T3.mk (0 : Rat) (0 : Rat) (0 : Rat))) (l.getD ((i + 1) % l.length) (T3.mk (0 : Rat) (0 : Rat) (0 : Rat))))) rfl (zE ty32 (Pc.here _) rfl rfl rb_36 rfl) (mem1 (.head _)) rfl ?_)
    intro v75 r75
    refine w_d rfl rfl rfl ?_ ?_
    ·
     refine s_new (fun X => yO (ρ := (rpT (rpQ (12 * k + 3 * m + 9 * n + 62)))) (m := 1) (xs := [btw s (l.getD i (T3.mk (0 : Rat) (0 : Rat) (0 : Rat))) (l.getD ((i + 1) % l.length) (T3.mk (0 : Rat) (0 : Rat) (0 : Rat)))]) (ps' := [(0, _)]) Tryz.underlying27 yC rfl rfl rfl (zr_t (zr_q (by omega))) ⟨rfl, rfl, trivial⟩ (yQ rfl (Pc.arr (Pc.here _) (T3.mk (0 : Rat) (0 : Rat) (0 : Rat)) 0 (by decide)) r71 xM) (show 1 * 9 ≤ 16777216 from by decide) (show 0 < 9 from by decide)) rfl ?_
     intro v72 q72 hq72
     obtain ⟨cs72, rfl, rl72⟩ := hq72
     refine ⟨?_, ?_⟩
     ·
      refine xI (A := []) (ρ := (rpT (rpQ (12 * k + 3 * m + 9 * n + 62)))) rl72 (xJ (by first | (simp; done) | grind)) ?_
      intro h5 hh5 rs_37
      replace rl_5 := rl_5.mono ((((hh1.trans hh2).trans hh3).trans hh4).trans hh5)
      refine uA (A := [_, _, _, _]) (fun X => yD (ρ := (rpT (rpQ (12 * k + 3 * m + 9 * n + 62)))) (bytes := 168) Tryz.underlying27 yC rfl rfl rfl rfl (show 0 < 9 from by decide) rfl rfl rl_5 rs_37 (by first | omega | (simp only [List.length_append, List.length_cons, List.length_nil, List.length_replicate, List.length_set]; omega)) (by first | omega | (simp only [List.length_append, List.length_cons, List.length_nil, List.length_replicate, List.length_set]; omega))) rfl (xA (by first | (simp; done) | grind)) ?_
      intro v73 q73 hq73
      obtain ⟨cs73, rfl, rl73⟩ := hq73
      replace r75 := r75.mono hh5
      refine s_new (fun X => yO (ρ := (rpT (rpQ (12 * k + 3 * m + 9 * n + 62)))) (m := 1) (xs := [btw s (l.getD i (T3.mk (0 : Rat) (0 : Rat) (0 : Rat))) (l.getD ((i + 1) % l.length) (T3.mk (0 : Rat) (0 : Rat) (0 : Rat)))]) (ps' := [(0, _)]) Tryz.underlying27 yC rfl rfl rfl (zr_t (zr_q (by omega))) ⟨rfl, rfl, trivial⟩ (yQ rfl (Pc.arr (Pc.here _) (T3.mk (0 : Rat) (0 : Rat) (0 : Rat)) 0 (by decide)) r75 xM) (show 1 * 9 ≤ 16777216 from by decide) (show 0 < 9 from by decide)) rfl ?_
      intro v76 q76 hq76
      obtain ⟨cs76, rfl, rl76⟩ := hq76
      refine w_c rfl (xI (A := []) (ρ := (rpT (rpQ (12 * k + 3 * m + 9 * n + 62)))) rl76 (xJ (by first | (simp; done) | grind)) ?_)
      intro h6 hh6 rs_38
      replace rl51 := rl51.mono ((hh4.trans hh5).trans hh6)
      refine uA (A := [_, _, _]) (fun X => yD (ρ := (rpT (rpQ (12 * k + 3 * m + 9 * n + 62)))) (bytes := 168) Tryz.underlying27 yC rfl rfl rfl rfl (show 0 < 9 from by decide) rfl rfl rl51 rs_38 (by first | omega | (simp only [List.length_append, List.length_cons, List.length_nil, List.length_replicate, List.length_set]; omega)) (by first | omega | (simp only [List.length_append, List.length_cons, List.length_nil, List.length_replicate, List.length_set]; omega))) rfl (xA (by first | (simp; done) | grind)) ?_
      intro v77 q77 hq77
      obtain ⟨cs77, rfl, rl77⟩ := hq77
      refine w_q rfl (fun h' L' hh hR => zX rfl) rfl (w_q rfl (fun h' L' hh hR => zX rfl) rfl (yZ (yV (zB (zA (mv rfl rfl (gv (zS (q := 1) rfl rfl (by omega) (by omega)) rfl (asg rfl rfl (zD (yX (A := []) (yX (A := []) (yX (A := []) ?_))))))))))))
      refine yL ((i + 1), (B ++ [btw s (l.getD i (T3.mk (0 : Rat) (0 : Rat) (0 : Rat))) (l.getD ((i + 1) % l.length) (T3.mk (0 : Rat) (0 : Rat) (0 : Rat)))]), ((F ++ [(l.getD i (T3.mk (0 : Rat) (0 : Rat) (0 : Rat)))]) ++ [btw s (l.getD i (T3.mk (0 : Rat) (0 : Rat) (0 : Rat))) (l.getD ((i + 1) % l.length) (T3.mk (0 : Rat) (0 : Rat) (0 : Rat)))]), v73, cs73, v77, cs77, h6) ?_ ?_ ⟨rfl, rfl, rfl, rfl, rfl, rfl, rfl, trivial⟩ rfl rfl
      ·
       refine ⟨((((((hmmb.trans hh1).trans hh2).trans hh3).trans hh4).trans hh5).trans hh6), ?_⟩
       replace rl73 := rl73.mono hh6
       refine ⟨rl73, rl77, ?_⟩
       exact ⟨⟨by omega, (by first | exact bk_ax hB hp1 hx1 | exact bk_a hB hp1 hx1 | exact bk_x hB hp1 hx1 | exact bk_n hB hp1 hx1)⟩, (by first | exact fr_ax hF hp2 hx1 | exact fr_a hF hp2 hx1 | exact fr_x hF hp2 hx1 | exact fr_n hF hp2 hx1)⟩
      dsimp only
      omega
     refine s_new (fun X => yO (ρ := (rpT (rpQ (12 * k + 3 * m + 9 * n + 62)))) (m := 1) (xs := [btw s (l.getD i (T3.mk (0 : Rat) (0 : Rat) (0 : Rat))) (l.getD ((i + 1) % l.length) (T3.mk (0 : Rat) (0 : Rat) (0 : Rat)))]) (ps' := [(0, _)]) Tryz.underlying27 yC rfl rfl rfl (zr_t (zr_q (by omega))) ⟨rfl, rfl, trivial⟩ (yQ rfl (Pc.arr (Pc.here _) (T3.mk (0 : Rat) (0 : Rat) (0 : Rat)) 0 (by decide)) r75 xM) (show 1 * 9 ≤ 16777216 from by decide) (show 0 < 9 from by decide)) rfl ?_
     intro v76 q76 hq76
     obtain ⟨cs76, rfl, rl76⟩ := hq76
     refine xI (A := [_]) (ρ := (rpT (rpQ (12 * k + 3 * m + 9 * n + 62)))) rl72 (xJ (by first | (simp; done) | grind)) ?_
     intro h5 hh5 rs_39
     replace rl_5 := rl_5.mono ((((hh1.trans hh2).trans hh3).trans hh4).trans hh5)
     refine uA (A := [_, _, _, _, _]) (fun X => yD (ρ := (rpT (rpQ (12 * k + 3 * m + 9 * n + 62)))) (bytes := 168) Tryz.underlying27 yC rfl rfl rfl rfl (show 0 < 9 from by decide) rfl rfl rl_5 rs_39 (by first | omega | (simp only [List.length_append, List.length_cons, List.length_nil, List.length_replicate, List.length_set]; omega)) (by first | omega | (simp only [List.length_append, List.length_cons, List.length_nil, List.length_replicate, List.length_set]; omega))) rfl (xA (by first | (simp; done) | grind)) ?_
     intro v73 q73 hq73
     obtain ⟨cs73, rfl, rl73⟩ := hq73
     refine w_c rfl ?_
     replace rl76 := rl76.mono hh5
     refine xI (A := []) (ρ := (rpT (rpQ (12 * k + 3 * m + 9 * n + 62)))) rl76 (xJ (by first | (simp; done) | grind)) ?_
     intro h6 hh6 rs_40
     replace rl51 := rl51.mono ((hh4.trans hh5).trans hh6)
     refine uA (A := [_, _, _]) (fun X => yD (ρ := (rpT (rpQ (12 * k + 3 * m + 9 * n + 62)))) (bytes := 168) Tryz.underlying27 yC rfl rfl rfl rfl (show 0 < 9 from by decide) rfl rfl rl51 rs_40 (by first | omega | (simp only [List.length_append, List.length_cons, List.length_nil, List.length_replicate, List.length_set]; omega)) (by first | omega | (simp only [List.length_append, List.length_cons, List.length_nil, List.length_replicate, List.length_set]; omega))) rfl (xA (by first | (simp; done) | grind)) ?_
     intro v77 q77 hq77
     obtain ⟨cs77, rfl, rl77⟩ := hq77
     refine w_q rfl (fun h' L' hh hR => zX rfl) rfl (w_q rfl (fun h' L' hh hR => zX rfl) rfl (yZ (yV (zB (zA (mv rfl rfl (gv (zS (q := 1) rfl rfl (by omega) (by omega)) rfl (asg rfl rfl (zD (yX (A := []) (yX (A := []) (yX (A := []) ?_))))))))))))
     refine yL ((i + 1), (B ++ [btw s (l.getD i (T3.mk (0 : Rat) (0 : Rat) (0 : Rat))) (l.getD ((i + 1) % l.length) (T3.mk (0 : Rat) (0 : Rat) (0 : Rat)))]), ((F ++ [(l.getD i (T3.mk (0 : Rat) (0 : Rat) (0 : Rat)))]) ++ [btw s (l.getD i (T3.mk (0 : Rat) (0 : Rat) (0 : Rat))) (l.getD ((i + 1) % l.length) (T3.mk (0 : Rat) (0 : Rat) (0 : Rat)))]), v73, cs73, v77, cs77, h6) ?_ ?_ ⟨rfl, rfl, rfl, rfl, rfl, rfl, rfl, trivial⟩ rfl rfl
     ·
      refine ⟨((((((hmmb.trans hh1).trans hh2).trans hh3).trans hh4).trans hh5).trans hh6), ?_⟩
      replace rl73 := rl73.mono hh6
      refine ⟨rl73, rl77, ?_⟩
      exact ⟨⟨by omega, (by first | exact bk_ax hB hp1 hx1 | exact bk_a hB hp1 hx1 | exact bk_x hB hp1 hx1 | exact bk_n hB hp1 hx1)⟩, (by first | exact fr_ax hF hp2 hx1 | exact fr_a hF hp2 hx1 | exact fr_x hF hp2 hx1 | exact fr_n hF hp2 hx1)⟩
     dsimp only
     omega
    refine s_new (fun X => yO (ρ := (rpT (rpQ (12 * k + 3 * m + 9 * n + 62)))) (m := 1) (xs := [btw s (l.getD i (T3.mk (0 : Rat) (0 : Rat) (0 : Rat))) (l.getD ((i + 1) % l.length) (T3.mk (0 : Rat) (0 : Rat) (0 : Rat)))]) (ps' := [(0, _)]) Tryz.underlying27 yC rfl rfl rfl (zr_t (zr_q (by omega))) ⟨rfl, rfl, trivial⟩ (yQ rfl (Pc.arr (Pc.here _) (T3.mk (0 : Rat) (0 : Rat) (0 : Rat)) 0 (by decide)) r75 xM) (show 1 * 9 ≤ 16777216 from by decide) (show 0 < 9 from by decide)) rfl ?_
    intro v76 q76 hq76
    obtain ⟨cs76, rfl, rl76⟩ := hq76
    refine s_new (fun X => yO (ρ := (rpT (rpQ (12 * k + 3 * m + 9 * n + 62)))) (m := 1) (xs := [btw s (l.getD i (T3.mk (0 : Rat) (0 : Rat) (0 : Rat))) (l.getD ((i + 1) % l.length) (T3.mk (0 : Rat) (0 : Rat) (0 : Rat)))]) (ps' := [(0, _)]) Tryz.underlying27 yC rfl rfl rfl (zr_t (zr_q (by omega))) ⟨rfl, rfl, trivial⟩ (yQ rfl (Pc.arr (Pc.here _) (T3.mk (0 : Rat) (0 : Rat) (0 : Rat)) 0 (by decide)) r71 xM) (show 1 * 9 ≤ 16777216 from by decide) (show 0 < 9 from by decide)) rfl ?_
    intro v72 q72 hq72
    obtain ⟨cs72, rfl, rl72⟩ := hq72
    refine xI (A := []) (ρ := (rpT (rpQ (12 * k + 3 * m + 9 * n + 62)))) rl72 (xJ (by first | (simp; done) | grind)) ?_
    intro h5 hh5 rs_41
    replace rl_5 := rl_5.mono ((((hh1.trans hh2).trans hh3).trans hh4).trans hh5)
    refine uA (A := [_, _, _, _, _]) (fun X => yD (ρ := (rpT (rpQ (12 * k + 3 * m + 9 * n + 62)))) (bytes := 168) Tryz.underlying27 yC rfl rfl rfl rfl (show 0 < 9 from by decide) rfl rfl rl_5 rs_41 (by first | omega | (simp only [List.length_append, List.length_cons, List.length_nil, List.length_replicate, List.length_set]; omega)) (by first | omega | (simp only [List.length_append, List.length_cons, List.length_nil, List.length_replicate, List.length_set]; omega))) rfl (xA (by first | (simp; done) | grind)) ?_
    intro v73 q73 hq73
    obtain ⟨cs73, rfl, rl73⟩ := hq73
    refine w_c rfl ?_
    replace rl76 := rl76.mono hh5
    refine xI (A := []) (ρ := (rpT (rpQ (12 * k + 3 * m + 9 * n + 62)))) rl76 (xJ (by first | (simp; done) | grind)) ?_
    intro h6 hh6 rs_42
    replace rl51 := rl51.mono ((hh4.trans hh5).trans hh6)
    refine uA (A := [_, _, _]) (fun X => yD (ρ := (rpT (rpQ (12 * k + 3 * m + 9 * n + 62)))) (bytes := 168) Tryz.underlying27 yC rfl rfl rfl rfl (show 0 < 9 from by decide) rfl rfl rl51 rs_42 (by first | omega | (simp only [List.length_append, List.length_cons, List.length_nil, List.length_replicate, List.length_set]; omega)) (by first | omega | (simp only [List.length_append, List.length_cons, List.length_nil, List.length_replicate, List.length_set]; omega))) rfl (xA (by first | (simp; done) | grind)) ?_
    intro v77 q77 hq77
    obtain ⟨cs77, rfl, rl77⟩ := hq77
    refine w_q rfl (fun h' L' hh hR => zX rfl) rfl (w_q rfl (fun h' L' hh hR => zX rfl) rfl (yZ (yV (zB (zA (mv rfl rfl (gv (zS (q := 1) rfl rfl (by omega) (by omega)) rfl (asg rfl rfl (zD (yX (A := []) (yX (A := []) (yX (A := []) ?_))))))))))))
    refine yL ((i + 1), (B ++ [btw s (l.getD i (T3.mk (0 : Rat) (0 : Rat) (0 : Rat))) (l.getD ((i + 1) % l.length) (T3.mk (0 : Rat) (0 : Rat) (0 : Rat)))]), ((F ++ [(l.getD i (T3.mk (0 : Rat) (0 : Rat) (0 : Rat)))]) ++ [btw s (l.getD i (T3.mk (0 : Rat) (0 : Rat) (0 : Rat))) (l.getD ((i + 1) % l.length) (T3.mk (0 : Rat) (0 : Rat) (0 : Rat)))]), v73, cs73, v77, cs77, h6) ?_ ?_ ⟨rfl, rfl, rfl, rfl, rfl, rfl, rfl, trivial⟩ rfl rfl
    ·
     refine ⟨((((((hmmb.trans hh1).trans hh2).trans hh3).trans hh4).trans hh5).trans hh6), ?_⟩
     replace rl73 := rl73.mono hh6
     refine ⟨rl73, rl77, ?_⟩
     exact ⟨⟨by omega, (by first | exact bk_ax hB hp1 hx1 | exact bk_a hB hp1 hx1 | exact bk_x hB hp1 hx1 | exact bk_n hB hp1 hx1)⟩, (by first | exact fr_ax hF hp2 hx1 | exact fr_a hF hp2 hx1 | exact fr_x hF hp2 hx1 | exact fr_n hF hp2 hx1)⟩
    dsimp only
    omega
   have hx1 : ¬ xP s l i := hc65
   refine wL (e' := [(0, _), (3, _), (6, _), (10, _), (7, _), (8, _), (9, _)]) ⟨rfl, rfl, rfl, rfl, rfl, rfl, rfl, trivial⟩ (zK (yV (zB (zA (mv rfl rfl (gv (zS (q := 1) rfl rfl (by omega) (by omega)) rfl (asg rfl rfl (zD (yX (A := []) (yX (A := []) ?_))))))))))
   refine yL ((i + 1), B, (F ++ [(l.getD i (T3.mk (0 : Rat) (0 : Rat) (0 : Rat)))]), s6_3, cs_4, v51, cs51, h3) ?_ ?_ ⟨rfl, rfl, rfl, rfl, rfl, rfl, rfl, trivial⟩ rfl rfl
   ·
    refine ⟨(((hmmb.trans hh1).trans hh2).trans hh3), ?_⟩
    replace rl_5 := rl_5.mono ((hh1.trans hh2).trans hh3)
    refine ⟨rl_5, rl51, ?_⟩
    exact ⟨⟨by omega, (by first | exact bk_ax hB hp1 hx1 | exact bk_a hB hp1 hx1 | exact bk_x hB hp1 hx1 | exact bk_n hB hp1 hx1)⟩, (by first | exact fr_ax hF hp2 hx1 | exact fr_a hF hp2 hx1 | exact fr_x hF hp2 hx1 | exact fr_n hF hp2 hx1)⟩
   dsimp only
   omega
  have hp2 : ¬ 0 ≤ sdZ s (gp l i) := hc47
  refine wL (e' := [(0, _), (3, _), (6, _), (7, _), (8, _), (9, _), (10, _), (11, _), (12, _), (13, _), (14, _)]) ⟨rfl, rfl, rfl, rfl, rfl, rfl, rfl, rfl, rfl, rfl, rfl, trivial⟩ (zK (zB (zC (zA (mv rfl rfl ?_)))))
  refine vM (ι := Unit) 4 (fun _ => True) (fun _ => [(56, vB ((behTo s l i) ∨ ((sdZ s (l.getD i (T3.mk (0 : Rat) (0 : Rat) (0 : Rat)))) < (0 : Int)))), (0, vl), (3, vP b3 0), (6, s6_3), (7, s7_6), (9, vB (aheTo s l i)), (10, vI ↑i), (11, vP b11 0), (12, vP b12 0), (13, vI (sdZ s (l.getD i (T3.mk (0 : Rat) (0 : Rat) (0 : Rat))))), (14, vI (sdZ s (l.getD ((i + 1) % l.length) (T3.mk (0 : Rat) (0 : Rat) (0 : Rat)))))]) (fun _ => [.var b12 32 cs_11, .var b11 32 cs_9, .gs 32 9 s7_6 F.length cs_7, .gs 32 9 s6_3 B.length cs_4, .var b3 34 cs3]) (fun _ => h2) ?_ ?_
  ·
   refine wI (behTo s l i) (fun hg => ?_) (fun hg => ?_)
   ·
    refine xK (zG (v := .bool true) (congrArg some (xT hg))) rfl rfl rfl (yM rfl rfl rfl rfl rfl rfl (yM rfl rfl rfl rfl rfl rfl (gv (xR rfl rfl) rfl (zD ?_))))
    refine yP () trivial ⟨?_, rfl, rfl, rfl, rfl, rfl, rfl, rfl, rfl, rfl, rfl, trivial⟩ rfl rfl
    exact congrArg some (vB_or_t hg)
   refine xK (zG (v := .bool false) (congrArg some (xD hg))) rfl rfl rfl (yW rfl rfl rfl (mv rfl rfl (yW rfl rfl rfl (gv (zW (q := 0) rfl rfl) rfl (gv (xU rfl rfl) rfl (zD ?_))))))
   refine yP () trivial ⟨?_, rfl, rfl, rfl, rfl, rfl, rfl, rfl, rfl, rfl, rfl, trivial⟩ rfl rfl
   exact congrArg some (vB_or_f hg)
  intro _ _
  show GL _ _ _ _ _ _ _ [(56, vB ((behTo s l i) ∨ ((sdZ s (l.getD i (T3.mk (0 : Rat) (0 : Rat) (0 : Rat)))) < (0 : Int)))), (0, vl), (3, vP b3 0), (6, s6_3), (7, s7_6), (9, vB (aheTo s l i)), (10, vI ↑i), (11, vP b11 0), (12, vP b12 0), (13, vI (sdZ s (l.getD i (T3.mk (0 : Rat) (0 : Rat) (0 : Rat))))), (14, vI (sdZ s (l.getD ((i + 1) % l.length) (T3.mk (0 : Rat) (0 : Rat) (0 : Rat)))))] [.var b12 32 cs_11, .var b11 32 cs_9, .gs 32 9 s7_6 F.length cs_7, .gs 32 9 s6_3 B.length cs_4, .var b3 34 cs3] h2
  refine mv rfl rfl ?_
  refine vM (ι := Unit) 4 (fun _ => True) (fun _ => [(61, vB ((aheTo s l i) ∨ ((0 : Int) < (sdZ s (l.getD i (T3.mk (0 : Rat) (0 : Rat) (0 : Rat))))))), (0, vl), (3, vP b3 0), (6, s6_3), (7, s7_6), (10, vI ↑i), (11, vP b11 0), (12, vP b12 0), (13, vI (sdZ s (l.getD i (T3.mk (0 : Rat) (0 : Rat) (0 : Rat))))), (14, vI (sdZ s (l.getD ((i + 1) % l.length) (T3.mk (0 : Rat) (0 : Rat) (0 : Rat))))), (56, vB ((behTo s l i) ∨ ((sdZ s (l.getD i (T3.mk (0 : Rat) (0 : Rat) (0 : Rat)))) < (0 : Int))))]) (fun _ => [.var b12 32 cs_11, .var b11 32 cs_9, .gs 32 9 s7_6 F.length cs_7, .gs 32 9 s6_3 B.length cs_4, .var b3 34 cs3]) (fun _ => h2) ?_ ?_
  ·
   refine wI (aheTo s l i) (fun hg => ?_) (fun hg => ?_)
   ·
    refine xK (zG (v := .bool true) (congrArg some (xT hg))) rfl rfl rfl (yM rfl rfl rfl rfl rfl rfl (yM rfl rfl rfl rfl rfl rfl (gv (xR rfl rfl) rfl (zD ?_))))
    refine yP () trivial ⟨?_, rfl, rfl, rfl, rfl, rfl, rfl, rfl, rfl, rfl, rfl, trivial⟩ rfl rfl
    exact congrArg some (vB_or_t hg)
   refine xK (zG (v := .bool false) (congrArg some (xD hg))) rfl rfl rfl (yW rfl rfl rfl (mv rfl rfl (yW rfl rfl rfl (gv (vD (q := 0) rfl rfl) rfl (gv (xU rfl rfl) rfl (zD ?_))))))
   refine yP () trivial ⟨?_, rfl, rfl, rfl, rfl, rfl, rfl, rfl, rfl, rfl, rfl, trivial⟩ rfl rfl
   exact congrArg some (vB_or_f hg)
  intro _ _
  show GL _ _ _ _ _ _ _ [(61, vB ((aheTo s l i) ∨ ((0 : Int) < (sdZ s (l.getD i (T3.mk (0 : Rat) (0 : Rat) (0 : Rat))))))), (0, vl), (3, vP b3 0), (6, s6_3), (7, s7_6), (10, vI ↑i), (11, vP b11 0), (12, vP b12 0), (13, vI (sdZ s (l.getD i (T3.mk (0 : Rat) (0 : Rat) (0 : Rat))))), (14, vI (sdZ s (l.getD ((i + 1) % l.length) (T3.mk (0 : Rat) (0 : Rat) (0 : Rat))))), (56, vB ((behTo s l i) ∨ ((sdZ s (l.getD i (T3.mk (0 : Rat) (0 : Rat) (0 : Rat)))) < (0 : Int))))] [.var b12 32 cs_11, .var b11 32 cs_9, .gs 32 9 s7_6 F.length cs_7, .gs 32 9 s6_3 B.length cs_4, .var b3 34 cs3] h2
  refine asg rfl rfl (asg rfl rfl (zD (zB (zC (zA (mv rfl rfl (mv rfl rfl (gv (ov_mul_i rfl rfl (by have := mul_range hsd36 hsd39; omega) (by have := mul_range hsd36 hsd39; omega)) rfl (gv (zW (q := 0) rfl rfl) rfl (zD (zB ?_)))))))))))
  refine zN rfl (fun hc65 => ?_) (fun hc65 => ?_)
  ·
   have hx1 : xP s l i := hc65
   refine zC (zA ?_)
   replace rb_10 := rb_10.mono (hh1.trans hh2)
   refine gl_x (F := fun v_ => (rpT (rpQ (k + 1))).Is h2 v_ (l.getD i (T3.mk (0 : Rat) (0 : Rat) (0 : Rat)))) (zE ty32 (Pc.here _) rfl rfl rb_10 rfl) (mem1 (.tail _ (.head _))) rfl ?_
   intro v66 r66
   replace rb_12 := rb_12.mono (hh1.trans hh2)
   refine gl_x (F := fun v_ => (rpT (rpQ (k + 1))).Is h2 v_ (l.getD ((i + 1) % l.length) (T3.mk (0 : Rat) (0 : Rat) (0 : Rat)))) (zE ty32 (Pc.here _) rfl rfl rb_12 rfl) (mem1 (.head _)) rfl ?_
   intro v67 r67
   replace rb3 := rb3.mono (hh1.trans hh2)
   refine gl_x (F := fun v_ => (rpP (rpT (rpQ n)) (rpQ m)).Is h2 v_ s) (zE ty34 (Pc.here _) rfl rfl rb3 rfl) (mem1 (.tail _ (.tail _ (.tail _ (.tail _ (.head _)))))) rfl ?_
   intro v68 r68
   refine zM (vs := [_, _, _]) rfl rfl rfl rfl Tryz.call49 ⟨rfl, rfl, rfl, trivial⟩ (fun w hs => o_r6_between hs r66 r67 r68 (by omega) (by omega) (by omega)) ?_
   intro v69 h3 hh3 r69
   change (rpT (rpQ (12 * (k + 1) + 3 * m + 9 * n + 50))).Is h3 v69 (btw s (l.getD i (T3.mk (0 : Rat) (0 : Rat) (0 : Rat))) (l.getD ((i + 1) % l.length) (T3.mk (0 : Rat) (0 : Rat) (0 : Rat)))) at r69
   replace r69 := Rp.Is.le r69 (Le.t (Le.q (l := 12 * k + 3 * m + 9 * n + 62) (by omega)))
   refine zL (xE (ρ := (rpT (rpQ 1))) (X := (T3.mk (0 : Rat) (0 : Rat) (0 : Rat))) yC rfl rfl (zr_t (zr_q (by decide)))) rfl rfl rfl ?_
   intro v15 q15 hq15
   obtain ⟨b15, cs15, rfl, rfl, rb15⟩ := hq15
   have rw_43 := (Le.t (Le.q (l := 12 * k + 3 * m + 9 * n + 62) (by omega))).R rb15
   refine wE (A := []) (F := fun c_ => (rpT (rpQ (12 * k + 3 * m + 9 * n + 62))).R h3 c_ (btw s (l.getD i (T3.mk (0 : Rat) (0 : Rat) (0 : Rat))) (l.getD ((i + 1) % l.length) (T3.mk (0 : Rat) (0 : Rat) (0 : Rat))))) (yJ Tryz.sizeOf32 (Pc.here _) rfl rfl rfl rw_43 r69 rfl) ?_
   intro cs_44 rb_45
   refine zD (zJ (e' := [(0, _), (3, _), (6, _), (7, _), (10, _), (8, _), (9, _), (15, _)]) ⟨rfl, rfl, rfl, rfl, rfl, rfl, rfl, rfl, trivial⟩ (zB ?_))
   refine yK 10 [.var b15 32 cs_44, .var b12 32 cs_11, .var b11 32 cs_9, .var b3 34 cs3] [] [(0, .q), (1, .q), (4, .q), (5, .q), (2, .d 3 6), (7, .c), (8, .q), (9, .q)] xN (fun x hx => by cases hx) (by kernel_rfl) (fun x hx => by cases hx) (by intro r hr; simp only [List.mem_cons, List.mem_append, List.not_mem_nil, or_false] at hr ⊢ <;> grind) (w_q rfl (fun h' L' hh hR => zG rfl) rfl (w_qx (F := fun v_ => (rpT (rpQ (12 * k + 3 * m + 9 * n + 62))).Is h3 v_ (btw s (l.getD i (T3.mk (0 : Rat) (0 : Rat) (0 : Rat))) (l.getD ((i + 1) % l.length) (T3.mk (0 : Rat) (0 : Rat) (0 : Rat))))) rfl (zE ty32 (Pc.here _) rfl rfl rb_45 rfl) (mem1 (.head _)) rfl ?_))
   intro v71 r71
   refine w_q rfl (fun h' L' hh hR => zG rfl) rfl (w_qx (F := fun v_ => (rpT (rpQ (12 * k + 3 * m + 9 * n + 62))).Is h3 v_ (btw s (l.getD i (T3.mk (0 : Rat) (0 : Rat) (0 : Rat))) (l.getD ((i + 1) % l.length) (T3.mk (0 : Rat) (0 : Rat) (0 : Rat))))) rfl (zE ty32 (Pc.here _) rfl rfl rb_45 rfl) (mem1 (.head _)) rfl ?_)
   intro v75 r75
   refine w_d rfl rfl rfl ?_ ?_
   ·
    refine s_new (fun X => yO (ρ := (rpT (rpQ (12 * k + 3 * m + 9 * n + 62)))) (m := 1) (xs := [btw s (l.getD i (T3.mk (0 : Rat) (0 : Rat) (0 : Rat))) (l.getD ((i + 1) % l.length) (T3.mk (0 : Rat) (0 : Rat) (0 : Rat)))]) (ps' := [(0, _)]) Tryz.underlying27 yC rfl rfl rfl (zr_t (zr_q (by omega))) ⟨rfl, rfl, trivial⟩ (yQ rfl (Pc.arr (Pc.here _) (T3.mk (0 : Rat) (0 : Rat) (0 : Rat)) 0 (by decide)) r71 xM) (show 1 * 9 ≤ 16777216 from by decide) (show 0 < 9 from by decide)) rfl ?_
    intro v72 q72 hq72
    obtain ⟨cs72, rfl, rl72⟩ := hq72
    refine ⟨?_, ?_⟩
    ·
     refine xI (A := []) (ρ := (rpT (rpQ (12 * k + 3 * m + 9 * n + 62)))) rl72 (xJ (by first | (simp; done) | grind)) ?_
     intro h4 hh4 rs_46
     replace rl_5 := rl_5.mono (((hh1.trans hh2).trans hh3).trans hh4)
     refine uA (A := [_, _, _, _]) (fun X => yD (ρ := (rpT (rpQ (12 * k + 3 * m + 9 * n + 62)))) (bytes := 168) Tryz.underlying27 yC rfl rfl rfl rfl (show 0 < 9 from by decide) rfl rfl rl_5 rs_46 (by first | omega | (simp only [List.length_append, List.length_cons, List.length_nil, List.length_replicate, List.length_set]; omega)) (by first | omega | (simp only [List.length_append, List.length_cons, List.length_nil, List.length_replicate, List.length_set]; omega))) rfl (xA (by first | (simp; done) | grind)) ?_
     intro v73 q73 hq73
     obtain ⟨cs73, rfl, rl73⟩ := hq73
     replace r75 := r75.mono hh4
     refine s_new (fun X => yO (ρ := (rpT (rpQ (12 * k + 3 * m + 9 * n + 62)))) (m := 1) (xs := [btw s (l.getD i (T3.mk (0 : Rat) (0 : Rat) (0 : Rat))) (l.getD ((i + 1) % l.length) (T3.mk (0 : Rat) (0 : Rat) (0 : Rat)))]) (ps' := [(0, _)]) Tryz.underlying27 yC rfl rfl rfl (zr_t (zr_q (by omega))) ⟨rfl, rfl, trivial⟩ (yQ rfl (Pc.arr (Pc.here _) (T3.mk (0 : Rat) (0 : Rat) (0 : Rat)) 0 (by decide)) r75 xM) (show 1 * 9 ≤ 16777216 from by decide) (show 0 < 9 from by decide)) rfl ?_
     intro v76 q76 hq76
     obtain ⟨cs76, rfl, rl76⟩ := hq76
     refine w_c rfl (xI (A := []) (ρ := (rpT (rpQ (12 * k + 3 * m + 9 * n + 62)))) rl76 (xJ (by first | (simp; done) | grind)) ?_)
     intro h5 hh5 rs_47
     replace rl_8 := rl_8.mono ((((hh1.trans hh2).trans hh3).trans hh4).trans hh5)
     refine uA (A := [_, _, _]) (fun X => yD (ρ := (rpT (rpQ (12 * k + 3 * m + 9 * n + 62)))) (bytes := 168) Tryz.underlying27 yC rfl rfl rfl rfl (show 0 < 9 from by decide) rfl rfl rl_8 rs_47 (by first | omega | (simp only [List.length_append, List.length_cons, List.length_nil, List.length_replicate, List.length_set]; omega)) (by first | omega | (simp only [List.length_append, List.length_cons, List.length_nil, List.length_replicate, List.length_set]; omega))) rfl (xA (by first | (simp; done) | grind)) ?_
     intro v77 q77 hq77
     obtain ⟨cs77, rfl, rl77⟩ := hq77
     refine w_q rfl (fun h' L' hh hR => zX rfl) rfl (w_q rfl (fun h' L' hh hR => zX rfl) rfl (yZ (yV (zB (zA (mv rfl rfl (gv (zS (q := 1) rfl rfl (by omega) (by omega)) rfl (asg rfl rfl (zD (yX (A := []) (yX (A := []) (yX (A := []) ?_))))))))))))
     refine yL ((i + 1), (B ++ [btw s (l.getD i (T3.mk (0 : Rat) (0 : Rat) (0 : Rat))) (l.getD ((i + 1) % l.length) (T3.mk (0 : Rat) (0 : Rat) (0 : Rat)))]), (F ++ [btw s (l.getD i (T3.mk (0 : Rat) (0 : Rat) (0 : Rat))) (l.getD ((i + 1) % l.length) (T3.mk (0 : Rat) (0 : Rat) (0 : Rat)))]), v73, cs73, v77, cs77, h5) ?_ ?_ ⟨rfl, rfl, rfl, rfl, rfl, rfl, rfl, trivial⟩ rfl rfl
     ·
      refine ⟨(((((hmmb.trans hh1).trans hh2).trans hh3).trans hh4).trans hh5), ?_⟩
      replace rl73 := rl73.mono hh5
      refine ⟨rl73, rl77, ?_⟩
      exact ⟨⟨by omega, (by first | exact bk_ax hB hp1 hx1 | exact bk_a hB hp1 hx1 | exact bk_x hB hp1 hx1 | exact bk_n hB hp1 hx1)⟩, (by first | exact fr_ax hF hp2 hx1 | exact fr_a hF hp2 hx1 | exact fr_x hF hp2 hx1 | exact fr_n hF hp2 hx1)⟩
     dsimp only
     omega
    refine s_new (fun X => yO (ρ := (rpT (rpQ (12 * k + 3 * m + 9 * n + 62)))) (m := 1) (xs := [btw s (l.getD i (T3.mk (0 : Rat) (0 : Rat) (0 : Rat))) (l.getD ((i + 1) % l.length) (T3.mk (0 : Rat) (0 : Rat) (0 : Rat)))]) (ps' := [(0, _)]) Tryz.underlying27 yC rfl rfl rfl (zr_t (zr_q (by omega))) ⟨rfl, rfl, trivial⟩ (yQ rfl (Pc.arr (Pc.here _) (T3.mk (0 : Rat) (0 : Rat) (0 : Rat)) 0 (by decide)) r75 xM) (show 1 * 9 ≤ 16777216 from by decide) (show 0 < 9 from by decide)) rfl ?_
    intro v76 q76 hq76
    obtain ⟨cs76, rfl, rl76⟩ := hq76
    refine xI (A := [_]) (ρ := (rpT (rpQ (12 * k + 3 * m + 9 * n + 62)))) rl72 (xJ (by first | (simp; done) | grind)) ?_
    intro h4 hh4 rs_48
    replace rl_5 := rl_5.mono (((hh1.trans hh2).trans hh3).trans hh4)
    refine uA (A := [_, _, _, _, _]) (fun X => yD (ρ := (rpT (rpQ (12 * k + 3 * m + 9 * n + 62)))) (bytes := 168) Tryz.underlying27 yC rfl rfl rfl rfl (show 0 < 9 from by decide) rfl rfl rl_5 rs_48 (by first | omega | (simp only [List.length_append, List.length_cons, List.length_nil, List.length_replicate, List.length_set]; omega)) (by first | omega | (simp only [List.length_append, List.length_cons, List.length_nil, List.length_replicate, List.length_set]; omega))) rfl (xA (by first | (simp; done) | grind)) ?_
    intro v73 q73 hq73
    obtain ⟨cs73, rfl, rl73⟩ := hq73
    refine w_c rfl ?_
    replace rl76 := rl76.mono hh4
    refine xI (A := []) (ρ := (rpT (rpQ (12 * k + 3 * m + 9 * n + 62)))) rl76 (xJ (by first | (simp; done) | grind)) ?_
    intro h5 hh5 rs_49
    replace rl_8 := rl_8.mono ((((hh1.trans hh2).trans hh3).trans hh4).trans hh5)
    refine uA (A := [_, _, _]) (fun X => yD (ρ := (rpT (rpQ (12 * k + 3 * m + 9 * n + 62)))) (bytes := 168) Tryz.underlying27 yC rfl rfl rfl rfl (show 0 < 9 from by decide) rfl rfl rl_8 rs_49 (by first | omega | (simp only [List.length_append, List.length_cons, List.length_nil, List.length_replicate, List.length_set]; omega)) (by first | omega | (simp only [List.length_append, List.length_cons, List.length_nil, List.length_replicate, List.length_set]; omega))) rfl (xA (by first | (simp; done) | grind)) ?_
    intro v77 q77 hq77
    obtain ⟨cs77, rfl, rl77⟩ := hq77
    refine w_q rfl (fun h' L' hh hR => zX rfl) rfl (w_q rfl (fun h' L' hh hR => zX rfl) rfl (yZ (yV (zB (zA (mv rfl rfl (gv (zS (q := 1) rfl rfl (by omega) (by omega)) rfl (asg rfl rfl (zD (yX (A := []) (yX (A := []) (yX (A := []) ?_))))))))))))
    refine yL ((i + 1), (B ++ [btw s (l.getD i (T3.mk (0 : Rat) (0 : Rat) (0 : Rat))) (l.getD ((i + 1) % l.length) (T3.mk (0 : Rat) (0 : Rat) (0 : Rat)))]), (F ++ [btw s (l.getD i (T3.mk (0 : Rat) (0 : Rat) (0 : Rat))) (l.getD ((i + 1) % l.length) (T3.mk (0 : Rat) (0 : Rat) (0 : Rat)))]), v73, cs73, v77, cs77, h5) ?_ ?_ ⟨rfl, rfl, rfl, rfl, rfl, rfl, rfl, trivial⟩ rfl rfl
    ·
     refine ⟨(((((hmmb.trans hh1).trans hh2).trans hh3).trans hh4).trans hh5), ?_⟩
     replace rl73 := rl73.mono hh5
     refine ⟨rl73, rl77, ?_⟩
     exact ⟨⟨by omega, (by first | exact bk_ax hB hp1 hx1 | exact bk_a hB hp1 hx1 | exact bk_x hB hp1 hx1 | exact bk_n hB hp1 hx1)⟩, (by first | exact fr_ax hF hp2 hx1 | exact fr_a hF hp2 hx1 | exact fr_x hF hp2 hx1 | exact fr_n hF hp2 hx1)⟩
    dsimp only
    omega
   refine s_new (fun X => yO (ρ := (rpT (rpQ (12 * k + 3 * m + 9 * n + 62)))) (m := 1) (xs := [btw s (l.getD i (T3.mk (0 : Rat) (0 : Rat) (0 : Rat))) (l.getD ((i + 1) % l.length) (T3.mk (0 : Rat) (0 : Rat) (0 : Rat)))]) (ps' := [(0, _)]) Tryz.underlying27 yC rfl rfl rfl (zr_t (zr_q (by omega))) ⟨rfl, rfl, trivial⟩ (yQ rfl (Pc.arr (Pc.here _) (T3.mk (0 : Rat) (0 : Rat) (0 : Rat)) 0 (by decide)) r75 xM) (show 1 * 9 ≤ 16777216 from by decide) (show 0 < 9 from by decide)) rfl ?_
   intro v76 q76 hq76
   obtain ⟨cs76, rfl, rl76⟩ := hq76
   refine s_new (fun X => yO (ρ := (rpT (rpQ (12 * k + 3 * m + 9 * n + 62)))) (m := 1) (xs := [btw s (l.getD i (T3.mk (0 : Rat) (0 : Rat) (0 : Rat))) (l.getD ((i + 1) % l.length) (T3.mk (0 : Rat) (0 : Rat) (0 : Rat)))]) (ps' := [(0, _)]) Tryz.underlying27 yC rfl rfl rfl (zr_t (zr_q (by omega))) ⟨rfl, rfl, trivial⟩ (yQ rfl (Pc.arr (Pc.here _) (T3.mk (0 : Rat) (0 : Rat) (0 : Rat)) 0 (by decide)) r71 xM) (show 1 * 9 ≤ 16777216 from by decide) (show 0 < 9 from by decide)) rfl ?_
   intro v72 q72 hq72
   obtain ⟨cs72, rfl, rl72⟩ := hq72
   refine xI (A := []) (ρ := (rpT (rpQ (12 * k + 3 * m + 9 * n + 62)))) rl72 (xJ (by first | (simp; done) | grind)) ?_
   intro h4 hh4 rs_50
   replace rl_5 := rl_5.mono (((hh1.trans hh2).trans hh3).trans hh4)
   refine uA (A := [_, _, _, _, _]) (fun X => yD (ρ := (rpT (rpQ (12 * k + 3 * m + 9 * n + 62)))) (bytes := 168) Tryz.underlying27 yC rfl rfl rfl rfl (show 0 < 9 from by decide) rfl rfl rl_5 rs_50 (by first | omega | (simp only [List.length_append, List.length_cons, List.length_nil, List.length_replicate, List.length_set]; omega)) (by first | omega | (simp only [List.length_append, List.length_cons, List.length_nil, List.length_replicate, List.length_set]; omega))) rfl (xA (by first | (simp; done) | grind)) ?_
   intro v73 q73 hq73
   obtain ⟨cs73, rfl, rl73⟩ := hq73
   refine w_c rfl ?_
   replace rl76 := rl76.mono hh4
   refine xI (A := []) (ρ := (rpT (rpQ (12 * k + 3 * m + 9 * n + 62)))) rl76 (xJ (by first | (simp; done) | grind)) ?_
   intro h5 hh5 rs_51
   replace rl_8 := rl_8.mono ((((hh1.trans hh2).trans hh3).trans hh4).trans hh5)
   refine uA (A := [_, _, _]) (fun X => yD (ρ := (rpT (rpQ (12 * k + 3 * m + 9 * n + 62)))) (bytes := 168) Tryz.underlying27 yC rfl rfl rfl rfl (show 0 < 9 from by decide) rfl rfl rl_8 rs_51 (by first | omega | (simp only [List.length_append, List.length_cons, List.length_nil, List.length_replicate, List.length_set]; omega)) (by first | omega | (simp only [List.length_append, List.length_cons, List.length_nil, List.length_replicate, List.length_set]; omega))) rfl (xA (by first | (simp; done) | grind)) ?_
   intro v77 q77 hq77
   obtain ⟨cs77, rfl, rl77⟩ := hq77
   refine w_q rfl (fun h' L' hh hR => zX rfl) rfl (w_q rfl (fun h' L' hh hR => zX rfl) rfl (yZ (yV (zB (zA (mv rfl rfl (gv (zS (q := 1) rfl rfl (by omega) (by omega)) rfl (asg rfl rfl (zD (yX (A := []) (yX (A := []) (yX (A := []) ?_))))))))))))
   refine yL ((i + 1), (B ++ [btw s (l.getD i (T3.mk (0 : Rat) (0 : Rat) (0 : Rat))) (l.getD ((i + 1) % l.length) (T3.mk (0 : Rat) (0 : Rat) (0 : Rat)))]), (F ++ [btw s (l.getD i (T3.mk (0 : Rat) (0 : Rat) (0 : Rat))) (l.getD ((i + 1) % l.length) (T3.mk (0 : Rat) (0 : Rat) (0 : Rat)))]), v73, cs73, v77, cs77, h5) ?_ ?_ ⟨rfl, rfl, rfl, rfl, rfl, rfl, rfl, trivial⟩ rfl rfl
   ·
    refine ⟨(((((hmmb.trans hh1).trans hh2).trans hh3).trans hh4).trans hh5), ?_⟩
    replace rl73 := rl73.mono hh5
    refine ⟨rl73, rl77, ?_⟩
    exact ⟨⟨by omega, (by first | exact bk_ax hB hp1 hx1 | exact bk_a hB hp1 hx1 | exact bk_x hB hp1 hx1 | exact bk_n hB hp1 hx1)⟩, (by first | exact fr_ax hF hp2 hx1 | exact fr_a hF hp2 hx1 | exact fr_x hF hp2 hx1 | exact fr_n hF hp2 hx1)⟩
   dsimp only
   omega
  have hx1 : ¬ xP s l i := hc65
  refine wL (e' := [(0, _), (3, _), (6, _), (7, _), (10, _), (8, _), (9, _)]) ⟨rfl, rfl, rfl, rfl, rfl, rfl, rfl, trivial⟩ (zK (yV (zB (zA (mv rfl rfl (gv (zS (q := 1) rfl rfl (by omega) (by omega)) rfl (asg rfl rfl (zD (yX (A := []) (yX (A := []) ?_))))))))))
  refine yL ((i + 1), B, F, s6_3, cs_4, s7_6, cs_7, h2) ?_ ?_ ⟨rfl, rfl, rfl, rfl, rfl, rfl, rfl, trivial⟩ rfl rfl
  ·
   refine ⟨((hmmb.trans hh1).trans hh2), ?_⟩
   replace rl_5 := rl_5.mono (hh1.trans hh2)
   replace rl_8 := rl_8.mono (hh1.trans hh2)
   refine ⟨rl_5, rl_8, ?_⟩
   exact ⟨⟨by omega, (by first | exact bk_ax hB hp1 hx1 | exact bk_a hB hp1 hx1 | exact bk_x hB hp1 hx1 | exact bk_n hB hp1 hx1)⟩, (by first | exact fr_ax hF hp2 hx1 | exact fr_a hF hp2 hx1 | exact fr_x hF hp2 hx1 | exact fr_n hF hp2 hx1)⟩
  dsimp only
  omega
 have ej : i = l.length := by omega
 rw [ej] at hB hF
 refine xG (yB (yB (xF (zB (zC (zR (zC (zA (mv rfl rfl (gv (ov_not rfl) rfl ?_))))))))))
 refine vM (ι := Unit) 4 (fun _ => True) (fun _ => [(84, vB ((¬ (behTo s l i)) ∧ (¬ (aheTo s l i)))), (0, vl), (6, s6_3), (7, s7_6), (8, vB (behTo s l i)), (9, vB (aheTo s l i))]) (fun _ => [.gs 32 9 s7_6 F.length cs_7, .gs 32 9 s6_3 B.length cs_4, .var b3 34 cs3]) (fun _ => mb) ?_ ?_
 ·
  refine wI (¬ (behTo s l i)) (fun hg => ?_) (fun hg => ?_)
  ·
   refine xK (zG (v := .bool true) (congrArg some (xT hg))) rfl rfl rfl (yW rfl rfl rfl (mv rfl rfl (yW rfl rfl rfl (gv (ov_not rfl) rfl (gv (xR rfl rfl) rfl (zD ?_))))))
   refine yP () trivial ⟨?_, rfl, rfl, rfl, rfl, rfl, trivial⟩ rfl rfl
   exact congrArg some (vB_and_t hg)
  refine xK (zG (v := .bool false) (congrArg some (xD hg))) rfl rfl rfl (yM rfl rfl rfl rfl rfl rfl (yM rfl rfl rfl rfl rfl rfl (gv (xU rfl rfl) rfl (zD ?_))))
  refine yP () trivial ⟨?_, rfl, rfl, rfl, rfl, rfl, trivial⟩ rfl rfl
  exact congrArg some (vB_and_f hg)
 intro _ _
 show GL _ _ _ _ _ _ _ [(84, vB ((¬ (behTo s l i)) ∧ (¬ (aheTo s l i)))), (0, vl), (6, s6_3), (7, s7_6), (8, vB (behTo s l i)), (9, vB (aheTo s l i))] [.gs 32 9 s7_6 F.length cs_7, .gs 32 9 s6_3 B.length cs_4, .var b3 34 cs3] mb
 refine asg rfl rfl (zD (zB ?_))
 refine zN rfl (fun hc78 => ?_) (fun hc78 => ?_)
 ·
  refine zC (zA (mv rfl rfl (gl_nilown 32 9 ?_)))
  have rl_52 : RL (rpT (rpQ k)) mb [] ([] : List (T3 Rat)) := RL.nil
  refine vO (A := []) (yD (ρ := (rpT (rpQ k))) (bytes := 168) Tryz.underlying27 yC rfl rfl rfl rfl (show 0 < 9 from by decide) rfl rfl rl_52 rl (by first | omega | (simp only [List.length_append, List.length_cons, List.length_nil, List.length_replicate, List.length_set]; omega)) (by first | omega | (simp only [List.length_append, List.length_cons, List.length_nil, List.length_replicate, List.length_set]; omega))) rfl rfl rfl ?_
  intro v86 q86 hq86
  obtain ⟨cs86, rfl, rl86⟩ := hq86
  refine asg rfl rfl (asg rfl rfl (zD (zB (zQ (gr_in (yE (gq_freezex (A := []) (ρ := (rpT (rpQ k))) rl86 ?_)))))))
  intro h1 hh1 rs_53
  refine vN rfl rfl rfl ?_
  refine ⟨_, _, ?_, (Rp.Is.cast (Rp.Is.le rs_53 (Le.s (Le.t (Le.q (l := 12 * k + 3 * m + 9 * n + 62) (by omega))))) (by rw [List.nil_append]; exact (cutB_all (by rw [← ej]; exact hc78.2)).1.symm)), (Rp.Is.cast (is_nil _) (by exact (cutB_all (by rw [← ej]; exact hc78.2)).2.symm))⟩
  rfl
 refine zC (zA (mv rfl rfl (gv (ov_not rfl) rfl (asg rfl rfl (zD (zB ?_))))))
 refine zN rfl (fun hc87 => ?_) (fun hc87 => ?_)
 ·
  refine zC (zA (mv rfl rfl (asg rfl rfl (asg rfl rfl (zD (zJ (e' := [(4, _), (5, _)]) ⟨rfl, rfl, trivial⟩ (zB (zQ (gr_in (yE (gq_freezex (A := []) (ρ := (rpT (rpQ (12 * k + 3 * m + 9 * n + 62)))) rl_8 ?_)))))))))))
  intro h1 hh1 rs_54
  refine vN rfl rfl rfl ?_
  refine ⟨_, _, ?_, (Rp.Is.cast (is_nil _) (by exact (cut_nb (by rw [← ej]; exact Classical.byContradiction fun e => hc78 ⟨hc87, e⟩) (by rw [← ej]; exact hc87)).1.symm)), (Rp.Is.cast rs_54 (by rw [hF]; exact (cut_nb (by rw [← ej]; exact Classical.byContradiction fun e => hc78 ⟨hc87, e⟩) (by rw [← ej]; exact hc87)).2.symm))⟩
  rfl
 refine zC (zA (mv rfl rfl (gv (ov_not rfl) rfl (asg rfl rfl (zD (zJ (e' := [(6, _), (7, _), (91, _)]) ⟨rfl, rfl, rfl, trivial⟩ (zB ?_)))))))
 refine zN rfl (fun hc91 => ?_) (fun hc91 => ?_)
 ·
  refine zC (zA (mv rfl rfl (asg rfl rfl (asg rfl rfl (zD (zB (zQ (gr_in (yE (gq_freezex (A := [_]) (ρ := (rpT (rpQ (12 * k + 3 * m + 9 * n + 62)))) rl_5 ?_))))))))))
  intro h1 hh1 rs_55
  refine vN rfl rfl rfl ?_
  refine ⟨_, _, ?_, (Rp.Is.cast rs_55 (by rw [hB]; exact (cut_na (by rw [← ej]; exact hc91)).1.symm)), (Rp.Is.cast (is_nil _) (by exact (cut_na (by rw [← ej]; exact hc91)).2.symm))⟩
  rfl
 refine zK (yV (zB (zC (zA (mv rfl rfl (mv rfl rfl (asg rfl rfl (asg rfl rfl (zD (zB (zQ (gq_freezex (A := [_]) (ρ := (rpT (rpQ (12 * k + 3 * m + 9 * n + 62)))) rl_5 ?_))))))))))))
 intro h1 hh1 rs_56
 replace rl_8 := rl_8.mono hh1
 refine gq_freezex (A := []) (ρ := (rpT (rpQ (12 * k + 3 * m + 9 * n + 62)))) rl_8 ?_
 intro h2 hh2 rs_57
 refine vN rfl rfl rfl ?_
 replace rs_56 := rs_56.mono hh2
 refine ⟨_, _, ?_, (Rp.Is.cast rs_56 (by rw [hB]; exact (cut_both (by rw [← ej]; exact Classical.not_not.1 hc91) (by rw [← ej]; exact Classical.not_not.1 hc87)).1.symm)), (Rp.Is.cast rs_57 (by rw [hF]; exact (cut_both (by rw [← ej]; exact Classical.not_not.1 hc91) (by rw [← ej]; exact Classical.not_not.1 hc87)).2.symm))⟩
 rfl

end Go.Proofs.YtghhjjmjpeehdaaGreat


namespace Bk
set_option linter.unusedVariables false
set_option linter.unusedSimpArgs false
open Classical
noncomputable def sqrL (s : Pl) (x0 y0 x1 y1 : Rat) : List Pt := [liftZ s (T3.mk x0 y0 (0 : Rat)), liftZ s (T3.mk x1 y0 (0 : Rat)), liftZ s (T3.mk x1 y1 (0 : Rat)), liftZ s (T3.mk x0 y1 (0 : Rat))]
noncomputable def loT2 (s : Pl) (ps : List Pt) : Nat → Pt
  | 0 => flatZ s (gp ps 0)
  | m + 1 => T3.mk (minQ (loT2 s ps m).x (flatZ s (gp ps m)).x) (minQ (loT2 s ps m).y (flatZ s (gp ps m)).y) (loT2 s ps m).z
noncomputable def hiT2 (s : Pl) (ps : List Pt) : Nat → Pt
  | 0 => flatZ s (gp ps 0)
  | m + 1 => T3.mk (maxQ (hiT2 s ps m).x (flatZ s (gp ps m)).x) (maxQ (hiT2 s ps m).y (flatZ s (gp ps m)).y) (hiT2 s ps m).z
noncomputable def aroZ (s : Pl) (ps : List Pt) : List Pt :=
  if ps.length = 0 ∨ s.1 = zT then [] else sqrL s ((loT2 s ps ps.length).x - ((1 : Int) : Rat)) ((loT2 s ps ps.length).y - ((1 : Int) : Rat)) ((hiT2 s ps ps.length).x + ((1 : Int) : Rat)) ((hiT2 s ps ps.length).y + ((1 : Int) : Rat))
theorem lo_hi2 (s : Pl) (ps : List Pt) : ∀ m, (loT2 s ps m).x ≤ (hiT2 s ps m).x ∧ (loT2 s ps m).y ≤ (hiT2 s ps m).y
  | 0 => ⟨Rat.le_refl, Rat.le_refl⟩
  | m + 1 => by
    obtain ⟨h1, h2⟩ := lo_hi2 s ps m
    have key : ∀ {a b c : Rat}, a ≤ b → minQ a c ≤ maxQ b c := fun {a b c} h => by
      unfold minQ maxQ
      split <;> split <;> grind
    exact ⟨key h1, key h2⟩
theorem rect_tri {x0 y0 x1 y1 : Rat} (hx : x0 < x1) (hy : y0 < y1) : triT (fun m => (([(x0, y0), (x1, y0), (x1, y1), (x0, y1)] : List P2)).getD m (0, 0)) 4 := by
  have hp : 0 < (x1 - x0) * (y1 - y0) := Rat.mul_pos (by grind) (by grind)
  intro i j k hij hjk hk
  have h : (i = 0 ∧ j = 1 ∧ k = 2) ∨ (i = 0 ∧ j = 1 ∧ k = 3) ∨ (i = 0 ∧ j = 2 ∧ k = 3) ∨ (i = 1 ∧ j = 2 ∧ k = 3) := by omega
  rcases h with ⟨rfl, rfl, rfl⟩ | ⟨rfl, rfl, rfl⟩ | ⟨rfl, rfl, rfl⟩ | ⟨rfl, rfl, rfl⟩ <;> simp [cr] <;> grind
theorem pt2_lift {s : Pl} {q : Pt} (h : ¬ s.1.at (axK s.1) = 0) : pt2 s (liftZ s q) = (q.x, q.y) := by
  unfold liftZ
  rw [if_neg h]
  generalize liftQ s q = u
  unfold pt2 pr
  rcases ax_perm s.1 with ⟨e1, e2, e3⟩ | ⟨e1, e2, e3⟩ | ⟨e1, e2, e3⟩ | ⟨e1, e2, e3⟩ | ⟨e1, e2, e3⟩ | ⟨e1, e2, e3⟩ <;> rw [e1, e2, e3] <;> rfl
theorem sqr_conv {s : Pl} {x0 y0 x1 y1 : Rat} (hn : ¬ s.1 = zT) (hx : x0 < x1) (hy : y0 < y1) : convP s (sqrL s x0 y0 x1 y1) := by
  have hk : ¬ s.1.at (axK s.1) = 0 := fun e => hn ((ax_zero _).1 e)
  have hc : ∀ m, m < 4 → m = 0 ∨ m = 1 ∨ m = 2 ∨ m = 3 := fun m hm => by omega
  refine valid_of (by show 3 ≤ 4; omega) hn (fun m hm => ?_) ?_
  · rcases hc m hm with rfl | rfl | rfl | rfl <;> exact side_lift hk
  · have h := rect_tri hx hy
    have e : ∀ m, m < 4 → pt2 s (gp (sqrL s x0 y0 x1 y1) m) = (([(x0, y0), (x1, y0), (x1, y1), (x0, y1)] : List P2)).getD m (0, 0) := fun m hm => by
      rcases hc m hm with rfl | rfl | rfl | rfl <;> exact pt2_lift hk
    intro i j k hij hjk hk
    have hk' : k < 4 := hk
    show 0 < cr (pt2 s (gp _ i)) (pt2 s (gp _ j)) (pt2 s (gp _ k))
    rw [e i (by omega), e j (by omega), e k hk']
    exact h i j k hij hjk hk'
theorem aro_conv {s : Pl} {ps : List Pt} (hl : ¬ ps.length = 0) (hn : ¬ s.1 = zT) : convP s (aroZ s ps) ∧ (aroZ s ps).length = 4 := by
  unfold aroZ
  rw [if_neg (fun e => e.elim hl hn)]
  obtain ⟨h1, h2⟩ := lo_hi2 s ps ps.length
  have e : (((1 : Int) : Rat)) = 1 := rfl
  rw [e]
  exact ⟨sqr_conv hn (by grind) (by grind), rfl⟩
def i3 (x y z : Int) : Pt := T3.mk ((x : Int) : Rat) ((y : Int) : Rat) ((z : Int) : Rat)
def sq0 : List Pt := [i3 0 0 0, i3 2 0 0, i3 2 2 0, i3 0 2 0]
theorem sq0_conv : convP (i3 0 0 1, (0 : Rat)) sq0 := by
  have hn : ¬ (i3 0 0 1) = zT := fun e => absurd (congrArg T3.z e) (by decide +kernel)
  have e1 : axI (i3 0 0 1) = 0 := if_pos (by decide +kernel)
  have e2 : axJ (i3 0 0 1) = 1 := if_pos (by decide +kernel)
  have hc : ∀ m, m < 4 → m = 0 ∨ m = 1 ∨ m = 2 ∨ m = 3 := fun m hm => by omega
  refine valid_of (by show 3 ≤ 4; omega) hn (fun m hm => ?_) ?_
  · rw [sd_zero]
    rcases hc m hm with rfl | rfl | rfl | rfl <;> decide +kernel
  · have h := rect_tri (x0 := 0) (y0 := 0) (x1 := 2) (y1 := 2) (by decide +kernel) (by decide +kernel)
    have e : ∀ m, m < 4 → pt2 (i3 0 0 1, (0 : Rat)) (gp sq0 m) = (([((0 : Rat), (0 : Rat)), (2, 0), (2, 2), (0, 2)] : List P2)).getD m (0, 0) := fun m hm => by
      unfold pt2
      simp only [e1, e2]
      rcases hc m hm with rfl | rfl | rfl | rfl <;> rfl
    intro i j k hij hjk hk
    have hk' : k < 4 := hk
    show 0 < cr (pt2 _ (gp _ i)) (pt2 _ (gp _ j)) (pt2 _ (gp _ k))
    rw [e i (by omega), e j (by omega), e k hk']
    exact h i j k hij hjk hk'
def pl0 : Pl := (i3 1 0 0, (1 : Rat))
theorem sane_parts : cutB pl0 sq0 = [i3 0 0 0, btw pl0 (i3 0 0 0) (i3 2 0 0), btw pl0 (i3 2 2 0) (i3 0 2 0), i3 0 2 0] ∧ cutF pl0 sq0 = [btw pl0 (i3 0 0 0) (i3 2 0 0), i3 2 0 0, i3 2 2 0, btw pl0 (i3 2 2 0) (i3 0 2 0)] := by
  have m1 : sdZ pl0 (gp sq0 0) = -1 := sgn_mone.2 (by decide +kernel)
  have m2 : sdZ pl0 (gp sq0 1) = 1 := sgn_one.2 (by decide +kernel)
  have m3 : sdZ pl0 (gp sq0 2) = 1 := sgn_one.2 (by decide +kernel)
  have m4 : sdZ pl0 (gp sq0 3) = -1 := sgn_mone.2 (by decide +kernel)
  have x1 : xP pl0 sq0 0 := by show sdZ pl0 (gp sq0 0) * sdZ pl0 (gp sq0 1) < 0; rw [m1, m2]; decide
  have x2 : ¬ xP pl0 sq0 1 := by show ¬ sdZ pl0 (gp sq0 1) * sdZ pl0 (gp sq0 2) < 0; rw [m2, m3]; decide
  have x3 : xP pl0 sq0 2 := by show sdZ pl0 (gp sq0 2) * sdZ pl0 (gp sq0 3) < 0; rw [m3, m4]; decide
  have x4 : ¬ xP pl0 sq0 3 := by show ¬ sdZ pl0 (gp sq0 3) * sdZ pl0 (gp sq0 0) < 0; rw [m4, m1]; decide
  have hb : behTo pl0 sq0 sq0.length := (beh_iff _).2 ⟨0, by decide, by rw [m1]; decide⟩
  have ha : aheTo pl0 sq0 sq0.length := (ahe_iff _).2 ⟨1, by decide, by rw [m2]; decide⟩
  rw [(cut_both ha hb).1, (cut_both ha hb).2]
  have b1 := bk_ax (B := []) (pl := pl0) (l := sq0) (m := 0) rfl (by rw [m1]; decide) x1
  have b2 := bk_n b1 (by rw [m2]; decide) x2
  have b3 := bk_x b2 (by rw [m3]; decide) x3
  have b4 := bk_a b3 (by rw [m4]; decide) x4
  have f1 := fr_x (B := []) (pl := pl0) (l := sq0) (m := 0) rfl (by rw [m1]; decide) x1
  have f2 := fr_a f1 (by rw [m2]; decide) x2
  have f3 := fr_ax f2 (by rw [m3]; decide) x3
  have f4 := fr_n f3 (by rw [m4]; decide) x4
  exact ⟨b4.symm, f4.symm⟩
theorem sane_pt : btw pl0 (i3 0 0 0) (i3 2 0 0) = i3 1 0 0 := by
  unfold btw cutT lerp i3
  rw [T3.mk.injEq]
  decide +kernel
end Bk
